/- Laws and walks that the proof of the statement is made of (part 11). -/
import Derived.Test.YtcabalnocddidaaGreatRows
import Derived.Test.YtcabalnocddidaaGreatP10
set_option linter.unusedSimpArgs false
set_option linter.unusedVariables false
namespace Go.Proofs.X
open Go.RowKit
set_option maxRecDepth 100000
abbrev zH := Bool × MsgR
def DF (s : zH) (q a u e : Value) : List Value := .bool s.1 :: dB s.2 q a u e
structure RopsAt (w : World) (v : Value) (l : List zH) : Prop where
 out : ∃ css, Sl 14 w v css ∧ css.length = l.length ∧ ∀ (i : Nat) (s : zH), l[i]? = some s → ∃ q a u e, css[i]? = some (DF s q a u e) ∧ MsgV w s.2 q a u e
theorem RopsAt.ext {w w' : World} {v : Value} {l : List zH} (h : RopsAt w v l) (hx : Ext w w') : RopsAt w' v l := by
 obtain ⟨css, h1, h2, h3⟩ := h
 exact ⟨css, h1.ext hx, h2, fun i s hi => let ⟨q, a, u, e, h4, h5⟩ := h3 i s hi; ⟨q, a, u, e, h4, h5.ext hx⟩⟩
open Go.ChangeShapes Go.WideShapes Go.ChangeAt Go.RowKit
theorem oB {P : Program} {w : World} {r : Reach} {base : Nat} {t : TypeId} {v : Value} (ht : P.underlying t = some .string) (h : Value.okWide P w r base t v) : ∃ s, v = .string s ∧ s.size ≤ 9223372036854775807 := by
 simp only [Value.okWide, ht, Cell.okWide] at h
 cases v <;> simp_all [Cell.ok]
 all_goals omega
theorem AY (n : Int) (w : World) : Calls Tryz.prog 56 #[.int .i64 n] w (bQ w (.bool (!(decide (0 ≤ n) && decide (n ≤ 99))))) := by
 go_enter Tryz.func56, Tryz.ntmps56
 (repeat' first | ((with_reducible refine aI ?_); go_step) | ((with_reducible refine aG ?_); first | refine aL ?_ | (refine aJ ?_ ?_ <;> intro hc)) | fail)
 refine aB (enters_of Tryz.func54 rfl rfl) rfl rfl (zW n 0 99 _) ?_; intro w1 x1; refine aA ?_
 (repeat' first | ((with_reducible refine aI ?_); go_step) | ((with_reducible refine aG ?_); first | refine aL ?_ | (refine aJ ?_ ?_ <;> intro hc)) | fail)
 go_ret
 exact ⟨rfl, x1⟩
set_option maxHeartbeats 1000000 in
theorem xV (d : List UInt8) (w : World) (hl : d.length ≤ 9223372036854775807) : Calls Tryz.prog 18 #[aE d] w (bQ w (.tuple #[.int .i64 ((dO d).getD 0), .bool (dO d).isSome])) := by
 go_enter Tryz.func18, Tryz.ntmps18
 by_cases h4 : d.length = 4
 ·obtain ⟨a, b, c, x, rfl⟩ : ∃ a b c x, d = [a, b, c, x] := by
   match d, h4 with
   | [a, b, c, x], _ => exact ⟨a, b, c, x, rfl⟩
  have hF : dO [a, b, c, x] = if List.take 3 [a, b, c, x] = [10, 0, 0] then (if 99 < x.toNat then none else some ((x.toNat : Nat) : Int)) else none := rfl
  by_cases c3 : List.take 3 [a, b, c, x] = [10, 0, 0]
  ·rw [if_pos c3] at hF
   by_cases c9 : 99 < x.toNat
   ·rw [if_pos c9] at hF
    (repeat' first | ((with_reducible refine aI ?_); go_step) | ((with_reducible refine aG ?_); first | refine aL ?_ | (refine aJ ?_ ?_ <;> intro hc)) | fail)
    all_goals first
     | (exfalso; omega)
     | (exfalso; simp at hc; done)
     | (exfalso; have c4 := hc; rw [show Int.toNat 3 = 3 from rfl, decide_eq_true c3] at c4; simp at c4; done)
     | skip
    go_ret2
    exact ⟨by rw [hF]; rfl, Ext.refl _⟩
   ·rw [if_neg c9] at hF
    (repeat' first | ((with_reducible refine aI ?_); go_step) | ((with_reducible refine aG ?_); first | refine aL ?_ | (refine aJ ?_ ?_ <;> intro hc)) | fail)
    all_goals first
     | (exfalso; omega)
     | (exfalso; simp at hc; done)
     | (exfalso; have c4 := hc; rw [show Int.toNat 3 = 3 from rfl, decide_eq_true c3] at c4; simp at c4; done)
     | skip
    go_ret2
    exact ⟨by rw [hF]; rfl, Ext.refl _⟩
  ·rw [if_neg c3] at hF
   (repeat' first | ((with_reducible refine aI ?_); go_step) | ((with_reducible refine aG ?_); first | refine aL ?_ | (refine aJ ?_ ?_ <;> intro hc)) | fail)
   all_goals first
    | (exfalso; omega)
    | (exfalso; simp at hc; done)
    | (exfalso; have c4 := hc; rw [show Int.toNat 3 = 3 from rfl, decide_eq_false c3] at c4; simp at c4; done)
    | skip
   go_ret2
   exact ⟨by rw [hF]; rfl, Ext.refl _⟩
 ·have hN : dO d = none := by
   unfold dO
   split
   ·rename_i h3
    split
    ·rename_i x hx
     have e1 := congrArg List.length h3
     have e2 := congrArg List.length hx
     simp at e1 e2
     omega
    ·rfl
   ·rfl
  (repeat' first | ((with_reducible refine aI ?_); go_step) | ((with_reducible refine aG ?_); first | refine aL ?_ | (refine aJ ?_ ?_ <;> intro hc)) | fail)
  all_goals first
   | (exfalso; simp at *; omega)
   | skip
  go_ret2
  exact ⟨by rw [hN]; rfl, Ext.refl _⟩
set_option maxHeartbeats 1000000 in
theorem xX (m : MsgR) (q a u e : Value) (w : World) (hm : MsgV w m q a u e) : Calls Tryz.prog 16 #[.pointer none, .agg (dB m q a u e).toArray] w (bQ w (.tuple #[.agg bC.toArray, .slice none 0 0])) := by
 go_enter Tryz.func16, Tryz.ntmps16
 repeat' (first | ((with_reducible refine aI ?_); go_step) | fail)
 refine cW (vs := dB m q a u e) rfl rfl ?_
 intro pm w1 x1 hp
 refine aA ?_
 (repeat' first | ((with_reducible refine aI ?_); go_step) | ((with_reducible refine aG ?_); first | refine aL ?_ | (refine aJ ?_ ?_ <;> intro hc)) | fail)
 refine aH (z := bC) rfl (by decide +kernel) ?_
 intro w2 x2 s2 h2
 refine aA ?_
 (repeat' first | ((with_reducible refine aI ?_); go_step) | ((with_reducible refine aG ?_); first | refine aL ?_ | (refine aJ ?_ ?_ <;> intro hc)) | fail)
 refine bL (v := .agg bC.toArray) rfl (Runs.build0 (by kernel_rfl)) ?_
 refine aA ?_
 refine aD (v := .agg bC.toArray) rfl rfl rfl h2 (show aM Tryz.prog 33 7 = true by decide +kernel) rfl (by decide +kernel) ?_
 intro w3 p3
 have x3 : Ext w w3 := x1.trans (x2.move p3.mv (by rintro k ⟨⟩; exact Nat.le_refl _))
 (repeat' first | ((with_reducible refine aI ?_); go_step) | ((with_reducible refine aG ?_); first | refine aL ?_ | (refine aJ ?_ ?_ <;> intro hc)) | fail)
 exact bodyPost_ret (bA (cs := bC) rfl rfl p3.this (show bH Tryz.prog 33 7 = true by decide +kernel)) rfl ⟨rfl, x3⟩
set_option maxHeartbeats 1000000 in
theorem zI (a : ActR) (v1 v2 : Value) (w : World) (h1 : Sl 4 w v1 (aF a.ans)) (h2 : Sl 4 w v2 (aF a.auth)) : Calls Tryz.prog 20 #[.agg (bN a v1 v2).toArray] w (bQ w (.agg (bN a v1 v2).toArray)) := by
 go_enter Tryz.func20, Tryz.ntmps20
 repeat' (first | ((with_reducible refine aI ?_); go_step) | fail)
 refine cI (vs := bN a v1 v2) rfl rfl ?_
 intro w1 x1 s1 hb1
 refine aA ?_
 have hp := aC (cs := bN a v1 v2) hb1
 (repeat' first | ((with_reducible refine aI ?_); go_step) | ((with_reducible refine aG ?_); first | refine aL ?_ | (refine aJ ?_ ?_ <;> intro hc)) | fail)
 refine aH (z := bC) rfl (by decide +kernel) ?_
 intro w2 x2 s2 b2
 refine aA ?_
 have hp2 := hp.ext x2
 (repeat' first | ((with_reducible refine aI ?_); go_step) | ((with_reducible refine aG ?_); first | refine aL ?_ | (refine aJ ?_ ?_ <;> intro hc)) | fail)
 refine aY (v := .agg #[aE a.qn, .int .i64 a.qt]) (Runs.loadN ((hp2.part 2).front 2) rfl (show bH Tryz.prog 31 2 = true by decide +kernel)) ?_
 refine aA ?_
 (repeat' first | ((with_reducible refine aI ?_); go_step) | ((with_reducible refine aG ?_); first | refine aL ?_ | (refine aJ ?_ ?_ <;> intro hc)) | fail)
 refine bL (v := .agg (bN a v1 v2).toArray) rfl (Runs.build (vals := [(0, .int .i64 a.kind), (1, .int .i64 a.to), (2, .agg #[aE a.qn, .int .i64 a.qt]), (3, .int .i64 a.code), (4, v1), (5, v2)]) rfl (by obtain ⟨_, _, _, rfl⟩ := h1.slf; obtain ⟨_, _, _, rfl⟩ := h2.slf; kernel_rfl)) ?_
 refine aA ?_
 refine aD (v := .agg (bN a v1 v2).toArray) rfl rfl rfl b2 (show aM Tryz.prog 40 7 = true by decide +kernel) rfl (dW h1.one h2.one) ?_
 intro w3 p3
 have x3 : Ext w w3 := x1.trans (x2.move p3.mv (by rintro k ⟨⟩; exact Nat.le_refl _))
 (repeat' first | ((with_reducible refine aI ?_); go_step) | ((with_reducible refine aG ?_); first | refine aL ?_ | (refine aJ ?_ ?_ <;> intro hc)) | fail)
 exact bodyPost_ret (bR (cs := bN a v1 v2) rfl rfl p3.this (show bH Tryz.prog 40 7 = true by decide +kernel)) rfl ⟨rfl, x3⟩
theorem Runs.eqQst {r q : zV} {x y : Operand} {a : Act} {w : World} {d : Option Nat} {u ty : TypeId} {ps : String} {af : Array Edge} {g : Option (Nat × Bool)}
 (hx : a.eval x = .agg #[aE r.1, .int .i64 r.2]) (hy : a.eval y = .agg #[aE q.1, .int .i64 q.2]) :
 Runs Tryz.prog (Oper.mk d (.binOp .eql 31 x y u) ty ps af g) a w (.bool (decide (r = q))) := by
 constructor
 have hg := run_eqGuard_agg (P := Tryz.prog) w .eql 31 x y #[aE r.1, .int .i64 r.2] #[aE q.1, .int .i64 q.2] (by kernel_rfl)
 simp only [execOp, hx, hy, Sem.run_bind, hg, Result.andThen_ok, run_eql_struct, vJ, Sem.run_pure]
theorem AZ {a c : ActR} (e0 : a.kind = c.kind) (e1 : a.to = c.to) (e2 : (a.qn, a.qt) = (c.qn, c.qt)) (e3 : a.code = c.code) (e4 : a.ans = c.ans) : decide (a = c) = decide (a.auth = c.auth) := by
 cases a; cases c
 simp only [Prod.mk.injEq] at e0 e1 e2 e3 e4
 obtain ⟨rfl, rfl⟩ := e2
 subst e0 e1 e3 e4
 simp
set_option maxHeartbeats 2000000 in
theorem xY (a c : ActR) (v1 v2 u1 u2 : Value) (w : World) (h1 : Sl 4 w v1 (aF a.ans)) (h2 : Sl 4 w v2 (aF a.auth)) (g1 : Sl 4 w u1 (aF c.ans)) (g2 : Sl 4 w u2 (aF c.auth)) :
 Calls Tryz.prog 19 #[.agg (bN a v1 v2).toArray, .agg (bN c u1 u2).toArray] w (bQ w (.bool (decide (a = c)))) := by
 go_enter Tryz.func19, Tryz.ntmps19
 repeat' (first | ((with_reducible refine aI ?_); go_step) | fail)
 refine cI (vs := bN a v1 v2) rfl rfl ?_
 intro w1 x1 s1 hb1
 refine aA ?_
 refine cI (vs := bN c u1 u2) rfl rfl ?_
 intro w2 x2 s2 hb2
 refine aA ?_
 have hp1 := (aC (cs := bN a v1 v2) hb1).ext x2
 have hp2 := aC (cs := bN c u1 u2) hb2
 have hx2 := x1.trans x2
 have hq1 : Pts w2 (aX (.pointer (some ⟨w.heap.size, 0, none⟩)) 2) [aE a.qn, .int .i64 a.qt] := (hp1.part 2).front 2
 have hq2 : Pts w2 (aX (.pointer (some ⟨w1.heap.size, 0, none⟩)) 2) [aE c.qn, .int .i64 c.qt] := (hp2.part 2).front 2
 by_cases e0 : a.kind = c.kind
 ·by_cases e1 : a.to = c.to
  ·clear hq1 hq2
   (repeat' first | ((with_reducible refine aI ?_); go_step) | ((with_reducible refine aG ?_); first | refine aL ?_ | (refine aJ ?_ ?_ <;> intro hc)) | fail)
   all_goals first
    | (exfalso; omega)
    | skip
   refine aY (v := .agg #[aE a.qn, .int .i64 a.qt]) (Runs.loadN ((hp1.part 2).front 2) rfl (show bH Tryz.prog 31 2 = true by decide +kernel)) ?_
   refine aA ?_
   (repeat' first | ((with_reducible refine aI ?_); go_step) | ((with_reducible refine aG ?_); first | refine aL ?_ | (refine aJ ?_ ?_ <;> intro hc)) | fail)
   refine aY (v := .agg #[aE c.qn, .int .i64 c.qt]) (Runs.loadN ((hp2.part 2).front 2) rfl (show bH Tryz.prog 31 2 = true by decide +kernel)) ?_
   refine aA ?_
   ((with_reducible refine aG ?_); refine kV ?_; refine nV ?_)
   refine aY (Runs.eqQst (r := (a.qn, a.qt)) (q := (c.qn, c.qt)) rfl rfl) ?_
   refine aA ?_
   by_cases e2 : (a.qn, a.qt) = (c.qn, c.qt)
   ·rw [decide_eq_true e2]
    by_cases e3 : a.code = c.code
    ·(repeat' first | ((with_reducible refine aI ?_); go_step) | ((with_reducible refine aG ?_); first | refine aL ?_ | (refine aJ ?_ ?_ <;> intro hc)) | fail)
     all_goals first
      | (exfalso; omega)
      | skip
     refine aB (enters_of Tryz.func52 rfl rfl) rfl rfl (tR v1 u1 a.ans c.ans _ (h1.ext hx2) (g1.ext hx2)) ?_; intro w3 x3; refine aA ?_
     have hp13 := hp1.ext x3
     have hp23 := hp2.ext x3
     have hx3 := hx2.trans x3
     by_cases e4 : a.ans = c.ans
     ·rw [decide_eq_true e4]
      (repeat' first | ((with_reducible refine aI ?_); go_step) | ((with_reducible refine aG ?_); first | refine aL ?_ | (refine aJ ?_ ?_ <;> intro hc)) | fail)
      refine aB (enters_of Tryz.func52 rfl rfl) rfl rfl (tR v2 u2 a.auth c.auth _ (h2.ext hx3) (g2.ext hx3)) ?_; intro w4 x4; refine aA ?_
      (repeat' first | ((with_reducible refine aI ?_); go_step) | ((with_reducible refine aG ?_); first | refine aL ?_ | (refine aJ ?_ ?_ <;> intro hc)) | fail)
      go_ret
      refine ⟨?_, hx3.trans x4⟩
      rw [AZ e0 e1 e2 e3 e4]; rfl
     ·rw [decide_eq_false e4]
      (repeat' first | ((with_reducible refine aI ?_); go_step) | ((with_reducible refine aG ?_); first | refine aL ?_ | (refine aJ ?_ ?_ <;> intro hc)) | fail)
      go_ret
      refine ⟨?_, hx3⟩
      rw [decide_eq_false (fun e => e4 (congrArg ActR.ans e))]; rfl
    ·(repeat' first | ((with_reducible refine aI ?_); go_step) | ((with_reducible refine aG ?_); first | refine aL ?_ | (refine aJ ?_ ?_ <;> intro hc)) | fail)
     all_goals first
      | (exfalso; omega)
      | skip
     go_ret
     refine ⟨?_, hx2⟩
     rw [decide_eq_false (fun e => e3 (congrArg ActR.code e))]; rfl
   ·rw [decide_eq_false e2]
    (repeat' first | ((with_reducible refine aI ?_); go_step) | ((with_reducible refine aG ?_); first | refine aL ?_ | (refine aJ ?_ ?_ <;> intro hc)) | fail)
    go_ret
    refine ⟨?_, hx2⟩
    rw [decide_eq_false (fun e => e2 (congrArg (fun x => (x.qn, x.qt)) e))]; rfl
  ·(repeat' first | ((with_reducible refine aI ?_); go_step) | ((with_reducible refine aG ?_); first | refine aL ?_ | (refine aJ ?_ ?_ <;> intro hc)) | fail)
   all_goals first
    | (exfalso; omega)
    | skip
   go_ret
   refine ⟨?_, hx2⟩
   rw [decide_eq_false (fun e => e1 (congrArg ActR.to e))]; rfl
 ·(repeat' first | ((with_reducible refine aI ?_); go_step) | ((with_reducible refine aG ?_); first | refine aL ?_ | (refine aJ ?_ ?_ <;> intro hc)) | fail)
  all_goals first
   | (exfalso; omega)
   | skip
  go_ret
  refine ⟨?_, hx2⟩
  rw [decide_eq_false (fun e => e0 (congrArg ActR.kind e))]; rfl
def AB (f : FuncId) (l : List Int) (p : Int → Bool) : Prop := ∀ n ∈ l, ∀ w', Calls Tryz.prog f #[.int .i64 n] w' (bQ w' (.bool (p n)))
set_option maxHeartbeats 1000000 in
theorem qF (v : Value) (l : List Int) (f : FuncId) (p : Int → Bool) (w : World) (hv : Sl 1 w v (aZ l)) (he : Enters Tryz.prog f) (hf : AB f l p) : Calls Tryz.prog 105 #[v, .func (.func f) #[] #[]] w (bQ w (.int .i64 (nX p l))) := by
 have hle := hv.le
 have hlen : (aZ l).length = l.length := List.length_map ..
 go_enter Tryz.func105, Tryz.ntmps105
 (repeat' first | ((with_reducible refine aI ?_); go_step) | ((with_reducible refine aG ?_); first | refine aL ?_ | (refine aJ ?_ ?_ <;> intro hc)) | fail)
 go_loopw [5, 8] (fun _ i wr => ∃ k : Nat, k ≤ l.length ∧ i = .int .i64 k ∧ Ext w wr ∧ (l.take k).any p = false) (fun _ i _ => l.length - (intOf i).toNat)
 case atStart => exact ⟨0, Nat.zero_le _, rfl, Ext.refl _, rfl⟩
 case round =>
  obtain ⟨k, hk, rfl, hx, hall⟩ := hrel
  have hv2 := hv.ext hx
  by_cases hlt : k < l.length
  ·have hpe := hv2.elem (uY hlt)
   (repeat' first | ((with_reducible refine aI ?_); go_step) | ((with_reducible refine aG ?_); first | refine aL ?_ | (refine aJ ?_ ?_ <;> intro hc)) | fail)
   refine cP he rfl rfl rfl (hf _ (List.getElem_mem hlt) _) ?_
   rintro e w2 ⟨rfl, x2⟩
   refine ⟨_, rfl, ?_⟩
   refine aA ?_
   cases hp : p l[k] with
   | true =>
    (repeat' first | ((with_reducible refine aI ?_); go_step) | ((with_reducible refine aG ?_); first | refine aL ?_ | (refine aJ ?_ ?_ <;> intro hc)) | fail)
    go_ret
    exact ⟨by rw [wV hlt hall hp]; rfl, hx.trans x2⟩
   | false =>
    (repeat' first | ((with_reducible refine aI ?_); go_step) | ((with_reducible refine aG ?_); first | refine aL ?_ | (refine aJ ?_ ?_ <;> intro hc)) | fail)
    exact ⟨⟨k + 1, by omega, by go_num, hx.trans x2, rA hlt hall hp⟩, by simp [intOf]; omega⟩
  ·have : k = l.length := by omega
   subst this
   rw [List.take_length] at hall
   (repeat' first | ((with_reducible refine aI ?_); go_step) | ((with_reducible refine aG ?_); first | refine aL ?_ | (refine aJ ?_ ?_ <;> intro hc)) | fail)
   go_ret
   exact ⟨by rw [wW hall]; rfl, hx⟩
theorem lR (v : Value) (l : List Int) (f : FuncId) (p : Int → Bool) (w : World) (hv : Sl 1 w v (aZ l)) (he : Enters Tryz.prog f) (hf : AB f l p) : Calls Tryz.prog 55 #[v, .func (.func f) #[] #[]] w (bQ w (.bool (l.any p))) := by
 go_enter Tryz.func55, Tryz.ntmps55
 (repeat' first | ((with_reducible refine aI ?_); go_step) | ((with_reducible refine aG ?_); first | refine aL ?_ | (refine aJ ?_ ?_ <;> intro hc)) | fail)
 refine aB (enters_of Tryz.func105 rfl rfl) rfl rfl (qF v l f p _ hv he hf) ?_; intro w1 x1; refine aA ?_
 (repeat' first | ((with_reducible refine aI ?_); go_step) | ((with_reducible refine aG ?_); first | refine aL ?_ | (refine aJ ?_ ?_ <;> intro hc)) | fail)
 go_ret
 exact ⟨by rw [← yS]; rfl, x1⟩
set_option maxHeartbeats 1000000 in
theorem xZ (v : Value) (l : List Int) (w : World) (hv : Sl 1 w v (aZ l)) (hl : l.length ≤ 1000000) : Calls Tryz.prog 58 #[v] w (vW w fun v' w' => Own w.heap.size 1 3 w' v' (aZ l)) := by
 have hlen : (aZ l).length = l.length := List.length_map ..
 go_enter Tryz.func58, Tryz.ntmps58
 (repeat' first | ((with_reducible refine aI ?_); go_step) | ((with_reducible refine aG ?_); first | refine aL ?_ | (refine aJ ?_ ?_ <;> intro hc)) | fail)
 ·have hn := ‹tG v = true›
  go_ret
  have : aZ l = [] := hv.isNil hn
  refine ⟨_, rfl, Ext.refl _, ?_⟩
  rw [this]
  exact Own.nil _ _ _ _
 ·refine mI (t := 45) (e := 3) (k := 1) (bytes := 8) (by decide +kernel) rfl ?_
  intro v2 w2 x2 s2 o2
  refine aA ?_
  (repeat' first | ((with_reducible refine aI ?_); go_step) | ((with_reducible refine aG ?_); first | refine aL ?_ | (refine aJ ?_ ?_ <;> intro hc)) | fail)
  refine iJ (B := w.heap.size) (e := 3) (k := 1) (bytes := 8) (es := []) (fs := aZ l) rfl o2 rfl (hv.ext x2) (by decide +kernel) (by intro f hf u hu; obtain ⟨r, _, rfl⟩ := List.mem_map.1 hf; simp only [List.mem_cons, List.not_mem_nil, or_false] at hu; rcases hu with rfl; rfl) (by omega) (by simp; omega) (by simp; omega) ?_
  intro v3 w3 o3 m3
  have x3 := o2.mvx m3 x2 (Nat.le_refl _)
  refine aA ?_
  (repeat' first | ((with_reducible refine aI ?_); go_step) | ((with_reducible refine aG ?_); first | refine aL ?_ | (refine aJ ?_ ?_ <;> intro hc)) | fail)
  go_ret
  exact ⟨_, rfl, x3, o3⟩
section
variable {P : Program} {w : World} {ts : List Value} {df : List Deferred}
theorem dH {fn : Func} {q p r : Tmp} {t : TypeId} (h : fn.results = #[.tmp q, .cell p t, .tmp r]) {b : Nat} {cs : List Value} {ty0 : TypeId} {fr : Nat × Nat} (hp : ts.getD p undef = .pointer (some ⟨b, 0, none⟩)) (hb : w.heap[b]? = some (.cells cs.toArray ty0 fr)) (ht : bH P t cs.length = true) :
 (results fn ts.toArray).run P w = .ok (.tuple #[ts.getD q undef, .agg cs.toArray, ts.getD r undef]) w := by
 obtain ⟨u, ie, hu, hn, hie, hz⟩ := fU ht
 have hl := run_loadCells_list (P := P) w ⟨b, 0, none⟩ cs (fun j v hv => by rw [bY, Nat.zero_add, cell_of_row w b j _ _ _ hb]; simpa using hv)
 have hp' : ts[p]?.getD undef = .pointer (some ⟨b, 0, none⟩) := by simpa using hp
 simp [results, h, hp', asAddr, loadVar, Sem.run_bind, fI hu hn, sizeOf, typeInfo, hie, hz, hl, Result.andThen]
end
theorem vV {n a b : Int} {w : World} {c : Bool} (h : (decide (a ≤ n) && decide (n ≤ b)) = c) : Calls Tryz.prog 54 #[.int .i64 n, .int .i64 a, .int .i64 b] w (bQ w (.bool c)) := h ▸ zW n a b w
def gH (w : World) (qn : List UInt8) (qt : Int) (rl : List Int) (budget : Int) (r : Value) (w' : World) : Prop :=
 if eT qn qt rl budget = 0 then ∃ b u, r = .tuple #[.pointer (some ⟨b, 0, none⟩), u, .int .i64 0] ∧ ActRet w b (lX qn qt rl budget).on u w'
 else r = .tuple #[.pointer none, .agg bC.toArray, .int .i64 1]
set_option maxHeartbeats 2000000 in
theorem AC (qn : List UInt8) (qt : Int) (v : Value) (rl : List Int) (budget : Int) (w : World) (hv : Sl 1 w v (aZ rl)) (hl : rl.length ≤ 1000000) : Calls Tryz.prog 24 #[.agg #[aE qn, .int .i64 qt], v, .int .i64 budget] w (vW w (gH w qn qt rl budget)) := by
 have hle := hv.le
 have hlen : (aZ rl).length = rl.length := List.length_map ..
 go_enter Tryz.func24, Tryz.ntmps24
 repeat' (first | ((with_reducible refine aI ?_); go_step) | fail)
 refine cW (vs := [aE qn, .int .i64 qt]) rfl rfl ?_
 intro pq w1 x1 hq
 refine aA ?_
 have hv1 := hv.ext x1
 (repeat' first | ((with_reducible refine aI ?_); go_step) | ((with_reducible refine aG ?_); first | refine aL ?_ | (refine aJ ?_ ?_ <;> intro hc)) | fail)
 refine aH (z := bC) rfl (by decide +kernel) ?_
 intro w2 x2 s2 h2
 refine aA ?_
 have hq2 := hq.ext x2
 (repeat' first | ((with_reducible refine aI ?_); go_step) | ((with_reducible refine aG ?_); first | refine aL ?_ | (refine aJ ?_ ?_ <;> intro hc)) | fail)
 have h27 := fun w => CJ qn w
 by_cases c1 : fF qn = 0
 ·have e1 : (aT qn).isSome = true := by
   unfold fF at c1
   split at c1
   ·assumption
   ·cases c1
  rw [e1, if_pos rfl] at h27
  refine aB (enters_of Tryz.func53 rfl rfl) rfl rfl (h27 _) ?_; intro w3 x3; refine aA ?_
  have hq3 := hq2.ext x3
  by_cases c2 : 1 ≤ qt ∧ qt ≤ 65535
  ·(repeat' first | ((with_reducible refine aI ?_); go_step) | ((with_reducible refine aG ?_); first | refine aL ?_ | (refine aJ ?_ ?_ <;> intro hc)) | fail)
   refine aB (enters_of Tryz.func54 rfl rfl) rfl rfl (vV (c := true) (by rw [decide_eq_true c2.1, decide_eq_true c2.2]; rfl)) ?_; intro w4 x4; refine aA ?_
   by_cases c3 : 1 ≤ rl.length ∧ rl.length ≤ 20
   ·(repeat' first | ((with_reducible refine aI ?_); go_step) | ((with_reducible refine aG ?_); first | refine aL ?_ | (refine aJ ?_ ?_ <;> intro hc)) | fail)
    refine aB (enters_of Tryz.func54 rfl rfl) rfl rfl (vV (c := true) (by rw [hlen, decide_eq_true (by omega), decide_eq_true (by omega)]; rfl)) ?_; intro w5 x5; refine aA ?_
    by_cases c4 : 1 ≤ budget ∧ budget ≤ 100
    ·(repeat' first | ((with_reducible refine aI ?_); go_step) | ((with_reducible refine aG ?_); first | refine aL ?_ | (refine aJ ?_ ?_ <;> intro hc)) | fail)
     refine aB (enters_of Tryz.func54 rfl rfl) rfl rfl (vV (c := true) (by rw [decide_eq_true c4.1, decide_eq_true c4.2]; rfl)) ?_; intro w6 x6; refine aA ?_
     (repeat' first | ((with_reducible refine aI ?_); go_step) | ((with_reducible refine aG ?_); first | refine aL ?_ | (refine aJ ?_ ?_ <;> intro hc)) | fail)
     have hv6 := (((((hv1.ext x2).ext x3).ext x4).ext x5).ext x6)
     have hq6 := (((hq3.ext x4).ext x5).ext x6)
     have hx6 := x1.trans (x2.trans (x3.trans (x4.trans (x5.trans x6))))
     have h26 := ((((x3.trans x4).trans x5).trans x6)).at h2
     have hCF := fun w9 (h9 : Sl 1 w9 v (aZ rl)) => lR v rl 56 (fun n => !(decide (0 ≤ n) && decide (n ≤ 99))) w9 h9 (enters_of Tryz.func56 rfl rfl) (fun n _ w' => AY n w')
     cases c5 : rl.any (fun n => !(decide (0 ≤ n) && decide (n ≤ 99))) with
     | true =>
      have hE : ¬ eT qn qt rl budget = 0 := by
       unfold eT
       rw [if_neg (by rintro ⟨_, _, _, _, h⟩; rw [c5] at h; cases h)]
       decide
      simp only [c5] at hCF
      refine aB (enters_of Tryz.func55 rfl rfl) rfl rfl (hCF _ hv6) ?_; intro w7 x7; refine aA ?_
      have h27' := x7.at h26
      (repeat' first | ((with_reducible refine aI ?_); go_step) | ((with_reducible refine aG ?_); first | refine aL ?_ | (refine aJ ?_ ?_ <;> intro hc)) | fail)
      refine bL (v := .agg bC.toArray) rfl (Runs.build0 (by kernel_rfl)) ?_
      refine aA ?_
      (repeat' first | ((with_reducible refine aI ?_); go_step) | ((with_reducible refine aG ?_); first | refine aL ?_ | (refine aJ ?_ ?_ <;> intro hc)) | fail)
      refine aD (v := .agg bC.toArray) rfl rfl rfl h27' (show aM Tryz.prog 33 7 = true by decide +kernel) rfl (by decide +kernel) ?_
      intro w8 p8
      have hx8 : Ext w w8 := (hx6.trans x7).move p8.mv (by rintro k ⟨⟩; exact x1.size)
      (repeat' first | ((with_reducible refine aI ?_); go_step) | ((with_reducible refine aG ?_); first | refine aL ?_ | (refine aJ ?_ ?_ <;> intro hc)) | fail)
      refine bodyPost_ret (dH (cs := bC) rfl rfl p8.this (show bH Tryz.prog 33 7 = true by decide +kernel)) rfl ⟨_, rfl, hx8, ?_⟩
      rw [gH, if_neg hE]
      rfl
     | false =>
      have hE : eT qn qt rl budget = 0 := by
       unfold eT
       exact if_pos ⟨c1, c2, c3, c4, c5⟩
      simp only [c5] at hCF
      refine aB (enters_of Tryz.func55 rfl rfl) rfl rfl (hCF _ hv6) ?_; intro w7 x7; refine aA ?_
      have h27' := x7.at h26
      have hq7 := hq6.ext x7
      have hv7 := hv6.ext x7
      (repeat' first | ((with_reducible refine aI ?_); go_step) | ((with_reducible refine aG ?_); first | refine aL ?_ | (refine aJ ?_ ?_ <;> intro hc)) | fail)
      refine cU (S := fun w' => Ext w7 w') (by decide +kernel) ?_
      intro w8 x8 _
      refine fD 0 ?_; refine aA ?_; refine fD 1 ?_; refine aA ?_; refine fD 3 ?_; refine aA ?_; refine fD 4 ?_; refine aA ?_; refine fD 6 ?_; refine aA ?_; refine fD 8 ?_; refine aA ?_
      refine cD (i := 2) (by decide +kernel) rfl rfl ?_
      refine aB (enters_of Tryz.func57 rfl rfl) rfl rfl (tO qn _) ?_
      intro w9 x9
      refine aA ?_
      have x79 := x8.trans x9
      refine aP ⟨x79, ?_⟩
      refine bJ (i := 5) (v := .agg #[aE (fold qn), .int .i64 qt]) rfl rfl (by decide +kernel) (by decide +kernel) (by decide +kernel) rfl x79 (fun w' _ => Runs.build rfl (by kernel_rfl)) (fun _ _ _ h => h) ?_
      refine aA ?_
      refine cD (i := 7) (by decide +kernel) rfl rfl ?_
      refine aS (enters_of Tryz.func58 rfl rfl) rfl rfl (xZ v rl _ (hv7.ext x79) hl) ?_
      intro rv w10 x10 o10
      refine aA ?_
      have x710 := x79.trans x10
      refine aP ⟨x710, ?_⟩
      refine bJ (i := 9) (v := .agg (bO ⟨fold qn, qt, rl, [], [], [], 0, budget, none⟩ rv (.slice none 0 0) (.slice none 0 0) (.pointer none)).toArray) rfl rfl (by decide +kernel) (by decide +kernel) (by decide +kernel) rfl x710 (fun w' _ => Runs.build (vals := [(0, .agg #[aE (fold qn), .int .i64 qt]), (1, rv), (6, .int .i64 budget)]) rfl (by obtain ⟨_, _, _, rfl⟩ := o10.sl.slf; kernel_rfl)) (fun _ _ _ h => h) ?_
      refine aA ?_
      refine cD (i := 10) (by decide +kernel) rfl rfl ?_
      refine cI (vs := bO ⟨fold qn, qt, rl, [], [], [], 0, budget, none⟩ rv (.slice none 0 0) (.slice none 0 0) (.pointer none)) rfl rfl ?_
      intro w11 x11 s11 h11
      refine aA ?_
      have x711 := x710.trans x11
      refine aP ⟨x711, ?_⟩
      refine fD 11 ?_; refine aA ?_
      refine cQ (by decide +kernel) ?_
      have hx11 : Ext w w11 := (hx6.trans x7).trans x711
      have hsz7 := (hx6.trans x7).size
      have hT : TaskV w w11 w10.heap.size ⟨fold qn, qt, rl, [], [], [], 0, budget, none⟩ rv (.slice none 0 0) (.slice none 0 0) (.pointer none) :=
       ⟨((hx6.trans x7).trans x710).size, hx11, h11, (o10.weaken (hx6.trans (x7.trans x79)).size).ext x11, OwnOff.nil _ _ _ _, Own.nil _ _ _ _, rfl⟩
      have hp11 := aC (cs := bO ⟨fold qn, qt, rl, [], [], [], 0, budget, none⟩ rv (.slice none 0 0) (.slice none 0 0) (.pointer none)) h11
      have h27'' := x711.at h27'
      (repeat' first | ((with_reducible refine aI ?_); go_step) | ((with_reducible refine aG ?_); first | refine aL ?_ | (refine aJ ?_ ?_ <;> intro hc)) | fail)
      refine bB (n := 4) (v := rv) hT.blk rfl rfl rfl (by simp [bO]) (by decide +kernel) o10.one ?_
      intro w12 p12
      have p12' : Put w11 w12 w10.heap.size (.cells (bO (lX qn qt rl budget) rv rv (.slice none 0 0) (.pointer none)).toArray 99 (0, 0)) := p12
      obtain ⟨k1, k2, k3, k4⟩ := hT.kept p12
      have hT12 := hT.put p12' k1 k1.off k3 k4
      clear p12' hp11
      (repeat' first | ((with_reducible refine aI ?_); go_step) | ((with_reducible refine aG ?_); first | refine aL ?_ | (refine aJ ?_ ?_ <;> intro hc)) | fail)
      refine aR (vs := [.pointer (some ⟨w10.heap.size, 0, none⟩)]) (enters_of Tryz.func50 rfl rfl) rfl rfl (xT ⟨_, _, _, _, hT12⟩ (show 0 ≤ budget by omega) (show budget ≤ 1000000 by omega)) ?_
      rintro e w13 ⟨u, rfl, hu, hm⟩
      refine ⟨_, rfl, ?_⟩
      refine aA ?_
      have szz := (x2.trans (x3.trans (x4.trans (x5.trans (x6.trans (x7.trans x710)))))).size
      have szl := (Array.getElem?_eq_some_iff.1 h2).1
      have szm := (x3.trans (x4.trans (x5.trans (x6.trans (x7.trans x710))))).size
      have hne : some w1.heap.size ≠ some w10.heap.size := by
       intro e
       have := Option.some.inj e
       omega
      have h14 := hm.at (p12.mv.at h27'' hne) hne
      (repeat' first | ((with_reducible refine aI ?_); go_step) | ((with_reducible refine aG ?_); first | refine aL ?_ | (refine aJ ?_ ?_ <;> intro hc)) | fail)
      refine aD (v := u) rfl rfl rfl h14 (by rw [hu.1.size]; exact (show aM Tryz.prog 33 7 = true by decide +kernel)) (by rw [hu.1.size]; rfl) hu.1.one ?_
      intro w14 p14
      obtain ⟨u1, u2, rfl, q1, q2⟩ := (hu.1.put p14 h14 (by decide)).out
      obtain ⟨rv', sv', gv', ev', hTT⟩ := hu.2
      have hT14 := hTT.other p14 h14 x1.size
      (repeat' first | ((with_reducible refine aI ?_); go_step) | ((with_reducible refine aG ?_); first | refine aL ?_ | (refine aJ ?_ ?_ <;> intro hc)) | fail)
      refine bodyPost_ret (dH (cs := bN (lX qn qt rl budget).on.2 u1 u2) rfl rfl p14.this (show bH Tryz.prog 33 7 = true by decide +kernel)) rfl ⟨_, rfl, hT14.ext, ?_⟩
      rw [gH, if_pos hE]
      exact ⟨_, _, rfl, ⟨u1, u2, rfl, q1, q2⟩, _, _, _, _, hT14⟩
    ·have hE : ¬ eT qn qt rl budget = 0 := by
      unfold eT
      rw [if_neg (by rintro ⟨h1, h2, h3, h4, _⟩; exact c4 h4)]
      decide
     (repeat' first | ((with_reducible refine aI ?_); go_step) | ((with_reducible refine aG ?_); first | refine aL ?_ | (refine aJ ?_ ?_ <;> intro hc)) | fail)
     refine aB (enters_of Tryz.func54 rfl rfl) rfl rfl (vV (c := false) (by simp only [Bool.and_eq_false_iff, decide_eq_false_iff_not]; omega)) ?_; intro w6 x6; refine aA ?_
     have h26 := ((((x3.trans x4).trans x5).trans x6)).at h2
     (repeat' first | ((with_reducible refine aI ?_); go_step) | ((with_reducible refine aG ?_); first | refine aL ?_ | (refine aJ ?_ ?_ <;> intro hc)) | fail)
     refine bL (v := .agg bC.toArray) rfl (Runs.build0 (by kernel_rfl)) ?_
     refine aA ?_
     (repeat' first | ((with_reducible refine aI ?_); go_step) | ((with_reducible refine aG ?_); first | refine aL ?_ | (refine aJ ?_ ?_ <;> intro hc)) | fail)
     refine aD (v := .agg bC.toArray) rfl rfl rfl h26 (show aM Tryz.prog 33 7 = true by decide +kernel) rfl (by decide +kernel) ?_
     intro w8 p8
     have hx8 : Ext w w8 := (x1.trans (x2.trans (x3.trans (x4.trans (x5.trans x6))))).move p8.mv (by rintro k ⟨⟩; exact x1.size)
     (repeat' first | ((with_reducible refine aI ?_); go_step) | ((with_reducible refine aG ?_); first | refine aL ?_ | (refine aJ ?_ ?_ <;> intro hc)) | fail)
     refine bodyPost_ret (dH (cs := bC) rfl rfl p8.this (show bH Tryz.prog 33 7 = true by decide +kernel)) rfl ⟨_, rfl, hx8, ?_⟩
     rw [gH, if_neg hE]
     rfl
   ·have hE : ¬ eT qn qt rl budget = 0 := by
     unfold eT
     rw [if_neg (by rintro ⟨h1, h2, h3, h4, _⟩; exact c3 h3)]
     decide
    (repeat' first | ((with_reducible refine aI ?_); go_step) | ((with_reducible refine aG ?_); first | refine aL ?_ | (refine aJ ?_ ?_ <;> intro hc)) | fail)
    refine aB (enters_of Tryz.func54 rfl rfl) rfl rfl (vV (c := false) (by simp only [Bool.and_eq_false_iff, decide_eq_false_iff_not]; omega)) ?_; intro w5 x5; refine aA ?_
    have h26 := (((x3.trans x4).trans x5)).at h2
    (repeat' first | ((with_reducible refine aI ?_); go_step) | ((with_reducible refine aG ?_); first | refine aL ?_ | (refine aJ ?_ ?_ <;> intro hc)) | fail)
    refine bL (v := .agg bC.toArray) rfl (Runs.build0 (by kernel_rfl)) ?_
    refine aA ?_
    (repeat' first | ((with_reducible refine aI ?_); go_step) | ((with_reducible refine aG ?_); first | refine aL ?_ | (refine aJ ?_ ?_ <;> intro hc)) | fail)
    refine aD (v := .agg bC.toArray) rfl rfl rfl h26 (show aM Tryz.prog 33 7 = true by decide +kernel) rfl (by decide +kernel) ?_
    intro w8 p8
    have hx8 : Ext w w8 := (x1.trans (x2.trans (x3.trans (x4.trans x5)))).move p8.mv (by rintro k ⟨⟩; exact x1.size)
    (repeat' first | ((with_reducible refine aI ?_); go_step) | ((with_reducible refine aG ?_); first | refine aL ?_ | (refine aJ ?_ ?_ <;> intro hc)) | fail)
    refine bodyPost_ret (dH (cs := bC) rfl rfl p8.this (show bH Tryz.prog 33 7 = true by decide +kernel)) rfl ⟨_, rfl, hx8, ?_⟩
    rw [gH, if_neg hE]
    rfl
  ·have hE : ¬ eT qn qt rl budget = 0 := by
    unfold eT
    rw [if_neg (by rintro ⟨h1, h2, h3, h4, _⟩; exact c2 h2)]
    decide
   (repeat' first | ((with_reducible refine aI ?_); go_step) | ((with_reducible refine aG ?_); first | refine aL ?_ | (refine aJ ?_ ?_ <;> intro hc)) | fail)
   refine aB (enters_of Tryz.func54 rfl rfl) rfl rfl (vV (c := false) (by simp only [Bool.and_eq_false_iff, decide_eq_false_iff_not]; omega)) ?_; intro w4 x4; refine aA ?_
   have h26 := ((x3.trans x4)).at h2
   (repeat' first | ((with_reducible refine aI ?_); go_step) | ((with_reducible refine aG ?_); first | refine aL ?_ | (refine aJ ?_ ?_ <;> intro hc)) | fail)
   refine bL (v := .agg bC.toArray) rfl (Runs.build0 (by kernel_rfl)) ?_
   refine aA ?_
   (repeat' first | ((with_reducible refine aI ?_); go_step) | ((with_reducible refine aG ?_); first | refine aL ?_ | (refine aJ ?_ ?_ <;> intro hc)) | fail)
   refine aD (v := .agg bC.toArray) rfl rfl rfl h26 (show aM Tryz.prog 33 7 = true by decide +kernel) rfl (by decide +kernel) ?_
   intro w8 p8
   have hx8 : Ext w w8 := (x1.trans (x2.trans (x3.trans x4))).move p8.mv (by rintro k ⟨⟩; exact x1.size)
   (repeat' first | ((with_reducible refine aI ?_); go_step) | ((with_reducible refine aG ?_); first | refine aL ?_ | (refine aJ ?_ ?_ <;> intro hc)) | fail)
   refine bodyPost_ret (dH (cs := bC) rfl rfl p8.this (show bH Tryz.prog 33 7 = true by decide +kernel)) rfl ⟨_, rfl, hx8, ?_⟩
   rw [gH, if_neg hE]
   rfl
 ·have hE : ¬ eT qn qt rl budget = 0 := by
   unfold eT
   rw [if_neg (by rintro ⟨h1, h2, h3, h4, _⟩; exact c1 h1)]
   decide
  have e1 : ¬ (aT qn).isSome = true := by
   intro e
   exact c1 (by unfold fF; rw [e]; rfl)
  rw [if_neg e1] at h27
  refine aB (enters_of Tryz.func53 rfl rfl) rfl rfl (h27 _) ?_; intro w3 x3; refine aA ?_
  have h26 := x3.at h2
  (repeat' first | ((with_reducible refine aI ?_); go_step) | ((with_reducible refine aG ?_); first | refine aL ?_ | (refine aJ ?_ ?_ <;> intro hc)) | fail)
  refine bL (v := .agg bC.toArray) rfl (Runs.build0 (by kernel_rfl)) ?_
  refine aA ?_
  (repeat' first | ((with_reducible refine aI ?_); go_step) | ((with_reducible refine aG ?_); first | refine aL ?_ | (refine aJ ?_ ?_ <;> intro hc)) | fail)
  refine aD (v := .agg bC.toArray) rfl rfl rfl h26 (show aM Tryz.prog 33 7 = true by decide +kernel) rfl (by decide +kernel) ?_
  intro w8 p8
  have hx8 : Ext w w8 := (x1.trans (x2.trans x3)).move p8.mv (by rintro k ⟨⟩; exact x1.size)
  (repeat' first | ((with_reducible refine aI ?_); go_step) | ((with_reducible refine aG ?_); first | refine aL ?_ | (refine aJ ?_ ?_ <;> intro hc)) | fail)
  refine bodyPost_ret (dH (cs := bC) rfl rfl p8.this (show bH Tryz.prog 33 7 = true by decide +kernel)) rfl ⟨_, rfl, hx8, ?_⟩
  rw [gH, if_neg hE]
  rfl
theorem tC (w : World) : Calls Tryz.prog 21 #[.pointer none] w (bQ w (.agg bC.toArray)) := by
 go_enter Tryz.func21, Tryz.ntmps21
 (repeat' first | ((with_reducible refine aI ?_); go_step) | ((with_reducible refine aG ?_); first | refine aL ?_ | (refine aJ ?_ ?_ <;> intro hc)) | fail)
 refine aH (z := bC) rfl (by decide +kernel) ?_
 intro w1 x1 s1 h1
 refine aA ?_
 (repeat' first | ((with_reducible refine aI ?_); go_step) | ((with_reducible refine aG ?_); first | refine aL ?_ | (refine aJ ?_ ?_ <;> intro hc)) | fail)
 refine bL (v := .agg bC.toArray) rfl (Runs.build0 (by kernel_rfl)) ?_
 refine aA ?_
 refine aD (v := .agg bC.toArray) rfl rfl rfl h1 (show aM Tryz.prog 33 7 = true by decide +kernel) rfl (by decide +kernel) ?_
 intro w2 p2
 (repeat' first | ((with_reducible refine aI ?_); go_step) | ((with_reducible refine aG ?_); first | refine aL ?_ | (refine aJ ?_ ?_ <;> intro hc)) | fail)
 exact bodyPost_ret (bR (cs := bC) rfl rfl p2.this (show bH Tryz.prog 33 7 = true by decide +kernel)) rfl ⟨rfl, x1.move p2.mv (by rintro k ⟨⟩; exact Nat.le_refl _)⟩
set_option maxHeartbeats 1000000 in
theorem pM {w0 w : World} {b : Nat} {t : TaskR} (h : TaskAt w0 w b t) (h0 : 0 ≤ t.left) (h1 : t.left ≤ 1000000) (hs : ∀ a, t.stop = some a → a.ans.length ≤ 1000000 ∧ a.auth.length ≤ 1000000) : Calls Tryz.prog 21 #[.pointer (some ⟨b, 0, none⟩)] w (TRet w0 w b t.timeout) := by
 have hA := h
 obtain ⟨rv, sv, gv, ev, h⟩ := h
 have hp := aC (cs := bO t rv sv gv ev) h.blk
 have he := h.es
 go_enter Tryz.func21, Tryz.ntmps21
 (repeat' first | ((with_reducible refine aI ?_); go_step) | ((with_reducible refine aG ?_); first | refine aL ?_ | (refine aJ ?_ ?_ <;> intro hc)) | fail)
 refine aH (z := bC) rfl (by decide +kernel) ?_
 intro w1 x1 s1 hb1
 refine aA ?_
 have hp1 := hp.ext x1
 have hA1 := hA.grow x1
 cases hst : t.stop with
 | none =>
  rw [hst] at he
  have hev : ev = .pointer none := he
  subst hev
  have hE : t.timeout = t.on := by rw [TaskR.timeout, hst]
  (repeat' first | ((with_reducible refine aI ?_); go_step) | ((with_reducible refine aG ?_); first | refine aL ?_ | (refine aJ ?_ ?_ <;> intro hc)) | fail)
  refine aR (vs := [.pointer (some ⟨b, 0, none⟩)]) (enters_of Tryz.func50 rfl rfl) rfl rfl (xT hA1 h0 h1) ?_
  rintro e w4 ⟨u, rfl, hu, hm⟩
  refine ⟨_, rfl, ?_⟩
  refine aA ?_
  have h14 := hm.at hb1 h.neBox
  refine aD (v := u) rfl rfl rfl h14 (by rw [hu.1.size]; exact (show aM Tryz.prog 33 7 = true by decide +kernel)) (by rw [hu.1.size]; rfl) hu.1.one ?_
  intro w5 p5
  obtain ⟨u1, u2, rfl, hr⟩ := TRet.box hu ((x1.mv _).trans hm) h14 (Nat.le_refl _) h.ext.size p5
  (repeat' first | ((with_reducible refine aI ?_); go_step) | ((with_reducible refine aG ?_); first | refine aL ?_ | (refine aJ ?_ ?_ <;> intro hc)) | fail)
  exact bodyPost_ret (bR (cs := bN t.on.2 u1 u2) rfl rfl p5.this (show bH Tryz.prog 33 7 = true by decide +kernel)) rfl (by rw [hE]; exact hr)
 | some a =>
  rw [hst] at he
  obtain ⟨c, v1, v2, rfl, hc, hcb, o1, o2, -⟩ := he
  have hE : t.timeout = (t, a) := by rw [TaskR.timeout, hst]
  (repeat' first | ((with_reducible refine aI ?_); go_step) | ((with_reducible refine aG ?_); first | refine aL ?_ | (refine aJ ?_ ?_ <;> intro hc)) | fail)
  refine aS (enters_of Tryz.func43 rfl rfl) rfl rfl (qC hA1 hst (hs a hst).1 (hs a hst).2) ?_
  intro u w4 x4 hu
  refine aA ?_
  have hm : Mv (some b) w1 w4 := x4.mv _
  have h14 := hm.at hb1 h.neBox
  refine aD (v := u) rfl rfl rfl h14 (by rw [hu.1.size]; exact (show aM Tryz.prog 33 7 = true by decide +kernel)) (by rw [hu.1.size]; rfl) hu.1.one ?_
  intro w5 p5
  obtain ⟨u1, u2, rfl, hr⟩ := TRet.box hu ((x1.mv _).trans hm) h14 (Nat.le_refl _) h.ext.size p5
  (repeat' first | ((with_reducible refine aI ?_); go_step) | ((with_reducible refine aG ?_); first | refine aL ?_ | (refine aJ ?_ ?_ <;> intro hc)) | fail)
  exact bodyPost_ret (bR (cs := bN (t, a).2 u1 u2) rfl rfl p5.this (show bH Tryz.prog 33 7 = true by decide +kernel)) rfl (by rw [hE]; exact hr)
def EA : TaskR := lX [1, 120, 1, 65] 1 [3, 4] 9
def tD : MsgR := { zeroM with resp := true, au := [⟨[1, 97], 2, 5, [1, 110, 0]⟩], ex := [⟨[1, 110], 1, 5, [10, 0, 0, 7]⟩] }
def yA : MsgR := { zeroM with resp := true, auth := true, an := [⟨[1, 120, 1, 97], 1, 5, [49, 50, 51, 52]⟩] }
def DG : TaskR := ⟨[1, 120, 1, 97], 1, [3, 4], [], [4], [], 0, 8, none⟩
def CM : TaskR := ⟨[1, 120, 1, 97], 1, [3, 4], [], [], [], 0, 7, none⟩
def CN : TaskR := ⟨[1, 120, 1, 97], 1, [3, 4], [1, 97], [], [], 0, 6, none⟩
def BE : List Rec := [⟨[1, 120, 1, 97], 1, 5, [49, 50, 51, 52]⟩]
def CO : TaskR := ⟨[1, 120, 1, 97], 1, [3, 4], [1, 97], [], BE, 0, 6, some ⟨2, 0, [], 0, 0, BE, []⟩⟩
deriving instance DecidableEq for TaskR
deriving instance DecidableEq for RSet
deriving instance DecidableEq for LrnR
def DH : List LrnR := [⟨⟨[1, 97], 2, 5, [[1, 110, 0]]⟩, 2⟩, ⟨⟨[1, 110], 1, 5, [[10, 0, 0, 7]]⟩, 1⟩]
def DI : List LrnR := [⟨⟨[1, 120, 1, 97], 1, 5, [[49, 50, 51, 52]]⟩, 4⟩]
theorem CB : eT [1, 120, 1, 65] 1 [3, 4] 9 = 0 := by decide +kernel
theorem CC : eT [] 1 [] 9 = 1 := by decide +kernel
theorem DJ : EA.on = (DG, ⟨1, 3, [1, 120, 1, 97], 1, 0, [], []⟩) := by decide +kernel
theorem DK : DG.timeout = (CM, ⟨1, 4, [1, 120, 1, 97], 1, 0, [], []⟩) := by decide +kernel
theorem DL : CM.reply tD = (CN, ⟨1, 7, [1, 120, 1, 97], 1, 0, [], []⟩, DH) := by decide +kernel
theorem DM : CN.reply yA = (CO, ⟨2, 0, [], 0, 0, BE, []⟩, DI) := by decide +kernel
theorem DN : CO.timeout = (CO, ⟨2, 0, [], 0, 0, BE, []⟩) := by decide +kernel
section
variable {P : Program} {w w0 : World} {ts : List Value} {df : List Deferred} {d : Option Nat} {ty : TypeId} {ps : String} {af : Array Edge} {g : Option (Nat × Bool)}
theorem Runs.fieldP {s : TypeId} {m n off : Nat} {p : Value} {vs : List Value} (hx : ts.getD m undef = p) (hp : Pts w0 p vs) (hf : eD P s n off = true) :
 Runs P (Oper.mk d (.fieldAddr s (.tmp m) n) ty ps af g) (Act.mk ts.toArray df) w (aX p off) := by
 obtain ⟨b, o, rfl, _⟩ := hp
 obtain ⟨fs, f, i, ht, hf, ho, hie, hz⟩ := eE hf
 have hx' : (Act.mk ts.toArray df).eval (.tmp m) = .pointer (some ⟨b, o, none⟩) := by rw [cS]; exact hx
 constructor
 simp [execOp, hx', Instr.fieldAt, Instr.sureAddr, run_underlying ht, hf, fieldPlace, sizeOf, typeInfo, hie, hz, aX, ho]
end
theorem Own.same {B k e : Nat} {w w' : World} {v : Value} {es : List (List Value)} (h : Own B k e w v es) (hs : ∀ r, v.ownBlock = some r → w'.heap[r]? = w.heap[r]?) : Own B k e w' v es := by
 obtain ⟨⟨h1, h2⟩, h3⟩ := h
 refine ⟨⟨h1, ?_⟩, h3⟩
 rcases h2 with h2 | ⟨gg, cap, cur, fz, rfl, hb, hg, r⟩
 ·exact .inl h2
 ·exact .inr ⟨gg, cap, cur, fz, rfl, hb, by rw [hs gg rfl]; exact hg, r⟩
theorem Own.fr {B k e b : Nat} {w0 w w' : World} {t : TaskR} {rv sv gv ev v : Value} {es : List (List Value)} (h : Own B k e w v es) (hf : Fr b gv w w') (hT : TaskV w0 w b t rv sv gv ev) (h1 : 99 ≠ e) (h2 : e ≠ 64) : Own B k e w' v es :=
 h.same fun r hr => hf.block r (h.block r hr).2 (by rintro rfl; exact h.neBlock hT.blk h1 hr) (by
  intro e2
  rcases h.ne hT.gs h2 with e3 | e3
  ·rw [hr] at e3; cases e3
  ·exact e3 (by rw [hr, e2]))
theorem Fr.box {b c t : Nat} {w0 w w' : World} {tk : TaskR} {rv sv gv ev : Value} {cs : Array Value} {fz : Nat × Nat} (hf : Fr b gv w w') (hT : TaskV w0 w b tk rv sv gv ev) (hc : w.heap[c]? = some (.cells cs t fz)) (h1 : t ≠ 99) (h2 : t ≠ 64) : w'.heap[c]? = some (.cells cs t fz) := by
 rw [hf.block c (Array.getElem?_eq_some_iff.1 hc).1 (by
  rintro rfl
  have := hT.blk
  rw [hc] at this
  simp only [Option.some.injEq, Obj.cells.injEq] at this
  exact h1 this.2.1) (hT.gs.neBlock hc h2)]
 exact hc
theorem lZ {t : TaskR} {l : List Rec} {n : List UInt8} {k : Int} {K : Nat} (h : ∀ r ∈ l, r.data.length ≤ K) : ∀ r ∈ t.of l n k, r.data.length ≤ K := by
 intro r hr
 unfold TaskR.of at hr
 obtain ⟨q, hq, rfl⟩ := List.mem_map.1 (List.mem_filter.1 hr).1
 exact h q (List.mem_filter.1 hq).1
theorem CD : TaskB CM 0 := ⟨by decide, by decide, by decide, by decide, by decide, by intro a h; cases h⟩
theorem CE : TaskB CN 0 := ⟨by decide, by decide, by decide, by decide, by decide, by intro a h; cases h⟩
set_option maxHeartbeats 4000000 in
theorem yB (w : World) : Calls Tryz.prog 15 #[] w (DZ w) := by
 go_enter Tryz.func15, Tryz.ntmps15
 (repeat' first | ((with_reducible refine aI ?_); go_step) | ((with_reducible refine aG ?_); first | refine aL ?_ | (refine aJ ?_ ?_ <;> intro hc)) | fail)
 refine aY (v := .agg #[aE [1, 120, 1, 65], .int .i64 1]) (Runs.build rfl (by kernel_rfl)) ?_
 refine aA ?_
 refine cB (e := 3) (k := 1) (bytes := 8) (xs := [.int .i64 3, .int .i64 4]) rfl rfl rfl (by simp [Value.cells]) (by decide +kernel) (by simp) ?_
 intro v1 w1 x1 _ sl1 _
 refine aA ?_
 have sl1' : Sl 1 w1 v1 (aZ [3, 4]) := sl1
 refine aS (enters_of Tryz.func24 rfl rfl) rfl rfl (AC [1, 120, 1, 65] 1 v1 [3, 4] 9 _ sl1' (by decide)) ?_
 intro r w2 x2 hr
 unfold gH at hr
 rw [if_pos CB] at hr
 obtain ⟨b, u2, rfl, hu2⟩ := hr
 change ActRet w1 b EA.on u2 w2 at hu2
 rw [DJ] at hu2
 obtain ⟨⟨a1, a2, rfl, oa1, oa2⟩, hT2⟩ := hu2
 have hbn : b < w2.heap.size := by obtain ⟨_, _, _, _, h⟩ := hT2; exact (Array.getElem?_eq_some_iff.1 h.blk).1
 refine aA ?_
 (repeat' first | ((with_reducible refine aI ?_); go_step) | ((with_reducible refine aG ?_); first | refine aL ?_ | (refine aJ ?_ ?_ <;> intro hc)) | fail)
 refine aH (z := bC) rfl (by decide +kernel) ?_
 intro w3 x3 s3 h3
 refine aA ?_
 have hT3 := hT2.grow x3
 (repeat' first | ((with_reducible refine aI ?_); go_step) | ((with_reducible refine aG ?_); first | refine aL ?_ | (refine aJ ?_ ?_ <;> intro hc)) | fail)
 refine aD (v := .agg (bN ⟨1, 3, [1, 120, 1, 97], 1, 0, [], []⟩ a1 a2).toArray) rfl rfl rfl h3 (show aM Tryz.prog 33 7 = true by decide +kernel) rfl (dW oa1.one oa2.one) ?_
 intro w4 p4
 have x4 : Ext w2 w4 := x3.move p4.mv (by rintro k ⟨⟩; exact Nat.le_refl _)
 have hT4 := hT2.grow x4
 have hA4 : w4.heap[w2.heap.size]? = some (.cells (bN ⟨1, 3, [1, 120, 1, 97], 1, 0, [], []⟩ a1 a2).toArray 33 (0, 0)) := p4.this
 have hx4 := x1.trans (x2.trans x4)
 clear hT2 hT3 p4 h3 x3
 (repeat' first | ((with_reducible refine aI ?_); go_step) | ((with_reducible refine aG ?_); first | refine aL ?_ | (refine aJ ?_ ?_ <;> intro hc)) | fail)
 refine aY (v := .agg #[aE [], .int .i64 1]) (Runs.build rfl (by kernel_rfl)) ?_
 refine aA ?_
 refine aS (enters_of Tryz.func24 rfl rfl) rfl rfl (AC [] 1 (.slice none 0 0) [] 9 _ (Sl.nil _ _) (by decide)) ?_
 intro r w5 x5 hr
 unfold gH at hr
 rw [CC, if_neg (by decide)] at hr
 subst hr
 refine aA ?_
 have hT5 := hT4.grow x5
 have hA5 := x5.at hA4
 (repeat' first | ((with_reducible refine aI ?_); go_step) | ((with_reducible refine aG ?_); first | refine aL ?_ | (refine aJ ?_ ?_ <;> intro hc)) | fail)
 refine aH (z := bC) rfl (by decide +kernel) ?_
 intro w6 x6 s6 h6
 refine aA ?_
 (repeat' first | ((with_reducible refine aI ?_); go_step) | ((with_reducible refine aG ?_); first | refine aL ?_ | (refine aJ ?_ ?_ <;> intro hc)) | fail)
 refine aD (v := .agg bC.toArray) rfl rfl rfl h6 (show aM Tryz.prog 33 7 = true by decide +kernel) rfl (by decide +kernel) ?_
 intro w7 p7
 have x7 : Ext w5 w7 := x6.move p7.mv (by rintro k ⟨⟩; exact Nat.le_refl _)
 have hT7 := hT5.grow x7
 have hA7 := x7.at hA5
 have hx7 := hx4.trans (x5.trans x7)
 clear hT4 hT5 hA4 hA5 p7 h6 x6
 change TaskAt w1 w7 b DG at hT7
 (repeat' first | ((with_reducible refine aI ?_); go_step) | ((with_reducible refine aG ?_); first | refine aL ?_ | (refine aJ ?_ ?_ <;> intro hc)) | fail)
 refine aR (vs := [.pointer (some ⟨b, 0, none⟩)]) (enters_of Tryz.func21 rfl rfl) rfl rfl (pM hT7 (by decide) (by decide) (by intro a h; cases h)) ?_
 rintro e8 w8 ⟨u8, rfl, hu8, hm8⟩
 refine ⟨_, rfl, ?_⟩
 rw [DK] at hu8
 obtain ⟨⟨b1, b2, rfl, ob1, ob2⟩, hT8⟩ := hu8
 change TaskAt w1 w8 b CM at hT8
 refine aA ?_
 have z4 := x4.size
 have z57 := (x5.trans x7).size
 have hA8 := hm8.at hA7 (by intro e; have := Option.some.inj e; omega)
 have hx8 := hx7.move hm8 (by rintro k ⟨⟩; obtain ⟨_, _, _, _, h⟩ := hT8; have := h.ge; have := x1.size; omega)
 (repeat' first | ((with_reducible refine aI ?_); go_step) | ((with_reducible refine aG ?_); first | refine aL ?_ | (refine aJ ?_ ?_ <;> intro hc)) | fail)
 refine aH (z := bC) rfl (by decide +kernel) ?_
 intro w9 x9 s9 h9
 refine aA ?_
 (repeat' first | ((with_reducible refine aI ?_); go_step) | ((with_reducible refine aG ?_); first | refine aL ?_ | (refine aJ ?_ ?_ <;> intro hc)) | fail)
 refine aD (v := .agg (bN ⟨1, 4, [1, 120, 1, 97], 1, 0, [], []⟩ b1 b2).toArray) rfl rfl rfl h9 (show aM Tryz.prog 33 7 = true by decide +kernel) rfl (dW ob1.one ob2.one) ?_
 intro w10 p10
 have x10 : Ext w8 w10 := x9.move p10.mv (by rintro k ⟨⟩; exact Nat.le_refl _)
 have hT10 := hT8.grow x10
 have hA10 := x10.at hA8
 have hB10 : w10.heap[w8.heap.size]? = some (.cells (bN ⟨1, 4, [1, 120, 1, 97], 1, 0, [], []⟩ b1 b2).toArray 33 (0, 0)) := p10.this
 have hx10 := hx8.trans x10
 have z8 := hm8.size
 clear hT7 hT8 hA7 hA8 p10 h9 x9
 (repeat' first | ((with_reducible refine aI ?_); go_step) | ((with_reducible refine aG ?_); first | refine aL ?_ | (refine aJ ?_ ?_ <;> intro hc)) | fail)
 refine aY (v := .agg #[aE [1, 97], .int .i64 2, .int .i64 5, aE [1, 110, 0]]) (Runs.build rfl (by kernel_rfl)) ?_
 refine aA ?_
 refine cB (e := 64) (k := 4) (bytes := dE Tryz.prog 64) (xs := [.agg #[aE [1, 97], .int .i64 2, .int .i64 5, aE [1, 110, 0]]]) rfl rfl rfl (by simp [Value.cells]) (by decide +kernel) (by decide +kernel) ?_
 intro v11 w11 x11 _ _ o11
 refine aA ?_
 refine aY (v := .agg #[aE [1, 110], .int .i64 1, .int .i64 5, aE [10, 0, 0, 7]]) (Runs.build rfl (by kernel_rfl)) ?_
 refine aA ?_
 refine cB (e := 64) (k := 4) (bytes := dE Tryz.prog 64) (xs := [.agg #[aE [1, 110], .int .i64 1, .int .i64 5, aE [10, 0, 0, 7]]]) rfl rfl rfl (by simp [Value.cells]) (by decide +kernel) (by decide +kernel) ?_
 intro v12 w12 x12 _ _ o12
 refine aA ?_
 have o11' : Own w10.heap.size 4 64 w12 v11 (aF tD.au) := (show Own w10.heap.size 4 64 w11 v11 (aF tD.au) from o11).ext x12
 have o12' : Own w11.heap.size 4 64 w12 v12 (aF tD.ex) := o12
 have hT12 := (hT10.grow x11).grow x12
 have hA12 := x12.at (x11.at hA10)
 have hB12 := x12.at (x11.at hB10)
 obtain ⟨rv, sv, gv, ev, hV12⟩ := hT12
 refine aY (v := .agg (dB tD (.slice none 0 0) (.slice none 0 0) v11 v12).toArray) (Runs.build (vals := [(1, .bool true), (10, v11), (11, v12)]) rfl (by obtain ⟨_, _, _, rfl⟩ := o11'.sl.slf; obtain ⟨_, _, _, rfl⟩ := o12'.sl.slf; kernel_rfl)) ?_
 refine aA ?_
 refine aR (vs := [.pointer (some ⟨b, 0, none⟩), .agg (dB tD (.slice none 0 0) (.slice none 0 0) v11 v12).toArray]) (enters_of Tryz.func16 rfl rfl) rfl rfl (uB hV12 CD (by decide) tD _ _ _ _ (fun w' hm' => ⟨Sl.nil _ _, Sl.nil _ _, (o11'.mv hm' (.inr (o11'.neBlock hV12.blk (by decide)))).sl, (o12'.mv hm' (.inr (o12'.neBlock hV12.blk (by decide)))).sl⟩) (by decide) (by decide) (by decide) (fun z => lZ (by decide)) (fun n => lZ (by decide))) ?_
 rintro e13 w13 ⟨u13, l13, rfl, hu13, hl13, hf13⟩
 refine ⟨_, rfl, ?_⟩
 rw [DL] at hu13 hl13
 obtain ⟨⟨c1, c2, rfl, oc1, oc2⟩, hT13⟩ := hu13
 change TaskAt w1 w13 b CN at hT13
 have hA13 := hf13.box hV12 hA12 (by decide) (by decide)
 have hB13 := hf13.box hV12 hB12 (by decide) (by decide)
 obtain ⟨css, k1, k2, k3⟩ := hl13
 obtain ⟨e0, e1, rfl⟩ : ∃ e0 e1, css = [e0, e1] := by
  match css, (show css.length = 2 from k2) with
  | [e0, e1], _ => exact ⟨e0, e1, rfl⟩
 refine aA ?_
 (repeat' first | ((with_reducible refine aI ?_); go_step) | ((with_reducible refine aG ?_); first | refine aL ?_ | (refine aJ ?_ ?_ <;> intro hc)) | fail)
 refine aH (z := bC) rfl (by decide +kernel) ?_
 intro w14 x14 s14 h14
 refine aA ?_
 (repeat' first | ((with_reducible refine aI ?_); go_step) | ((with_reducible refine aG ?_); first | refine aL ?_ | (refine aJ ?_ ?_ <;> intro hc)) | fail)
 refine aD (v := .agg (bN ⟨1, 7, [1, 120, 1, 97], 1, 0, [], []⟩ c1 c2).toArray) rfl rfl rfl h14 (show aM Tryz.prog 33 7 = true by decide +kernel) rfl (dW oc1.one oc2.one) ?_
 intro w15 p15
 have x15 : Ext w13 w15 := x14.move p15.mv (by rintro k ⟨⟩; exact Nat.le_refl _)
 have hT15 := hT13.grow x15
 have hA15 := x15.at hA13
 have hB15 := x15.at hB13
 have hC15 : w15.heap[w13.heap.size]? = some (.cells (bN ⟨1, 7, [1, 120, 1, 97], 1, 0, [], []⟩ c1 c2).toArray 33 (0, 0)) := p15.this
 have k15 := k1.ext x15
 clear hT10 hT13 hA13 hB13 p15 h14 x14 hA12 hB12 hA10 hB10 k1 k3
 (repeat' first | ((with_reducible refine aI ?_); go_step) | ((with_reducible refine aG ?_); first | refine aL ?_ | (refine aJ ?_ ?_ <;> intro hc)) | fail)
 refine aY (v := .agg #[aE [1, 120, 1, 97], .int .i64 1, .int .i64 5, aE [49, 50, 51, 52]]) (Runs.build rfl (by kernel_rfl)) ?_
 refine aA ?_
 refine cB (e := 64) (k := 4) (bytes := dE Tryz.prog 64) (xs := [.agg #[aE [1, 120, 1, 97], .int .i64 1, .int .i64 5, aE [49, 50, 51, 52]]]) rfl rfl rfl (by simp [Value.cells]) (by decide +kernel) (by decide +kernel) ?_
 intro v16 w16 x16 _ _ o16
 refine aA ?_
 have o16' : Own w15.heap.size 4 64 w16 v16 (aF yA.an) := o16
 have hT16 := hT15.grow x16
 have hA16 := x16.at hA15
 have hB16 := x16.at hB15
 have hC16 := x16.at hC15
 have k16 := k15.ext x16
 obtain ⟨rv', sv', gv', ev', hV16⟩ := hT16
 refine aY (v := .agg (dB yA (.slice none 0 0) v16 (.slice none 0 0) (.slice none 0 0)).toArray) (Runs.build (vals := [(1, .bool true), (3, .bool true), (9, v16)]) rfl (by obtain ⟨_, _, _, rfl⟩ := o16'.sl.slf; kernel_rfl)) ?_
 refine aA ?_
 refine aR (vs := [.pointer (some ⟨b, 0, none⟩), .agg (dB yA (.slice none 0 0) v16 (.slice none 0 0) (.slice none 0 0)).toArray]) (enters_of Tryz.func16 rfl rfl) rfl rfl (uB hV16 CE (by decide) yA _ _ _ _ (fun w' hm' => ⟨Sl.nil _ _, (o16'.mv hm' (.inr (o16'.neBlock hV16.blk (by decide)))).sl, Sl.nil _ _, Sl.nil _ _⟩) (by decide) (by decide) (by decide) (fun z => lZ (by decide)) (fun n => lZ (by decide))) ?_
 rintro e17 w17 ⟨u17, l17, rfl, hu17, hl17, hf17⟩
 refine ⟨_, rfl, ?_⟩
 rw [DM] at hu17 hl17
 obtain ⟨⟨d1, d2, rfl, od1, od2⟩, hT17⟩ := hu17
 change TaskAt w1 w17 b CO at hT17
 have hA17 := hf17.box hV16 hA16 (by decide) (by decide)
 have hB17 := hf17.box hV16 hB16 (by decide) (by decide)
 have hC17 := hf17.box hV16 hC16 (by decide) (by decide)
 have k17 := k16.fr hf17 hV16 (by decide) (by decide)
 obtain ⟨cst, j1, j2, j3⟩ := hl17
 obtain ⟨f0, rfl⟩ : ∃ f0, cst = [f0] := by
  match cst, (show cst.length = 1 from j2) with
  | [f0], _ => exact ⟨f0, rfl⟩
 obtain ⟨xd, hf0, hxd, _, _⟩ := j3 0 ⟨⟨[1, 120, 1, 97], 1, 5, [[49, 50, 51, 52]]⟩, 4⟩ rfl
 obtain rfl : f0 = nT ⟨⟨[1, 120, 1, 97], 1, 5, [[49, 50, 51, 52]]⟩, 4⟩ xd := by simpa using hf0
 refine aA ?_
 (repeat' first | ((with_reducible refine aI ?_); go_step) | ((with_reducible refine aG ?_); first | refine aL ?_ | (refine aJ ?_ ?_ <;> intro hc)) | fail)
 refine aH (z := bC) rfl (by decide +kernel) ?_
 intro w18 x18 s18 h18
 refine aA ?_
 (repeat' first | ((with_reducible refine aI ?_); go_step) | ((with_reducible refine aG ?_); first | refine aL ?_ | (refine aJ ?_ ?_ <;> intro hc)) | fail)
 refine aD (v := .agg (bN ⟨2, 0, [], 0, 0, BE, []⟩ d1 d2).toArray) rfl rfl rfl h18 (show aM Tryz.prog 33 7 = true by decide +kernel) rfl (dW od1.one od2.one) ?_
 intro w19 p19
 have x19 : Ext w17 w19 := x18.move p19.mv (by rintro k ⟨⟩; exact Nat.le_refl _)
 have hT19 := hT17.grow x19
 have hpA := aC (cs := bN ⟨1, 3, [1, 120, 1, 97], 1, 0, [], []⟩ a1 a2) (x19.at hA17)
 have hpB := aC (cs := bN ⟨1, 4, [1, 120, 1, 97], 1, 0, [], []⟩ b1 b2) (x19.at hB17)
 have hpC := aC (cs := bN ⟨1, 7, [1, 120, 1, 97], 1, 0, [], []⟩ c1 c2) (x19.at hC17)
 have hpD := aC (cs := bN ⟨2, 0, [], 0, 0, BE, []⟩ d1 d2) p19.this
 have k19 := (k17.ext x19).sl
 have j19 := j1.ext x19
 have od19 : Own 0 4 64 w19 d1 [[aE [1, 120, 1, 97], .int .i64 1, .int .i64 5, aE [49, 50, 51, 52]]] := (show Own 0 4 64 w17 d1 [[aE [1, 120, 1, 97], .int .i64 1, .int .i64 5, aE [49, 50, 51, 52]]] from od1).ext x19
 have sd19 := od19.sl
 have sj19 := j19.sl
 have hx19 : Ext w w19 := by obtain ⟨_, _, _, _, h⟩ := hT19; exact x1.trans h.ext
 clear hT15 hT17 hA15 hB15 hC15 hA16 hB16 hC16 hA17 hB17 hC17 p19 h18 x18 k15 k16 k17 j1 od1 hf13 hf17
 ((with_reducible refine aG ?_); (first | (refine jY ?_; refine hO ?_) | (refine kV ?_; refine nV ?_; (with_reducible refine aG ?_); refine jY ?_; refine hO ?_)))
 (first | ((with_reducible refine aI ?_); go_step) | fail)
 (first | ((with_reducible refine aI ?_); go_step) | fail)
 (first | ((with_reducible refine aI ?_); go_step) | fail)
 (first | ((with_reducible refine aI ?_); go_step) | fail)
 simp only [List.append]
 (repeat' first | ((with_reducible refine aI ?_); go_step) | ((with_reducible refine aG ?_); first | refine aL ?_ | (refine aJ ?_ ?_ <;> intro hc)) | fail)
 have hqA : Pts w19 (aX (.pointer (some ⟨w2.heap.size, 0, none⟩)) 2) [aE [1, 120, 1, 97], .int .i64 1] := (hpA.part 2).front 2
 ((with_reducible refine aG ?_); (first | (refine jY ?_; refine hO ?_) | (refine kV ?_; refine nV ?_; (with_reducible refine aG ?_); refine jY ?_; refine hO ?_)))
 clear hqA
 have hZ : Calls Tryz.prog 22 #[.pointer (some ⟨b, 0, none⟩)] w19 (bQ w19 (aE [1, 97])) := AW hT19
 (repeat' first | ((with_reducible refine aI ?_); go_step) | ((with_reducible refine aG ?_); first | refine aL ?_ | (refine aJ ?_ ?_ <;> intro hc)) | fail)
 all_goals first
  | (exfalso; exact hc rfl)
  | skip
 refine aB (enters_of Tryz.func22 rfl rfl) rfl rfl hZ ?_
 intro w20 x20
 refine aA ?_
 have hpD20 := hpD.ext x20
 have sd20 := sd19.ext x20
 have sj20 := sj19.ext x20
 have hT20 := hT19.grow x20
 have hpf := sj20.elem (i := 0) (e := nT ⟨⟨[1, 120, 1, 97], 1, 5, [[49, 50, 51, 52]]⟩, 4⟩ xd) rfl
 (repeat' first | ((with_reducible refine aI ?_); go_step) | ((with_reducible refine aG ?_); first | refine aL ?_ | (refine aJ ?_ ?_ <;> intro hc)) | fail)
 all_goals first
  | (exfalso; exact hc rfl)
  | skip
 refine aY (Runs.fieldP rfl hpf (show eD Tryz.prog 61 1 4 = true by decide +kernel)) ?_
 refine aA ?_
 (repeat' first | ((with_reducible refine aI ?_); go_step) | ((with_reducible refine aG ?_); first | refine aL ?_ | (refine aJ ?_ ?_ <;> intro hc)) | fail)
 refine aR (vs := [.pointer (some ⟨b, 0, none⟩)]) (enters_of Tryz.func21 rfl rfl) rfl rfl (pM hT20 (by decide) (by decide) (by intro a h; cases h; exact ⟨by decide, by decide⟩)) ?_
 rintro e21 w21 ⟨u21, rfl, hu21, hm21⟩
 refine ⟨_, rfl, ?_⟩
 rw [DN] at hu21
 obtain ⟨⟨g1, g2, rfl, og1, og2⟩, hT21⟩ := hu21
 have hx21 : Ext w w21 := by obtain ⟨_, _, _, _, h⟩ := hT21; exact x1.trans h.ext
 refine aA ?_
 (repeat' first | ((with_reducible refine aI ?_); go_step) | ((with_reducible refine aG ?_); first | refine aL ?_ | (refine aJ ?_ ?_ <;> intro hc)) | fail)
 refine aY (v := .int .i64 2) (Runs.fieldV (off := 0) rfl rfl (by decide +kernel)) ?_
 refine aA ?_
 (repeat' first | ((with_reducible refine aI ?_); go_step) | ((with_reducible refine aG ?_); first | refine aL ?_ | (refine aJ ?_ ?_ <;> intro hc)) | fail)
 go_ret
 exact ⟨rfl, hx21⟩
theorem CF (w : World) : Calls Tryz.prog 15 #[] w (bQ w (.bool true)) := yB w
theorem rW (w : World) : Calls Tryz.prog 20 #[.agg bC.toArray] w (bQ w (.agg bC.toArray)) := zI xI (.slice none 0 0) (.slice none 0 0) w (Sl.nil _ _) (Sl.nil _ _)
theorem pN (w : World) : Calls Tryz.prog 19 #[.agg bC.toArray, .agg bC.toArray] w (bQ w (.bool true)) := xY xI xI (.slice none 0 0) (.slice none 0 0) (.slice none 0 0) (.slice none 0 0) w (Sl.nil _ _) (Sl.nil _ _) (Sl.nil _ _) (Sl.nil _ _)
set_option maxHeartbeats 2000000 in
theorem zJ (m : MsgR) (q a u e : Value) (d : List UInt8) (w : World) (hm : MsgV w m q a u e) (hd : d.length ≤ 9223372036854775807) : Calls Tryz.prog 3 #[.agg (dB m q a u e).toArray, aE d] w (DZ w) := by
 go_enter Tryz.func3, Tryz.ntmps3
 repeat' (first | ((with_reducible refine aI ?_); go_step) | fail)
 refine cI (vs := dB m q a u e) rfl rfl ?_
 intro w0 x0 s0 hb0
 refine aA ?_
 have hp0 := aC (cs := dB m q a u e) hb0
 have hm0 := hm.ext x0
 (repeat' first | ((with_reducible refine aI ?_); go_step) | ((with_reducible refine aG ?_); first | refine aL ?_ | (refine aJ ?_ ?_ <;> intro hc)) | fail)
 refine aY (v := .agg (dB m q a u e).toArray) (Runs.loadN hp0 rfl (show bH Tryz.prog 25 13 = true by decide +kernel)) ?_
 refine aA ?_
 refine aB (enters_of Tryz.func14 rfl rfl) rfl rfl (AQ m q a u e _ hm0) ?_; intro w1 x1; refine aA ?_
 have hx1 := x0.trans x1
 have hm1 := hm0.ext x1
 have hp1 := hp0.ext x1
 cases hf : xF m with
 | false =>
  (repeat' first | ((with_reducible refine aI ?_); go_step) | ((with_reducible refine aG ?_); first | refine aL ?_ | (refine aJ ?_ ?_ <;> intro hc)) | fail)
  refine aB (enters_of Tryz.func15 rfl rfl) rfl rfl (CF _) ?_; intro w2 x2; refine aA ?_
  (repeat' first | ((with_reducible refine aI ?_); go_step) | ((with_reducible refine aG ?_); first | refine aL ?_ | (refine aJ ?_ ?_ <;> intro hc)) | fail)
  go_ret
  exact ⟨rfl, hx1.trans x2⟩
 | true =>
  (repeat' first | ((with_reducible refine aI ?_); go_step) | ((with_reducible refine aG ?_); first | refine aL ?_ | (refine aJ ?_ ?_ <;> intro hc)) | fail)
  refine aY (v := .agg (dB m q a u e).toArray) (Runs.loadN hp1 rfl (show bH Tryz.prog 25 13 = true by decide +kernel)) ?_
  refine aA ?_
  refine aB (enters_of Tryz.func16 rfl rfl) rfl rfl (xX m q a u e _ hm1) ?_; intro w2 x2; refine aA ?_
  (repeat' first | ((with_reducible refine aI ?_); go_step) | ((with_reducible refine aG ?_); first | refine aL ?_ | (refine aJ ?_ ?_ <;> intro hc)) | fail)
  refine aH (z := bC) rfl (by decide +kernel) ?_
  intro w3 x3 s3 h3
  refine aA ?_
  (repeat' first | ((with_reducible refine aI ?_); go_step) | ((with_reducible refine aG ?_); first | refine aL ?_ | (refine aJ ?_ ?_ <;> intro hc)) | fail)
  refine aD (v := .agg bC.toArray) rfl rfl rfl h3 (show aM Tryz.prog 33 7 = true by decide +kernel) rfl (by decide +kernel) ?_
  intro w4 p4
  have x4 : Ext w2 w4 := x3.move p4.mv (by rintro k ⟨⟩; exact Nat.le_refl _)
  have hA4 := aC (cs := bC) p4.this
  have hx4 := hx1.trans (x2.trans x4)
  clear p4 h3 x3 hp1 hp0
  (repeat' first | ((with_reducible refine aI ?_); go_step) | ((with_reducible refine aG ?_); first | refine aL ?_ | (refine aJ ?_ ?_ <;> intro hc)) | fail)
  have hN1 := fun w => xS d w hd
  have hN2 := fun w => xV d w hd
  generalize (dO d).getD 0 = nn at *
  generalize (dO d).isSome = bb at *
  refine aB (enters_of Tryz.func17 rfl rfl) rfl rfl (hN1 _) ?_; intro w5 x5; refine aA ?_
  (repeat' first | ((with_reducible refine aI ?_); go_step) | ((with_reducible refine aG ?_); first | refine aL ?_ | (refine aJ ?_ ?_ <;> intro hc)) | fail)
  refine aB (enters_of Tryz.func18 rfl rfl) rfl rfl (hN2 _) ?_; intro w6 x6; refine aA ?_
  have hA6 := (hA4.ext x5).ext x6
  have hx6 := hx4.trans (x5.trans x6)
  have hnil : ∀ w, Sl 5 w (.slice none 0 0) [] := fun w => Sl.nil 5 w
  (repeat' first | ((with_reducible refine aI ?_); go_step) | ((with_reducible refine aG ?_); first | refine aL ?_ | (refine aJ ?_ ?_ <;> intro hc)) | fail)
  refine aY (v := .agg bC.toArray) (Runs.loadN hA6 rfl (show bH Tryz.prog 33 7 = true by decide +kernel)) ?_
  refine aA ?_
  refine aB (enters_of Tryz.func20 rfl rfl) rfl rfl (rW _) ?_; intro w7 x7; refine aA ?_
  refine bL (v := .agg bC.toArray) rfl (Runs.build0 (by kernel_rfl)) ?_
  refine aA ?_
  refine aB (enters_of Tryz.func19 rfl rfl) rfl rfl (pN _) ?_; intro w8 x8; refine aA ?_
  have hn8 := hnil w8
  (repeat' first | ((with_reducible refine aI ?_); go_step) | ((with_reducible refine aG ?_); first | refine aL ?_ | (refine aJ ?_ ?_ <;> intro hc)) | fail)
  all_goals first
   | (exfalso; exact hc rfl)
   | skip
  refine aB (enters_of Tryz.func21 rfl rfl) rfl rfl (tC _) ?_; intro w9 x9; refine aA ?_
  refine aB (enters_of Tryz.func20 rfl rfl) rfl rfl (rW _) ?_; intro w10 x10; refine aA ?_
  refine bL (v := .agg bC.toArray) rfl (Runs.build0 (by kernel_rfl)) ?_
  refine aA ?_
  refine aB (enters_of Tryz.func19 rfl rfl) rfl rfl (pN _) ?_; intro w11 x11; refine aA ?_
  (repeat' first | ((with_reducible refine aI ?_); go_step) | ((with_reducible refine aG ?_); first | refine aL ?_ | (refine aJ ?_ ?_ <;> intro hc)) | fail)
  refine aB (enters_of Tryz.func22 rfl rfl) rfl rfl (yZ _) ?_; intro w12 x12; refine aA ?_
  (repeat' first | ((with_reducible refine aI ?_); go_step) | ((with_reducible refine aG ?_); first | refine aL ?_ | (refine aJ ?_ ?_ <;> intro hc)) | fail)
  all_goals first
   | (exfalso; exact hc rfl)
   | skip
  refine aY (Runs.eqlBV (a := bb) (b := bb) rfl rfl (by decide +kernel)) ?_
  rw [show (bb == bb) = true by cases bb <;> rfl]
  refine aA ?_
  (repeat' first | ((with_reducible refine aI ?_); go_step) | ((with_reducible refine aG ?_); first | refine aL ?_ | (refine aJ ?_ ?_ <;> intro hc)) | fail)
  refine aB (enters_of Tryz.func15 rfl rfl) rfl rfl (CF _) ?_; intro w13 x13; refine aA ?_
  (repeat' first | ((with_reducible refine aI ?_); go_step) | ((with_reducible refine aG ?_); first | refine aL ?_ | (refine aJ ?_ ?_ <;> intro hc)) | fail)
  go_ret
  exact ⟨rfl, hx6.trans (x7.trans (x8.trans (x9.trans (x10.trans (x11.trans (x12.trans x13))))))⟩
open Go.ChangeShapes Go.WideShapes Go.ChangeAt Go.RowKit
set_option maxRecDepth 100000 in
theorem jV (os : Os) (started : os.Started) (H : Type) (enc : TypeId × Value → H) :
 ReturnsInHanded {} Tryz.checked os 3 .any (YtcabalnocddidaaGreat.Rows.resolveNilSpec.pre6 enc Tryz.prog Tryz.f3 YtcabalnocddidaaGreat.Rows.resolveNilRow.domain false) (YtcabalnocddidaaGreat.Rows.resolveNilSpec.post enc Tryz.prog Tryz.f3 false true false false) := by
 refine returnsInHanded_of_change (C := Tryz.checked) own started (by kernel_rfl) Tryz.func3
  (ChangeSpec.witness6 (enc := enc) (C := Tryz.checked) false ⟨#[], #[.agg #[.int .i64 0, .bool false, .int .i64 0, .bool false, .bool false, .bool false, .bool false, .int .i64 0, .slice none 0 0, .slice none 0 0, .slice none 0 0, .slice none 0 0, .int .i64 0], aE []], []⟩ 8 (by kernel_rfl) (by kernel_rfl) (by kernel_rfl) (by kernel_rfl)) ?_
 intro W base args ds gs before hval0 hW hcnd _
 have hW' := hW
 obtain ⟨p, q, hA0, hV, rfl, hfz, hnd⟩ := hW
 have hA : DataW.TrodAll enc Tryz.prog W 0 (fun _ => true) true Tryz.f3.params.toList args.toList ds p := hA0
 have hval : ∀ (j : Nat) t v, Tryz.f3.params[j]? = some t → args[j]? = some v → Value.okWide Tryz.prog W .any base t v := hval0
 rw [Tryz.params3] at hA hval
 obtain ⟨v0, vs0, d0, ds0, p0, q0, hargs, rfl, rfl, h0, r0⟩ := trodAll_cons hA
 obtain ⟨v1, vs1, d1, ds1, p1, q1, rfl, rfl, rfl, h1, r1⟩ := trodAll_cons r0
 obtain ⟨rfl, rfl, rfl⟩ := trodAll_nil r1
 obtain rfl : args = #[v0, v1] := by cases args; simp_all
 obtain ⟨rfl, rfl⟩ := trodVars_none hV
 have k0 := h0
 have k1 := h1
 have lt0 : ∀ x ∈ p0, x.block < W.heap.size := by obtain ⟨m, hm⟩ := k0; exact DataW.trod_lt m _ _ _ hm
 have lt1 : ∀ x ∈ p1, x.block < W.heap.size := by obtain ⟨m, hm⟩ := k1; exact DataW.trod_lt m _ _ _ hm
 obtain ⟨c0, rfl, z0⟩ := okWide_struct Tryz.underlying25 (hval 0 25 v0 rfl rfl)
 obtain ⟨m0, a0, b0, u0, x0, e0, g0⟩ : ∃ (m : MsgR) (q a u e : Value), c0 = (dB m q a u e).toArray ∧ MsgV W m q a u e := by
  obtain ⟨fuel, hf⟩ := h0
  obtain ⟨m, q, a, u, e, e1, hu⟩ := xE (cl := c0.toList) hf
  exact ⟨m, q, a, u, e, by simpa using congrArg List.toArray e1, hu⟩
 subst e0
 obtain ⟨b1, rfl, y1⟩ := oB Tryz.underlying9 (hval 1 9 v1 rfl rfl)
 obtain ⟨n1, e1, j1⟩ : ∃ n : List UInt8, Value.string b1 = aE n ∧ n.length ≤ 9223372036854775807 := ⟨b1.data.toList, by rw [aE, Array.toArray_toList], by simpa using y1⟩
 clear hA0 hval0
 have h9 := zJ m0 a0 b0 u0 x0 n1 W g0 j1
 rw [← e1] at h9
 refine h9.mono fun e W' ⟨he, hx⟩ => ?_
 subst he
 have bel := hx.below
 exact ⟨_, rfl, _, _, _, [], _, [], hW', trodAll_mk1 (shut_bool Tryz.underlying4 _), (trodAll_cons_mk (Below.trod tY (by kernel_rfl) (of_decide_eq_true (by kernel_rfl)) k0 bel lt0) (trodAll_cons_mk (Below.trod tY (by kernel_rfl) (of_decide_eq_true (by kernel_rfl)) k1 bel lt1) trodAll_mk0)), rfl, bel.frame _, fun h => by cases h⟩
theorem zK : Tryz.checked.prog.mayEnter = true := by kernel_rfl
theorem BA : (YtcabalnocddidaaGreat.Rows.resolveNilRow.lifted == Tryz.checked.prog.liftsFinal) = true := by kernel_rfl
theorem BB : (Tryz.checked.prog.make == some YtcabalnocddidaaGreat.Rows.resolveNilRow.make) = true := by kernel_rfl
theorem jW : joinedFacts Tryz.checked.prog 3 Tryz.f3 YtcabalnocddidaaGreat.Rows.resolveNilSpec YtcabalnocddidaaGreat.Rows.resolveNilRow = true := by
 unfold joinedFacts
 simp only [Bool.and_eq_true]
 repeat' (refine And.intro ?_ ?_)
 all_goals first | (with_reducible exact zK) | (with_reducible exact BA) | (with_reducible exact BB) | kernel_rfl
theorem resolveNil_holds : YtcabalnocddidaaGreat.Rows.ResolveNilSaid :=
 OpenClaim.holds_of_wide 3 Tryz.f3 rfl rfl rfl rfl rfl rfl rfl ⟨rfl, rfl, rfl, rfl, rfl⟩ rfl rfl rfl rfl rfl (by kernel_rfl) Tryz.func3 jW
  (of_decide_eq_true (by kernel_rfl)) (by unfold Func.isWrapper; first | (rw [if_pos (by decide +kernel)]; kernel_rfl) | (rw [if_neg (by decide +kernel)]; exact ⟨rfl, rfl⟩))
  (fun os started H enc _ => jV os started H enc)
end Go.Proofs.X
