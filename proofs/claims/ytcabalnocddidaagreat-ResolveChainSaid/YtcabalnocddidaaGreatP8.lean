/- Laws and walks that the proof of the statement is made of (part 8). -/
import Derived.Test.YtcabalnocddidaaGreatP7
set_option linter.unusedSimpArgs false
set_option linter.unusedVariables false
namespace Go.Proofs.X
open Go.RowKit
set_option maxRecDepth 100000
structure OpsAt (w : World) (v : Value) (ps : List OpR) : Prop where
 out : ∃ css, Sl 4 w v css ∧ css.length = ps.length ∧ ∀ (i : Nat) (p : OpR), ps[i]? = some p → ∃ u, css[i]? = some [.int .i64 p.op, .int .i64 p.n, .int .i64 p.now, u] ∧ Sl 4 w u (aH p.l)
theorem OpsAt.ext {w w' : World} {v : Value} {ps : List OpR} (h : OpsAt w v ps) (hx : Ext w w') : OpsAt w' v ps := by
 obtain ⟨css, h1, h2, h3⟩ := h
 exact ⟨css, h1.ext hx, h2, fun i z hi => let ⟨u, a, b⟩ := h3 i z hi; ⟨u, a, b.ext hx⟩⟩
section
variable {P : Program} {w : World} {ts : List Value} {df : List Deferred} {d : Option Nat} {ty : TypeId} {ps : String} {af : Array Edge} {g : Option (Nat × Bool)}
theorem Runs.eqlBV {t u : TypeId} {x y : Operand} {a b : Bool} (hx : (Act.mk ts.toArray df).eval x = .bool a) (hy : (Act.mk ts.toArray df).eval y = .bool b) (ht : wN P t = true) :
 Runs P (Oper.mk d (.binOp .eql t x y u) ty ps af g) (Act.mk ts.toArray df) w (.bool (a == b)) := by
 have hu : P.underlying t = some .bool := by
  unfold wN at ht; split at ht
  ·assumption
  ·cases ht
 constructor
 simp [execOp, hx, hy, eqGuard, binOp, run_equal_bool w t a b hu]
end
theorem uO (n : List UInt8) : fold (fold n) = fold n := by
 cases h : aS n with
 | none =>
  have : fold n = n := by unfold fold; rw [h]
  rw [this, this]
 | some ls => exact (iS h).2.2
section
variable {P : Program} {a : Act} {w : World} {d : Option Nat} {ty : TypeId} {ps : String} {af : Array Edge} {g : Option (Nat × Bool)}
end
theorem wO (nm : List UInt8) (w : World) : Calls Tryz.prog 114 #[aE nm] w (vD w fun v w' => Own w.heap.size 1 9 w' v (aI ((aS nm).getD []))) := by
 go_enter Tryz.func114, Tryz.ntmps114
 (repeat' first | ((with_reducible refine aJ ?_); go_step) | ((with_reducible refine aG ?_); first | refine gS ?_ | (refine aK ?_ ?_ <;> intro hc)) | fail)
 refine aR (enters_of Tryz.func104 rfl rfl) rfl rfl (BP nm _) ?_
 intro v w1 x1 hv
 cases hl : aS nm with
 | none =>
  rw [hl] at hv
  subst hv
  (repeat' first | ((with_reducible refine aJ ?_); go_step) | ((with_reducible refine aG ?_); first | refine gS ?_ | (refine aK ?_ ?_ <;> intro hc)) | fail)
  go_ret
  exact ⟨_, rfl, x1, by rw [hl]; exact Own.nil _ _ _ _⟩
 | some ls =>
  rw [hl] at hv
  obtain ⟨s, rfl, hs⟩ := hv
  (repeat' first | ((with_reducible refine aJ ?_); go_step) | ((with_reducible refine aG ?_); first | refine gS ?_ | (refine aK ?_ ?_ <;> intro hc)) | fail)
  go_ret
  exact ⟨_, rfl, x1, by rw [hl]; exact hs⟩
def aU (l : List Rec) (z : List UInt8) : List Rec := l.filter fun r => decide (bF r = 0) && bP r.name z
structure JudR where
 qn : List UInt8
 qt : Int
 zone : List UInt8
 code : Int
 an : List Rec
 au : List Rec
def jT (a b : List UInt8) : Bool := decide (fold a = fold b)
def JudR.ansP (j : JudR) (r : Rec) : Bool := jT r.name j.qn && (decide (r.kind = j.qt) || decide (j.qt = 255))
def JudR.aliP (j : JudR) (r : Rec) : Bool := jT r.name j.qn && decide (r.kind = 5)
def JudR.denP (j : JudR) (r : Rec) : Bool := decide (r.kind = 6) && bP j.qn r.name
def JudR.answer (j : JudR) : Int × List UInt8 := if j.an.any j.ansP = true then (1, fold j.qn) else (0, [])
def JudR.alias (j : JudR) : Int × List UInt8 := match j.an.find? j.aliP with
 | none => (0, [])
 | some r => (5, fold (bM 5 r.data).1)
def JudR.denial (j : JudR) : Int × List UInt8 := match j.au.find? j.denP with
 | none => (0, [])
 | some r => if j.code = 3 then (3, fold r.name) else (2, fold r.name)
def wP (n : List UInt8) : Int := (((aS n).getD []).length : Nat)
def JudR.step (j : JudR) (s : List UInt8 × Int) (r : Rec) : List UInt8 × Int :=
 if r.kind = 2 ∧ bP j.qn (fold r.name) = true ∧ jT (fold r.name) j.zone = false ∧ s.2 < wP (fold r.name) then (fold r.name, wP (fold r.name)) else s
def JudR.best (j : JudR) : List UInt8 × Int := j.au.foldl j.step ([], -1)
def JudR.referral (j : JudR) : Int × List UInt8 := if j.best.2 < 0 ∨ j.code ≠ 0 then (6, []) else (4, j.best.1)
def bY (qn : List UInt8) (qt : Int) (m : MsgR) (zone : List UInt8) : Int × List UInt8 :=
 if bP qn zone = false ∨ m.trunc = true ∨ (m.rcode ≠ 0 ∧ m.rcode ≠ 3) then (0, []) else
 let j : JudR := ⟨qn, qt, zone, m.rcode, aU m.an zone, aU m.au zone⟩
 if j.answer.1 ≠ 0 then j.answer else if j.alias.1 ≠ 0 then j.alias else if j.denial.1 ≠ 0 then j.denial else j.referral
structure ActR where
 kind : Int
 to : Int
 qn : List UInt8
 qt : Int
 code : Int
 ans : List Rec
 auth : List Rec
 deriving DecidableEq
structure TaskR where
 qn : List UInt8
 qt : Int
 roots : List Int
 zone : List UInt8
 servers : List Int
 got : List Rec
 chain : Int
 left : Int
 stop : Option ActR
structure LrnR where
 set : RSet
 rank : Int
def TaskR.done (t : TaskR) (code : Int) (ans auth : List Rec) : TaskR × ActR := ({ t with stop := some ⟨2, 0, [], 0, code, ans, auth⟩ }, ⟨2, 0, [], 0, code, ans, auth⟩)
def TaskR.on (t : TaskR) : TaskR × ActR := match t.servers with
 | [] => t.done 2 [] []
 | s :: rest => if t.left = 0 then t.done 2 [] [] else ({ t with servers := rest, left := t.left - 1 }, ⟨1, s, t.qn, t.qt, 0, [], []⟩)
def TaskR.timeout (t : TaskR) : TaskR × ActR := match t.stop with
 | some a => (t, a)
 | none => t.on
def dR (r : Rec) : Rec := { r with name := fold r.name }
def TaskR.of (t : TaskR) (l : List Rec) (n : List UInt8) (k : Int) : List Rec :=
 ((aU l t.zone).map dR).filter fun r => decide (r.name = fold n) && (decide (r.kind = k) || decide (k = 255))
def cF (l : List Rec) (rank : Int) : List LrnR := if jN l = 0 then (bJ l).map fun s => ⟨s, rank⟩ else []
def gI (d : List UInt8) : Option Int := if d.take 3 = [10, 0, 0] then match d.drop 3 with | [x] => if 99 < x.toNat then none else some (x.toNat : Nat) | _ => none else none
def dP (s : List Int) (l : List Rec) : List Int := l.foldl (fun s a => match gI a.data with | none => s | some n => if n ∈ s then s else s ++ [n]) s
structure RfrR where
 seen : List (List UInt8)
 servers : List Int
 learnt : List LrnR
def TaskR.refStep (t : TaskR) (ex : List Rec) (s : RfrR) (r : Rec) : RfrR :=
 let h := fold (bM 2 r.data).1
 if h ∈ s.seen then s else
 let a := t.of ex h 1
 ⟨s.seen ++ [h], dP s.servers a, s.learnt ++ cF a 1⟩
def TaskR.refer (t : TaskR) (m : MsgR) (z : List UInt8) : TaskR × List LrnR :=
 let ns := t.of m.au z 2
 let s := ns.foldl (t.refStep m.ex) ⟨[], [], cF ns 2⟩
 ({ t with servers := s.servers, zone := z }, s.learnt)
def TaskR.follow (t : TaskR) (n : List UInt8) : TaskR × ActR :=
 if t.chain = 8 then t.done 2 [] [] else { t with chain := t.chain + 1, qn := n, zone := [], servers := t.roots }.on
def nK (m : MsgR) : Int := if m.auth = true then 4 else 3
def TaskR.reply (t : TaskR) (m : MsgR) : TaskR × ActR × List LrnR := match t.stop with
 | some a => (t, a, [])
 | none =>
  let j := bY t.qn t.qt m t.zone
  if j.1 = 1 then
   let l := t.of m.an t.qn t.qt
   let d := { t with got := t.got ++ l }.done 0 (t.got ++ l) []
   (d.1, d.2, cF l (nK m))
  else if j.1 = 5 then
   let l := (t.of m.an t.qn 5).take 1
   let d := { t with got := t.got ++ l }.follow j.2
   (d.1, d.2, cF l (nK m))
  else if j.1 = 3 then
   let d := t.done 3 t.got ((t.of m.au j.2 6).take 1)
   (d.1, d.2, [])
  else if j.1 = 2 then
   let d := t.done 0 t.got ((t.of m.au j.2 6).take 1)
   (d.1, d.2, [])
  else if j.1 = 4 then
   let d := (t.refer m j.2).1.on
   (d.1, d.2, (t.refer m j.2).2)
  else (t.on.1, t.on.2, [])
def eD (qn : List UInt8) (qt : Int) (roots : List Int) (budget : Int) : Int :=
 if fE qn = 0 ∧ (1 ≤ qt ∧ qt ≤ 65535) ∧ (1 ≤ roots.length ∧ roots.length ≤ 20) ∧ (1 ≤ budget ∧ budget ≤ 100) ∧ roots.any (fun n => !(decide (0 ≤ n) && decide (n ≤ 99))) = false then 0 else 1
def jU (qn : List UInt8) (qt : Int) (roots : List Int) (budget : Int) : TaskR := ⟨fold qn, qt, roots, [], roots, [], 0, budget, none⟩
structure TaskOk (t : TaskR) : Prop where
 left : 0 ≤ t.left
 zone : t.zone = [] ∨ bP t.zone t.zone = true
 stop : ∀ a, t.stop = some a → a.kind = 2
def zW (t t' : TaskR) (a : ActR) : Prop := (a.kind = 1 ∧ t.stop = none ∧ t'.stop = none ∧ t'.left = t.left - 1 ∧ 1 ≤ t.left) ∨ (a.kind = 2 ∧ t'.stop = some a ∧ t'.left = t.left)
theorem TaskOk.step {t t' : TaskR} {a : ActR} (ht : TaskOk t) (h : zW t t' a) (hz : t'.zone = [] ∨ bP t'.zone t.zone = true) : TaskOk t' := by
 refine ⟨?_, ?_, ?_⟩
 ·have := ht.left
  rcases h with ⟨_, _, _, h, k⟩ | ⟨_, _, h⟩ <;> omega
 ·rcases hz with hz | hz
  ·exact .inl hz
  ·exact .inr (mZ (jM hz).1)
 ·intro b hb
  rcases h with ⟨_, _, h, _⟩ | ⟨h1, h2, _⟩
  ·rw [h] at hb; cases hb
  ·rw [h2] at hb; cases hb; exact h1
def dA (n : Nat) : List UInt8 := if n = 0 then [1, 97] else [2, 98, UInt8.ofNat (96 + n)]
def dE (n : Nat) : MsgR := { zeroM with resp := true, an := [⟨dA n, 5, 5, [2, 98, UInt8.ofNat (97 + n), 0]⟩] }
theorem wQ : ∀ n, n < 20 → bY (dA n) 1 (dE n) [] = (5, dA (n + 1)) ∧ fold (dA n) = dA n := by decide +kernel
def bH (n : Nat) (g : List Rec) : TaskR := ⟨dA n, 1, [1], [], [], g, n, 99 - n, none⟩
def dS : List Value := [aE [], .int .i64 0, .int .i64 0, aE []]
theorem kJ {ts : List Value} {df : List Deferred} {x : Operand} {r : Rec} (h : (Act.mk ts.toArray df).eval x = .agg #[aE r.name, .int .i64 r.kind, .int .i64 r.ttl, aE r.data]) : ElemIs (Act.mk ts.toArray df) x 4 [aE r.name, .int .i64 r.kind, .int .i64 r.ttl, aE r.data] :=
 ElemIs.mk h rfl rfl (by simp [aE, Value.oneCell'])
theorem pK (a b : List UInt8) (w : World) : Calls Tryz.prog 149 #[aE a, aE b] w (bZ w (.bool (jT a b))) := by
 go_enter Tryz.func149, Tryz.ntmps149
 (repeat' first | ((with_reducible refine aJ ?_); go_step) | ((with_reducible refine aG ?_); first | refine aL ?_ | (refine aK ?_ ?_ <;> intro hc)) | fail)
 refine aB (enters_of Tryz.func57 rfl rfl) rfl rfl (sY a _) ?_; intro w1 x1; refine aA ?_
 (repeat' first | ((with_reducible refine aJ ?_); go_step) | ((with_reducible refine aG ?_); first | refine aL ?_ | (refine aK ?_ ?_ <;> intro hc)) | fail)
 refine aB (enters_of Tryz.func57 rfl rfl) rfl rfl (sY b _) ?_; intro w2 x2; refine aA ?_
 (repeat' first | ((with_reducible refine aJ ?_); go_step) | ((with_reducible refine aG ?_); first | refine aL ?_ | (refine aK ?_ ?_ <;> intro hc)) | fail)
 go_ret
 exact ⟨rfl, x1.trans x2⟩
theorem zB (n a b : Int) (w : World) : Calls Tryz.prog 54 #[.int .i64 n, .int .i64 a, .int .i64 b] w (bZ w (.bool (decide (a ≤ n) && decide (n ≤ b)))) := by
 go_enter Tryz.func54, Tryz.ntmps54
 (repeat' first | ((with_reducible refine aJ ?_); go_step) | ((with_reducible refine aG ?_); first | refine aL ?_ | (refine aK ?_ ?_ <;> intro hc)) | fail)
 ·have hc := ‹a ≤ n›
  go_ret
  exact ⟨by rw [decide_eq_true hc]; rfl, Ext.refl _⟩
 ·have hc := ‹¬ a ≤ n›
  go_ret
  exact ⟨by rw [decide_eq_false hc]; rfl, Ext.refl _⟩
theorem rA {l : List Rec} {z : List UInt8} {k : Nat} (h : k < l.length) : aU (l.take (k + 1)) z = aU (l.take k) z ++ if (decide (bF l[k] = 0) && bP l[k].name z) = true then [l[k]] else [] := by
 unfold aU
 rw [List.take_succ_eq_append_getElem h, List.filter_append]
 congr 1
 simp [List.filter_cons]
theorem iU (l : List Rec) (z : List UInt8) : (aU l z).length ≤ l.length := List.length_filter_le _ _
set_option maxHeartbeats 3000000 in
theorem nL (v : Value) (l : List Rec) (z : List UInt8) (w : World) (hv : Sl 4 w v (aH l)) (hl : l.length ≤ 100000) : Calls Tryz.prog 26 #[v, aE z] w (vD w fun r w' => Own w.heap.size 4 64 w' r (aH (aU l z))) := by
 have hlen := aT l
 go_enter Tryz.func26, Tryz.ntmps26
 (repeat' first | ((with_reducible refine aJ ?_); go_step) | ((with_reducible refine aG ?_); first | refine aL ?_ | (refine aK ?_ ?_ <;> intro hc)) | fail)
 go_loopw [5, 10] (fun o i wr => ∃ k : Nat, k ≤ l.length ∧ i = .int .i64 k ∧ Ext w wr ∧ Own w.heap.size 4 64 wr o (aH (aU (l.take k) z))) (fun _ i _ => l.length - (intOf i).toNat)
 case atStart => exact ⟨0, Nat.zero_le _, rfl, Ext.refl _, by simpa [aU, aH] using Own.nil _ _ _ _⟩
 case round =>
  obtain ⟨k, hk, rfl, hx, ho⟩ := hrel
  have hu2 := hv.ext hx
  by_cases hlt : k < l.length
  ·have hpe := hu2.elem (dH hlt)
   have hst := rA (z := z) hlt
   have hll := iU (l.take k) z
   rw [List.length_take] at hll
   have hcl := aT (aU (l.take k) z)
   (repeat' first | ((with_reducible refine aJ ?_); go_step) | ((with_reducible refine aG ?_); first | refine aL ?_ | (refine aK ?_ ?_ <;> intro hc)) | fail)
   refine aF (z := dS) rfl (by decide +kernel) ?_
   intro w2 x2 s2 h2
   refine aA ?_
   refine aD (v := .agg #[aE l[k].name, .int .i64 l[k].kind, .int .i64 l[k].ttl, aE l[k].data]) rfl rfl rfl h2 (show aM Tryz.prog 64 4 = true by decide +kernel) rfl (mC rfl rfl rfl rfl) ?_
   intro w3 p3
   have x3 : Ext wr w3 := x2.move p3.mv (by rintro k ⟨⟩; exact Nat.le_refl _)
   have hp3 := aC (cs := [aE l[k].name, .int .i64 l[k].kind, .int .i64 l[k].ttl, aE l[k].data]) p3.this
   have hx3 := hx.trans x3
   have ho3 := ho.ext x3
   clear p3 h2 x2
   (repeat' first | ((with_reducible refine aJ ?_); go_step) | ((with_reducible refine aG ?_); first | refine aL ?_ | (refine aK ?_ ?_ <;> intro hc)) | fail)
   refine aB (enters_of Tryz.func61 rfl rfl) rfl rfl (DG l[k] _) ?_; intro w4 x4; refine aA ?_
   have hx4 := hx3.trans x4
   have ho4 := ho3.ext x4
   have hp4 := hp3.ext x4
   by_cases hm : bF l[k] = 0
   ·rw [decide_eq_true hm, Bool.true_and] at hst
    rw [hm]
    (repeat' first | ((with_reducible refine aJ ?_); go_step) | ((with_reducible refine aG ?_); first | refine aL ?_ | (refine aK ?_ ?_ <;> intro hc)) | fail)
    refine aB (enters_of Tryz.func62 rfl rfl) rfl rfl (lS l[k].name z _) ?_; intro w5 x5; refine aA ?_
    have hx5 := hx4.trans x5
    have ho5 := ho4.ext x5
    have hp5 := hp4.ext x5
    clear hp4 hp3 hpe hu2
    cases hu : bP l[k].name z with
    | false =>
     rw [hu, if_neg (by decide), List.append_nil] at hst
     (repeat' first | ((with_reducible refine aJ ?_); go_step) | ((with_reducible refine aG ?_); first | refine aL ?_ | (refine aK ?_ ?_ <;> intro hc)) | fail)
     exact ⟨⟨k + 1, by omega, by go_num, hx5, by rw [hst]; exact ho5⟩, by simp [intOf]; omega⟩
    | true =>
     rw [hu, if_pos rfl] at hst
     (repeat' first | ((with_reducible refine aJ ?_); go_step) | ((with_reducible refine aG ?_); first | refine aL ?_ | (refine aK ?_ ?_ <;> intro hc)) | fail)
     refine BN [aE l[k].name, .int .i64 l[k].kind, .int .i64 l[k].ttl, aE l[k].data] hx5 ho5 (by omega) ?_ (kJ rfl)
     intro s5 v5 w5 w6 x5 m6 x6 o6
     refine aA ?_
     (repeat' first | ((with_reducible refine aJ ?_); go_step) | ((with_reducible refine aG ?_); first | refine aL ?_ | (refine aK ?_ ?_ <;> intro hc)) | fail)
     refine ⟨⟨k + 1, by omega, by go_num, x6, ?_⟩, by simp [intOf]; omega⟩
     rw [hst]
     simpa [aH, Rec.cells] using o6
   ·rw [decide_eq_false hm, Bool.false_and, if_neg (by decide), List.append_nil] at hst
    (repeat' first | ((with_reducible refine aJ ?_); go_step) | ((with_reducible refine aG ?_); first | refine aL ?_ | (refine aK ?_ ?_ <;> intro hc)) | fail)
    all_goals first
     | exact absurd ‹bF l[k] = 0› hm
     | skip
    exact ⟨⟨k + 1, by omega, by go_num, hx4, by rw [hst]; exact ho4⟩, by simp [intOf]; omega⟩
  ·have : k = l.length := by omega
   subst this
   rw [List.take_length] at ho
   (repeat' first | ((with_reducible refine aJ ?_); go_step) | ((with_reducible refine aG ?_); first | refine aL ?_ | (refine aK ?_ ?_ <;> intro hc)) | fail)
   go_ret
   exact ⟨_, rfl, hx, ho⟩
def RecFnC (w : World) (f : FuncId) (caps : Array Value) (l : List Rec) (p : Rec → Bool) : Prop := ∀ r ∈ l, ∀ w', Ext w w' → Calls Tryz.prog f ([Value.agg #[aE r.name, .int .i64 r.kind, .int .i64 r.ttl, aE r.data]].toArray ++ caps) w' (bZ w' (.bool (p r)))
theorem RecFnC.ext {w w1 : World} {f : FuncId} {caps : Array Value} {l : List Rec} {p : Rec → Bool} (h : RecFnC w f caps l p) (hx : Ext w w1) : RecFnC w1 f caps l p :=
 fun r hr w' hx' => h r hr w' (hx.trans hx')
set_option maxHeartbeats 3000000 in
theorem pL (v : Value) (l : List Rec) (f : FuncId) (caps : Array Value) (p : Rec → Bool) (w : World) (hv : Sl 4 w v (aH l)) (he : Enters Tryz.prog f) (hf : RecFnC w f caps l p) : Calls Tryz.prog 197 #[v, .func (.func f) #[] caps] w (bZ w (.int .i64 (nP p l))) := by
 have hle := hv.le
 have hlen := aT l
 go_enter Tryz.func197, Tryz.ntmps197
 (repeat' first | ((with_reducible refine aJ ?_); go_step) | ((with_reducible refine aG ?_); first | refine aL ?_ | (refine aK ?_ ?_ <;> intro hc)) | fail)
 go_loopw [5, 8] (fun _ i wr => ∃ k : Nat, k ≤ l.length ∧ i = .int .i64 k ∧ Ext w wr ∧ (l.take k).any p = false) (fun _ i _ => l.length - (intOf i).toNat)
 case atStart => exact ⟨0, Nat.zero_le _, rfl, Ext.refl _, rfl⟩
 case round =>
  obtain ⟨k, hk, rfl, hx, hall⟩ := hrel
  have hv2 := hv.ext hx
  by_cases hlt : k < l.length
  ·have hpe := hv2.elem (dH hlt)
   (repeat' first | ((with_reducible refine aJ ?_); go_step) | ((with_reducible refine aG ?_); first | refine aL ?_ | (refine aK ?_ ?_ <;> intro hc)) | fail)
   refine cP he rfl rfl rfl (hf _ (List.getElem_mem hlt) _ hx) ?_
   rintro e w2 ⟨rfl, x2⟩
   refine ⟨_, rfl, ?_⟩
   refine aA ?_
   cases hp : p l[k] with
   | true =>
    (repeat' first | ((with_reducible refine aJ ?_); go_step) | ((with_reducible refine aG ?_); first | refine aL ?_ | (refine aK ?_ ?_ <;> intro hc)) | fail)
    go_ret
    exact ⟨by rw [wF hlt hall hp]; rfl, hx.trans x2⟩
   | false =>
    (repeat' first | ((with_reducible refine aJ ?_); go_step) | ((with_reducible refine aG ?_); first | refine aL ?_ | (refine aK ?_ ?_ <;> intro hc)) | fail)
    exact ⟨⟨k + 1, by omega, by go_num, hx.trans x2, qK hlt hall hp⟩, by simp [intOf]; omega⟩
  ·have : k = l.length := by omega
   subst this
   rw [List.take_length] at hall
   (repeat' first | ((with_reducible refine aJ ?_); go_step) | ((with_reducible refine aG ?_); first | refine aL ?_ | (refine aK ?_ ?_ <;> intro hc)) | fail)
   go_ret
   exact ⟨by rw [wG hall]; rfl, hx⟩
def CK (r : Rec) : Value := .agg #[aE r.name, .int .i64 r.kind, .int .i64 r.ttl, aE r.data]
def zX (o : Option Rec) : Value := .tuple #[CK (o.getD ⟨[], 0, 0, []⟩), .bool o.isSome]
set_option maxHeartbeats 3000000 in
theorem pM (v : Value) (l : List Rec) (f : FuncId) (caps : Array Value) (p : Rec → Bool) (w : World) (hv : Sl 4 w v (aH l)) (he : Enters Tryz.prog f) (hf : RecFnC w f caps l p) : Calls Tryz.prog 147 #[v, .func (.func f) #[] caps] w (bZ w (zX (l.find? p))) := by
 have hle := hv.le
 have hlen := aT l
 go_enter Tryz.func147, Tryz.ntmps147
 repeat' (first | ((with_reducible refine aJ ?_); go_step) | fail)
 refine aF (z := dS) rfl (by decide +kernel) ?_
 intro w1 x1 s1 h1
 refine aA ?_
 (repeat' first | ((with_reducible refine aJ ?_); go_step) | ((with_reducible refine aG ?_); first | refine aL ?_ | (refine aK ?_ ?_ <;> intro hc)) | fail)
 refine aB (enters_of Tryz.func197 rfl rfl) rfl rfl (pL v l f caps p _ (hv.ext x1) he (hf.ext x1)) ?_; intro w2 x2; refine aA ?_
 have hx2 := x1.trans x2
 have h2 := x2.at h1
 have hv2 := hv.ext hx2
 rcases oP p l with ⟨k, hk, e1, _, e3⟩ | ⟨e1, e2⟩
 ·rw [e1]
  have hpe := hv2.elem (dH hk)
  have hkr : k < (aH l).length := by omega
  (repeat' first | ((with_reducible refine aJ ?_); go_step) | ((with_reducible refine aG ?_); first | refine aL ?_ | (refine aK ?_ ?_ <;> intro hc)) | fail)
  refine aD (v := .agg #[aE l[k].name, .int .i64 l[k].kind, .int .i64 l[k].ttl, aE l[k].data]) rfl rfl rfl h2 (show aM Tryz.prog 64 4 = true by decide +kernel) rfl (mC rfl rfl rfl rfl) ?_
  intro w3 p3
  have x3 : Ext w w3 := hx2.move p3.mv (by rintro k ⟨⟩; exact Nat.le_refl _)
  (repeat' first | ((with_reducible refine aJ ?_); go_step) | ((with_reducible refine aG ?_); first | refine aL ?_ | (refine aK ?_ ?_ <;> intro hc)) | fail)
  refine bodyPost_ret (bC (cs := [aE l[k].name, .int .i64 l[k].kind, .int .i64 l[k].ttl, aE l[k].data]) rfl rfl p3.this (show bN Tryz.prog 64 4 = true by decide +kernel)) rfl ⟨by rw [e3]; rfl, x3⟩
 ·rw [e1]
  (repeat' first | ((with_reducible refine aJ ?_); go_step) | ((with_reducible refine aG ?_); first | refine aL ?_ | (refine aK ?_ ?_ <;> intro hc)) | fail)
  refine bV (v := .agg dS.toArray) rfl (Runs.build0 (by kernel_rfl)) ?_
  refine aA ?_
  refine aD (v := .agg dS.toArray) rfl rfl rfl h2 (show aM Tryz.prog 64 4 = true by decide +kernel) rfl (by decide +kernel) ?_
  intro w3 p3
  have x3 : Ext w w3 := hx2.move p3.mv (by rintro k ⟨⟩; exact Nat.le_refl _)
  (repeat' first | ((with_reducible refine aJ ?_); go_step) | ((with_reducible refine aG ?_); first | refine aL ?_ | (refine aK ?_ ?_ <;> intro hc)) | fail)
  refine bodyPost_ret (bC (cs := dS) rfl rfl p3.this (show bN Tryz.prog 64 4 = true by decide +kernel)) rfl ⟨by rw [e2.2]; rfl, x3⟩
def eT (j : JudR) (an au : Value) : List Value := [aE j.qn, .int .i64 j.qt, aE j.zone, .int .i64 j.code, an, au]
set_option maxHeartbeats 2000000 in
theorem zY (j : JudR) (r : Rec) (pq : Value) (w : World) (hq : Pts w pq [aE j.qn, .int .i64 j.qt]) : Calls Tryz.prog 148 #[.agg #[aE r.name, .int .i64 r.kind, .int .i64 r.ttl, aE r.data], pq] w (bZ w (.bool (j.ansP r))) := by
 go_enter Tryz.func148, Tryz.ntmps148
 repeat' (first | ((with_reducible refine aJ ?_); go_step) | fail)
 refine dF (vs := [aE r.name, .int .i64 r.kind, .int .i64 r.ttl, aE r.data]) rfl rfl ?_
 intro p w1 x1 hp
 refine aA ?_
 have hq1 := hq.ext x1
 (repeat' first | ((with_reducible refine aJ ?_); go_step) | ((with_reducible refine aG ?_); first | refine aL ?_ | (refine aK ?_ ?_ <;> intro hc)) | fail)
 refine aB (enters_of Tryz.func149 rfl rfl) rfl rfl (pK r.name j.qn _) ?_; intro w2 x2; refine aA ?_
 have hp2 := hp.ext x2
 have hq2 := hq1.ext x2
 have hx2 := x1.trans x2
 cases hs : jT r.name j.qn with
 | false =>
  (repeat' first | ((with_reducible refine aJ ?_); go_step) | ((with_reducible refine aG ?_); first | refine aL ?_ | (refine aK ?_ ?_ <;> intro hc)) | fail)
  go_ret
  exact ⟨by rw [show j.ansP r = false by simp [JudR.ansP, hs]]; rfl, hx2⟩
 | true =>
  by_cases hk : r.kind = j.qt
  ·(repeat' first | ((with_reducible refine aJ ?_); go_step) | ((with_reducible refine aG ?_); first | refine aL ?_ | (refine aK ?_ ?_ <;> intro hc)) | fail)
   all_goals first
    | exact absurd hk ‹_›
    | skip
   go_ret
   exact ⟨by rw [show j.ansP r = true by simp [JudR.ansP, hs, hk]]; rfl, hx2⟩
  ·(repeat' first | ((with_reducible refine aJ ?_); go_step) | ((with_reducible refine aG ?_); first | refine aL ?_ | (refine aK ?_ ?_ <;> intro hc)) | fail)
   all_goals first
    | exact absurd ‹r.kind = j.qt› hk
    | skip
   go_ret
   exact ⟨by rw [show j.ansP r = decide (j.qt = 255) by simp [JudR.ansP, hs, hk]]; rfl, hx2⟩
set_option maxHeartbeats 2000000 in
theorem zZ (j : JudR) (an au : Value) (r : Rec) (pj : Value) (w : World) (hj : Pts w pj (eT j an au)) : Calls Tryz.prog 150 #[.agg #[aE r.name, .int .i64 r.kind, .int .i64 r.ttl, aE r.data], pj] w (bZ w (.bool (j.aliP r))) := by
 go_enter Tryz.func150, Tryz.ntmps150
 repeat' (first | ((with_reducible refine aJ ?_); go_step) | fail)
 refine dF (vs := [aE r.name, .int .i64 r.kind, .int .i64 r.ttl, aE r.data]) rfl rfl ?_
 intro p w1 x1 hp
 refine aA ?_
 have hj1 := hj.ext x1
 have hj0 : Pts w1 (aX pj 0) [aE j.qn, .int .i64 j.qt] := (hj1.part 0).front 2
 (repeat' first | ((with_reducible refine aJ ?_); go_step) | ((with_reducible refine aG ?_); first | refine aL ?_ | (refine aK ?_ ?_ <;> intro hc)) | fail)
 refine aB (enters_of Tryz.func149 rfl rfl) rfl rfl (pK r.name j.qn _) ?_; intro w2 x2; refine aA ?_
 have hp2 := hp.ext x2
 have hx2 := x1.trans x2
 cases hs : jT r.name j.qn with
 | false =>
  (repeat' first | ((with_reducible refine aJ ?_); go_step) | ((with_reducible refine aG ?_); first | refine aL ?_ | (refine aK ?_ ?_ <;> intro hc)) | fail)
  go_ret
  exact ⟨by rw [show j.aliP r = false by simp [JudR.aliP, hs]]; rfl, hx2⟩
 | true =>
  (repeat' first | ((with_reducible refine aJ ?_); go_step) | ((with_reducible refine aG ?_); first | refine aL ?_ | (refine aK ?_ ?_ <;> intro hc)) | fail)
  go_ret
  exact ⟨by rw [show j.aliP r = decide (r.kind = 5) by simp [JudR.aliP, hs]]; rfl, hx2⟩
set_option maxHeartbeats 2000000 in
theorem AA (j : JudR) (an au : Value) (r : Rec) (pj : Value) (w : World) (hj : Pts w pj (eT j an au)) : Calls Tryz.prog 151 #[.agg #[aE r.name, .int .i64 r.kind, .int .i64 r.ttl, aE r.data], pj] w (bZ w (.bool (j.denP r))) := by
 go_enter Tryz.func151, Tryz.ntmps151
 repeat' (first | ((with_reducible refine aJ ?_); go_step) | fail)
 refine dF (vs := [aE r.name, .int .i64 r.kind, .int .i64 r.ttl, aE r.data]) rfl rfl ?_
 intro p w1 x1 hp
 refine aA ?_
 have hj1 := hj.ext x1
 have hj0 : Pts w1 (aX pj 0) [aE j.qn, .int .i64 j.qt] := (hj1.part 0).front 2
 (repeat' first | ((with_reducible refine aJ ?_); go_step) | ((with_reducible refine aG ?_); first | refine aL ?_ | (refine aK ?_ ?_ <;> intro hc)) | fail)
 ·have hc := ‹r.kind = 6›
  refine aB (enters_of Tryz.func62 rfl rfl) rfl rfl (lS j.qn r.name _) ?_; intro w2 x2; refine aA ?_
  (repeat' first | ((with_reducible refine aJ ?_); go_step) | ((with_reducible refine aG ?_); first | refine aL ?_ | (refine aK ?_ ?_ <;> intro hc)) | fail)
  go_ret
  exact ⟨by rw [show j.denP r = bP j.qn r.name by simp [JudR.denP, hc]]; rfl, x1.trans x2⟩
 ·have hc := ‹¬ r.kind = 6›
  go_ret
  exact ⟨by rw [show j.denP r = false by simp [JudR.denP, hc]]; rfl, x1⟩
theorem wR {α : Type} (p : α → Bool) (l : List α) : (l.find? p).isSome = l.any p := by
 rw [Bool.eq_iff_iff, List.find?_isSome, List.any_eq_true]
theorem uP (n : List UInt8) (k : Int) : (Value.agg #[aE n, .int .i64 k]).cells.all (·.oneCell') = true := by simp [Value.cells, aE, Value.oneCell']
set_option maxHeartbeats 3000000 in
theorem wS (j : JudR) (an au : Value) (w : World) (ha : Sl 4 w an (aH j.an)) (hu : Sl 4 w au (aH j.au)) : Calls Tryz.prog 95 #[.agg (eT j an au).toArray] w (bZ w (.tuple #[.int .i64 j.answer.1, aE j.answer.2])) := by
 go_enter Tryz.func95, Tryz.ntmps95
 repeat' (first | ((with_reducible refine aJ ?_); go_step) | fail)
 refine dB (vs := eT j an au) rfl rfl ?_
 intro w1 x1 s1 h1
 refine aA ?_
 have hp := aC (cs := eT j an au) h1
 have hj0 : Pts w1 (aX (.pointer (some ⟨w.heap.size, 0, none⟩)) 0) [aE j.qn, .int .i64 j.qt] := (hp.part 0).front 2
 have hj2 : Pts w1 (aX (.pointer (some ⟨w.heap.size, 0, none⟩)) 2) [aE j.zone] := (hp.part 2).front 1
 have hj3 : Pts w1 (aX (.pointer (some ⟨w.heap.size, 0, none⟩)) 3) [.int .i64 j.code] := (hp.part 3).front 1
 have hj4 : Pts w1 (aX (.pointer (some ⟨w.heap.size, 0, none⟩)) 4) [an] := (hp.part 4).front 1
 have hj5 : Pts w1 (aX (.pointer (some ⟨w.heap.size, 0, none⟩)) 5) [au] := hp.part 5
 (repeat' first | ((with_reducible refine aJ ?_); go_step) | ((with_reducible refine aG ?_); first | refine aL ?_ | (refine aK ?_ ?_ <;> intro hc)) | fail)
 refine aF (z := [aE [], .int .i64 0]) rfl (by decide +kernel) ?_
 intro w2 x2 s2 h2
 refine aA ?_
 refine aD (v := .agg #[aE j.qn, .int .i64 j.qt]) rfl rfl rfl h2 (show aM Tryz.prog 31 2 = true by decide +kernel) rfl (uP _ _) ?_
 intro w3 p3
 have x3 : Ext w1 w3 := x2.move p3.mv (by rintro k ⟨⟩; exact Nat.le_refl _)
 have hq3 := aC (cs := [aE j.qn, .int .i64 j.qt]) p3.this
 have hx3 := x1.trans x3
 have hj43 := hj4.ext x3
 clear p3 h2 x2 s2 hj0 hj2 hj3 hj5 hp h1
 generalize w1.heap.size = bq at *
 have hF := pM an j.an 148 #[.pointer (some ⟨bq, 0, none⟩)] j.ansP w3 (ha.ext hx3) (enters_of Tryz.func148 rfl rfl) (fun r _ w' c => zY j r _ w' (hq3.ext c))
 have hA := wR j.ansP j.an
 cases hf : j.an.find? j.ansP with
 | none =>
  rw [hf] at hF hA
  have hE : j.answer = (0, []) := by rw [JudR.answer, if_neg (by rw [← hA]; simp)]
  (repeat' first | ((with_reducible refine aJ ?_); go_step) | ((with_reducible refine aG ?_); first | refine aL ?_ | (refine aK ?_ ?_ <;> intro hc)) | fail)
  refine aB (enters_of Tryz.func147 rfl rfl) rfl rfl (hF) ?_; intro w4 x4; refine aA ?_
  (repeat' first | ((with_reducible refine aJ ?_); go_step) | ((with_reducible refine aG ?_); first | refine aL ?_ | (refine aK ?_ ?_ <;> intro hc)) | fail)
  refine aF (z := dS) rfl (by decide +kernel) ?_
  intro w5 x5 s5 h5
  refine aA ?_
  refine aD (v := .agg dS.toArray) rfl rfl rfl h5 (show aM Tryz.prog 64 4 = true by decide +kernel) rfl (by decide +kernel) ?_
  intro w6 p6
  have x6 : Ext w4 w6 := x5.move p6.mv (by rintro k ⟨⟩; exact Nat.le_refl _)
  clear h5 x5 s5
  have hx6 := hx3.trans (x4.trans x6)
  clear p6
  (repeat' first | ((with_reducible refine aJ ?_); go_step) | ((with_reducible refine aG ?_); first | refine aL ?_ | (refine aK ?_ ?_ <;> intro hc)) | fail)
  go_ret2
  exact ⟨by rw [hE]; rfl, hx6⟩
 | some r =>
  rw [hf] at hF hA
  have hE : j.answer = (1, fold j.qn) := by rw [JudR.answer, if_pos (by rw [← hA]; rfl)]
  (repeat' first | ((with_reducible refine aJ ?_); go_step) | ((with_reducible refine aG ?_); first | refine aL ?_ | (refine aK ?_ ?_ <;> intro hc)) | fail)
  refine aB (enters_of Tryz.func147 rfl rfl) rfl rfl (hF) ?_; intro w4 x4; refine aA ?_
  (repeat' first | ((with_reducible refine aJ ?_); go_step) | ((with_reducible refine aG ?_); first | refine aL ?_ | (refine aK ?_ ?_ <;> intro hc)) | fail)
  refine aF (z := dS) rfl (by decide +kernel) ?_
  intro w5 x5 s5 h5
  refine aA ?_
  refine aD (v := .agg #[aE r.name, .int .i64 r.kind, .int .i64 r.ttl, aE r.data]) rfl rfl rfl h5 (show aM Tryz.prog 64 4 = true by decide +kernel) rfl (mC rfl rfl rfl rfl) ?_
  intro w6 p6
  have x6 : Ext w4 w6 := x5.move p6.mv (by rintro k ⟨⟩; exact Nat.le_refl _)
  clear h5 x5 s5
  have hx6 := hx3.trans (x4.trans x6)
  have hq6 := hq3.ext (x4.trans x6)
  clear p6
  (repeat' first | ((with_reducible refine aJ ?_); go_step) | ((with_reducible refine aG ?_); first | refine aL ?_ | (refine aK ?_ ?_ <;> intro hc)) | fail)
  refine aB (enters_of Tryz.func57 rfl rfl) rfl rfl (sY j.qn _) ?_; intro w7 x7; refine aA ?_
  (repeat' first | ((with_reducible refine aJ ?_); go_step) | ((with_reducible refine aG ?_); first | refine aL ?_ | (refine aK ?_ ?_ <;> intro hc)) | fail)
  go_ret2
  exact ⟨by rw [hE]; rfl, hx6.trans x7⟩
set_option maxHeartbeats 3000000 in
theorem yE (j : JudR) (an au : Value) (w : World) (ha : Sl 4 w an (aH j.an)) (hu : Sl 4 w au (aH j.au)) (hd : ∀ r ∈ j.an, r.data.length ≤ 4000) : Calls Tryz.prog 96 #[.agg (eT j an au).toArray] w (bZ w (.tuple #[.int .i64 j.alias.1, aE j.alias.2])) := by
 go_enter Tryz.func96, Tryz.ntmps96
 repeat' (first | ((with_reducible refine aJ ?_); go_step) | fail)
 refine dB (vs := eT j an au) rfl rfl ?_
 intro w1 x1 s1 h1
 refine aA ?_
 have hp := aC (cs := eT j an au) h1
 have hj0 : Pts w1 (aX (.pointer (some ⟨w.heap.size, 0, none⟩)) 0) [aE j.qn, .int .i64 j.qt] := (hp.part 0).front 2
 have hj2 : Pts w1 (aX (.pointer (some ⟨w.heap.size, 0, none⟩)) 2) [aE j.zone] := (hp.part 2).front 1
 have hj3 : Pts w1 (aX (.pointer (some ⟨w.heap.size, 0, none⟩)) 3) [.int .i64 j.code] := (hp.part 3).front 1
 have hj4 : Pts w1 (aX (.pointer (some ⟨w.heap.size, 0, none⟩)) 4) [an] := (hp.part 4).front 1
 have hj5 : Pts w1 (aX (.pointer (some ⟨w.heap.size, 0, none⟩)) 5) [au] := hp.part 5
 have hF := pM an j.an 150 #[.pointer (some ⟨w.heap.size, 0, none⟩)] j.aliP w1 (ha.ext x1) (enters_of Tryz.func150 rfl rfl) (fun r _ w' c => zZ j an au r _ w' (hp.ext c))
 cases hf : j.an.find? j.aliP with
 | none =>
  rw [hf] at hF
  have hE : j.alias = (0, []) := by rw [JudR.alias, hf]
  (repeat' first | ((with_reducible refine aJ ?_); go_step) | ((with_reducible refine aG ?_); first | refine aL ?_ | (refine aK ?_ ?_ <;> intro hc)) | fail)
  refine aB (enters_of Tryz.func147 rfl rfl) rfl rfl (hF) ?_; intro w4 x4; refine aA ?_
  (repeat' first | ((with_reducible refine aJ ?_); go_step) | ((with_reducible refine aG ?_); first | refine aL ?_ | (refine aK ?_ ?_ <;> intro hc)) | fail)
  refine aF (z := dS) rfl (by decide +kernel) ?_
  intro w5 x5 s5 h5
  refine aA ?_
  refine aD (v := .agg dS.toArray) rfl rfl rfl h5 (show aM Tryz.prog 64 4 = true by decide +kernel) rfl (by decide +kernel) ?_
  intro w6 p6
  have x6 : Ext w4 w6 := x5.move p6.mv (by rintro k ⟨⟩; exact Nat.le_refl _)
  clear h5 x5 s5
  have hx6 := x1.trans (x4.trans x6)
  clear p6
  (repeat' first | ((with_reducible refine aJ ?_); go_step) | ((with_reducible refine aG ?_); first | refine aL ?_ | (refine aK ?_ ?_ <;> intro hc)) | fail)
  go_ret2
  exact ⟨by rw [hE]; rfl, hx6⟩
 | some r =>
  rw [hf] at hF
  have hE : j.alias = (5, fold (bM 5 r.data).1) := by rw [JudR.alias, hf]
  (repeat' first | ((with_reducible refine aJ ?_); go_step) | ((with_reducible refine aG ?_); first | refine aL ?_ | (refine aK ?_ ?_ <;> intro hc)) | fail)
  refine aB (enters_of Tryz.func147 rfl rfl) rfl rfl (hF) ?_; intro w4 x4; refine aA ?_
  (repeat' first | ((with_reducible refine aJ ?_); go_step) | ((with_reducible refine aG ?_); first | refine aL ?_ | (refine aK ?_ ?_ <;> intro hc)) | fail)
  refine aF (z := dS) rfl (by decide +kernel) ?_
  intro w5 x5 s5 h5
  refine aA ?_
  refine aD (v := .agg #[aE r.name, .int .i64 r.kind, .int .i64 r.ttl, aE r.data]) rfl rfl rfl h5 (show aM Tryz.prog 64 4 = true by decide +kernel) rfl (mC rfl rfl rfl rfl) ?_
  intro w6 p6
  have x6 : Ext w4 w6 := x5.move p6.mv (by rintro k ⟨⟩; exact Nat.le_refl _)
  clear h5 x5 s5
  have hpr := aC (cs := [aE r.name, .int .i64 r.kind, .int .i64 r.ttl, aE r.data]) p6.this
  have hx6 := x1.trans (x4.trans x6)
  have hdr := hd r (List.mem_of_find?_eq_some hf)
  clear p6
  (repeat' first | ((with_reducible refine aJ ?_); go_step) | ((with_reducible refine aG ?_); first | refine aL ?_ | (refine aK ?_ ?_ <;> intro hc)) | fail)
  refine aB (enters_of Tryz.func101 rfl rfl) rfl rfl (CD 5 r.data _ (by omega)) ?_; intro w7 x7; refine aA ?_
  (repeat' first | ((with_reducible refine aJ ?_); go_step) | ((with_reducible refine aG ?_); first | refine aL ?_ | (refine aK ?_ ?_ <;> intro hc)) | fail)
  refine aB (enters_of Tryz.func57 rfl rfl) rfl rfl (sY (bM 5 r.data).1 _) ?_; intro w8 x8; refine aA ?_
  (repeat' first | ((with_reducible refine aJ ?_); go_step) | ((with_reducible refine aG ?_); first | refine aL ?_ | (refine aK ?_ ?_ <;> intro hc)) | fail)
  go_ret2
  exact ⟨by rw [hE]; rfl, hx6.trans (x7.trans x8)⟩
set_option maxHeartbeats 3000000 in
theorem wT (j : JudR) (an au : Value) (w : World) (ha : Sl 4 w an (aH j.an)) (hu : Sl 4 w au (aH j.au)) : Calls Tryz.prog 97 #[.agg (eT j an au).toArray] w (bZ w (.tuple #[.int .i64 j.denial.1, aE j.denial.2])) := by
 go_enter Tryz.func97, Tryz.ntmps97
 repeat' (first | ((with_reducible refine aJ ?_); go_step) | fail)
 refine dB (vs := eT j an au) rfl rfl ?_
 intro w1 x1 s1 h1
 refine aA ?_
 have hp := aC (cs := eT j an au) h1
 have hj0 : Pts w1 (aX (.pointer (some ⟨w.heap.size, 0, none⟩)) 0) [aE j.qn, .int .i64 j.qt] := (hp.part 0).front 2
 have hj2 : Pts w1 (aX (.pointer (some ⟨w.heap.size, 0, none⟩)) 2) [aE j.zone] := (hp.part 2).front 1
 have hj3 : Pts w1 (aX (.pointer (some ⟨w.heap.size, 0, none⟩)) 3) [.int .i64 j.code] := (hp.part 3).front 1
 have hj4 : Pts w1 (aX (.pointer (some ⟨w.heap.size, 0, none⟩)) 4) [an] := (hp.part 4).front 1
 have hj5 : Pts w1 (aX (.pointer (some ⟨w.heap.size, 0, none⟩)) 5) [au] := hp.part 5
 have hF := pM au j.au 151 #[.pointer (some ⟨w.heap.size, 0, none⟩)] j.denP w1 (hu.ext x1) (enters_of Tryz.func151 rfl rfl) (fun r _ w' c => AA j an au r _ w' (hp.ext c))
 cases hf : j.au.find? j.denP with
 | none =>
  rw [hf] at hF
  have hE : j.denial = (0, []) := by rw [JudR.denial, hf]
  (repeat' first | ((with_reducible refine aJ ?_); go_step) | ((with_reducible refine aG ?_); first | refine aL ?_ | (refine aK ?_ ?_ <;> intro hc)) | fail)
  refine aB (enters_of Tryz.func147 rfl rfl) rfl rfl (hF) ?_; intro w4 x4; refine aA ?_
  (repeat' first | ((with_reducible refine aJ ?_); go_step) | ((with_reducible refine aG ?_); first | refine aL ?_ | (refine aK ?_ ?_ <;> intro hc)) | fail)
  refine aF (z := dS) rfl (by decide +kernel) ?_
  intro w5 x5 s5 h5
  refine aA ?_
  refine aD (v := .agg dS.toArray) rfl rfl rfl h5 (show aM Tryz.prog 64 4 = true by decide +kernel) rfl (by decide +kernel) ?_
  intro w6 p6
  have x6 : Ext w4 w6 := x5.move p6.mv (by rintro k ⟨⟩; exact Nat.le_refl _)
  clear h5 x5 s5
  have hx6 := x1.trans (x4.trans x6)
  clear p6
  (repeat' first | ((with_reducible refine aJ ?_); go_step) | ((with_reducible refine aG ?_); first | refine aL ?_ | (refine aK ?_ ?_ <;> intro hc)) | fail)
  go_ret2
  exact ⟨by rw [hE]; rfl, hx6⟩
 | some r =>
  rw [hf] at hF
  have hE : j.denial = if j.code = 3 then (3, fold r.name) else (2, fold r.name) := by rw [JudR.denial, hf]
  (repeat' first | ((with_reducible refine aJ ?_); go_step) | ((with_reducible refine aG ?_); first | refine aL ?_ | (refine aK ?_ ?_ <;> intro hc)) | fail)
  refine aB (enters_of Tryz.func147 rfl rfl) rfl rfl (hF) ?_; intro w4 x4; refine aA ?_
  (repeat' first | ((with_reducible refine aJ ?_); go_step) | ((with_reducible refine aG ?_); first | refine aL ?_ | (refine aK ?_ ?_ <;> intro hc)) | fail)
  refine aF (z := dS) rfl (by decide +kernel) ?_
  intro w5 x5 s5 h5
  refine aA ?_
  refine aD (v := .agg #[aE r.name, .int .i64 r.kind, .int .i64 r.ttl, aE r.data]) rfl rfl rfl h5 (show aM Tryz.prog 64 4 = true by decide +kernel) rfl (mC rfl rfl rfl rfl) ?_
  intro w6 p6
  have x6 : Ext w4 w6 := x5.move p6.mv (by rintro k ⟨⟩; exact Nat.le_refl _)
  clear h5 x5 s5
  have hpr := aC (cs := [aE r.name, .int .i64 r.kind, .int .i64 r.ttl, aE r.data]) p6.this
  have hx6 := x1.trans (x4.trans x6)
  have hj6 := hj3.ext (x4.trans x6)
  clear p6
  by_cases hk : j.code = 3
  ·rw [if_pos hk] at hE
   (repeat' first | ((with_reducible refine aJ ?_); go_step) | ((with_reducible refine aG ?_); first | refine aL ?_ | (refine aK ?_ ?_ <;> intro hc)) | fail)
   all_goals first
    | exact absurd hk ‹_›
    | skip
   refine aB (enters_of Tryz.func57 rfl rfl) rfl rfl (sY r.name _) ?_; intro w7 x7; refine aA ?_
   (repeat' first | ((with_reducible refine aJ ?_); go_step) | ((with_reducible refine aG ?_); first | refine aL ?_ | (refine aK ?_ ?_ <;> intro hc)) | fail)
   go_ret2
   exact ⟨by rw [hE]; rfl, hx6.trans x7⟩
  ·rw [if_neg hk] at hE
   (repeat' first | ((with_reducible refine aJ ?_); go_step) | ((with_reducible refine aG ?_); first | refine aL ?_ | (refine aK ?_ ?_ <;> intro hc)) | fail)
   all_goals first
    | exact absurd ‹j.code = 3› hk
    | skip
   refine aB (enters_of Tryz.func57 rfl rfl) rfl rfl (sY r.name _) ?_; intro w7 x7; refine aA ?_
   (repeat' first | ((with_reducible refine aJ ?_); go_step) | ((with_reducible refine aG ?_); first | refine aL ?_ | (refine aK ?_ ?_ <;> intro hc)) | fail)
   go_ret2
   exact ⟨by rw [hE]; rfl, hx6.trans x7⟩
def bO (a : ActR) (v1 v2 : Value) : List Value := [.int .i64 a.kind, .int .i64 a.to, aE a.qn, .int .i64 a.qt, .int .i64 a.code, v1, v2]
def bX : List Value := [.int .i64 0, .int .i64 0, aE [], .int .i64 0, .int .i64 0, .slice none 0 0, .slice none 0 0]
theorem dQ {a : ActR} {v1 v2 : Value} (h1 : v1.oneCell' = true) (h2 : v2.oneCell' = true) : (Value.agg (bO a v1 v2).toArray).cells.all (·.oneCell') = true := by
 have k1 : ∀ s, (aE s).oneCell' = true := fun _ => rfl
 have k2 : ∀ n, (Value.int .i64 n).oneCell' = true := fun _ => rfl
 simp [bO, Value.cells, h1, h2, k1, k2]
structure ActV (w : World) (v : Value) (a : ActR) : Prop where
 out : ∃ v1 v2, v = .agg (bO a v1 v2).toArray ∧ Own 0 4 64 w v1 (aH a.ans) ∧ Own 0 4 64 w v2 (aH a.auth)
theorem ActV.ext {w w' : World} {v : Value} {a : ActR} (h : ActV w v a) (hx : Ext w w') : ActV w' v a := by
 obtain ⟨v1, v2, h1, h2, h3⟩ := h.out
 exact ⟨v1, v2, h1, h2.ext hx, h3.ext hx⟩
def StopV (B : Nat) (w : World) (v : Value) : Option ActR → Prop
 | none => v = .pointer none
 | some a => ∃ c v1 v2, v = .pointer (some ⟨c, 0, none⟩) ∧ B ≤ c ∧ w.heap[c]? = some (.cells (bO a v1 v2).toArray 33 (0, 0)) ∧ Own B 4 64 w v1 (aH a.ans) ∧ Own B 4 64 w v2 (aH a.auth) ∧ a.kind = 2
theorem StopV.ext {B : Nat} {w w' : World} {v : Value} {s : Option ActR} (h : StopV B w v s) (hx : Ext w w') : StopV B w' v s := by
 cases s with
 | none => exact h
 | some a =>
  obtain ⟨c, v1, v2, h1, h2, h3, h4, h5, h6⟩ := h
  exact ⟨c, v1, v2, h1, h2, hx.at h3, h4.ext hx, h5.ext hx, h6⟩
theorem StopV.put {B b t : Nat} {w w' : World} {v : Value} {s : Option ActR} {cs : Array Value} {fz : Nat × Nat} {o : Obj} (h : StopV B w v s) (hb : w.heap[b]? = some (.cells cs t fz)) (h1 : t ≠ 33) (h2 : t ≠ 64) (hp : Put w w' b o) : StopV B w' v s := by
 cases s with
 | none => exact h
 | some a =>
  obtain ⟨c, v1, v2, g1, g2, g3, g4, g5, g6⟩ := h
  refine ⟨c, v1, v2, g1, g2, hp.mv.at g3 ?_, g4.mv hp.mv (.inr (g4.neBlock hb h2)), g5.mv hp.mv (.inr (g5.neBlock hb h2)), g6⟩
  intro e
  cases e
  rw [hb] at g3
  simp only [Option.some.injEq, Obj.cells.injEq] at g3
  exact h1 g3.2.1
def bL (t : TaskR) (rv sv gv ev : Value) : List Value := [aE t.qn, .int .i64 t.qt, rv, aE t.zone, sv, gv, .int .i64 t.chain, .int .i64 t.left, ev]
structure TaskV (w0 w : World) (b : Nat) (t : TaskR) (rv sv gv ev : Value) : Prop where
 ge : w0.heap.size ≤ b
 ext : Ext w0 w
 blk : w.heap[b]? = some (.cells (bL t rv sv gv ev).toArray 99 (0, 0))
 rs : Own w0.heap.size 1 3 w rv (aZ t.roots)
 ss : OwnOff w0.heap.size 1 3 w sv (aZ t.servers)
 gs : Own w0.heap.size 4 64 w gv (aH t.got)
 es : StopV w0.heap.size w ev t.stop
def TaskAt (w0 w : World) (b : Nat) (t : TaskR) : Prop := ∃ rv sv gv ev, TaskV w0 w b t rv sv gv ev
theorem TaskV.grow {w0 w w' : World} {b : Nat} {t : TaskR} {rv sv gv ev : Value} (h : TaskV w0 w b t rv sv gv ev) (hx : Ext w w') : TaskV w0 w' b t rv sv gv ev :=
 ⟨h.ge, h.ext.trans hx, hx.at h.blk, h.rs.ext hx, h.ss.ext hx, h.gs.ext hx, h.es.ext hx⟩
theorem TaskAt.grow {w0 w w' : World} {b : Nat} {t : TaskR} (h : TaskAt w0 w b t) (hx : Ext w w') : TaskAt w0 w' b t := by
 obtain ⟨rv, sv, gv, ev, h⟩ := h
 exact ⟨rv, sv, gv, ev, h.grow hx⟩
theorem TaskV.put {w0 w w' : World} {b : Nat} {t t' : TaskR} {rv sv gv ev rv' sv' gv' ev' : Value} (h : TaskV w0 w b t rv sv gv ev) (hp : Put w w' b (.cells (bL t' rv' sv' gv' ev').toArray 99 (0, 0)))
 (h1 : Own w0.heap.size 1 3 w' rv' (aZ t'.roots)) (h2 : OwnOff w0.heap.size 1 3 w' sv' (aZ t'.servers)) (h3 : Own w0.heap.size 4 64 w' gv' (aH t'.got)) (h4 : StopV w0.heap.size w' ev' t'.stop) : TaskV w0 w' b t' rv' sv' gv' ev' :=
 ⟨h.ge, h.ext.move hp.mv (by rintro k ⟨⟩; exact h.ge), hp.this, h1, h2, h3, h4⟩
theorem TaskV.kept {w0 w w' : World} {b : Nat} {t : TaskR} {rv sv gv ev : Value} {o : Obj} (h : TaskV w0 w b t rv sv gv ev) (hp : Put w w' b o) :
 Own w0.heap.size 1 3 w' rv (aZ t.roots) ∧ OwnOff w0.heap.size 1 3 w' sv (aZ t.servers) ∧ Own w0.heap.size 4 64 w' gv (aH t.got) ∧ StopV w0.heap.size w' ev t.stop :=
 ⟨h.rs.mv hp.mv (.inr (h.rs.neBlock h.blk (by decide))), h.ss.mv hp.mv (.inr (h.ss.neBlock h.blk (by decide))), h.gs.mv hp.mv (.inr (h.gs.neBlock h.blk (by decide))), h.es.put h.blk (by decide) (by decide) hp⟩
theorem Mv.fresh {row : Option Nat} {w w1 w2 : World} {c : Nat} (h : Mv row w w1) (k : Mv (some c) w1 w2) (hc : w.heap.size ≤ c) : Mv row w w2 :=
 ⟨k.os.trans h.os, k.tape.trans h.tape, k.output.trans h.output, Nat.le_trans h.size k.size,
  fun j hj hn => by rw [k.block j (Nat.lt_of_lt_of_le hj h.size) (by intro e; have := Option.some.inj e; omega), h.block j hj hn], Nat.le_trans h.drawn k.drawn⟩
theorem ActV.one {w : World} {v : Value} {a : ActR} (h : ActV w v a) : v.cells.all (·.oneCell') = true := by
 obtain ⟨v1, v2, rfl, h2, h3⟩ := h.out
 exact dQ h2.one h3.one
theorem ActV.size {w : World} {v : Value} {a : ActR} (h : ActV w v a) : v.cells.size = 7 := by
 obtain ⟨v1, v2, rfl, h2, h3⟩ := h.out
 rfl
theorem ActV.put {w w' : World} {v : Value} {a : ActR} {c t : Nat} {cs : Array Value} {fz : Nat × Nat} {o : Obj} (h : ActV w v a) (hp : Put w w' c o) (hc : w.heap[c]? = some (.cells cs t fz)) (ht : t ≠ 64) : ActV w' v a := by
 obtain ⟨v1, v2, h1, h2, h3⟩ := h.out
 exact ⟨v1, v2, h1, h2.mv hp.mv (.inr (h2.neBlock hc ht)), h3.mv hp.mv (.inr (h3.neBlock hc ht))⟩
theorem TaskV.other {w0 w w' : World} {b c : Nat} {t : TaskR} {rv sv gv ev : Value} {fz : Nat × Nat} {o : Obj} (h : TaskV w0 w b t rv sv gv ev) (hp : Put w w' c o) (hc : w.heap[c]? = some (.cells bX.toArray 33 fz)) (hg : w0.heap.size ≤ c) : TaskV w0 w' b t rv sv gv ev := by
 refine ⟨h.ge, h.ext.move hp.mv (by rintro k ⟨⟩; exact hg), hp.mv.at h.blk ?_, h.rs.mv hp.mv (.inr (h.rs.neBlock hc (by decide))), h.ss.mv hp.mv (.inr (h.ss.neBlock hc (by decide))), h.gs.mv hp.mv (.inr (h.gs.neBlock hc (by decide))), ?_⟩
 ·intro e
  have e2 := h.blk
  rw [Option.some.inj e, hc] at e2
  simp only [Option.some.injEq, Obj.cells.injEq] at e2
  exact absurd e2.2.1 (by decide)
 ·have he := h.es
  generalize hst : t.stop = s at he
  cases s with
  | none => exact he
  | some a =>
   obtain ⟨k, v1, v2, g1, g2, g3, g4, g5, g6⟩ := he
   refine ⟨k, v1, v2, g1, g2, hp.mv.at g3 (fun e => ?_), g4.mv hp.mv (.inr (g4.neBlock hc (by decide))), g5.mv hp.mv (.inr (g5.neBlock hc (by decide))), g6⟩
   rw [Option.some.inj e, hc] at g3
   simp only [Option.some.injEq, Obj.cells.injEq] at g3
   have e3 := congrArg (fun q => q[0]?) g3.1
   simp [bX, bO, g6] at e3
def ActRet (w0 : World) (b : Nat) (r : TaskR × ActR) (v : Value) (w' : World) : Prop := ActV w' v r.2 ∧ TaskAt w0 w' b r.1
theorem AB {w0 w : World} {b : Nat} {t : TaskR} (h : TaskAt w0 w b t) : Calls Tryz.prog 22 #[.pointer (some ⟨b, 0, none⟩)] w (bZ w (aE t.zone)) := by
 obtain ⟨rv, sv, gv, ev, h⟩ := h
 have hp := aC (cs := bL t rv sv gv ev) h.blk
 go_enter Tryz.func22, Tryz.ntmps22
 (repeat' first | ((with_reducible refine aJ ?_); go_step) | ((with_reducible refine aG ?_); first | refine aL ?_ | (refine aK ?_ ?_ <;> intro hc)) | fail)
 go_ret
 exact ⟨rfl, Ext.refl _⟩
set_option maxHeartbeats 1000000 in
theorem pN {w0 w : World} {b : Nat} {t : TaskR} {a : ActR} (h : TaskAt w0 w b t) (hs : t.stop = some a) (h1' : a.ans.length ≤ 1000000) (h2' : a.auth.length ≤ 1000000) : Calls Tryz.prog 43 #[.pointer (some ⟨b, 0, none⟩)] w (vD w (ActRet w0 b (t, a))) := by
 obtain ⟨rv, sv, gv, ev, h⟩ := h
 have hp := aC (cs := bL t rv sv gv ev) h.blk
 have he := h.es
 rw [hs] at he
 obtain ⟨c, v1, v2, rfl, hc, hcb, o1, o2, -⟩ := he
 have hpc := aC (cs := bO a v1 v2) hcb
 go_enter Tryz.func43, Tryz.ntmps43
 (repeat' first | ((with_reducible refine aJ ?_); go_step) | ((with_reducible refine aG ?_); first | refine aL ?_ | (refine aK ?_ ?_ <;> intro hc)) | fail)
 refine aF (z := bX) rfl (by decide +kernel) ?_
 intro w1 x1 s1 h1
 refine aA ?_
 have hp1 := hp.ext x1
 have hpc1 := hpc.ext x1
 (repeat' first | ((with_reducible refine aJ ?_); go_step) | ((with_reducible refine aG ?_); first | refine aL ?_ | (refine aK ?_ ?_ <;> intro hc)) | fail)
 refine aY (Runs.loadN hpc1 rfl (show bN Tryz.prog 33 7 = true by decide +kernel)) ?_
 refine aA ?_
 refine aF (z := bX) rfl (by decide +kernel) ?_
 intro w2 x2 s2 h2
 refine aA ?_
 refine aD (v := .agg (bO a v1 v2).toArray) rfl rfl rfl h2 (show aM Tryz.prog 33 7 = true by decide +kernel) rfl (dQ o1.one o2.one) ?_
 intro w3 p3
 have x3 : Ext w1 w3 := x2.move p3.mv (by rintro k ⟨⟩; exact Nat.le_refl _)
 have hp3 := aC (cs := bO a v1 v2) p3.this
 have hb3 := p3.this
 have o13 := (o1.ext x1).ext x3
 have o23 := (o2.ext x1).ext x3
 have hx3 := x1.trans x3
 clear p3 h2 x2
 (repeat' first | ((with_reducible refine aJ ?_); go_step) | ((with_reducible refine aG ?_); first | refine aL ?_ | (refine aK ?_ ?_ <;> intro hc)) | fail)
 have sz3 := hx3.size
 have sz1 := x1.size
 refine cV 7 (Ext w3) (by decide +kernel) ?_
 intro w4 x4 _
 refine ⟨x4, ?_⟩
 refine iB 0 ?_; refine iB 1 ?_; refine iB 3 ?_; refine iB 4 ?_
 refine cD (i := 2) (by decide +kernel) rfl rfl ?_
 refine aR (enters_of Tryz.func94 rfl rfl) rfl rfl (qX v1 a.ans _ (o13.sl.ext x4) h1') ?_
 intro u1 w5 x5 n1
 refine aA ?_
 have x35 := x4.trans x5
 refine aP ⟨dN x35, ?_⟩
 refine iB 6 ?_
 refine cD (i := 5) (by decide +kernel) rfl rfl ?_
 refine aR (enters_of Tryz.func94 rfl rfl) rfl rfl (qX v2 a.auth _ (o23.sl.ext x35) h2') ?_
 intro u2 w6 x6 n2
 refine aA ?_
 have x36 := x35.trans x6
 refine aP ⟨dN x36, ?_⟩
 have n16 := n1.ext x6
 have hb6 : w6.heap[w1.heap.size]? = some (.cells (bO a v1 v2).toArray 33 (0, 0)) := x36.at hb3
 refine cD (i := 7) (by decide +kernel) rfl rfl ?_
 refine bA (n := 5) (v := u1) hb6 rfl rfl rfl (by simp [bO]) (by decide +kernel) n16.one ?_
 intro w7 p7
 refine aP ⟨cO rfl, ?_⟩
 refine cD (i := 8) (by decide +kernel) rfl rfl ?_
 ((with_reducible refine aG ?_); (first | (refine jX ?_; refine gZ ?_) | (refine lK ?_; refine nV ?_; (with_reducible refine aG ?_); refine jX ?_; refine gZ ?_)))
 refine aP ⟨cO rfl, ?_⟩
 refine cD (i := 9) (by decide +kernel) rfl rfl ?_
 refine bA (n := 6) (v := u2) p7.this rfl rfl rfl (by simp [bO]) (by decide +kernel) n2.one ?_
 intro w8 p8
 refine aP ⟨cO rfl, ?_⟩
 refine dX (by decide +kernel) ?_
 have hm := p7.mv.trans p8.mv
 have x8 : Ext w w8 := (hx3.trans x36).move hm (by rintro k ⟨⟩; omega)
 have hb8 : w8.heap[w1.heap.size]? = some (.cells (bO a u1 u2).toArray 33 (0, 0)) := p8.this
 have hp8 := aC (cs := bO a u1 u2) hb8
 have m1 := n16.mv hm (.inr (n16.neBlock hb6 (by decide)))
 have m2 := n2.mv hm (.inr (n2.neBlock hb6 (by decide)))
 (repeat' first | ((with_reducible refine aJ ?_); go_step) | ((with_reducible refine aG ?_); first | refine aL ?_ | (refine aK ?_ ?_ <;> intro hc)) | fail)
 refine aY (Runs.loadN hp8 rfl (show bN Tryz.prog 33 7 = true by decide +kernel)) ?_
 refine aA ?_
 have h18 := hm.at ((x3.trans x36).at h1) (by intro e; have := Option.some.inj e; omega)
 refine aD (v := .agg (bO a u1 u2).toArray) rfl rfl rfl h18 (show aM Tryz.prog 33 7 = true by decide +kernel) rfl (dQ m1.one m2.one) ?_
 intro w9 p9
 have x9 : Ext w w9 := x8.move p9.mv (by rintro k ⟨⟩; exact Nat.le_refl _)
 have k1 := m1.mv p9.mv (.inr (m1.neBlock h18 (by decide)))
 have k2 := m2.mv p9.mv (.inr (m2.neBlock h18 (by decide)))
 (repeat' first | ((with_reducible refine aJ ?_); go_step) | ((with_reducible refine aG ?_); first | refine aL ?_ | (refine aK ?_ ?_ <;> intro hc)) | fail)
 refine bodyPost_ret (cA (cs := bO a u1 u2) rfl rfl p9.this (show bN Tryz.prog 33 7 = true by decide +kernel)) rfl ⟨_, rfl, x9, ⟨⟨u1, u2, rfl, k1.weaken (Nat.zero_le _), k2.weaken (Nat.zero_le _)⟩⟩, _, _, _, _, h.grow x9⟩
theorem wU {B : Nat} {l : List Rec} {r : Value} {w' : World} (h : GroupO B l r w') : ∃ v, r = .tuple #[v, .int .i64 (jN l)] ∧ SetsO B w' v (if jN l = 0 then bJ l else []) := by
 by_cases h0 : jN l = 0
 ·obtain ⟨v, hv, hs⟩ := h.uni
  exact ⟨v, hv, by rw [if_pos h0]; exact hs h0⟩
 ·unfold GroupO at h
  rw [← yX, if_neg h0] at h
  exact ⟨_, h, by rw [if_neg h0]; exact SetsO.nil _ _⟩
theorem Sl.lt_block {k : Nat} {w : World} {a o n c : Nat} {s : Option Nat} {es : List (List Value)} (h : Sl (k + 1) w (.slice (some ⟨a, o, s⟩) n c) es) (hne : es ≠ []) : a < w.heap.size := by
 obtain ⟨a', cap, h1, h2, h3, h4, h5, h6⟩ := h
 obtain ⟨b, o', e1, hc⟩ := h6 hne
 rw [e1] at h1
 simp only [Value.slice.injEq, Option.some.injEq, Addr.mk.injEq] at h1
 cases es with
 | nil => exact absurd rfl hne
 | cons e es =>
  cases e with
  | nil => exact absurd (h4 [] (by simp)) (by simp)
  | cons x xs =>
   have := World.block_lt_of_cell? w _ (hc 0 (x :: xs) 0 x rfl rfl)
   rw [h1.1.1]
   exact this
def nM (s : LrnR) (x : Value) : List Value := [aE s.set.name, .int .i64 s.set.kind, .int .i64 s.set.ttl, x, .int .i64 s.rank]
def lM (x v : Value) : Prop := ∀ a o s n c, x = .slice (some ⟨a, o, s⟩) n c → v.ownBlock ≠ some a
structure LrnsV (B : Nat) (w : World) (v : Value) (l : List LrnR) : Prop where
 out : ∃ css, Own B 5 61 w v css ∧ css.length = l.length ∧ ∀ (i : Nat) (s : LrnR), l[i]? = some s → ∃ x, css[i]? = some (nM s x) ∧ Sl 1 w x (aI s.set.data) ∧ From B x ∧ (s.set.data ≠ [] → lM x v)
theorem LrnsV.nil (B : Nat) (w : World) : LrnsV B w (.slice none 0 0) [] := ⟨[], Own.nil _ _ _ _, rfl, by simp⟩
theorem LrnsV.ext {B : Nat} {w w' : World} {v : Value} {l : List LrnR} (h : LrnsV B w v l) (hx : Ext w w') : LrnsV B w' v l := by
 obtain ⟨css, h1, h2, h3⟩ := h
 exact ⟨css, h1.ext hx, h2, fun i s hi => let ⟨x, a, b, c, d⟩ := h3 i s hi; ⟨x, a, b.ext hx, c, d⟩⟩
def uQ (l : List Rec) : List RSet := if jN l = 0 then bJ l else []
theorem uR (l : List Rec) (rank : Int) : cF l rank = (uQ l).map fun s => ⟨s, rank⟩ := by
 unfold cF uQ
 split <;> rfl
set_option maxHeartbeats 2000000 in
theorem jV (v : Value) (l : List Rec) (rank : Int) (w : World) (hv : Sl 4 w v (aH l)) (hl : l.length ≤ 10000) : Calls Tryz.prog 47 #[v, .int .i64 rank] w (vD w fun r w' => LrnsV w.heap.size w' r (cF l rank)) := by
 rw [uR]
 have hG := EF v l
 go_enter Tryz.func47, Tryz.ntmps47
 (repeat' first | ((with_reducible refine aJ ?_); go_step) | ((with_reducible refine aG ?_); first | refine aL ?_ | (refine aK ?_ ?_ <;> intro hc)) | fail)
 refine aR (enters_of Tryz.func99 rfl rfl) rfl rfl (hG _ hv hl) ?_
 intro r w1 x1 hr
 obtain ⟨y, rfl, css, hs, hf, hc, hfc⟩ := wU hr
 refine aA ?_
 have hB := x1.size
 change SetsC w1 css (uQ l) at hc
 have hLl : (uQ l).length ≤ l.length := by
  unfold uQ
  split
  ·have := (fF l l.length (Nat.le_refl _)).1
   rw [List.take_length] at this
   exact this
  ·exact Nat.zero_le _
 generalize hLq : uQ l = L at *
 have hcl := hc.len
 (repeat' first | ((with_reducible refine aJ ?_); go_step) | ((with_reducible refine aG ?_); first | refine aL ?_ | (refine aK ?_ ?_ <;> intro hc)) | fail)
 go_loopw [7, 17] (fun o i wr => ∃ k : Nat, k ≤ css.length ∧ i = .int .i64 k ∧ Ext w1 wr ∧ Own w1.heap.size 5 61 wr o ((css.take k).map fun f => f ++ [.int .i64 rank])) (fun _ i _ => css.length - (intOf i).toNat)
 case atStart => exact ⟨0, Nat.zero_le _, rfl, Ext.refl _, by simpa using Own.nil _ _ _ _⟩
 case round =>
  obtain ⟨k, hk, rfl, hx, ho⟩ := hrel
  have hu2 := hs.ext hx
  by_cases hlt : k < css.length
  ·have hLk : k < L.length := by rw [← hc.len]; exact hlt
   obtain ⟨x, hx1, hsx⟩ := hc.at' k L[k] (List.getElem?_eq_getElem hLk)
   have hpe := hu2.elem hx1
   have hxo := hsx.one
   have hst : (css.take (k + 1)).map (fun f => f ++ [.int .i64 rank]) = (css.take k).map (fun f => f ++ [.int .i64 rank]) ++ [[aE L[k].name, .int .i64 L[k].kind, .int .i64 L[k].ttl, x, .int .i64 rank]] := by
    rw [List.take_succ_eq_append_getElem hlt, List.map_append]
    congr 1
    rw [List.getElem?_eq_getElem hlt] at hx1
    simp [Option.some.inj hx1]
   have hll : ((css.take k).map fun f => f ++ [Value.int .i64 rank]).length + 1 ≤ 1000000 := by
    rw [List.length_map, List.length_take]
    omega
   (repeat' first | ((with_reducible refine aJ ?_); go_step) | ((with_reducible refine aG ?_); first | refine aL ?_ | (refine aK ?_ ?_ <;> intro hc)) | fail)
   refine aF (z := CF) rfl (by decide +kernel) ?_
   intro w2 x2 s2 h2
   refine aA ?_
   refine aD (v := .agg #[aE L[k].name, .int .i64 L[k].kind, .int .i64 L[k].ttl, x]) rfl rfl rfl h2 (show aM Tryz.prog 59 4 = true by decide +kernel) rfl (mC rfl rfl rfl hxo) ?_
   intro w3 p3
   have x3 : Ext wr w3 := x2.move p3.mv (by rintro k ⟨⟩; exact Nat.le_refl _)
   have hp3 := aC (cs := [aE L[k].name, .int .i64 L[k].kind, .int .i64 L[k].ttl, x]) p3.this
   have ho3 := ho.ext x3
   have sz3 := (hx.trans x3).size
   clear p3 h2 x2 hpe
   (repeat' first | ((with_reducible refine aJ ?_); go_step) | ((with_reducible refine aG ?_); first | refine aL ?_ | (refine aK ?_ ?_ <;> intro hc)) | fail)
   refine aY (v := .agg (nM ⟨L[k], rank⟩ x).toArray) (Runs.build (vals := [(0, .agg #[aE L[k].name, .int .i64 L[k].kind, .int .i64 L[k].ttl, x]), (1, .int .i64 rank)]) rfl (by obtain ⟨_, _, _, rfl⟩ := hsx.slf; kernel_rfl)) ?_
   refine aA ?_
   refine BN (nM ⟨L[k], rank⟩ x) (hx.trans x3) ho3 hll ?_ (ElemIs.mk rfl rfl rfl (by simp [nM, hxo, show ∀ s, (aE s).oneCell' = true from fun _ => rfl, show ∀ n, (Value.int .i64 n).oneCell' = true from fun _ => rfl]))
   intro s5 v5 w5 w6 x5 m6 x6 o6
   refine aA ?_
   (repeat' first | ((with_reducible refine aJ ?_); go_step) | ((with_reducible refine aG ?_); first | refine aL ?_ | (refine aK ?_ ?_ <;> intro hc)) | fail)
   refine ⟨⟨k + 1, by omega, by go_num, x6, ?_⟩, by simp [intOf]; omega⟩
   rw [hst]
   exact o6
  ·have : k = css.length := by omega
   subst this
   rw [List.take_length] at ho
   (repeat' first | ((with_reducible refine aJ ?_); go_step) | ((with_reducible refine aG ?_); first | refine aL ?_ | (refine aK ?_ ?_ <;> intro hc)) | fail)
   go_ret
   refine ⟨_, rfl, x1.trans hx, ?_⟩
   rw [hLq]
   refine ⟨_, ho.weaken hB, by simp [hc.len], ?_⟩
   intro i s hi
   rw [List.getElem?_map] at hi
   obtain ⟨q, hq, rfl⟩ := Option.map_eq_some_iff.1 hi
   obtain ⟨x, hx1, hsx⟩ := hc.at' i q hq
   refine ⟨x, by rw [List.getElem?_map, hx1]; rfl, hsx.ext hx, hfc _ (List.mem_of_getElem? hx1) x (by simp), fun hne a o' s' n c e h2 => ?_⟩
   obtain ⟨h3, h4⟩ := ho.block a h2
   subst e
   have h5 := Sl.lt_block hsx (by simpa [aI] using hne)
   omega
theorem AC (n : Int) (w : World) : Calls Tryz.prog 56 #[.int .i64 n] w (bZ w (.bool (!(decide (0 ≤ n) && decide (n ≤ 99))))) := by
 go_enter Tryz.func56, Tryz.ntmps56
 (repeat' first | ((with_reducible refine aJ ?_); go_step) | ((with_reducible refine aG ?_); first | refine aL ?_ | (refine aK ?_ ?_ <;> intro hc)) | fail)
 refine aB (enters_of Tryz.func54 rfl rfl) rfl rfl (zB n 0 99 _) ?_; intro w1 x1; refine aA ?_
 (repeat' first | ((with_reducible refine aJ ?_); go_step) | ((with_reducible refine aG ?_); first | refine aL ?_ | (refine aK ?_ ?_ <;> intro hc)) | fail)
 go_ret
 exact ⟨rfl, x1⟩
def zC (f : FuncId) (l : List Int) (p : Int → Bool) : Prop := ∀ n ∈ l, ∀ w', Calls Tryz.prog f #[.int .i64 n] w' (bZ w' (.bool (p n)))
set_option maxHeartbeats 1000000 in
theorem pO (v : Value) (l : List Int) (f : FuncId) (p : Int → Bool) (w : World) (hv : Sl 1 w v (aZ l)) (he : Enters Tryz.prog f) (hf : zC f l p) : Calls Tryz.prog 105 #[v, .func (.func f) #[] #[]] w (bZ w (.int .i64 (nP p l))) := by
 have hle := hv.le
 have hlen : (aZ l).length = l.length := List.length_map ..
 go_enter Tryz.func105, Tryz.ntmps105
 (repeat' first | ((with_reducible refine aJ ?_); go_step) | ((with_reducible refine aG ?_); first | refine aL ?_ | (refine aK ?_ ?_ <;> intro hc)) | fail)
 go_loopw [5, 8] (fun _ i wr => ∃ k : Nat, k ≤ l.length ∧ i = .int .i64 k ∧ Ext w wr ∧ (l.take k).any p = false) (fun _ i _ => l.length - (intOf i).toNat)
 case atStart => exact ⟨0, Nat.zero_le _, rfl, Ext.refl _, rfl⟩
 case round =>
  obtain ⟨k, hk, rfl, hx, hall⟩ := hrel
  have hv2 := hv.ext hx
  by_cases hlt : k < l.length
  ·have hpe := hv2.elem (uH hlt)
   (repeat' first | ((with_reducible refine aJ ?_); go_step) | ((with_reducible refine aG ?_); first | refine aL ?_ | (refine aK ?_ ?_ <;> intro hc)) | fail)
   refine cP he rfl rfl rfl (hf _ (List.getElem_mem hlt) _) ?_
   rintro e w2 ⟨rfl, x2⟩
   refine ⟨_, rfl, ?_⟩
   refine aA ?_
   cases hp : p l[k] with
   | true =>
    (repeat' first | ((with_reducible refine aJ ?_); go_step) | ((with_reducible refine aG ?_); first | refine aL ?_ | (refine aK ?_ ?_ <;> intro hc)) | fail)
    go_ret
    exact ⟨by rw [wF hlt hall hp]; rfl, hx.trans x2⟩
   | false =>
    (repeat' first | ((with_reducible refine aJ ?_); go_step) | ((with_reducible refine aG ?_); first | refine aL ?_ | (refine aK ?_ ?_ <;> intro hc)) | fail)
    exact ⟨⟨k + 1, by omega, by go_num, hx.trans x2, qK hlt hall hp⟩, by simp [intOf]; omega⟩
  ·have : k = l.length := by omega
   subst this
   rw [List.take_length] at hall
   (repeat' first | ((with_reducible refine aJ ?_); go_step) | ((with_reducible refine aG ?_); first | refine aL ?_ | (refine aK ?_ ?_ <;> intro hc)) | fail)
   go_ret
   exact ⟨by rw [wG hall]; rfl, hx⟩
theorem lN (v : Value) (l : List Int) (f : FuncId) (p : Int → Bool) (w : World) (hv : Sl 1 w v (aZ l)) (he : Enters Tryz.prog f) (hf : zC f l p) : Calls Tryz.prog 55 #[v, .func (.func f) #[] #[]] w (bZ w (.bool (l.any p))) := by
 go_enter Tryz.func55, Tryz.ntmps55
 (repeat' first | ((with_reducible refine aJ ?_); go_step) | ((with_reducible refine aG ?_); first | refine aL ?_ | (refine aK ?_ ?_ <;> intro hc)) | fail)
 refine aB (enters_of Tryz.func105 rfl rfl) rfl rfl (pO v l f p _ hv he hf) ?_; intro w1 x1; refine aA ?_
 (repeat' first | ((with_reducible refine aJ ?_); go_step) | ((with_reducible refine aG ?_); first | refine aL ?_ | (refine aK ?_ ?_ <;> intro hc)) | fail)
 go_ret
 exact ⟨by rw [← xX]; rfl, x1⟩
set_option maxHeartbeats 1000000 in
theorem wV (v : Value) (l : List Int) (w : World) (hv : Sl 1 w v (aZ l)) (hl : l.length ≤ 1000000) : Calls Tryz.prog 58 #[v] w (vD w fun v' w' => Own w.heap.size 1 3 w' v' (aZ l)) := by
 have hlen : (aZ l).length = l.length := List.length_map ..
 go_enter Tryz.func58, Tryz.ntmps58
 (repeat' first | ((with_reducible refine aJ ?_); go_step) | ((with_reducible refine aG ?_); first | refine aL ?_ | (refine aK ?_ ?_ <;> intro hc)) | fail)
 ·have hn := ‹sP v = true›
  go_ret
  have : aZ l = [] := hv.isNil hn
  refine ⟨_, rfl, Ext.refl _, ?_⟩
  rw [this]
  exact Own.nil _ _ _ _
 ·refine mB (t := 45) (e := 3) (k := 1) (bytes := 8) (by decide +kernel) rfl ?_
  intro v2 w2 x2 s2 o2
  refine aA ?_
  (repeat' first | ((with_reducible refine aJ ?_); go_step) | ((with_reducible refine aG ?_); first | refine aL ?_ | (refine aK ?_ ?_ <;> intro hc)) | fail)
  refine iK (B := w.heap.size) (e := 3) (k := 1) (bytes := 8) (es := []) (fs := aZ l) rfl o2 rfl (hv.ext x2) (by decide +kernel) (by intro f hf u hu; obtain ⟨r, _, rfl⟩ := List.mem_map.1 hf; simp only [List.mem_cons, List.not_mem_nil, or_false] at hu; rcases hu with rfl; rfl) (by omega) (by simp; omega) (by simp; omega) ?_
  intro v3 w3 o3 m3
  have x3 := o2.mvx m3 x2 (Nat.le_refl _)
  refine aA ?_
  (repeat' first | ((with_reducible refine aJ ?_); go_step) | ((with_reducible refine aG ?_); first | refine aL ?_ | (refine aK ?_ ?_ <;> intro hc)) | fail)
  go_ret
  exact ⟨_, rfl, x3, o3⟩
end Go.Proofs.X
