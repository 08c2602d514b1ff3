/- Laws and walks that the proof of the statement is made of (part 17). -/
import Derived.Test.YtgljkfpcadempaaGreatP16
set_option linter.unusedSimpArgs false
set_option linter.unusedVariables false
namespace Go.Proofs.X
open Go.RowKit
set_option maxRecDepth 100000
def HP : MsgR := { zeroM with resp := true, rcode := 1 }
def mF (m : MsgR) (a : AnsR) : MsgR := { bareR m 0 with rcode := if a.kind = 2 then 3 else 0, auth := !decide (a.kind = 3), an := a.ans, au := a.auth, ex := a.extra }
def KK (m : MsgR) (h : HldR) (x : mJ) : MsgR := if h.up = false ∨ vJ h.o h.l x.1 ≠ 0 ∨ h.o ≠ fold h.org then bareR m 2 else mF m (zC h.o h.l x.1 x.2)
def bV (hs : List HldR) (m : MsgR) : MsgR :=
 if cL m ≠ 0 then HP else if m.resp = true then bareR m 1 else if m.op ≠ 0 then bareR m 4 else if m.qs.length ≠ 1 then bareR m 1
 else if m.qs.head!.2 = 252 ∨ m.qs.head!.2 = 251 then bareR m 4
 else match PD hs m.qs.head!.1 with
  | none => bareR m 5
  | some i => KK m hs[i]! m.qs.head!
theorem zT (n : List UInt8) : ∀ (l : List HldR) (k : Nat) (b : Option Nat) (most : Int) (i : Nat), zM n l k b most = some i → b = some i ∨ (k ≤ i ∧ i < k + l.length)
 | [], k, b, most, i, h => .inl h
 | x :: l, k, b, most, i, h => by
   unfold zM at h
   split at h
   ·rcases zT n l (k + 1) _ _ i h with e | e
    ·cases e
     exact .inr ⟨by omega, by simp⟩
    ·exact .inr ⟨by omega, by simp; omega⟩
   ·rcases zT n l (k + 1) _ _ i h with e | e
    ·exact .inl e
    ·exact .inr ⟨by omega, by simp; omega⟩
theorem OU {hs : List HldR} {n : List UInt8} {i : Nat} (h : PD hs n = some i) : i < hs.length := by
 rcases zT n hs 0 none (-1) i h with e | e
 ·cases e
 ·omega
structure MsgW (B : Nat) (w : World) (m : MsgR) (q a u e : Value) : Prop where
 oq : Own B 2 54 w q (cH m.qs)
 oa : Own B 4 106 w a (aR m.an)
 ou : Own B 4 106 w u (aR m.au)
 oe : Own B 4 106 w e (aR m.ex)
theorem MsgW.msg {B : Nat} {w : World} {m : MsgR} {q a u e : Value} (h : MsgW B w m q a u e) : MsgV w m q a u e := ⟨h.oq.sl, h.oa.sl, h.ou.sl, h.oe.sl⟩
theorem MsgW.ext {B : Nat} {w w' : World} {m : MsgR} {q a u e : Value} (h : MsgW B w m q a u e) (x : Ext w w') : MsgW B w' m q a u e := ⟨h.oq.ext x, h.oa.ext x, h.ou.ext x, h.oe.ext x⟩
theorem MsgW.weaken {B C : Nat} {w : World} {m : MsgR} {q a u e : Value} (h : MsgW B w m q a u e) (x : C ≤ B) : MsgW C w m q a u e := ⟨h.oq.weaken x, h.oa.weaken x, h.ou.weaken x, h.oe.weaken x⟩
theorem MsgW.box {B b : Nat} {w w' : World} {m : MsgR} {q a u e : Value} {cs : Array Value} {fz : Nat × Nat} (h : MsgW B w m q a u e) (hb : w.heap[b]? = some (.cells cs 26 fz)) (hm : Mv (some b) w w') : MsgW B w' m q a u e :=
 ⟨h.oq.mv hm (.inr (h.oq.neBlock hb (by decide))), h.oa.mv hm (.inr (h.oa.neBlock hb (by decide))), h.ou.mv hm (.inr (h.ou.neBlock hb (by decide))), h.oe.mv hm (.inr (h.oe.neBlock hb (by decide)))⟩
def OV (w : World) (M : MsgR) : Value → World → Prop := fun r w' => ∃ q a u e, r = .agg (aV M q a u e).toArray ∧ MsgW w.heap.size w' M q a u e
set_option maxHeartbeats 4000000 in
theorem qS (v : Value) (hs : List HldR) (m : MsgR) (q a u e : Value) (w : World) (hv : HldsAt w v hs) (hm : MsgV w m q a u e) (hl : hs.length ≤ 1000) (hb : ∀ h ∈ hs, ∀ s ∈ h.l, s.data.length ≤ 1000000) : Calls Tryz.prog 13 #[v, .agg (aV m q a u e).toArray] w (sX w (OV w (bV hs m))) := by
 obtain ⟨css, hsl, hcl⟩ := hv.sl
 go_enter Tryz.func13, Tryz.ntmps13
 repeat' (first | ((with_reducible refine aJ ?_); go_step) | fail)
 refine fF (vs := aV m q a u e) rfl rfl ?_
 intro w1 x1 s1 hb1
 refine aA ?_
 refine aN (z := fM) rfl (by decide +kernel) ?_
 intro w2 x2 s2 hz2
 refine aA ?_
 have x02 := x1.trans x2
 have hpM := aD (cs := aV m q a u e) (x2.at hb1)
 unfold aV at hpM
 have hm2 := hm.ext x02
 (repeat' first | ((with_reducible refine aJ ?_); go_step) | ((with_reducible refine aH ?_); first | refine aW ?_ | (refine aK ?_ ?_ <;> intro hc)) | fail)
 refine aE (enters_of Tryz.func21 rfl rfl) rfl rfl (vU m q a u e _ hm2) ?_; intro w3 x3; refine aA ?_
 have x03 := x02.trans x3
 have hz3 := x3.at hz2
 have hm3 := hm2.ext x3
 have hpM := hpM.ext x3
 by_cases cc : cL m = 0
 ·have hok := nK cc
  have hlq : m.qs.length ≤ 1000 := by have := hok.ql; omega
  have hql := cB m.qs
  cases cr : m.resp with
  | true =>
   have hR : bV hs m = bareR m 1 := by unfold bV; rw [if_neg (by simpa using cc), if_pos cr]
   rw [cr] at hpM
   (repeat' first | ((with_reducible refine aJ ?_); go_step) | ((with_reducible refine aH ?_); first | refine aW ?_ | (refine aK ?_ ?_ <;> intro hc)) | fail)
   all_goals first
    | (exfalso; omega)
    | (exfalso; rename_i hz9; simp at hz9; omega)
    | (exfalso; simp_all; done)
    | skip
   rw [← cr]
   refine aT (enters_of Tryz.func29 rfl rfl) rfl rfl (kN m q a u e 1 _ (hm3) hlq) ?_
   intro _ wb xb ⟨qb, er, ob⟩
   subst er
   refine aA ?_
   have hmb : MsgV wb (bareR m 1) qb aP aP aP := ⟨ob.sl, Sl.nil _ _, Sl.nil _ _, Sl.nil _ _⟩
   have hzb := xb.at hz3
   refine aG (v := .agg (aV (bareR m 1) qb aP aP aP).toArray) rfl rfl rfl hzb (show aZ Tryz.prog 26 13 = true by decide +kernel) rfl (cM hmb) ?_
   intro wc pc
   have xc : Ext w wc := ((x03).trans xb).move pc.mv (by rintro k ⟨⟩; exact x1.size)
   (repeat' first | ((with_reducible refine aJ ?_); go_step) | ((with_reducible refine aH ?_); first | refine aW ?_ | (refine aK ?_ ?_ <;> intro hc)) | fail)
   refine bodyPost_ret (cG (cs := aV (bareR m 1) qb aP aP aP) rfl rfl pc.this (show dY Tryz.prog 26 13 = true by decide +kernel)) rfl ⟨_, rfl, xc, qb, aP, aP, aP, by rw [hR], ?_⟩
   rw [hR]
   exact ⟨(ob.mv pc.mv (.inr (ob.neBlock hzb (by decide)))).weaken (x03).size, Own.nil _ _ _ _, Own.nil _ _ _ _, Own.nil _ _ _ _⟩
  | false =>
   have hR0 : bV hs m = _ := rfl
   conv at hR0 => rhs; unfold bV; rw [if_neg (by simpa using cc), if_neg (by rw [cr]; decide)]
   rw [cr] at hpM
   by_cases co : m.op = 0
   ·rw [if_neg (by simpa using co)] at hR0
    have hq3 := hm3.qs
    by_cases c1 : m.qs.length = 1
    ·rw [if_neg (by simpa using c1)] at hR0
     obtain ⟨⟨xn, xk⟩, hx1⟩ : ∃ x, m.qs = [x] := List.length_eq_one_iff.1 c1
     have hxh : m.qs.head! = (xn, xk) := by rw [hx1]; rfl
     rw [hxh] at hR0
     dsimp only at hR0
     have hqe := hq3.elem (i := 0) (e := [aI xn, .int .i64 xk]) (by rw [hx1]; rfl)
     (repeat' first | ((with_reducible refine aJ ?_); go_step) | ((with_reducible refine aH ?_); first | refine aW ?_ | (refine aK ?_ ?_ <;> intro hc)) | fail)
     all_goals first
      | (exfalso; omega)
      | (exfalso; rename_i hz9; simp at hz9; omega)
      | (exfalso; simp_all; done)
      | skip
     refine aN (z := [aI [], .int .i64 0]) rfl (by decide +kernel) ?_
     intro w4 x4 s4 h4
     refine aA ?_
     refine aG (v := .agg #[aI xn, .int .i64 xk]) rfl rfl rfl h4 (show aZ Tryz.prog 54 2 = true by decide +kernel) rfl (OT rfl rfl) ?_
     intro w5 p5
     have x5 : Ext w3 w5 := x4.move p5.mv (by rintro k ⟨⟩; exact Nat.le_refl _)
     have hpx := aD (cs := [aI xn, .int .i64 xk]) p5.this
     have hpM := hpM.ext x5
     have hm5 := hm3.ext x5
     have hz5 := x5.at hz3
     have x05 := x03.trans x5
     clear p5 h4 x4 hqe
     generalize w3.heap.size = c at *
     by_cases ct : xk = 252 ∨ xk = 251
     ·have hR : bV hs m = bareR m 4 := by rw [hR0, if_pos ct]
      (repeat' first | ((with_reducible refine aJ ?_); go_step) | ((with_reducible refine aH ?_); first | refine aW ?_ | (refine aK ?_ ?_ <;> intro hc)) | fail)
      all_goals first
       | (exfalso; omega)
       | skip
      all_goals rw [← cr]
      all_goals refine aT (enters_of Tryz.func29 rfl rfl) rfl rfl (kN m q a u e 4 _ (hm5) hlq) ?_
      all_goals intro _ wb xb ⟨qb, er, ob⟩
      all_goals subst er
      all_goals refine aA ?_
      all_goals have hmb : MsgV wb (bareR m 4) qb aP aP aP := ⟨ob.sl, Sl.nil _ _, Sl.nil _ _, Sl.nil _ _⟩
      all_goals have hzb := xb.at hz5
      all_goals refine aG (v := .agg (aV (bareR m 4) qb aP aP aP).toArray) rfl rfl rfl hzb (show aZ Tryz.prog 26 13 = true by decide +kernel) rfl (cM hmb) ?_
      all_goals intro wc pc
      all_goals have xc : Ext w wc := ((x05).trans xb).move pc.mv (by rintro k ⟨⟩; exact x1.size)
      all_goals (repeat' first | ((with_reducible refine aJ ?_); go_step) | ((with_reducible refine aH ?_); first | refine aW ?_ | (refine aK ?_ ?_ <;> intro hc)) | fail)
      all_goals refine bodyPost_ret (cG (cs := aV (bareR m 4) qb aP aP aP) rfl rfl pc.this (show dY Tryz.prog 26 13 = true by decide +kernel)) rfl ⟨_, rfl, xc, qb, aP, aP, aP, by rw [hR], ?_⟩
      all_goals rw [hR]
      all_goals exact ⟨(ob.mv pc.mv (.inr (ob.neBlock hzb (by decide)))).weaken (x05).size, Own.nil _ _ _ _, Own.nil _ _ _ _, Own.nil _ _ _ _⟩
     ·rw [if_neg ct] at hR0
      (repeat' first | ((with_reducible refine aJ ?_); go_step) | ((with_reducible refine aH ?_); first | refine aW ?_ | (refine aK ?_ ?_ <;> intro hc)) | fail)
      all_goals first
       | (exfalso; omega)
       | skip
      refine aE (enters_of Tryz.func30 rfl rfl) rfl rfl (RO v hs xn _ (hv.ext x05) hl) ?_; intro w6 x6; refine aA ?_
      have hpM := hpM.ext x6
      have hpx := hpx.ext x6
      have hm6 := hm5.ext x6
      have hz6 := x6.at hz5
      have x06 := x05.trans x6
      cases hof : PD hs xn with
      | none =>
       rw [hof] at hR0
       have hR : bV hs m = bareR m 5 := hR0
       (repeat' first | ((with_reducible refine aJ ?_); go_step) | ((with_reducible refine aH ?_); first | refine aW ?_ | (refine aK ?_ ?_ <;> intro hc)) | fail)
       rw [← cr]
       refine aT (enters_of Tryz.func29 rfl rfl) rfl rfl (kN m q a u e 5 _ (hm6) hlq) ?_
       intro _ wb xb ⟨qb, er, ob⟩
       subst er
       refine aA ?_
       have hmb : MsgV wb (bareR m 5) qb aP aP aP := ⟨ob.sl, Sl.nil _ _, Sl.nil _ _, Sl.nil _ _⟩
       have hzb := xb.at hz6
       refine aG (v := .agg (aV (bareR m 5) qb aP aP aP).toArray) rfl rfl rfl hzb (show aZ Tryz.prog 26 13 = true by decide +kernel) rfl (cM hmb) ?_
       intro wc pc
       have xc : Ext w wc := ((x06).trans xb).move pc.mv (by rintro k ⟨⟩; exact x1.size)
       (repeat' first | ((with_reducible refine aJ ?_); go_step) | ((with_reducible refine aH ?_); first | refine aW ?_ | (refine aK ?_ ?_ <;> intro hc)) | fail)
       refine bodyPost_ret (cG (cs := aV (bareR m 5) qb aP aP aP) rfl rfl pc.this (show dY Tryz.prog 26 13 = true by decide +kernel)) rfl ⟨_, rfl, xc, qb, aP, aP, aP, by rw [hR], ?_⟩
       rw [hR]
       exact ⟨(ob.mv pc.mv (.inr (ob.neBlock hzb (by decide)))).weaken (x06).size, Own.nil _ _ _ _, Own.nil _ _ _ _, Own.nil _ _ _ _⟩
      | some i =>
       rw [hof] at hR0
       dsimp only at hR0
       have hil := OU hof
       have hbang : hs[i]! = hs[i] := getElem!_pos hs i hil
       rw [hbang] at hR0
       obtain ⟨y, hel, hsy⟩ := (hv.ext x06).elem (List.getElem?_eq_getElem hil)
       have hbi := hb _ (List.getElem_mem hil)
       generalize hs[i] = H at *
       obtain ⟨ep, hep⟩ : ∃ ep, RM v (some i) = ep := ⟨_, rfl⟩
       have hep2 : dI v (i * 4) = ep := hep
       rw [hep]
       rw [hep2] at hel
       obtain ⟨pb, po, hpe⟩ : ∃ pb po, ep = .pointer (some ⟨pb, po, none⟩) := by obtain ⟨b, o, h, _⟩ := hel.out; exact ⟨b, o, h⟩
       subst hpe
       (repeat' first | ((with_reducible refine aJ ?_); go_step) | ((with_reducible refine aH ?_); first | refine aW ?_ | (refine aK ?_ ?_ <;> intro hc)) | fail)
       have hH : KK m H (xn, xk) = if H.up = false ∨ vJ H.o H.l xn ≠ 0 ∨ H.o ≠ fold H.org then bareR m 2 else mF m (zC H.o H.l xn xk) := rfl
       rw [hH] at hR0
       have hcA : ∀ w', Ext w6 w' → Calls Tryz.prog 31 #[.agg #[aI H.o, y], .agg #[aI xn, .int .i64 xk]] w' (sX w' fun r w3 => ∃ z, r = .tuple #[z, .int .i64 (vJ H.o H.l xn)] ∧ AnsO w'.heap.size (zC H.o H.l xn xk) z w3) := fun w' x' => QC H.o y H.l xn xk w' (hsy.ext x') hbi
       generalize vJ H.o H.l xn = E at *
       generalize zC H.o H.l xn xk = A at *
       have hel0 : Pts w6 (dC (.pointer (some ⟨pb, po, none⟩)) 0) [aI H.o, y] := (hel.front 2).part 0
       refine dU (S := fun w' => Ext w6 w') (by decide +kernel) ?_
       intro w21 x21 hh21
       refine pN 0 ?_; refine aA ?_; refine pN 1 ?_; refine aA ?_; refine pN 2 ?_; refine aA ?_; refine pN 3 ?_; refine aA ?_; refine pN 4 ?_; refine aA ?_
       refine LB 5 6 7 8 9 10 61 55 62 63 7 (fun b1 b2 b3 b4 b5 b6 => (!b2 || b1) && (!b3 || b2) && (!b4 || b2) && (!b6 || b1) && (!b6 || b3) && (!b6 || b5)) (fun b1 b2 b3 b4 b5 b6 => !b2 && !b6) (fun b1 b2 b3 b4 b5 b6 => b1 && !b3 && !b4) (fun b1 b2 b3 b4 b5 b6 => b2 && !b6) (fun b1 b2 b3 b4 b5 b6 => b2) (fun b1 b2 b3 b4 b5 b6 => !b6) (fun b1 b2 b3 b4 b5 b6 => b1 && b3 && b5) (fun b1 b2 b3 b4 b5 b6 v1 v2 v3 v4 v5 w' => ∃ u1 u2 u3 zk, Ext w6 w' ∧ (b1 = true → v1 = .tuple #[.agg #[.int .i64 A.kind, u1, u2, u3], .int .i64 E] ∧ Own w6.heap.size 4 106 w' u1 (aR A.ans) ∧ Own w6.heap.size 4 106 w' u2 (aR A.auth) ∧ Own w6.heap.size 4 106 w' u3 (aR A.extra)) ∧ (b2 = true → v2 = .tuple #[.agg #[.int .i64 A.kind, u1, u2, u3], .int .i64 E]) ∧ (b3 = true → v3 = .agg #[.int .i64 A.kind, u1, u2, u3]) ∧ (b4 = true → v4 = .int .i64 E) ∧ (b5 = true → v5 = .pointer (some ⟨zk, 0, none⟩) ∧ w6.heap.size ≤ zk ∧ w'.heap[zk]? = some (.cells (bif b6 then [.int .i64 A.kind, u1, u2, u3] else vO).toArray 71 (0, 0)))) ?_ ?_ ?_ ?_ ?_ ?_ ?_ ?_
       ·exact ⟨undef, undef, undef, 0, x21, by simp, by simp, by simp, by simp, by simp⟩
       ·rintro b1 b2 b3 b4 b5 b6 v1 v2 v3 v4 v5 w2 hq ⟨u1, u2, u3, zk, x2, f1, f2, f3, f4, f5⟩
        have hb2 : b2 = false := by revert hq; cases b2 <;> simp
        have hb6 : b6 = false := by revert hq; cases b6 <;> simp
        have hb3 : b3 = false := by revert hq; subst hb2; cases b3 <;> simp
        have hb4 : b4 = false := by revert hq; subst hb2; cases b4 <;> simp
        subst hb2 hb3 hb4 hb6
        refine aA ?_
        refine aT (enters_of Tryz.func31 rfl rfl) rfl rfl (hcA _ x2) ?_
        rintro _ w3 x3 ⟨z, rfl, u1', u2', u3', rfl, o1, o2, o3⟩
        refine aA ?_
        refine aL ⟨x2.trans x3, _, rfl, u1', u2', u3', zk, x2.trans x3, fun _ => ⟨rfl, o1.weaken x2.size, o2.weaken x2.size, o3.weaken x2.size⟩, by simp, by simp, by simp, fun e => ?_⟩
        obtain ⟨g1, g2, g3⟩ := f5 e
        exact ⟨g1, g2, x3.at g3⟩
       ·rintro b1 b2 b3 b4 b5 b6 v1 v2 v3 v4 v5 w2 hq ⟨u1, u2, u3, zk, x2, f1, f2, f3, f4, f5⟩
        have hb1 : b1 = true := by revert hq; cases b1 <;> simp
        have hb3 : b3 = false := by revert hq; cases b3 <;> simp
        have hb4 : b4 = false := by revert hq; cases b4 <;> simp
        subst hb1 hb3 hb4
        obtain ⟨rfl, g1⟩ := f1 rfl
        refine aA ?_
        ((with_reducible refine aH ?_); (first | (refine iL ?_; refine fL ?_) | (refine mG ?_; refine nQ ?_; (with_reducible refine aH ?_); refine iL ?_; refine fL ?_)))
        refine aL ⟨x2, _, rfl, u1, u2, u3, zk, x2, fun _ => ⟨rfl, g1⟩, fun _ => rfl, by simp, by simp, f5⟩
       ·rintro b1 b2 b3 b4 b5 b6 v1 v2 v3 v4 v5 w2 hq ⟨u1, u2, u3, zk, x2, f1, f2, f3, f4, f5⟩
        have hb2 : b2 = true := by revert hq; cases b2 <;> simp
        have hb6 : b6 = false := by revert hq; cases b6 <;> simp
        subst hb2 hb6
        have g2 := f2 rfl
        subst g2
        refine aA ?_
        ((with_reducible refine aH ?_); (first | (refine iL ?_; refine fL ?_) | (refine mG ?_; refine nQ ?_; (with_reducible refine aH ?_); refine iL ?_; refine fL ?_)))
        refine aL ⟨x2, _, rfl, u1, u2, u3, zk, x2, f1, fun _ => rfl, fun _ => rfl, f4, f5⟩
       ·rintro b1 b2 b3 b4 b5 b6 v1 v2 v3 v4 v5 w2 hq ⟨u1, u2, u3, zk, x2, f1, f2, f3, f4, f5⟩
        have hb2 : b2 = true := by revert hq; cases b2 <;> simp
        subst hb2
        have g2 := f2 rfl
        subst g2
        refine aA ?_
        ((with_reducible refine aH ?_); (first | (refine iL ?_; refine fL ?_) | (refine mG ?_; refine nQ ?_; (with_reducible refine aH ?_); refine iL ?_; refine fL ?_)))
        refine aL ⟨x2, _, rfl, u1, u2, u3, zk, x2, f1, fun _ => rfl, f3, fun _ => rfl, f5⟩
       ·rintro b1 b2 b3 b4 b5 b6 v1 v2 v3 v4 v5 w2 hq ⟨u1, u2, u3, zk, x2, f1, f2, f3, f4, f5⟩
        have hb6 : b6 = false := by revert hq; cases b6 <;> simp
        subst hb6
        refine aA ?_
        refine aN (z := vO) rfl (by decide +kernel) ?_
        intro w3 x3 s3 h3
        refine aA ?_
        refine aL ⟨x2.trans x3, _, rfl, u1, u2, u3, _, x2.trans x3, fun e => ?_, f2, f3, f4, fun _ => ⟨rfl, x2.size, h3⟩⟩
        obtain ⟨g1, g2, g3, g4⟩ := f1 e
        exact ⟨g1, g2.ext x3, g3.ext x3, g4.ext x3⟩
       ·rintro b1 b2 b3 b4 b5 b6 v1 v2 v3 v4 v5 w2 hq ⟨u1, u2, u3, zk, x2, f1, f2, f3, f4, f5⟩
        have hb1 : b1 = true := by revert hq; cases b1 <;> simp
        have hb3 : b3 = true := by revert hq; cases b3 <;> simp
        have hb5 : b5 = true := by revert hq; cases b5 <;> simp
        subst hb1 hb3 hb5
        have g3 := f3 rfl
        subst g3
        obtain ⟨rfl, g5, g6⟩ := f5 rfl
        obtain ⟨e1, o1, o2, o3⟩ := f1 rfl
        refine aA ?_
        refine aG (v := .agg #[.int .i64 A.kind, u1, u2, u3]) rfl rfl rfl g6 (show aZ Tryz.prog 71 4 = true by decide +kernel) rfl (iV rfl o1.one o2.one o3.one) ?_
        intro w3 p3
        have x3 : Ext w6 w3 := x2.move p3.mv (by rintro k ⟨⟩; exact g5)
        refine aL ⟨x3, rfl, u1, u2, u3, zk, x3, fun _ => ⟨e1, o1.mv p3.mv (.inr (o1.neBlock g6 (by decide))), o2.mv p3.mv (.inr (o2.neBlock g6 (by decide))), o3.mv p3.mv (.inr (o3.neBlock g6 (by decide)))⟩, f2, fun _ => rfl, f4, fun _ => ⟨rfl, g5, p3.this⟩⟩
       ·rintro v1 v2 v3 v4 v5 w9 ⟨u1, u2, u3, zk, x9, f1, f2, f3, f4, f5⟩
        obtain ⟨g1, o1, o2, o3⟩ := f1 rfl
        have k2 := f2 rfl
        have k3 := f3 rfl
        have k4 := f4 rfl
        obtain ⟨k5, k6, k7⟩ := f5 rfl
        clear f1 f2 f3 f4 f5
        subst g1 k2 k3 k4 k5
        refine aA ?_
        refine pN 11 ?_; refine aA ?_
        refine dR (by decide +kernel) ?_
        have k7' : w9.heap[zk]? = some (.cells [.int .i64 A.kind, u1, u2, u3].toArray 71 (0, 0)) := k7
        have hpa := aD (cs := [.int .i64 A.kind, u1, u2, u3]) k7'
        have hpM := hpM.ext x9
        have hel := hel.ext x9
        have hm9 := hm6.ext x9
        have hz9 := x9.at hz6
        have x09 := x06.trans x9
        clear k7 hcA hpx x21 hh21
        clear hel0
        have hcF : ∀ w', Calls Tryz.prog 32 #[aI H.org] w' (bS w' (aI (fold H.org))) := fun w' => IK H.org w'
        (repeat' first | ((with_reducible refine aJ ?_); go_step) | ((with_reducible refine aH ?_); first | refine aW ?_ | (refine aK ?_ ?_ <;> intro hc)) | fail)
        cases hup : H.up with
        | false =>
         rw [hup] at hel hR0
         rw [if_pos (.inl rfl)] at hR0
         refine fN (by decide +kernel) (by decide +kernel) ?_
         (try ((with_reducible refine AI ?_); refine MS ?_))
         intro w10 x10
         have hpM := hpM.ext x10
         (repeat' first | ((with_reducible refine aJ ?_); go_step) | ((with_reducible refine aH ?_); first | refine aW ?_ | (refine aK ?_ ?_ <;> intro hc)) | fail)
         rw [← cr]
         refine aT (enters_of Tryz.func29 rfl rfl) rfl rfl (kN m q a u e 2 _ (hm9.ext x10) hlq) ?_
         intro _ wb xb ⟨qb, er, ob⟩
         subst er
         refine aA ?_
         have hmb : MsgV wb (bareR m 2) qb aP aP aP := ⟨ob.sl, Sl.nil _ _, Sl.nil _ _, Sl.nil _ _⟩
         have hzb := xb.at (x10.at hz9)
         refine aG (v := .agg (aV (bareR m 2) qb aP aP aP).toArray) rfl rfl rfl hzb (show aZ Tryz.prog 26 13 = true by decide +kernel) rfl (cM hmb) ?_
         intro wc pc
         have xc : Ext w wc := ((x09.trans x10).trans xb).move pc.mv (by rintro k ⟨⟩; exact x1.size)
         (repeat' first | ((with_reducible refine aJ ?_); go_step) | ((with_reducible refine aH ?_); first | refine aW ?_ | (refine aK ?_ ?_ <;> intro hc)) | fail)
         refine bodyPost_ret (cG (cs := aV (bareR m 2) qb aP aP aP) rfl rfl pc.this (show dY Tryz.prog 26 13 = true by decide +kernel)) rfl ⟨_, rfl, xc, qb, aP, aP, aP, by rw [hR0], ?_⟩
         rw [hR0]
         exact ⟨(ob.mv pc.mv (.inr (ob.neBlock hzb (by decide)))).weaken (x09.trans x10).size, Own.nil _ _ _ _, Own.nil _ _ _ _, Own.nil _ _ _ _⟩
        | true =>
         rw [hup] at hel hR0
         by_cases hE0 : E = 0
         ·refine fN (by decide +kernel) (by decide +kernel) ?_
          (try ((with_reducible refine AI ?_); refine MS ?_))
          rw [show (!decide (E = 0)) = false by rw [hE0]; rfl]
          (try ((with_reducible refine AI ?_); refine MS ?_))
          refine oY (enters_of Tryz.func32 rfl rfl) rfl rfl (fun w' x' => hcF w') ?_
          refine aA ?_
          (try ((with_reducible refine AI ?_); refine MS ?_))
          intro w10 x10
          have hpM := hpM.ext x10
          have hpa := hpa.ext x10
          have hm10 := hm9.ext x10
          have hz10 := x10.at hz9
          have x010 := x09.trans x10
          by_cases ho : H.o = fold H.org
          ·rw [if_neg (by rintro (h | h | h); cases h; exact h hE0; exact h ho)] at hR0
           (repeat' first | ((with_reducible refine aJ ?_); go_step) | ((with_reducible refine aH ?_); first | refine aW ?_ | (refine aK ?_ ?_ <;> intro hc)) | fail)
           all_goals first
            | (exfalso; have hh9 := ‹(!decide (H.o = fold H.org)) = true›; rw [decide_eq_true ho] at hh9; cases hh9; done)
            | skip
           rw [← cr]
           refine aT (enters_of Tryz.func29 rfl rfl) rfl rfl (kN m q a u e 0 _ hm10 hlq) ?_
           intro _ wb xb ⟨qb, er, ob⟩
           subst er
           refine aA ?_
           refine aN (z := fM) rfl (by decide +kernel) ?_
           intro w11 x11 s11 h11
           refine aA ?_
           have hmb : MsgV w11 (bareR m 0) qb aP aP aP := ⟨(ob.ext x11).sl, Sl.nil _ _, Sl.nil _ _, Sl.nil _ _⟩
           refine aG (v := .agg (aV (bareR m 0) qb aP aP aP).toArray) rfl rfl rfl h11 (show aZ Tryz.prog 26 13 = true by decide +kernel) rfl (cM hmb) ?_
           intro w12 p12
           have x12 : Ext wb w12 := x11.move p12.mv (by rintro k ⟨⟩; exact Nat.le_refl _)
           have hB : w12.heap[wb.heap.size]? = some (.cells (aV (bareR m 0) qb aP aP aP).toArray 26 (0, 0)) := p12.this
           have x9b : Ext w9 w12 := x10.trans (xb.trans x12)
           have ob12 := ob.ext x12
           have q1 := o1.one
           have q2 := o2.one
           have q3 := o3.one
           have hza10 := x10.at k7'
           have hzkl := (Array.getElem?_eq_some_iff.1 hza10).1
           have x10b := xb.trans x12
           have hBB : w10.heap.size ≤ wb.heap.size := xb.size
           have hpa0 := hpa
           have hpa := hpa.ext x10b
           clear p12 h11 x11 hmb hpM
           have hzB : some zk ≠ some wb.heap.size := by intro e9; have := Option.some.inj e9; omega
           generalize wb.heap.size = BB at *
           have hpB := aD (cs := aV (bareR m 0) qb aP aP aP) hB
           unfold aV bareR at hpB
           by_cases k2 : A.kind = 2
           ·(repeat' first | ((with_reducible refine aJ ?_); go_step) | ((with_reducible refine aH ?_); first | refine aW ?_ | (refine aK ?_ ?_ <;> intro hc)) | fail)
            all_goals first
             | (exfalso; omega)
             | skip
            refine aO (n := 7) (v := .int .i64 3) hB rfl rfl rfl (by simp [aV]) (by decide +kernel) rfl ?_
            intro w13 p13
            have x13 : Ext w10 w13 := x10b.move p13.mv (by rintro k ⟨⟩; exact hBB)
            have hB13 : w13.heap[BB]? = some (.cells [.int .i64 m.id, .bool true, .int .i64 m.op, .bool false, .bool false, .bool m.want, .bool false, .int .i64 3, qb, aP, aP, aP, .int .i64 (if m.size = 0 then 0 else 1232)].toArray 26 (0, 0)) := p13.this
            have ob13 := ob12.mv p13.mv (.inr (ob12.neBlock hB (by decide)))
            clear hpB hpa
            have hpa := hpa0.ext x13
            have hpB := True.intro
            (repeat' first | ((with_reducible refine aJ ?_); go_step) | ((with_reducible refine aH ?_); first | refine aW ?_ | (refine aK ?_ ?_ <;> intro hc)) | fail)
            refine aO (n := 3) (v := .bool (!decide (A.kind = 3))) hB13 rfl rfl rfl (by simp [aV]) (by decide +kernel) rfl ?_
            intro w14 p14
            have x14 : Ext w10 w14 := (x13).move p14.mv (by rintro k ⟨⟩; exact hBB)
            have hB14 : w14.heap[BB]? = some (.cells [.int .i64 m.id, .bool true, .int .i64 m.op, .bool (!decide (A.kind = 3)), .bool false, .bool m.want, .bool false, .int .i64 3, qb, aP, aP, aP, .int .i64 (if m.size = 0 then 0 else 1232)].toArray 26 (0, 0)) := p14.this
            have ob14 := (ob13).mv p14.mv (.inr ((ob13).neBlock hB13 (by decide)))
            clear hpB
            have hpa := hpa0.ext x14
            (repeat' first | ((with_reducible refine aJ ?_); go_step) | ((with_reducible refine aH ?_); first | refine aW ?_ | (refine aK ?_ ?_ <;> intro hc)) | fail)
            refine cA 11 (fun w' => Pts w' (.pointer (some ⟨zk, 0, none⟩)) [.int .i64 A.kind, u1, u2, u3]) (by decide +kernel) ?_
            intro w15 x15 _
            have hza15 := x15.at (x14.at hza10)
            have hB15 := x15.at hB14
            have x105 := x14.trans x15
            have ob15 := ob14.ext x15
            refine ⟨aD (cs := [.int .i64 A.kind, u1, u2, u3]) hza15, ?_⟩
            refine dF 0 ?_; refine dF 1 ?_; refine dF 2 ?_; refine dF 3 ?_; refine dF 4 ?_; refine dF 5 ?_
            refine HV 6 ?_
            refine bJ (i := 7) (by decide +kernel) rfl rfl ?_
            refine aO (n := 9) (v := u1) hB15 rfl rfl rfl (by simp) (by decide +kernel) q1 ?_
            intro w16 p16
            have hza16 := p16.mv.at hza15 hzB
            have hB16 : w16.heap[BB]? = some (.cells [.int .i64 m.id, .bool true, .int .i64 m.op, .bool (!decide (A.kind = 3)), .bool false, .bool m.want, .bool false, .int .i64 3, qb, u1, aP, aP, .int .i64 (if m.size = 0 then 0 else 1232)].toArray 26 (0, 0)) := p16.this
            have x16 : Ext w10 w16 := x105.move p16.mv (by rintro k ⟨⟩; exact hBB)
            have ob16 := ob15.mv p16.mv (.inr (ob15.neBlock hB15 (by decide)))
            refine aL ⟨bY (aD (cs := [.int .i64 A.kind, u1, u2, u3]) hza16), ?_⟩
            refine HV 8 ?_
            refine bJ (i := 9) (by decide +kernel) rfl rfl ?_
            refine aO (n := 10) (v := u2) hB16 rfl rfl rfl (by simp) (by decide +kernel) q2 ?_
            intro w17 p17
            have hza17 := p17.mv.at hza16 hzB
            have hB17 : w17.heap[BB]? = some (.cells [.int .i64 m.id, .bool true, .int .i64 m.op, .bool (!decide (A.kind = 3)), .bool false, .bool m.want, .bool false, .int .i64 3, qb, u1, u2, aP, .int .i64 (if m.size = 0 then 0 else 1232)].toArray 26 (0, 0)) := p17.this
            have x17 : Ext w10 w17 := x16.move p17.mv (by rintro k ⟨⟩; exact hBB)
            have ob17 := ob16.mv p17.mv (.inr (ob16.neBlock hB16 (by decide)))
            refine aL ⟨bY (aD (cs := [.int .i64 A.kind, u1, u2, u3]) hza17), ?_⟩
            refine HV 10 ?_
            refine bJ (i := 11) (by decide +kernel) rfl rfl ?_
            refine aO (n := 11) (v := u3) hB17 rfl rfl rfl (by simp) (by decide +kernel) q3 ?_
            intro w18 p18
            have hB18 : w18.heap[BB]? = some (.cells [.int .i64 m.id, .bool true, .int .i64 m.op, .bool (!decide (A.kind = 3)), .bool false, .bool m.want, .bool false, .int .i64 3, qb, u1, u2, u3, .int .i64 (if m.size = 0 then 0 else 1232)].toArray 26 (0, 0)) := p18.this
            have x18 : Ext w10 w18 := x17.move p18.mv (by rintro k ⟨⟩; exact hBB)
            have ob18 := ob17.mv p18.mv (.inr (ob17.neBlock hB17 (by decide)))
            refine aL ⟨bZ rfl, ?_⟩
            refine cV (by decide +kernel) ?_
            have hT : mF m A = ⟨m.id, true, m.op, !decide (A.kind = 3), false, m.want, false, 3, m.qs, A.ans, A.auth, A.extra, if m.size = 0 then 0 else 1232⟩ := by
             unfold mF bareR
             rw [if_pos k2]
            have hpC := aD (cs := [.int .i64 m.id, .bool true, .int .i64 m.op, .bool (!decide (A.kind = 3)), .bool false, .bool m.want, .bool false, .int .i64 3, qb, u1, u2, u3, .int .i64 (if m.size = 0 then 0 else 1232)]) hB18
            (repeat' first | ((with_reducible refine aJ ?_); go_step) | ((with_reducible refine aH ?_); first | refine aW ?_ | (refine aK ?_ ?_ <;> intro hc)) | fail)
            have xe : Ext w9 w18 := x10.trans x18
            have hmF : MsgV w18 (mF m A) qb u1 u2 u3 := by
             rw [hT]
             exact ⟨ob18.sl, (o1.ext xe).sl, (o2.ext xe).sl, (o3.ext xe).sl⟩
            have hzF := x18.at hz10
            refine aG (v := .agg (aV (mF m A) qb u1 u2 u3).toArray) rfl rfl (by rw [hT]; rfl) hzF (show aZ Tryz.prog 26 13 = true by decide +kernel) rfl (cM hmF) ?_
            intro w19 p19
            have x19 : Ext w w19 := (x09.trans xe).move p19.mv (by rintro k ⟨⟩; exact x1.size)
            (repeat' first | ((with_reducible refine aJ ?_); go_step) | ((with_reducible refine aH ?_); first | refine aW ?_ | (refine aK ?_ ?_ <;> intro hc)) | fail)
            refine bodyPost_ret (cG (cs := aV (mF m A) qb u1 u2 u3) rfl rfl p19.this (show dY Tryz.prog 26 13 = true by decide +kernel)) rfl ⟨_, rfl, x19, qb, u1, u2, u3, by rw [hR0], ?_⟩
            rw [hR0, hT]
            have f0 := ob18.mv p19.mv (.inr (ob18.neBlock hzF (by decide)))
            have f1 := (o1.ext xe).mv p19.mv (.inr ((o1.ext xe).neBlock hzF (by decide)))
            have f2 := (o2.ext xe).mv p19.mv (.inr ((o2.ext xe).neBlock hzF (by decide)))
            have f3 := (o3.ext xe).mv p19.mv (.inr ((o3.ext xe).neBlock hzF (by decide)))
            exact ⟨f0.weaken x010.size, f1.weaken x06.size, f2.weaken x06.size, f3.weaken x06.size⟩
           ·(repeat' first | ((with_reducible refine aJ ?_); go_step) | ((with_reducible refine aH ?_); first | refine aW ?_ | (refine aK ?_ ?_ <;> intro hc)) | fail)
            all_goals first
             | (exfalso; omega)
             | skip
            have hB13 : w12.heap[BB]? = some (.cells [.int .i64 m.id, .bool true, .int .i64 m.op, .bool false, .bool false, .bool m.want, .bool false, .int .i64 0, qb, aP, aP, aP, .int .i64 (if m.size = 0 then 0 else 1232)].toArray 26 (0, 0)) := hB
            refine aO (n := 3) (v := .bool (!decide (A.kind = 3))) hB13 rfl rfl rfl (by simp [aV]) (by decide +kernel) rfl ?_
            intro w14 p14
            have x14 : Ext w10 w14 := (x10b).move p14.mv (by rintro k ⟨⟩; exact hBB)
            have hB14 : w14.heap[BB]? = some (.cells [.int .i64 m.id, .bool true, .int .i64 m.op, .bool (!decide (A.kind = 3)), .bool false, .bool m.want, .bool false, .int .i64 0, qb, aP, aP, aP, .int .i64 (if m.size = 0 then 0 else 1232)].toArray 26 (0, 0)) := p14.this
            have ob14 := (ob12).mv p14.mv (.inr ((ob12).neBlock hB13 (by decide)))
            clear hpB
            have hpa := hpa0.ext x14
            (repeat' first | ((with_reducible refine aJ ?_); go_step) | ((with_reducible refine aH ?_); first | refine aW ?_ | (refine aK ?_ ?_ <;> intro hc)) | fail)
            refine cA 11 (fun w' => Pts w' (.pointer (some ⟨zk, 0, none⟩)) [.int .i64 A.kind, u1, u2, u3]) (by decide +kernel) ?_
            intro w15 x15 _
            have hza15 := x15.at (x14.at hza10)
            have hB15 := x15.at hB14
            have x105 := x14.trans x15
            have ob15 := ob14.ext x15
            refine ⟨aD (cs := [.int .i64 A.kind, u1, u2, u3]) hza15, ?_⟩
            refine dF 0 ?_; refine dF 1 ?_; refine dF 2 ?_; refine dF 3 ?_; refine dF 4 ?_; refine dF 5 ?_
            refine HV 6 ?_
            refine bJ (i := 7) (by decide +kernel) rfl rfl ?_
            refine aO (n := 9) (v := u1) hB15 rfl rfl rfl (by simp) (by decide +kernel) q1 ?_
            intro w16 p16
            have hza16 := p16.mv.at hza15 hzB
            have hB16 : w16.heap[BB]? = some (.cells [.int .i64 m.id, .bool true, .int .i64 m.op, .bool (!decide (A.kind = 3)), .bool false, .bool m.want, .bool false, .int .i64 0, qb, u1, aP, aP, .int .i64 (if m.size = 0 then 0 else 1232)].toArray 26 (0, 0)) := p16.this
            have x16 : Ext w10 w16 := x105.move p16.mv (by rintro k ⟨⟩; exact hBB)
            have ob16 := ob15.mv p16.mv (.inr (ob15.neBlock hB15 (by decide)))
            refine aL ⟨bY (aD (cs := [.int .i64 A.kind, u1, u2, u3]) hza16), ?_⟩
            refine HV 8 ?_
            refine bJ (i := 9) (by decide +kernel) rfl rfl ?_
            refine aO (n := 10) (v := u2) hB16 rfl rfl rfl (by simp) (by decide +kernel) q2 ?_
            intro w17 p17
            have hza17 := p17.mv.at hza16 hzB
            have hB17 : w17.heap[BB]? = some (.cells [.int .i64 m.id, .bool true, .int .i64 m.op, .bool (!decide (A.kind = 3)), .bool false, .bool m.want, .bool false, .int .i64 0, qb, u1, u2, aP, .int .i64 (if m.size = 0 then 0 else 1232)].toArray 26 (0, 0)) := p17.this
            have x17 : Ext w10 w17 := x16.move p17.mv (by rintro k ⟨⟩; exact hBB)
            have ob17 := ob16.mv p17.mv (.inr (ob16.neBlock hB16 (by decide)))
            refine aL ⟨bY (aD (cs := [.int .i64 A.kind, u1, u2, u3]) hza17), ?_⟩
            refine HV 10 ?_
            refine bJ (i := 11) (by decide +kernel) rfl rfl ?_
            refine aO (n := 11) (v := u3) hB17 rfl rfl rfl (by simp) (by decide +kernel) q3 ?_
            intro w18 p18
            have hB18 : w18.heap[BB]? = some (.cells [.int .i64 m.id, .bool true, .int .i64 m.op, .bool (!decide (A.kind = 3)), .bool false, .bool m.want, .bool false, .int .i64 0, qb, u1, u2, u3, .int .i64 (if m.size = 0 then 0 else 1232)].toArray 26 (0, 0)) := p18.this
            have x18 : Ext w10 w18 := x17.move p18.mv (by rintro k ⟨⟩; exact hBB)
            have ob18 := ob17.mv p18.mv (.inr (ob17.neBlock hB17 (by decide)))
            refine aL ⟨bZ rfl, ?_⟩
            refine cV (by decide +kernel) ?_
            have hT : mF m A = ⟨m.id, true, m.op, !decide (A.kind = 3), false, m.want, false, 0, m.qs, A.ans, A.auth, A.extra, if m.size = 0 then 0 else 1232⟩ := by
             unfold mF bareR
             rw [if_neg k2]
            have hpC := aD (cs := [.int .i64 m.id, .bool true, .int .i64 m.op, .bool (!decide (A.kind = 3)), .bool false, .bool m.want, .bool false, .int .i64 0, qb, u1, u2, u3, .int .i64 (if m.size = 0 then 0 else 1232)]) hB18
            (repeat' first | ((with_reducible refine aJ ?_); go_step) | ((with_reducible refine aH ?_); first | refine aW ?_ | (refine aK ?_ ?_ <;> intro hc)) | fail)
            have xe : Ext w9 w18 := x10.trans x18
            have hmF : MsgV w18 (mF m A) qb u1 u2 u3 := by
             rw [hT]
             exact ⟨ob18.sl, (o1.ext xe).sl, (o2.ext xe).sl, (o3.ext xe).sl⟩
            have hzF := x18.at hz10
            refine aG (v := .agg (aV (mF m A) qb u1 u2 u3).toArray) rfl rfl (by rw [hT]; rfl) hzF (show aZ Tryz.prog 26 13 = true by decide +kernel) rfl (cM hmF) ?_
            intro w19 p19
            have x19 : Ext w w19 := (x09.trans xe).move p19.mv (by rintro k ⟨⟩; exact x1.size)
            (repeat' first | ((with_reducible refine aJ ?_); go_step) | ((with_reducible refine aH ?_); first | refine aW ?_ | (refine aK ?_ ?_ <;> intro hc)) | fail)
            refine bodyPost_ret (cG (cs := aV (mF m A) qb u1 u2 u3) rfl rfl p19.this (show dY Tryz.prog 26 13 = true by decide +kernel)) rfl ⟨_, rfl, x19, qb, u1, u2, u3, by rw [hR0], ?_⟩
            rw [hR0, hT]
            have f0 := ob18.mv p19.mv (.inr (ob18.neBlock hzF (by decide)))
            have f1 := (o1.ext xe).mv p19.mv (.inr ((o1.ext xe).neBlock hzF (by decide)))
            have f2 := (o2.ext xe).mv p19.mv (.inr ((o2.ext xe).neBlock hzF (by decide)))
            have f3 := (o3.ext xe).mv p19.mv (.inr ((o3.ext xe).neBlock hzF (by decide)))
            exact ⟨f0.weaken x010.size, f1.weaken x06.size, f2.weaken x06.size, f3.weaken x06.size⟩
          ·rw [if_pos (.inr (.inr ho))] at hR0
           (repeat' first | ((with_reducible refine aJ ?_); go_step) | ((with_reducible refine aH ?_); first | refine aW ?_ | (refine aK ?_ ?_ <;> intro hc)) | fail)
           all_goals first
            | (exfalso; have hh9 := ‹(!decide (H.o = fold H.org)) = false›; rw [decide_eq_false ho] at hh9; cases hh9; done)
            | skip
           rw [← cr]
           refine aT (enters_of Tryz.func29 rfl rfl) rfl rfl (kN m q a u e 2 _ (hm10) hlq) ?_
           intro _ wb xb ⟨qb, er, ob⟩
           subst er
           refine aA ?_
           have hmb : MsgV wb (bareR m 2) qb aP aP aP := ⟨ob.sl, Sl.nil _ _, Sl.nil _ _, Sl.nil _ _⟩
           have hzb := xb.at hz10
           refine aG (v := .agg (aV (bareR m 2) qb aP aP aP).toArray) rfl rfl rfl hzb (show aZ Tryz.prog 26 13 = true by decide +kernel) rfl (cM hmb) ?_
           intro wc pc
           have xc : Ext w wc := ((x010).trans xb).move pc.mv (by rintro k ⟨⟩; exact x1.size)
           (repeat' first | ((with_reducible refine aJ ?_); go_step) | ((with_reducible refine aH ?_); first | refine aW ?_ | (refine aK ?_ ?_ <;> intro hc)) | fail)
           refine bodyPost_ret (cG (cs := aV (bareR m 2) qb aP aP aP) rfl rfl pc.this (show dY Tryz.prog 26 13 = true by decide +kernel)) rfl ⟨_, rfl, xc, qb, aP, aP, aP, by rw [hR0], ?_⟩
           rw [hR0]
           exact ⟨(ob.mv pc.mv (.inr (ob.neBlock hzb (by decide)))).weaken (x010).size, Own.nil _ _ _ _, Own.nil _ _ _ _, Own.nil _ _ _ _⟩
         ·rw [if_pos (.inr (.inl hE0))] at hR0
          refine fN (by decide +kernel) (by decide +kernel) ?_
          (try ((with_reducible refine AI ?_); refine MS ?_))
          rw [show (!decide (E = 0)) = true by rw [decide_eq_false hE0]; rfl]
          (try ((with_reducible refine AI ?_); refine MS ?_))
          intro w10 x10
          have hpM := hpM.ext x10
          (repeat' first | ((with_reducible refine aJ ?_); go_step) | ((with_reducible refine aH ?_); first | refine aW ?_ | (refine aK ?_ ?_ <;> intro hc)) | fail)
          rw [← cr]
          refine aT (enters_of Tryz.func29 rfl rfl) rfl rfl (kN m q a u e 2 _ (hm9.ext x10) hlq) ?_
          intro _ wb xb ⟨qb, er, ob⟩
          subst er
          refine aA ?_
          have hmb : MsgV wb (bareR m 2) qb aP aP aP := ⟨ob.sl, Sl.nil _ _, Sl.nil _ _, Sl.nil _ _⟩
          have hzb := xb.at (x10.at hz9)
          refine aG (v := .agg (aV (bareR m 2) qb aP aP aP).toArray) rfl rfl rfl hzb (show aZ Tryz.prog 26 13 = true by decide +kernel) rfl (cM hmb) ?_
          intro wc pc
          have xc : Ext w wc := ((x09.trans x10).trans xb).move pc.mv (by rintro k ⟨⟩; exact x1.size)
          (repeat' first | ((with_reducible refine aJ ?_); go_step) | ((with_reducible refine aH ?_); first | refine aW ?_ | (refine aK ?_ ?_ <;> intro hc)) | fail)
          refine bodyPost_ret (cG (cs := aV (bareR m 2) qb aP aP aP) rfl rfl pc.this (show dY Tryz.prog 26 13 = true by decide +kernel)) rfl ⟨_, rfl, xc, qb, aP, aP, aP, by rw [hR0], ?_⟩
          rw [hR0]
          exact ⟨(ob.mv pc.mv (.inr (ob.neBlock hzb (by decide)))).weaken (x09.trans x10).size, Own.nil _ _ _ _, Own.nil _ _ _ _, Own.nil _ _ _ _⟩
    ·have hR : bV hs m = bareR m 1 := by rw [hR0, if_pos (by simpa using c1)]
     have hd1 : ¬ ((cH m.qs).length : Int) = 1 := by omega
     (repeat' first | ((with_reducible refine aJ ?_); go_step) | ((with_reducible refine aH ?_); first | refine aW ?_ | (refine aK ?_ ?_ <;> intro hc)) | fail)
     all_goals first
      | (exfalso; exact hd1 (by simpa using ‹(!decide (((cH m.qs).length : Int) = 1)) = false›))
      | skip
     all_goals first
      | (exfalso; omega)
      | (exfalso; rename_i hz9; simp at hz9; omega)
      | (exfalso; simp_all; done)
      | skip
     rw [← cr]
     refine aT (enters_of Tryz.func29 rfl rfl) rfl rfl (kN m q a u e 1 _ (hm3) hlq) ?_
     intro _ wb xb ⟨qb, er, ob⟩
     subst er
     refine aA ?_
     have hmb : MsgV wb (bareR m 1) qb aP aP aP := ⟨ob.sl, Sl.nil _ _, Sl.nil _ _, Sl.nil _ _⟩
     have hzb := xb.at hz3
     refine aG (v := .agg (aV (bareR m 1) qb aP aP aP).toArray) rfl rfl rfl hzb (show aZ Tryz.prog 26 13 = true by decide +kernel) rfl (cM hmb) ?_
     intro wc pc
     have xc : Ext w wc := ((x03).trans xb).move pc.mv (by rintro k ⟨⟩; exact x1.size)
     (repeat' first | ((with_reducible refine aJ ?_); go_step) | ((with_reducible refine aH ?_); first | refine aW ?_ | (refine aK ?_ ?_ <;> intro hc)) | fail)
     refine bodyPost_ret (cG (cs := aV (bareR m 1) qb aP aP aP) rfl rfl pc.this (show dY Tryz.prog 26 13 = true by decide +kernel)) rfl ⟨_, rfl, xc, qb, aP, aP, aP, by rw [hR], ?_⟩
     rw [hR]
     exact ⟨(ob.mv pc.mv (.inr (ob.neBlock hzb (by decide)))).weaken (x03).size, Own.nil _ _ _ _, Own.nil _ _ _ _, Own.nil _ _ _ _⟩
   ·have hR : bV hs m = bareR m 4 := by rw [hR0, if_pos (by simpa using co)]
    (repeat' first | ((with_reducible refine aJ ?_); go_step) | ((with_reducible refine aH ?_); first | refine aW ?_ | (refine aK ?_ ?_ <;> intro hc)) | fail)
    all_goals first
     | (exfalso; omega)
     | (exfalso; rename_i hz9; simp at hz9; omega)
     | (exfalso; simp_all; done)
     | skip
    rw [← cr]
    refine aT (enters_of Tryz.func29 rfl rfl) rfl rfl (kN m q a u e 4 _ (hm3) hlq) ?_
    intro _ wb xb ⟨qb, er, ob⟩
    subst er
    refine aA ?_
    have hmb : MsgV wb (bareR m 4) qb aP aP aP := ⟨ob.sl, Sl.nil _ _, Sl.nil _ _, Sl.nil _ _⟩
    have hzb := xb.at hz3
    refine aG (v := .agg (aV (bareR m 4) qb aP aP aP).toArray) rfl rfl rfl hzb (show aZ Tryz.prog 26 13 = true by decide +kernel) rfl (cM hmb) ?_
    intro wc pc
    have xc : Ext w wc := ((x03).trans xb).move pc.mv (by rintro k ⟨⟩; exact x1.size)
    (repeat' first | ((with_reducible refine aJ ?_); go_step) | ((with_reducible refine aH ?_); first | refine aW ?_ | (refine aK ?_ ?_ <;> intro hc)) | fail)
    refine bodyPost_ret (cG (cs := aV (bareR m 4) qb aP aP aP) rfl rfl pc.this (show dY Tryz.prog 26 13 = true by decide +kernel)) rfl ⟨_, rfl, xc, qb, aP, aP, aP, by rw [hR], ?_⟩
    rw [hR]
    exact ⟨(ob.mv pc.mv (.inr (ob.neBlock hzb (by decide)))).weaken (x03).size, Own.nil _ _ _ _, Own.nil _ _ _ _, Own.nil _ _ _ _⟩
 ·have hR : bV hs m = HP := by unfold bV; rw [if_pos cc]
  (repeat' first | ((with_reducible refine aJ ?_); go_step) | ((with_reducible refine aH ?_); first | refine aW ?_ | (refine aK ?_ ?_ <;> intro hc)) | fail)
  all_goals first
   | (exfalso; omega)
   | (exfalso; rename_i hz9; simp at hz9; omega)
   | (exfalso; simp_all; done)
   | skip
  refine aM (v := .agg (aV HP aP aP aP aP).toArray) (Runs.build rfl (by kernel_rfl)) ?_
  refine aA ?_
  have hmb : MsgV w3 HP aP aP aP aP := ⟨Sl.nil _ _, Sl.nil _ _, Sl.nil _ _, Sl.nil _ _⟩
  refine aG (v := .agg (aV HP aP aP aP aP).toArray) rfl rfl rfl hz3 (show aZ Tryz.prog 26 13 = true by decide +kernel) rfl (cM hmb) ?_
  intro wc pc
  have xc : Ext w wc := x03.move pc.mv (by rintro k ⟨⟩; exact x1.size)
  (repeat' first | ((with_reducible refine aJ ?_); go_step) | ((with_reducible refine aH ?_); first | refine aW ?_ | (refine aK ?_ ?_ <;> intro hc)) | fail)
  refine bodyPost_ret (cG (cs := aV HP aP aP aP aP) rfl rfl pc.this (show dY Tryz.prog 26 13 = true by decide +kernel)) rfl ⟨_, rfl, xc, aP, aP, aP, aP, by rw [hR], ?_⟩
  rw [hR]
  exact ⟨Own.nil _ _ _ _, Own.nil _ _ _ _, Own.nil _ _ _ _, Own.nil _ _ _ _⟩
end Go.Proofs.X
