/- Laws and walks that the proof of the statement is made of (part 15). -/
import Derived.Test.YteofaejlmdplhaaGreatP14
set_option linter.unusedSimpArgs false
set_option linter.unusedVariables false
namespace Go.Proofs.X
open Go.RowKit
set_option maxRecDepth 100000
def oE (a m q : Nat) : Nat := if q = m then a else q
def KA : Value := .func (.func 90) #[] #[]
def OZ (B : Nat) (v : Value) (x : Option Rec) (os : List Rec) (K : Nat) : Prop := ∀ (a m b q : Nat) (w : World), a < m → m < b → b ≤ pN x os → b - a ≤ K → Sx x os q → (a ≤ q → q < b → q = a ∨ q = m) → Own B 4 47 w v (aD (iW x os q)) →
 Calls Tryz.prog 189 #[v, .int .i64 a, .int .i64 m, .int .i64 b, KA] w fun e w' => e = .returned (.tuple #[]) ∧ Own B 4 47 w' v (aD (iW x os (oE a m q))) ∧ Mv v.ownBlock w w'
theorem pX {w : World} {v : Value} {D : List Rec} {i : Nat} (hs : Sl 4 w v (aD D)) (hi : i < D.length) : Pts w (bX v (i * 4)) [aI (D.getD i bA).name, .int .i64 (D.getD i bA).kind, .int .i64 (D.getD i bA).ttl, aI (D.getD i bA).data] := hs.elem (oW hi)
set_option maxHeartbeats 8000000 in
theorem PX {B : Nat} (v : Value) (x : Option Rec) (os : List Rec) (hl : pN x os ≤ 1000000) : ∀ K, OZ B v x os K := by
 intro K
 induction K with
 | zero => intro a m b q w h1 h2 h3 h4; omega
 | succ K ih =>
  intro a m b q w ham hmb hb hK hS hq ho
  have hDl := oU hS
  have hrl := aL (iW x os q)
  have hsl := ho.sl
  have hq' : q < a ∨ b ≤ q ∨ q = a ∨ q = m := by
   by_cases e1 : a ≤ q
   ·by_cases e2 : q < b
    ·exact .inr (.inr (hq e1 e2))
    ·omega
   ·omega
  unfold KA
  go_enter Tryz.func189, Tryz.ntmps189
  refine_lift VJ ?_; intro _ _ _ _ _
  ((with_reducible refine bR ?_); (first | (refine gW ?_; refine jA ?_) | (refine jG ?_; refine kJ ?_; (with_reducible refine bR ?_); refine gW ?_; refine jA ?_)))
  ((with_reducible refine bR ?_); (first | (refine gW ?_; refine jA ?_) | (refine jG ?_; refine kJ ?_; (with_reducible refine bR ?_); refine gW ?_; refine jA ?_)))
  refine bM (Runs.subE (m - a) rfl rfl (by omega) (by omega)) ?_
  refine aA ?_
  by_cases h1 : m - a = 1
  ·((with_reducible refine bR ?_); (first | (refine gW ?_; refine jA ?_) | (refine jG ?_; refine kJ ?_; (with_reducible refine bR ?_); refine gW ?_; refine jA ?_)))
   rw [decide_eq_true (by omega : ((m - a : Nat) : Int) = 1)]
   refine_lift bY fun _ _ => ?_
   go_loopw [10, 11, 12] (fun i j _ wr => ∃ i' j' : Nat, m ≤ i' ∧ i' ≤ j' ∧ j' ≤ b ∧ (q = m → i' ≤ m + 1 ∧ m + 1 ≤ j') ∧ (q ≠ m → i' = m) ∧ i = .int .i64 i' ∧ j = .int .i64 j' ∧ Ext w wr) (fun i j _ _ => (intOf j - intOf i).toNat)
   case atStart => exact ⟨m, b, by omega, by omega, by omega, fun _ => by omega, fun _ => rfl, rfl, rfl, Ext.refl _⟩
   case round =>
    obtain ⟨i, j, hi, hij, hj, hqy, hqn, rfl, rfl, hx⟩ := hrel
    by_cases hlt : i < j
    ·refine_lift gV ?_; intro _ _ _ _
     refine bM (Runs.toU (n := i + j) rfl (by decide +kernel) (by decide +kernel) (by omega)) ?_; refine aA ?_; refine bM (Runs.shrU (m := i + j) rfl rfl) ?_; refine aA ?_; refine bM (Runs.ofU (n := (i + j) / 2) rfl (by decide +kernel) (by decide +kernel) (by omega)) ?_; refine aA ?_
     refine_lift bY fun _ _ => ?_
     obtain ⟨c, hc⟩ : ∃ c, c = (i + j) / 2 := ⟨_, rfl⟩
     rw [← hc]
     have hsx := hsl.ext hx
     have hc1 : i ≤ c ∧ c < j := by omega
     have hA := pX hsx (i := c) (by omega)
     have hC := pX hsx (i := a) (by omega)
     refine bB (by decide +kernel) (by decide +kernel) ?_
     refine_lift dX ?_
     refine oV (enters_of Tryz.func90 rfl rfl) rfl rfl rfl (fun w' _ => CH _ _ w') ?_
     refine aA ?_
     refine_lift dX ?_
     rw [CI hS (by omega) (by omega)]
     refine_lift dX ?_
     intro w3 x3
     have hx3 := hx.trans x3
     clear hA hC hsx
     by_cases hcq : c = q
     ·have hqm : q = m := by
       rcases hq (by omega) (by omega) with e | e <;> omega
      rw [decide_eq_true hcq, decide_eq_false (by omega : ¬ a = q)]
      simp only [Bool.not_false, Bool.and_true]
      refine_lift aS ?_
      exact ⟨⟨c + 1, j, by omega, by omega, hj, fun e => by have := hqy e; omega, fun e => absurd hqm e, by go_num, rfl, hx3⟩, by simp [intOf]; omega⟩
     ·rw [decide_eq_false hcq]
      simp only [Bool.false_and]
      refine_lift aS ?_
      exact ⟨⟨i, c, by omega, by omega, by omega, fun e => by have := hqy e; omega, hqn, rfl, rfl, hx3⟩, by simp [intOf]; omega⟩
    ·have hij2 : j = i := by omega
     subst hij2
     refine_lift kL fun _ _ _ => ?_
     have hox := ho.ext hx
     go_loopw [13] (fun k w2 => ∃ kk p : Nat, (kk = a ∧ p = q ∨ kk = a + 1 ∧ q = m ∧ p = a) ∧ k = .int .i64 kk ∧ Own B 4 47 w2 v (aD (iW x os p)) ∧ Mv v.ownBlock w w2) (fun k _ => m - (intOf k).toNat)
     case atStart => exact ⟨a, q, .inl ⟨rfl, rfl⟩, rfl, hox, hx.mv _⟩
     case round =>
      obtain ⟨kk, p, hkp, rfl, ho2, m2⟩ := hrel
      (repeat' first | ((with_reducible refine cY ?_); go_step) | ((with_reducible refine bR ?_); first | refine fM ?_ | (refine dN ?_ ?_ <;> intro hc)) | fail)
      ·obtain ⟨rfl, rfl⟩ : kk = a ∧ p = q := by
        rcases hkp with e | ⟨e1, e2, e3⟩
        ·exact e
        ·have := hqy e2; omega
       have hqm : p = m := by
        by_cases e : p = m
        ·exact e
        ·have := hqn e; omega
       obtain rfl : p = kk + 1 := by omega
       refine cG 15 (Ext wr) (by decide +kernel) ?_; intro w4 x4 _; refine ⟨x4, ?_⟩; have hsl3 := ho2.sl; have hpI := pX hsl3 (i := kk) (by omega); have hpJ := pX hsl3 (i := kk + 1) (by omega); refine iN 0 ?_; refine iN 1 ?_; refine iN 2 ?_; refine iN 3 ?_; refine kK 4 rfl (fun _ => Runs.inc rfl rfl (by omega)) ?_; refine aA ?_; refine iN 5 ?_; refine iN 6 ?_; refine kK 7 rfl (fun _ => Runs.inc rfl rfl (by omega)) ?_; refine aA ?_; refine eL 8 ?_; refine eL 9 ?_; refine iN 10 ?_; refine iN 11 ?_; refine eL 12 ?_; refine eL 13 ?_; refine kK 14 rfl (fun _ => Runs.idxW (n := kk) rfl hsl3 (by omega) (by decide +kernel)) ?_; refine aA ?_; refine bV (i := 15) (by decide +kernel) rfl rfl ?_; refine fG (i := kk) (f := ((iW x os (kk + 1)).getD (kk + 1) bA).cells) rfl rfl rfl (ho2.ext x4) (by omega) rfl rfl (Rec.cells1 _) (by decide +kernel) ?_; intro w5 o5 m5; refine aJ ⟨cJ rfl, ?_⟩; refine kK 16 rfl (fun _ => Runs.idxW (n := kk + 1) rfl hsl3 (by omega) (by decide +kernel)) ?_; refine aA ?_; refine bV (i := 17) (by decide +kernel) rfl rfl ?_; refine fG (i := kk + 1) (f := ((iW x os (kk + 1)).getD (kk) bA).cells) rfl rfl rfl o5 (by rw [List.length_set]; omega) rfl rfl (Rec.cells1 _) (by decide +kernel) ?_; intro w6 o6 m6; refine aJ ⟨cJ rfl, ?_⟩; refine cZ (by decide +kernel) ?_; rw [fY, fY] at o6; clear hpI hpJ hsl3
       have hsw := (GY hS (by omega)).2
       unfold OX at hsw
       rw [hsw] at o6
       refine_lift aS ?_
       exact ⟨⟨kk + 1, kk, .inr ⟨rfl, hqm, rfl⟩, by go_num, o6, ((m2.trans (x4.mv _)).trans m5).trans m6⟩, by simp [intOf]; omega⟩
      ·((try simp only [Exit.inBlock, Exit.then]); refine bodyPost_ret (results_none rfl _ _ _) rfl ?_)
       have e : p = oE a m q := by
        unfold oE
        rcases hkp with ⟨e1, e2⟩ | ⟨e1, e2, e3⟩
        ·by_cases e : q = m
         ·have := hqy e; omega
         ·rw [if_neg e, e2]
        ·rw [if_pos e2, e3]
       exact ⟨rfl, by rw [← e]; exact ho2, m2⟩
  ·((with_reducible refine bR ?_); (first | (refine gW ?_; refine jA ?_) | (refine jG ?_; refine kJ ?_; (with_reducible refine bR ?_); refine gW ?_; refine jA ?_)))
   rw [decide_eq_false (by omega : ¬ ((m - a : Nat) : Int) = 1)]
   refine_lift rG (fun _ _ _ => ?_) (fun _ _ _ _ _ => ?_)
   ·have h2 : b = m + 1 := by
     have := ‹(b : Int) - (m : Int) = 1›
     omega
    go_loopw [14, 15, 16] (fun i j _ wr => ∃ i' j' : Nat, a ≤ i' ∧ i' ≤ j' ∧ j' ≤ m ∧ (q = m → i' = a) ∧ (q ≠ m → j' = m) ∧ i = .int .i64 i' ∧ j = .int .i64 j' ∧ Ext w wr) (fun i j _ _ => (intOf j - intOf i).toNat)
    case atStart => exact ⟨a, m, by omega, by omega, by omega, fun _ => rfl, fun _ => rfl, rfl, rfl, Ext.refl _⟩
    case round =>
     obtain ⟨i, j, hi, hij, hj, hqy, hqn, rfl, rfl, hx⟩ := hrel
     by_cases hlt : i < j
     ·refine_lift gV ?_; intro _ _ _ _
      refine bM (Runs.toU (n := i + j) rfl (by decide +kernel) (by decide +kernel) (by omega)) ?_; refine aA ?_; refine bM (Runs.shrU (m := i + j) rfl rfl) ?_; refine aA ?_; refine bM (Runs.ofU (n := (i + j) / 2) rfl (by decide +kernel) (by decide +kernel) (by omega)) ?_; refine aA ?_
      refine_lift bY fun _ _ => ?_
      obtain ⟨c, hc⟩ : ∃ c, c = (i + j) / 2 := ⟨_, rfl⟩
      rw [← hc]
      have hsx := hsl.ext hx
      have hc1 : i ≤ c ∧ c < j := by omega
      have hA := pX hsx (i := c) (by omega)
      have hC := pX hsx (i := m) (by omega)
      refine bB (by decide +kernel) (by decide +kernel) ?_
      refine_lift dX ?_
      refine oV (enters_of Tryz.func90 rfl rfl) rfl rfl rfl (fun w' _ => CH _ _ w') ?_
      refine aA ?_
      refine_lift dX ?_
      rw [CI hS (by omega) (by omega)]
      refine_lift dX ?_
      intro w3 x3
      have hx3 := hx.trans x3
      clear hA hC hsx
      by_cases hqm : q = m
      ·rw [decide_eq_true hqm.symm, decide_eq_false (by omega : ¬ c = q)]
       simp only [Bool.not_false, Bool.and_true, Bool.not_true]
       refine_lift aS ?_
       exact ⟨⟨i, c, by omega, by omega, by omega, hqy, fun e => absurd hqm e, rfl, rfl, hx3⟩, by simp [intOf]; omega⟩
      ·rw [decide_eq_false (fun e => hqm e.symm : ¬ m = q)]
       simp only [Bool.false_and, Bool.not_false]
       refine_lift aS ?_
       exact ⟨⟨c + 1, j, by omega, by omega, by omega, fun e => absurd e hqm, hqn, by go_num, rfl, hx3⟩, by simp [intOf]; omega⟩
     ·have hij2 : j = i := by omega
      subst hij2
      refine_lift kL fun _ _ _ => ?_
      have hox := ho.ext hx
      go_loopw [17] (fun k w2 => ∃ kk p : Nat, (q = m ∧ a ≤ kk ∧ p = kk ∨ q ≠ m ∧ p = q) ∧ kk ≤ m ∧ (q ≠ m → kk = m) ∧ k = .int .i64 kk ∧ Own B 4 47 w2 v (aD (iW x os p)) ∧ Mv v.ownBlock w w2) (fun k _ => (intOf k).toNat)
      case atStart =>
       refine ⟨m, q, ?_, Nat.le_refl _, fun _ => rfl, rfl, hox, hx.mv _⟩
       by_cases e : q = m
       ·exact .inl ⟨e, by omega, e⟩
       ·exact .inr ⟨e, rfl⟩
      case round =>
       obtain ⟨kk, p, hkp, hkm, hkn, rfl, ho2, m2⟩ := hrel
       (repeat' first | ((with_reducible refine cY ?_); go_step) | ((with_reducible refine bR ?_); first | refine fM ?_ | (refine dN ?_ ?_ <;> intro hc)) | fail)
       ·have hk2 : j < kk := by
         have := ‹(j : Int) < (kk : Int)›
         omega
        have hqm : q = m := by
         by_cases e : q = m
         ·exact e
         ·have := hqn e; have := hkn e; omega
        have hp : p = kk := by
         rcases hkp with ⟨_, _, e⟩ | ⟨e, _⟩
         ·exact e
         ·exact absurd hqm e
        have hja := hqy hqm
        obtain ⟨n, rfl⟩ : ∃ n, kk = n + 1 := ⟨kk - 1, by omega⟩
        subst hp
        have hSp : Sx x os (n + 1) := hS.to (by omega) (by omega)
        have hDp := oU hSp
        have hrp := aL (iW x os (n + 1))
        refine cG 15 (Ext wr) (by decide +kernel) ?_; intro w4 x4 _; refine ⟨x4, ?_⟩; have hsl3 := ho2.sl; have hpI := pX hsl3 (i := n + 1) (by omega); have hpJ := pX hsl3 (i := n) (by omega); refine iN 0 ?_; refine iN 1 ?_; refine iN 2 ?_; refine iN 3 ?_; refine kK 4 rfl (fun _ => Runs.pred (m := n) rfl rfl (by omega)) ?_; refine aA ?_; refine iN 5 ?_; refine iN 6 ?_; refine kK 7 rfl (fun _ => Runs.pred (m := n) rfl rfl (by omega)) ?_; refine aA ?_; refine eL 8 ?_; refine eL 9 ?_; refine iN 10 ?_; refine iN 11 ?_; refine eL 12 ?_; refine eL 13 ?_; refine kK 14 rfl (fun _ => Runs.idxW (n := n + 1) rfl hsl3 (by omega) (by decide +kernel)) ?_; refine aA ?_; refine bV (i := 15) (by decide +kernel) rfl rfl ?_; refine fG (i := n + 1) (f := ((iW x os (n + 1)).getD (n) bA).cells) rfl rfl rfl (ho2.ext x4) (by omega) rfl rfl (Rec.cells1 _) (by decide +kernel) ?_; intro w5 o5 m5; refine aJ ⟨cJ rfl, ?_⟩; refine kK 16 rfl (fun _ => Runs.idxW (n := n) rfl hsl3 (by omega) (by decide +kernel)) ?_; refine aA ?_; refine bV (i := 17) (by decide +kernel) rfl rfl ?_; refine fG (i := n) (f := ((iW x os (n + 1)).getD (n + 1) bA).cells) rfl rfl rfl o5 (by rw [List.length_set]; omega) rfl rfl (Rec.cells1 _) (by decide +kernel) ?_; intro w6 o6 m6; refine aJ ⟨cJ rfl, ?_⟩; refine cZ (by decide +kernel) ?_; rw [fY, fY] at o6; clear hpI hpJ hsl3
        have hsw := (GY hSp (by omega)).1
        unfold OX at hsw
        rw [hsw] at o6
        refine_lift aS ?_
        exact ⟨⟨n, n, .inl ⟨hqm, by omega, rfl⟩, by omega, fun e => absurd hqm e, by go_num, o6, ((m2.trans (x4.mv _)).trans m5).trans m6⟩, by simp [intOf]⟩
       ·((try simp only [Exit.inBlock, Exit.then]); refine bodyPost_ret (results_none rfl _ _ _) rfl ?_)
        have hk2 : kk ≤ j := by
         have := ‹(kk : Int) ≤ (j : Int)›
         omega
        have e : p = oE a m q := by
         unfold oE
         rcases hkp with ⟨e1, e2, e3⟩ | ⟨e1, e2⟩
         ·have := hqy e1
          rw [if_pos e1]; omega
         ·rw [if_neg e1, e2]
        exact ⟨rfl, by rw [← e]; exact ho2, m2⟩
   ·have h2 : ¬ b = m + 1 := by
     have := ‹¬ (b : Int) - (m : Int) = 1›
     omega
    refine bM (Runs.toU (n := a + b) rfl (by decide +kernel) (by decide +kernel) (by omega)) ?_; refine aA ?_; refine bM (Runs.shrU (m := a + b) rfl rfl) ?_; refine aA ?_; refine bM (Runs.ofU (n := (a + b) / 2) rfl (by decide +kernel) (by decide +kernel) (by omega)) ?_; refine aA ?_
    obtain ⟨d, hd⟩ : ∃ d, d = (a + b) / 2 := ⟨_, rfl⟩
    rw [← hd]
    have hd1 : a < d ∧ d < b := by omega
    obtain ⟨t, hT⟩ : ∃ t, (q = m ∧ d ≤ m ∧ t + 1 = d) ∨ (q ≠ m ∧ d < m ∧ t = d) ∨ (q ≠ m ∧ m ≤ d ∧ t = m) ∨ (q = m ∧ m < d ∧ t = m) := by
     by_cases e1 : q = m <;> by_cases e2 : d ≤ m <;> by_cases e3 : d < m
     all_goals first
      | exact ⟨d - 1, .inl ⟨e1, e2, by omega⟩⟩
      | exact ⟨d, .inr (.inl ⟨e1, e3, rfl⟩)⟩
      | exact ⟨m, .inr (.inr (.inl ⟨e1, by omega, rfl⟩))⟩
      | exact ⟨m, .inr (.inr (.inr ⟨e1, by omega, rfl⟩))⟩
    refine_lift yS (fun _ _ _ => ?_) (fun _ _ _ => ?_)
    all_goals
     go_loopw [20, 21, 23] (fun i j _ wr => ∃ i' j' : Nat, a ≤ i' ∧ d + m ≤ i' + b ∧ i' ≤ t ∧ t ≤ j' ∧ (j' = t ∨ d < m ∧ j' = d ∨ m ≤ d ∧ j' = m) ∧ i = .int .i64 i' ∧ j = .int .i64 j' ∧ Ext w wr) (fun i j _ _ => (intOf j - intOf i).toNat)
     case atStart =>
      first
       | exact ⟨a, m, by omega, by omega, by omega, by omega, by omega, rfl, rfl, Ext.refl _⟩
       | exact ⟨d + m - b, d, by omega, by omega, by omega, by omega, by omega, by rw [show (d : Int) + (m : Int) - (b : Int) = ((d + m - b : Nat) : Int) by omega], rfl, Ext.refl _⟩
     case round =>
      obtain ⟨i, j, hi, hib, FX, htj, hj, rfl, rfl, hx⟩ := hrel
      by_cases hlt : i < j
      ·refine_lift gV ?_; intro _ _ _ _
       refine bM (Runs.toU (n := i + j) rfl (by decide +kernel) (by decide +kernel) (by omega)) ?_; refine aA ?_; refine bM (Runs.shrU (m := i + j) rfl rfl) ?_; refine aA ?_; refine bM (Runs.ofU (n := (i + j) / 2) rfl (by decide +kernel) (by decide +kernel) (by omega)) ?_; refine aA ?_
       refine_lift bY fun _ _ => ?_
       obtain ⟨c, hc⟩ : ∃ c, c = (i + j) / 2 := ⟨_, rfl⟩
       rw [← hc]
       have hsx := hsl.ext hx
       have hc1 : i ≤ c ∧ c < j := by omega
       have hA := pX hsx (i := d + m - 1 - c) (by omega)
       have hC := pX hsx (i := c) (by omega)
       rw [show d + m - 1 - c = ((d : Int) + (m : Int) - 1 - (c : Int)).toNat by omega] at hA
       refine bB (by decide +kernel) (by decide +kernel) ?_
       refine_lift dX ?_
       refine oV (enters_of Tryz.func90 rfl rfl) rfl rfl rfl (fun w' _ => CH _ _ w') ?_
       refine aA ?_
       refine_lift dX ?_
       rw [show ((d : Int) + (m : Int) - 1 - (c : Int)).toNat = d + m - 1 - c by omega]
       rw [CI hS (by omega) (by omega)]
       refine_lift dX ?_
       intro w3 x3
       have hx3 := hx.trans x3
       clear hA hC hsx
       by_cases hct : c = t
       ·rw [decide_eq_true (by omega : d + m - 1 - c = q), decide_eq_false (by omega : ¬ c = q)]
        simp only [Bool.not_false, Bool.and_true, Bool.not_true]
        refine_lift aS ?_
        exact ⟨⟨i, c, by omega, by omega, by omega, by omega, by omega, rfl, rfl, hx3⟩, by simp [intOf]; omega⟩
       ·have hct2 : c < t := by omega
        rw [decide_eq_false (by omega : ¬ d + m - 1 - c = q)]
        simp only [Bool.false_and, Bool.not_false]
        refine_lift aS ?_
        exact ⟨⟨c + 1, j, by omega, by omega, by omega, by omega, by omega, by go_num, rfl, hx3⟩, by simp [intOf]; omega⟩
      ·have hjt : j = t := by omega
       have hi2 : i = t := by omega
       subst hjt
       subst hi2
       have hox := ho.ext hx
       have hmx := hx.mv v.ownBlock
       clear hlt hib hi htj hj FX
       rcases hT with ⟨hqm, hdm, ht1⟩ | ⟨hqm, hdm, ht1⟩ | ⟨hqm, hdm, ht1⟩ | ⟨hqm, hdm, ht1⟩
       ·have hsa : oE a m q = a := if_pos hqm
        subst hqm
        refine_lift RT fun _ _ _ _ _ => ?_
        rw [decide_eq_true (by omega : (i : Int) < (q : Int)), show (d : Int) + (q : Int) - (i : Int) = ((q + 1 : Nat) : Int) by omega]
        refine_lift RS fun _ => ?_
        rw [decide_eq_true (by omega : (q : Int) < ((q + 1 : Nat) : Int))]
        refine_lift zO ?_
        refine bH (enters_of Tryz.func224 rfl rfl) rfl rfl (MW v x os i q _ wr hS hox (by omega) (by omega) hl) ?_; rintro _ w5 ⟨rfl, o5, m5⟩; refine ⟨_, rfl, ?_⟩; refine aA ?_
        have hSi : Sx x os i := hS.to (by omega) (by omega)
        have hSa : Sx x os a := hS.to (by omega) (by omega)
        refine_lift TW fun _ _ _ _ => ?_
        by_cases hai : a < i
        ·rw [decide_eq_true (by omega : (a : Int) < (i : Int))]
         refine_lift RS fun _ => ?_
         rw [decide_eq_true (by omega : (i : Int) < (d : Int))]
         refine_lift zO ?_
         refine bH (enters_of Tryz.func189 rfl rfl) rfl rfl (ih a i d i w5 hai (by omega) (by omega) (by omega) hSi (fun _ _ => .inr rfl) o5) ?_; rintro _ w6 ⟨rfl, o6, m6⟩; refine ⟨_, rfl, ?_⟩; refine aA ?_
         have hs2 : oE a i i = a := if_pos rfl
         rw [hs2] at o6
         refine_lift SE fun _ _ => ?_
         rw [decide_eq_true (by omega : (d : Int) < ((q + 1 : Nat) : Int))]
         refine_lift RS fun _ => ?_
         rw [decide_eq_true (by omega : ((q + 1 : Nat) : Int) < (b : Int))]
         refine_lift zO ?_
         refine bH (enters_of Tryz.func189 rfl rfl) rfl rfl (ih d (q + 1) b a w6 (by omega) (by omega) (by omega) (by omega) hSa (fun e _ => by omega) o6) ?_; rintro _ w7 ⟨rfl, o7, m7⟩; refine ⟨_, rfl, ?_⟩; refine aA ?_
         have hs3 : oE d (q + 1) a = a := if_neg (by omega)
         rw [hs3] at o7
         refine_lift zO ?_
         go_end0
         exact ⟨rfl, by rw [hsa]; exact o7, ((hmx.trans m5).trans m6).trans m7⟩
        ·first
          | (exfalso; omega)
          | (obtain rfl : i = a := by omega
             rw [decide_eq_false (by omega : ¬ (i : Int) < (i : Int))]
             (repeat' first | ((with_reducible refine cY ?_); go_step) | ((with_reducible refine bR ?_); refine fM ?_) | fail)
             rw [decide_eq_true (by omega : (d : Int) < ((q + 1 : Nat) : Int))]
             (repeat' first | ((with_reducible refine cY ?_); go_step) | ((with_reducible refine bR ?_); refine fM ?_) | fail)
             rw [decide_eq_true (by omega : ((q + 1 : Nat) : Int) < (b : Int))]
             (repeat' first | ((with_reducible refine cY ?_); go_step) | ((with_reducible refine bR ?_); refine fM ?_) | fail)
             refine bH (enters_of Tryz.func189 rfl rfl) rfl rfl (ih d (q + 1) b i w5 (by omega) (by omega) (by omega) (by omega) hSa (fun e _ => by omega) o5) ?_; rintro _ w7 ⟨rfl, o7, m7⟩; refine ⟨_, rfl, ?_⟩; refine aA ?_
             have hs3 : oE d (q + 1) i = i := if_neg (by omega)
             rw [hs3] at o7
             (repeat' first | ((with_reducible refine cY ?_); go_step) | ((with_reducible refine bR ?_); refine fM ?_) | fail)
             go_end0
             exact ⟨rfl, by rw [hsa]; exact o7, (hmx.trans m5).trans m7⟩)
       ·first
         | (exfalso; omega)
         | (have hsa : oE a m q = q := if_neg hqm
            refine_lift RT fun _ _ _ _ _ => ?_
            rw [decide_eq_true (by omega : (i : Int) < (m : Int)), show (d : Int) + (m : Int) - (i : Int) = ((m : Nat) : Int) by omega]
            refine_lift RT fun _ _ _ _ _ => ?_
            rw [decide_eq_false (by omega : ¬ (m : Int) < (m : Int))]
            refine_lift zO ?_
            rw [decide_eq_true (by omega : (a : Int) < (i : Int))]
            refine_lift VI fun _ _ _ => ?_
            rw [decide_eq_false (by omega : ¬ (i : Int) < (d : Int))]
            refine_lift zO ?_
            rw [decide_eq_true (by omega : (d : Int) < (m : Int))]
            refine_lift RS fun _ => ?_
            rw [decide_eq_true (by omega : (m : Int) < (b : Int))]
            refine_lift zO ?_
            refine bH (enters_of Tryz.func189 rfl rfl) rfl rfl (ih d m b q wr hdm hmb hb (by omega) hS (fun e e2 => by omega) hox) ?_; rintro _ w7 ⟨rfl, o7, m7⟩; refine ⟨_, rfl, ?_⟩; refine aA ?_
            have hs3 : oE d m q = q := if_neg hqm
            rw [hs3] at o7
            refine_lift zO ?_
            go_end0
            exact ⟨rfl, by rw [hsa]; exact o7, hmx.trans m7⟩)
       ·first
         | (exfalso; omega)
         | (have hsa : oE a m q = q := if_neg hqm
            by_cases hid : i < d
            ·refine_lift RT fun _ _ _ _ _ => ?_
             rw [decide_eq_false (by omega : ¬ (i : Int) < (m : Int)), show (d : Int) + (m : Int) - (i : Int) = (d : Int) by omega]
             refine_lift TW fun _ _ _ _ => ?_
             rw [decide_eq_true (by omega : (a : Int) < (i : Int))]
             refine_lift RS fun _ => ?_
             refine bH (enters_of Tryz.func189 rfl rfl) rfl rfl (ih a i d q wr (by omega) hid (by omega) (by omega) hS (fun e e2 => by omega) hox) ?_; rintro _ w7 ⟨rfl, o7, m7⟩; refine ⟨_, rfl, ?_⟩; refine aA ?_
             have hs3 : oE a i q = q := if_neg (by omega)
             rw [hs3] at o7
             refine_lift SE fun _ _ => ?_
             rw [decide_eq_false (by omega : ¬ (d : Int) < (d : Int))]
             refine_lift zO ?_
             go_end0
             exact ⟨rfl, by rw [hsa]; exact o7, hmx.trans m7⟩
            ·refine_lift RT fun _ _ _ _ _ => ?_
             rw [decide_eq_false (by omega : ¬ (i : Int) < (m : Int)), show (d : Int) + (m : Int) - (i : Int) = (d : Int) by omega]
             refine_lift TW fun _ _ _ _ => ?_
             rw [decide_eq_true (by omega : (a : Int) < (i : Int))]
             refine_lift VI fun _ _ _ => ?_
             rw [decide_eq_false (by omega : ¬ (d : Int) < (d : Int))]
             refine_lift zO ?_
             go_end0
             exact ⟨rfl, by rw [hsa]; exact hox, hmx⟩)
       ·first
         | (exfalso; omega)
         | (have hsa : oE a m q = a := if_pos hqm
            refine_lift RT fun _ _ _ _ _ => ?_
            rw [decide_eq_false (by omega : ¬ (i : Int) < (m : Int)), show (d : Int) + (m : Int) - (i : Int) = (d : Int) by omega]
            refine_lift TW fun _ _ _ _ => ?_
            rw [decide_eq_true (by omega : (a : Int) < (i : Int))]
            refine_lift RS fun _ => ?_
            rw [decide_eq_true (by omega : (i : Int) < (d : Int))]
            refine_lift zO ?_
            refine bH (enters_of Tryz.func189 rfl rfl) rfl rfl (ih a i d q wr (by omega) (by omega) (by omega) (by omega) hS (fun e e2 => by omega) hox) ?_; rintro _ w7 ⟨rfl, o7, m7⟩; refine ⟨_, rfl, ?_⟩; refine aA ?_
            have hs3 : oE a i q = a := if_pos (by omega)
            rw [hs3] at o7
            refine_lift SE fun _ _ => ?_
            rw [decide_eq_false (by omega : ¬ (d : Int) < (d : Int))]
            refine_lift zO ?_
            go_end0
            exact ⟨rfl, by rw [hsa]; exact o7, hmx.trans m7⟩)
def yD (s q : Nat) : Nat := s * (q / s)
theorem yE (s q : Nat) : yD s q ≤ q := Nat.mul_div_le q s
theorem yF {s q k : Nat} (hs : 0 < s) (h1 : s * k ≤ q) (h2 : q < s * k + s) : yD s q = s * k := by
 have : q / s = k := by
  refine Nat.div_eq_of_lt_le ?_ ?_
  ·rw [Nat.mul_comm]; exact h1
  ·rw [Nat.mul_comm, Nat.mul_succ]; exact h2
 rw [yD, this]
theorem CJ {s q a k : Nat} (hs : 0 < s) (ha : a = 2 * s * k) (h1 : a ≤ q) (h2 : q < a + 2 * s) : yD (2 * s) q = a ∧ (q < a + s → yD s q = a) ∧ (a + s ≤ q → yD s q = a + s) := by
 have e1 : s * (2 * k) = a := by rw [ha, ← Nat.mul_assoc, Nat.mul_comm s 2]
 have e2 : s * (2 * k + 1) = a + s := by rw [Nat.mul_succ, e1]
 refine ⟨by rw [ha]; exact yF (by omega) (by omega) (by omega), fun h => ?_, fun h => ?_⟩
 ·rw [← e1]; exact yF hs (by omega) (by omega)
 ·rw [← e2]; exact yF hs (by omega) (by omega)
theorem MY {s q : Nat} (h : q < s) : yD s q = 0 := by rw [yD, Nat.div_eq_of_lt h, Nat.mul_zero]
def oF (N s a q : Nat) : Nat := if q < N then (if q < a then yD (2 * s) q else yD s q) else q
theorem FB {N s a k q b : Nat} (hs : 0 < s) (ha : a = 2 * s * k) (hb : b ≤ a + 2 * s) (hbN : b ≤ N) (h1 : a ≤ oF N s a q) (h2 : oF N s a q < b) : oF N s a q = a ∨ oF N s a q = a + s := by
 have h2q := yE (2 * s) q
 have hfar : a + 2 * s ≤ q → a + 2 * s ≤ yD s q := fun h => by
  have e : a + 2 * s = s * (2 * (k + 1)) := by rw [ha, ← Nat.mul_assoc, Nat.mul_comm s 2, Nat.mul_succ]
  rw [e] at h ⊢
  exact Nat.mul_le_mul_left s ((Nat.le_div_iff_mul_le hs).2 (by rw [Nat.mul_comm]; exact h))
 unfold oF at h1 h2 ⊢
 by_cases c1 : q < N
 ·rw [if_pos c1] at h1 h2 ⊢
  by_cases c2 : q < a
  ·rw [if_pos c2] at h1; omega
  ·rw [if_neg c2] at h1 h2 ⊢
   by_cases c3 : q < a + 2 * s
   ·have := CJ hs ha (by omega) c3
    by_cases c4 : q < a + s
    ·exact .inl (this.2.1 c4)
    ·exact .inr (this.2.2 (by omega))
   ·have := hfar (by omega); omega
 ·rw [if_neg c1] at h2; omega
theorem BA {N s a k q : Nat} (hs : 0 < s) (ha : a = 2 * s * k) (hN : a + s < N) : oE a (a + s) (oF N s a q) = oF N s (a + 2 * s) q := by
 have h2q := yE (2 * s) q
 have hfar : a + 2 * s ≤ q → a + 2 * s ≤ yD s q := fun h => by
  have e : a + 2 * s = s * (2 * (k + 1)) := by rw [ha, ← Nat.mul_assoc, Nat.mul_comm s 2, Nat.mul_succ]
  rw [e] at h ⊢
  exact Nat.mul_le_mul_left s ((Nat.le_div_iff_mul_le hs).2 (by rw [Nat.mul_comm]; exact h))
 unfold oF oE
 by_cases c1 : q < N
 ·simp only [if_pos c1]
  by_cases c2 : q < a
  ·rw [if_pos c2, if_neg (by omega), if_pos (by omega)]
  ·rw [if_neg c2]
   by_cases c3 : q < a + 2 * s
   ·have := CJ hs ha (by omega) c3
    rw [if_pos c3, this.1]
    by_cases c4 : q < a + s
    ·rw [this.2.1 c4, if_neg (by omega)]
    ·rw [this.2.2 (by omega), if_pos rfl]
   ·have := hfar (by omega)
    rw [if_neg c3, if_neg (by omega)]
 ·simp only [if_neg c1]
  rw [if_neg (by omega)]
theorem MZ {N s a k q : Nat} (hs : 0 < s) (ha : a = 2 * s * k) (hN : N ≤ a + s) : oF N s a q = if q < N then yD (2 * s) q else q := by
 unfold oF
 by_cases c1 : q < N
 ·rw [if_pos c1, if_pos c1]
  by_cases c2 : q < a
  ·rw [if_pos c2]
  ·rw [if_neg c2]
   have := CJ (q := q) hs ha (by omega) (by omega)
   rw [this.1, this.2.1 (by omega)]
 ·rw [if_neg c1, if_neg c1]
theorem NA {N s a q : Nat} (h : N ≤ a) : oF N s a q = if q < N then yD (2 * s) q else q := by
 unfold oF
 by_cases c1 : q < N
 ·rw [if_pos c1, if_pos c1, if_pos (by omega)]
 ·rw [if_neg c1, if_neg c1]
theorem KB {N s q : Nat} : oF N s 0 q = if q < N then yD s q else q := by
 unfold oF
 rw [if_neg (Nat.not_lt_zero q)]
set_option maxHeartbeats 8000000 in
theorem NB {B : Nat} (v : Value) (x : Option Rec) (os : List Rec) (q : Nat) (w : World) (hS : Sx x os q) (ho : Own B 4 47 w v (aD (iW x os q))) (hl : pN x os ≤ 1000000) :
 Calls Tryz.prog 147 #[v, .int .i64 (pN x os), KA] w fun e w' => e = .returned (.tuple #[]) ∧ Own B 4 47 w' v (aD (iW x os (if q < pN x os then 0 else q))) ∧ Mv v.ownBlock w w' := by
 generalize hN : pN x os = N at *
 unfold KA
 go_enter Tryz.func147, Tryz.ntmps147
 refine_lift kL ?_; intro _ _ _
 go_loopw [7, 8] (fun i j wr => ∃ a k : Nat, a = 20 * k ∧ a ≤ N ∧ i = .int .i64 a ∧ j = .int .i64 ((a + 20 : Nat) : Int) ∧ Own B 4 47 wr v (aD (iW x os (if q < a then yD 20 q else q))) ∧ Mv v.ownBlock w wr) (fun i _ _ => N - (intOf i).toNat)
 case atStart => exact ⟨0, 0, rfl, Nat.zero_le _, rfl, rfl, by rw [if_neg (by omega)]; exact ho, Mv.refl _ _⟩
 case round =>
  obtain ⟨a, k, ha, haN, rfl, rfl, ho1, m1⟩ := hrel
  have hflq := yE 20 q
  have hS1 : Sx x os (if q < a then yD 20 q else q) := by
   split
   ·exact hS.to (by omega) (by omega)
   ·exact hS
  by_cases hbn : a + 20 ≤ N
  ·refine_lift gV ?_; intro _ _ _ _
   refine bH (enters_of Tryz.func188 rfl rfl) rfl rfl (uA v x os _ a (a + 20) wr hS1 ho1 (by omega) (by omega) (by omega)) ?_; rintro _ w5 ⟨rfl, o5, m5⟩; refine ⟨_, rfl, ?_⟩; refine aA ?_
   have e : kX a (a + 20) (if q < a then yD 20 q else q) = if q < a + 20 then yD 20 q else q := by
    unfold kX
    by_cases c1 : q < a
    ·rw [if_pos c1, if_neg (by omega), if_pos (by omega)]
    ·rw [if_neg c1]
     by_cases c2 : q < a + 20
     ·rw [if_pos ⟨by omega, c2⟩, if_pos c2, ha]
      exact (yF (by omega) (by omega) (by omega)).symm
     ·rw [if_neg (by omega), if_neg c2]
   rw [e] at o5
   refine_lift aS ?_
   exact ⟨⟨a + 20, k + 1, by omega, hbn, rfl, by go_num, o5, m1.trans m5⟩, by simp [intOf]; omega⟩
  ·refine_lift kL fun _ _ _ => ?_
   refine bH (enters_of Tryz.func188 rfl rfl) rfl rfl (uA v x os _ a N wr hS1 ho1 (by omega) (by omega) (by omega)) ?_; rintro _ w5 ⟨rfl, o5, m5⟩; refine ⟨_, rfl, ?_⟩; refine aA ?_
   have e : kX a N (if q < a then yD 20 q else q) = if q < N then yD 20 q else q := by
    unfold kX
    by_cases c1 : q < a
    ·rw [if_pos c1, if_neg (by omega), if_pos (by omega)]
    ·rw [if_neg c1]
     by_cases c2 : q < N
     ·rw [if_pos ⟨by omega, c2⟩, if_pos c2, ha]
      exact (yF (by omega) (by omega) (by omega)).symm
     ·rw [if_neg (by omega), if_neg c2]
   rw [e] at o5
   have m5 := m1.trans m5
   clear ho1 m1 e hS1 ha haN hbn
   refine_lift aS ?_
   go_loopw [6, 7, 8, 9] (fun z _ _ _ wr => ∃ s : Nat, 20 ≤ s ∧ s ≤ 2000000 ∧ z = .int .i64 s ∧ Own B 4 47 wr v (aD (iW x os (if q < N then yD s q else q))) ∧ Mv v.ownBlock w wr) (fun z _ _ _ _ => N - (intOf z).toNat)
   case atStart => exact ⟨20, Nat.le_refl _, by omega, rfl, o5, m5⟩
   case round =>
    obtain ⟨s, hs, hs2, rfl, ho1, m1⟩ := hrel
    have hsq := yE s q
    by_cases hsN : s < N
    ·refine_lift gV ?_; intro _ _ _ _
     rw [show (2 : Int) * (s : Int) = ((2 * s : Nat) : Int) by omega]
     go_loopw [7, 8] (fun i j w2 => ∃ a k : Nat, a = 2 * s * k ∧ a ≤ N ∧ i = .int .i64 a ∧ j = .int .i64 ((a + 2 * s : Nat) : Int) ∧ Own B 4 47 w2 v (aD (iW x os (oF N s a q))) ∧ Mv v.ownBlock w w2) (fun i _ _ => N - (intOf i).toNat)
     case atStart => exact ⟨0, 0, rfl, Nat.zero_le _, rfl, by rw [Nat.zero_add], by rw [KB]; exact ho1, m1⟩
     case round =>
      obtain ⟨a, k, ha, haN, rfl, rfl, ho2, m2⟩ := hrel
      have h2q := yE (2 * s) q
      have hS2 : Sx x os (oF N s a q) := by
       unfold oF
       split
       ·refine hS.to (by omega) ?_
        split <;> omega
       ·exact hS
      by_cases hbn : a + 2 * s ≤ N
      ·refine_lift gV ?_; intro _ _ _ _
       refine bH (enters_of Tryz.func189 rfl rfl) rfl rfl (PX v x os (by omega) _ a (a + s) (a + 2 * s) _ wr (by omega) (by omega) (by omega) (Nat.le_refl _) hS2 (FB (by omega) ha (Nat.le_refl _) hbn) ho2) ?_; rintro _ w6 ⟨rfl, o6, m6⟩; refine ⟨_, rfl, ?_⟩; refine aA ?_
       rw [BA (by omega) ha (by omega)] at o6
       refine_lift aS ?_
       exact ⟨⟨a + 2 * s, k + 1, by rw [ha, Nat.mul_succ], hbn, rfl, by rw [show ((a + 2 * s : Nat) : Int) + 2 * (s : Int) = ((a + 2 * s + 2 * s : Nat) : Int) by omega], o6, m2.trans m6⟩, by simp [intOf]; omega⟩
      ·refine_lift DK (fun _ _ => ?_) (fun _ _ _ _ => ?_)
       ·have hm : a + s < N := by
         have := ‹(a : Int) + (s : Int) < (N : Int)›
         omega
        refine bH (enters_of Tryz.func189 rfl rfl) rfl rfl (PX v x os (by omega) _ a (a + s) N _ wr (by omega) hm (by omega) (Nat.le_refl _) hS2 (FB (by omega) ha (by omega) (Nat.le_refl _)) ho2) ?_; rintro _ w6 ⟨rfl, o6, m6⟩; refine ⟨_, rfl, ?_⟩; refine aA ?_
        rw [BA (by omega) ha hm, NA (by omega)] at o6
        refine_lift aS ?_
        exact ⟨⟨2 * s, by omega, by omega, by rw [show (s : Int) * 2 = ((2 * s : Nat) : Int) by omega], o6, m2.trans m6⟩, by simp [intOf]; omega⟩
       ·have hm : N ≤ a + s := by
         have := ‹(N : Int) ≤ (a : Int) + (s : Int)›
         omega
        rw [MZ (by omega) ha hm] at ho2
        exact ⟨⟨2 * s, by omega, by omega, by rw [show (s : Int) * 2 = ((2 * s : Nat) : Int) by omega], ho2, m2⟩, by simp [intOf]; omega⟩
    ·refine_lift fP fun _ => ?_
     go_end0
     have e : (if q < N then yD s q else q) = if q < N then 0 else q := by
      by_cases c : q < N
      ·rw [if_pos c, if_pos c, MY (by omega)]
      ·rw [if_neg c, if_neg c]
     rw [e] at ho1
     exact ⟨rfl, ho1, m1⟩
set_option maxHeartbeats 4000000 in
theorem CK {B : Nat} (v : Value) (x : Option Rec) (os : List Rec) (q : Nat) (w : World) (hS : Sx x os q) (ho : Own B 4 47 w v (aD (iW x os q))) (hl : pN x os ≤ 1000000) :
 Calls Tryz.prog 89 #[v, KA] w fun e w' => e = .returned (.tuple #[]) ∧ Own B 4 47 w' v (aD (iW x os (if q < pN x os then 0 else q))) ∧ Mv v.ownBlock w w' := by
 have hsl := ho.sl
 have hrl := aL (iW x os q)
 have hDl := oU hS
 have hst := NB v x os q w hS ho hl
 unfold KA at hst ⊢
 go_enter Tryz.func89, Tryz.ntmps89
 refine_lift fP ?_; intro _
 rw [hrl, hDl]
 refine bH (enters_of Tryz.func147 rfl rfl) rfl rfl (hst) ?_; rintro _ w5 ⟨rfl, o5, m5⟩; refine ⟨_, rfl, ?_⟩; refine aA ?_
 refine_lift aS ?_
 go_end0
 exact ⟨rfl, o5, m5⟩
theorem RE {D : List Rec} (h : (D.filter aU).length ≤ 1) : ∃ x os q, Sx x os q ∧ iW x os q = D ∧ pN x os = D.length ∧ iW x os (if q < pN x os then 0 else q) = eJ D := by
 rcases rX D h with h1 | ⟨os, q, r, h1, h2, h3, h4⟩
 ·exact ⟨none, D, D.length, ⟨h1, fun r e => (by cases e), fun _ => Nat.le_refl _⟩, rfl, by simp [pN], (xY h1).symm⟩
 ·have e : pN (some r) os = os.length + 1 := rfl
  refine ⟨some r, os, q, ⟨h4, fun r' e => ⟨by cases e; exact h3, h1⟩, fun e => by cases e⟩, h2.symm, by rw [e, h2, jT h1], ?_⟩
  rw [e, if_pos (by omega), h2, oT h4 h3]
  rfl
theorem KC {D : List Rec} (h : (D.filter aU).length ≤ 1) : (eJ D).length = D.length := (yC h).length_eq
theorem yG (v : Value) (D : List Rec) (w : World) (hv : Sl 4 w v (aD D)) (h1 : (D.filter aU).length ≤ 1) (hl : D.length ≤ 1000000) :
 Calls Tryz.prog 39 #[v] w (jE w fun r w' => Own w.heap.size 4 47 w' r (aD (eJ D))) := by
 obtain ⟨x, os, q, hS, hD, hN, hH⟩ := RE h1
 go_enter Tryz.func39, Tryz.ntmps39
 refine_lift kL ?_; intro _ _ _
 refine aK (enters_of Tryz.func52 rfl rfl) rfl rfl (nU v D w hv hl) ?_
 intro r w2 x2 o2
 refine aA ?_
 refine_lift bY fun _ _ => ?_
 rw [← hD] at o2
 refine bH (enters_of Tryz.func89 rfl rfl) rfl rfl (CK r x os q w2 hS o2 (by omega)) ?_; rintro _ w5 ⟨rfl, o5, m5⟩; refine ⟨_, rfl, ?_⟩; refine aA ?_
 rw [hH] at o5
 refine_lift aS ?_
 go_ret
 exact ⟨_, rfl, o2.mvx m5 x2 (Nat.le_refl _), o5⟩
set_option maxHeartbeats 4000000 in
theorem mQ (o : List UInt8) (v : Value) (l : List RSet) (w : World) (hv : SetsAt w v l) (hb : ∀ s ∈ l, s.data.length ≤ 1000000) :
 Calls Tryz.prog 11 #[.agg #[aI o, v]] w (jE w fun r w' => ∃ y, r = .tuple #[y, .int .i64 (aX o l)] ∧ Own w.heap.size 4 47 w' y (aD (bO o l))) := by
 go_enter Tryz.func11, Tryz.ntmps11
 refine_lift uL ?_; intro _ _ _
 refine aZ (vs := [aI o, v]) rfl rfl ?_
 intro p w1 x1 hp
 refine aA ?_
 refine_lift gV fun _ _ _ _ => ?_
 refine aB (enters_of Tryz.func34 rfl rfl) rfl rfl (rR o v l _ (hv.ext x1) hb) ?_; intro w2 x2; refine aA ?_
 have hx2 := x1.trans x2
 by_cases hz : aX o l = 0
 ·have hz' : (!decide (aX o l = 0)) = false := by simp [hz]
  have hok := gF hz
  obtain ⟨zl, zb, zd, zr⟩ := nX hok
  obtain ⟨os, q, hr⟩ := hok.recs
  have hh := hr.head hok
  have h1 : ((aF l).filter aU).length ≤ 1 := by
   have := oZ hok (fun _ => true)
   have e : (aF l).filter (fun _ => true) = aF l := List.filter_eq_self.2 (by simp)
   rwa [e] at this
  have hhl := KC h1
  rw [hz]
  refine_lift bY fun _ _ => ?_
  refine aK (enters_of Tryz.func40 rfl rfl) rfl rfl (SX v l _ (hv.ext hx2) (by omega)) ?_
  intro r3 w3 x3 o3
  refine aA ?_
  refine_lift aS ?_
  refine aK (enters_of Tryz.func39 rfl rfl) rfl rfl (yG r3 _ w3 o3.sl h1 (by omega)) ?_
  intro r4 w4 x4 o4
  have hs4 := o4.sl
  have hhd : bD (eJ (aF l)) = soaRec o l := by rw [hh]; rfl
  have hr0 : (aD (eJ (aF l)))[0]? = some [aI (soaRec o l).name, .int .i64 (soaRec o l).kind, .int .i64 (soaRec o l).ttl, aI (soaRec o l).data] := by rw [hh]; rfl
  have hpe := hs4.elem hr0
  refine aA ?_
  refine_lift bY fun _ _ => ?_
  refine bM (Runs.idxW (n := 0) rfl hs4 (by rw [aL, hh]; simp) (by decide +kernel)) ?_
  refine aA ?_
  refine_lift aS ?_
  have hB : w.heap.size ≤ w3.heap.size := (hx2.trans x3).size
  have hB4 := x4.size
  refine FS [aI (soaRec o l).name, .int .i64 (soaRec o l).kind, .int .i64 (soaRec o l).ttl, aI (soaRec o l).data] ((hx2.trans x3).trans x4) (o4.weaken hB) (by rw [aL]; omega) ?_ (lN rfl)
  intro s v' w5 w6 x5 m6 x6 o6
  refine aA ?_
  refine_lift aS ?_
  go_ret2
  refine ⟨_, rfl, x6, v', by rw [hz]; rfl, ?_⟩
  have e : aD (bO o l) = aD (eJ (aF l)) ++ [[aI (soaRec o l).name, .int .i64 (soaRec o l).kind, .int .i64 (soaRec o l).ttl, aI (soaRec o l).data]] := by
   rw [bO, if_pos hz, hhd]
   simp [aD, Rec.cells]
  rw [e]
  exact o6
 ·have hz' : (!decide (aX o l = 0)) = true := by simp [hz]
  refine_lift vF (fun _ _ _ => ?_) (fun _ => ?_)
  all_goals first
   | (exfalso
      have hh := ‹(!decide (aX o l = 0)) = false›
      rw [hz'] at hh
      cases hh
      done)
   | skip
  go_ret2
  exact ⟨_, rfl, hx2, _, rfl, by rw [bO, if_neg hz]; exact Own.nil _ _ _ _⟩
def yH : List Rec := [⟨[1, 97], 6, 9, GW⟩, ⟨[1, 97], 2, 9, [2, 110, 115, 1, 97, 0]⟩, ⟨[2, 110, 115, 1, 97], 1, 9, [49, 49, 49, 49]⟩, ⟨[1, 97], 6, 9, GW⟩]
theorem TM : bO [1, 97] mN = yH := by decide +kernel
def sA : SecR := CF [1, 97] 7
def sB : SecR := sA.heard 5 0
def sC : SecR := sB.got yH 1
def sD : SecR := sC.notify 6 2
theorem UR : ∀ q ∈ yH, q.data.length ≤ 1000000 := by decide +kernel
end Go.Proofs.X
set_option linter.unusedSimpArgs false
set_option linter.unusedVariables false
namespace Go.Proofs.X
open Go.RowKit
section
variable {retry n now : Int} (h1 : 1 ≤ retry) (h2 : retry ≤ 100000) (h3 : 0 ≤ n) (h4 : n ≤ 4294967295) (h5 : 0 ≤ now) (h6 : now ≤ 1000000)
include h5 h6
end
end Go.Proofs.X
set_option linter.unusedSimpArgs false
set_option linter.unusedVariables false
namespace Go.Proofs.X
open Go.RowKit
set_option maxRecDepth 100000
section
variable {now : Int} (h5 : 0 ≤ now) (h6 : now ≤ 1000000)
include h5 h6
end
section
variable {n now : Int} (h5 : 0 ≤ now) (h6 : now ≤ 1000000)
include h5 h6
end
structure OpsAt (w : World) (v : Value) (ps : List OpR) : Prop where
 out : ∃ css, Sl 4 w v css ∧ css.length = ps.length ∧ ∀ (i : Nat) (p : OpR), ps[i]? = some p → ∃ u, css[i]? = some [.int .i64 p.op, .int .i64 p.n, .int .i64 p.now, u] ∧ Sl 4 w u (aD p.l)
theorem OpsAt.ext {w w' : World} {v : Value} {ps : List OpR} (h : OpsAt w v ps) (hx : Ext w w') : OpsAt w' v ps := by
 obtain ⟨css, h1, h2, h3⟩ := h
 exact ⟨css, h1.ext hx, h2, fun i z hi => let ⟨u, a, b⟩ := h3 i z hi; ⟨u, a, b.ext hx⟩⟩
section
variable {P : Program} {w : World} {ts : List Value} {df : List Deferred} {d : Option Nat} {ty : TypeId} {ps : String} {af : Array Edge} {g : Option (Nat × Bool)}
end
theorem oG (n a b : Int) (w : World) : Calls Tryz.prog 120 #[.int .i64 n, .int .i64 a, .int .i64 b] w (bG w (.bool (iQ n a b))) := by
 go_enter Tryz.func120, Tryz.ntmps120
 refine_lift NS (fun hc => ?_) (fun hc => ?_)
 all_goals
  go_ret
  refine ⟨?_, Ext.refl _⟩
  simp [iQ]
  omega
theorem HB (q : FJ) (w : World) : Calls Tryz.prog 123 #[.agg #[aI q.1, .int .i64 q.2]] w (bG w (.bool (KL q))) := by
 go_enter Tryz.func123, Tryz.ntmps123
 refine_lift hY fun _ _ => ?_
 refine aZ (vs := [aI q.1, .int .i64 q.2]) rfl rfl ?_
 intro p w1 x1 hp
 refine aA ?_
 refine_lift gX fun _ _ => ?_
 refine aB (enters_of Tryz.func57 rfl rfl) rfl rfl ((show Calls Tryz.prog 57 #[aI q.1] w1 (bG w1 (.int .i64 (dT q.1))) from RX q.1 w1)) ?_; intro w2 x2; refine aA ?_
 have hp2 := hp.ext x2
 by_cases hcE : dT q.1 = 0
 ·rw [hcE]
  refine_lift dA ?_
  refine aB (enters_of Tryz.func120 rfl rfl) rfl rfl (oG q.2 1 65535 _) ?_; intro w3 x3; refine aA ?_
  have hp3 := hp2.ext x3
  cases hw : iQ q.2 1 65535 with
  | false =>
   refine_lift dA ?_
   go_ret
   refine ⟨?_, (x1.trans x2).trans x3⟩
   simp only [iQ] at hw
   simp [KL, hcE, hw]
  | true =>
   refine_lift dA ?_
   go_ret
   refine ⟨?_, (x1.trans x2).trans x3⟩
   simp only [iQ] at hw
   simp [KL, hcE, hw]
 ·refine_lift NS (fun hc => ?_) (fun hc => ?_)
  all_goals first
   | (exfalso; contradiction)
   | skip
  go_ret
  refine ⟨?_, x1.trans x2⟩
  simp [KL, hcE]
theorem PA (r : Rec) (w : World) : Calls Tryz.prog 176 #[.agg #[aI r.name, .int .i64 r.kind, .int .i64 r.ttl, aI r.data]] w (bG w (.bool (!decide (aW r = 0)))) := by
 go_enter Tryz.func176, Tryz.ntmps176
 refine_lift hY fun _ _ => ?_
 refine aZ (vs := [aI r.name, .int .i64 r.kind, .int .i64 r.ttl, aI r.data]) rfl rfl ?_
 intro p w1 x1 hp
 refine aA ?_
 refine_lift gX fun _ _ => ?_
 refine aB (enters_of Tryz.func60 rfl rfl) rfl rfl (SW r _) ?_; intro w2 x2; refine aA ?_
 refine_lift dA ?_
 go_ret
 exact ⟨rfl, x1.trans x2⟩
theorem tD (v : Value) (l : List Rec) (w : World) (hv : Sl 4 w v (aD l)) : Calls Tryz.prog 124 #[v] w (bG w (.bool (jL l))) := by
 have hlen := aL l
 go_enter Tryz.func124, Tryz.ntmps124
 refine_lift DM (fun hc => ?_) (fun _ _ hc => ?_)
 ·have h2 : decide (l.length ≤ 200) = true := decide_eq_true (by omega)
  refine aB (enters_of Tryz.func58 rfl rfl) rfl rfl (jM v l _ (fun r => !decide (aW r = 0)) _ hv (enters_of Tryz.func176 rfl rfl) (fun r _ w' => PA r w')) ?_; intro w1 x1; refine aA ?_
  refine_lift dA ?_
  go_ret
  refine ⟨?_, x1⟩
  rw [jL, h2]
  rfl
 ·have h2 : decide (l.length ≤ 200) = false := decide_eq_false (by omega)
  go_ret
  refine ⟨?_, Ext.refl _⟩
  rw [jL, h2]
  rfl
set_option maxHeartbeats 1000000 in
theorem BB (q : FJ) (w : World) : Calls Tryz.prog 122 #[.agg #[aI q.1, .int .i64 q.2]] w (bG w (.bool (!KL q))) := by
 go_enter Tryz.func122, Tryz.ntmps122
 refine_lift hY fun _ _ => ?_
 refine aZ (vs := [aI q.1, .int .i64 q.2]) rfl rfl ?_
 intro p w1 x1 hp
 refine aA ?_
 refine_lift gX fun _ _ => ?_
 refine aB (enters_of Tryz.func123 rfl rfl) rfl rfl (HB q _) ?_; intro w2 x2; refine aA ?_
 refine_lift dA ?_
 go_ret
 exact ⟨rfl, x1.trans x2⟩
def PY (f : FuncId) (l : List FJ) (p : FJ → Bool) : Prop := ∀ r ∈ l, ∀ w', Calls Tryz.prog f #[.agg #[aI r.1, .int .i64 r.2]] w' (bG w' (.bool (p r)))
theorem KD {l : List FJ} {k : Nat} (h : k < l.length) : (dL l)[k]? = some [aI l[k].1, .int .i64 l[k].2] := by
 simp [dL, List.getElem?_eq_getElem h]
set_option maxHeartbeats 3000000 in
theorem CL (v : Value) (l : List FJ) (f : FuncId) (p : FJ → Bool) (w : World) (hv : Sl 2 w v (dL l)) (he : Enters Tryz.prog f) (hf : PY f l p) : Calls Tryz.prog 175 #[v, .func (.func f) #[] #[]] w (bG w (.int .i64 (mF p l))) := by
 have hle := hv.le
 have hlen := eG l
 go_enter Tryz.func175, Tryz.ntmps175
 refine_lift gX fun _ _ => ?_
 go_loopw [5, 8] (fun _ i wr => ∃ k : Nat, k ≤ l.length ∧ i = .int .i64 k ∧ Ext w wr ∧ (l.take k).any p = false) (fun _ i _ => l.length - (intOf i).toNat)
 case atStart => exact ⟨0, Nat.zero_le _, rfl, Ext.refl _, rfl⟩
 case round =>
  obtain ⟨k, hk, rfl, hx, hall⟩ := hrel
  have hv2 := hv.ext hx
  by_cases hlt : k < l.length
  ·have hpe := hv2.elem (KD hlt)
   refine_lift SQ ?_; intro _ _ _ _ _ _
   refine eK he rfl rfl rfl (hf _ (List.getElem_mem hlt) _) ?_
   rintro e w2 ⟨rfl, x2⟩
   refine ⟨_, rfl, ?_⟩
   refine aA ?_
   cases hp : p l[k] with
   | true =>
    refine_lift dA ?_
    go_ret
    exact ⟨by rw [sU hlt hall hp]; rfl, hx.trans x2⟩
   | false =>
    refine_lift dA ?_
    exact ⟨⟨k + 1, by omega, by go_num, hx.trans x2, iC hlt hall hp⟩, by simp [intOf]; omega⟩
  ·have : k = l.length := by omega
   subst this
   rw [List.take_length] at hall
   refine_lift RU fun _ => ?_
   go_ret
   exact ⟨by rw [sV hall]; rfl, hx⟩
theorem mY (v : Value) (l : List FJ) (f : FuncId) (p : FJ → Bool) (w : World) (hv : Sl 2 w v (dL l)) (he : Enters Tryz.prog f) (hf : PY f l p) : Calls Tryz.prog 121 #[v, .func (.func f) #[] #[]] w (bG w (.bool (l.any p))) := by
 go_enter Tryz.func121, Tryz.ntmps121
 refine_lift gX fun _ _ => ?_
 refine aB (enters_of Tryz.func175 rfl rfl) rfl rfl (CL v l f p _ hv he hf) ?_; intro w1 x1; refine aA ?_
 refine_lift dA ?_
 go_ret
 exact ⟨by rw [← rQ]; rfl, x1⟩
theorem iX {l : List FJ} {b : Bool} (h : l.any (fun r => !KL r) = b) : l.all KL = !b := by
 rw [← h, List.all_eq_not_any_not]
set_option maxHeartbeats 3000000 in
theorem NC (m : MsgR) (q a u e : Value) (w : World) (hm : MsgV w m q a u e) : Calls Tryz.prog 72 #[.agg (fX m q a u e).toArray] w (bG w (.int .i64 (fA m))) := by
 go_enter Tryz.func72, Tryz.ntmps72
 refine_lift hY fun _ _ => ?_
 refine aZ (vs := fX m q a u e) rfl rfl ?_
 intro p w1 x1 hp
 refine aA ?_
 unfold fX at hp
 have hm0 := hm
 obtain ⟨hq0, ha0, hu0, he0⟩ := hm
 have hq1 := hq0.ext x1
 have hm := hm0
 refine_lift gX fun _ _ => ?_
 all_goals first
  | (exfalso; contradiction)
  | (exfalso; omega)
  | skip
 refine aB (enters_of Tryz.func120 rfl rfl) rfl rfl (oG m.id 0 65535 _) ?_; intro w2 x2; refine aA ?_
 have hx2 := (Ext.refl w1).trans x2
 have hp2 := hp.ext hx2
 cases h2 : iQ m.id 0 65535 with
 | false =>
  refine_lift dA ?_
  all_goals first
   | (exfalso; contradiction)
   | (exfalso; omega)
   | skip
  go_ret
  refine ⟨?_, x1.trans hx2⟩
  simp [fA, h2]
 | true =>
  refine_lift dA ?_
  all_goals first
   | (exfalso; contradiction)
   | (exfalso; omega)
   | skip
  refine aB (enters_of Tryz.func120 rfl rfl) rfl rfl (oG m.op 0 15 _) ?_; intro w3 x3; refine aA ?_
  have hx3 := hx2.trans x3
  have hp3 := hp.ext hx3
  cases h3 : iQ m.op 0 15 with
  | false =>
   refine_lift dA ?_
   all_goals first
    | (exfalso; contradiction)
    | (exfalso; omega)
    | skip
   go_ret
   refine ⟨?_, x1.trans hx3⟩
   simp [fA, h2, h3]
  | true =>
   refine_lift dA ?_
   all_goals first
    | (exfalso; contradiction)
    | (exfalso; omega)
    | skip
   refine aB (enters_of Tryz.func120 rfl rfl) rfl rfl (oG m.rcode 0 15 _) ?_; intro w4 x4; refine aA ?_
   have hx4 := hx3.trans x4
   have hp4 := hp.ext hx4
   cases h4 : iQ m.rcode 0 15 with
   | false =>
    refine_lift dA ?_
    all_goals first
     | (exfalso; contradiction)
     | (exfalso; omega)
     | skip
    go_ret
    refine ⟨?_, x1.trans hx4⟩
    simp [fA, h2, h3, h4]
   | true =>
    by_cases hz : m.size = 0
    ·clear hm0
     by_cases hl : m.qs.length ≤ 10
     ·have hl0 : ((dL m.qs).length : Int) ≤ 10 := by rw [eG]; omega
      refine_lift KV (fun hc _ _ hc => ?_) (fun hc hc _ _ => ?_) (fun hc => ?_)
      all_goals first
       | (exfalso; contradiction)
       | (exfalso; omega)
       | skip
      refine aB (enters_of Tryz.func121 rfl rfl) rfl rfl (mY q m.qs _ (fun r => !KL r) _ ((hm.qs.ext x1).ext hx4) (enters_of Tryz.func122 rfl rfl) (fun r _ w' => BB r w')) ?_; intro w7 x7; refine aA ?_
      have hx7 := hx4.trans x7
      have hp7 := hp.ext hx7
      cases h7 : m.qs.any (fun r => !KL r) with
      | true =>
       refine_lift dA ?_
       all_goals first
        | (exfalso; contradiction)
        | (exfalso; omega)
        | skip
       go_ret
       refine ⟨?_, x1.trans hx7⟩
       simp [fA, h2, h3, h4, hz, hl, iX h7]
      | false =>
       refine_lift JA fun _ _ _ _ => ?_
       all_goals first
        | (exfalso; contradiction)
        | (exfalso; omega)
        | skip
       refine aB (enters_of Tryz.func124 rfl rfl) rfl rfl (tD a m.an _ ((hm.an.ext x1).ext hx7)) ?_; intro w8 x8; refine aA ?_
       have hx8 := hx7.trans x8
       have hp8 := hp.ext hx8
       cases h8 : jL m.an with
       | false =>
        refine_lift dA ?_
        all_goals first
         | (exfalso; contradiction)
         | (exfalso; omega)
         | skip
        go_ret
        refine ⟨?_, x1.trans hx8⟩
        simp [fA, h2, h3, h4, hz, hl, iX h7, h8]
       | true =>
        refine_lift dA ?_
        all_goals first
         | (exfalso; contradiction)
         | (exfalso; omega)
         | skip
        refine aB (enters_of Tryz.func124 rfl rfl) rfl rfl (tD u m.au _ ((hm.au.ext x1).ext hx8)) ?_; intro w9 x9; refine aA ?_
        have hx9 := hx8.trans x9
        have hp9 := hp.ext hx9
        cases h9 : jL m.au with
        | false =>
         refine_lift dA ?_
         all_goals first
          | (exfalso; contradiction)
          | (exfalso; omega)
          | skip
         go_ret
         refine ⟨?_, x1.trans hx9⟩
         simp [fA, h2, h3, h4, hz, hl, iX h7, h8, h9]
        | true =>
         refine_lift dA ?_
         all_goals first
          | (exfalso; contradiction)
          | (exfalso; omega)
          | skip
         refine aB (enters_of Tryz.func124 rfl rfl) rfl rfl (tD e m.ex _ ((hm.ex.ext x1).ext hx9)) ?_; intro w10 x10; refine aA ?_
         have hx10 := hx9.trans x10
         have hp10 := hp.ext hx10
         cases h10 : jL m.ex with
         | false =>
          refine_lift dA ?_
          all_goals first
           | (exfalso; contradiction)
           | (exfalso; omega)
           | skip
          go_ret
          refine ⟨?_, x1.trans hx10⟩
          simp [fA, h2, h3, h4, hz, hl, iX h7, h8, h9, h10]
         | true =>
          refine_lift dA ?_
          all_goals first
           | (exfalso; contradiction)
           | (exfalso; omega)
           | skip
          go_ret
          refine ⟨?_, x1.trans hx10⟩
          simp [fA, h2, h3, h4, hz, hl, iX h7, h8, h9, h10]
     ·have hl0 : ¬ ((dL m.qs).length : Int) ≤ 10 := by rw [eG]; omega
      refine_lift KV (fun hc _ _ hc => ?_) (fun hc hc _ _ => ?_) (fun hc => ?_)
      all_goals first
       | (exfalso; contradiction)
       | (exfalso; omega)
       | skip
      go_ret
      refine ⟨?_, x1.trans hx4⟩
      simp [fA, h2, h3, h4, hz, hl]
    ·clear hm0
     refine_lift KV (fun hc _ _ hc => ?_) (fun hc hc _ _ => ?_) (fun hc => ?_)
     all_goals first
      | (exfalso; contradiction)
      | (exfalso; omega)
      | skip
     refine aB (enters_of Tryz.func120 rfl rfl) rfl rfl (oG m.size 512 65535 _) ?_; intro w6 x6; refine aA ?_
     have hx6 := hx4.trans x6
     have hp6 := hp.ext hx6
     cases h6 : iQ m.size 512 65535 with
     | false =>
      refine_lift dA ?_
      all_goals first
       | (exfalso; contradiction)
       | (exfalso; omega)
       | skip
      go_ret
      refine ⟨?_, x1.trans hx6⟩
      simp [fA, h2, h3, h4, hz, h6]
     | true =>
      by_cases hl : m.qs.length ≤ 10
      ·have hl0 : ((dL m.qs).length : Int) ≤ 10 := by rw [eG]; omega
       refine_lift NT (fun hc _ _ => ?_) (fun _ _ hc => ?_)
       all_goals first
        | (exfalso; contradiction)
        | (exfalso; omega)
        | skip
       refine aB (enters_of Tryz.func121 rfl rfl) rfl rfl (mY q m.qs _ (fun r => !KL r) _ ((hm.qs.ext x1).ext hx6) (enters_of Tryz.func122 rfl rfl) (fun r _ w' => BB r w')) ?_; intro w8 x8; refine aA ?_
       have hx8 := hx6.trans x8
       have hp8 := hp.ext hx8
       cases h8 : m.qs.any (fun r => !KL r) with
       | true =>
        refine_lift dA ?_
        all_goals first
         | (exfalso; contradiction)
         | (exfalso; omega)
         | skip
        go_ret
        refine ⟨?_, x1.trans hx8⟩
        simp [fA, h2, h3, h4, hz, h6, hl, iX h8]
       | false =>
        refine_lift JA fun _ _ _ _ => ?_
        all_goals first
         | (exfalso; contradiction)
         | (exfalso; omega)
         | skip
        refine aB (enters_of Tryz.func124 rfl rfl) rfl rfl (tD a m.an _ ((hm.an.ext x1).ext hx8)) ?_; intro w9 x9; refine aA ?_
        have hx9 := hx8.trans x9
        have hp9 := hp.ext hx9
        cases h9 : jL m.an with
        | false =>
         refine_lift dA ?_
         all_goals first
          | (exfalso; contradiction)
          | (exfalso; omega)
          | skip
         go_ret
         refine ⟨?_, x1.trans hx9⟩
         simp [fA, h2, h3, h4, hz, h6, hl, iX h8, h9]
        | true =>
         refine_lift dA ?_
         all_goals first
          | (exfalso; contradiction)
          | (exfalso; omega)
          | skip
         refine aB (enters_of Tryz.func124 rfl rfl) rfl rfl (tD u m.au _ ((hm.au.ext x1).ext hx9)) ?_; intro w10 x10; refine aA ?_
         have hx10 := hx9.trans x10
         have hp10 := hp.ext hx10
         cases h10 : jL m.au with
         | false =>
          refine_lift dA ?_
          all_goals first
           | (exfalso; contradiction)
           | (exfalso; omega)
           | skip
          go_ret
          refine ⟨?_, x1.trans hx10⟩
          simp [fA, h2, h3, h4, hz, h6, hl, iX h8, h9, h10]
         | true =>
          refine_lift dA ?_
          all_goals first
           | (exfalso; contradiction)
           | (exfalso; omega)
           | skip
          refine aB (enters_of Tryz.func124 rfl rfl) rfl rfl (tD e m.ex _ ((hm.ex.ext x1).ext hx10)) ?_; intro w11 x11; refine aA ?_
          have hx11 := hx10.trans x11
          have hp11 := hp.ext hx11
          cases h11 : jL m.ex with
          | false =>
           refine_lift dA ?_
           all_goals first
            | (exfalso; contradiction)
            | (exfalso; omega)
            | skip
           go_ret
           refine ⟨?_, x1.trans hx11⟩
           simp [fA, h2, h3, h4, hz, h6, hl, iX h8, h9, h10, h11]
          | true =>
           refine_lift dA ?_
           all_goals first
            | (exfalso; contradiction)
            | (exfalso; omega)
            | skip
           go_ret
           refine ⟨?_, x1.trans hx11⟩
           simp [fA, h2, h3, h4, hz, h6, hl, iX h8, h9, h10, h11]
      ·have hl0 : ¬ ((dL m.qs).length : Int) ≤ 10 := by rw [eG]; omega
       refine_lift NT (fun hc _ _ => ?_) (fun _ _ hc => ?_)
       all_goals first
        | (exfalso; contradiction)
        | (exfalso; omega)
        | skip
       go_ret
       refine ⟨?_, x1.trans hx6⟩
       simp [fA, h2, h3, h4, hz, h6, hl]
structure MsgsAt (w : World) (v : Value) (ms : List MsgR) : Prop where
 out : ∃ css, Sl 13 w v css ∧ css.length = ms.length ∧ ∀ (i : Nat) (m : MsgR), ms[i]? = some m → ∃ q a u e, css[i]? = some (fX m q a u e) ∧ MsgV w m q a u e
theorem MsgsAt.ext {w w' : World} {v : Value} {ms : List MsgR} (h : MsgsAt w v ms) (hx : Ext w w') : MsgsAt w' v ms := by
 obtain ⟨css, h1, h2, h3⟩ := h
 exact ⟨css, h1.ext hx, h2, fun i m hi => let ⟨q, a, u, e, b, c⟩ := h3 i m hi; ⟨q, a, u, e, b, c.ext hx⟩⟩
def BC (q m : MsgR) : Bool := m.resp && decide (m.id = q.id) && decide (m.rcode = 0) && !m.trunc
def CM (q : MsgR) (ms : List MsgR) : Int := if q.qs.length ≠ 1 then 1 else if ms = [] then 2 else if ms.all (BC q) = true then 0 else 2
def CN (q : MsgR) (ms : List MsgR) : List Rec := if CM q ms = 0 then (ms.map (·.an)).flatten else []
theorem KE {ms : List MsgR} {k : Nat} (h : k < ms.length) : ((ms.take (k + 1)).map (·.an)).flatten = ((ms.take k).map (·.an)).flatten ++ ms[k].an := by
 rw [List.take_add_one, List.getElem?_eq_getElem h, List.map_append, List.flatten_append]
 simp only [Option.toList_some, List.map_cons, List.map_nil, List.flatten_cons, List.flatten_nil, List.append_nil]
theorem yI (a b : List Rec) : aD (a ++ b) = aD a ++ aD b := by simp [aD]
def RF : List Value := [.int .i64 0, .bool false, .int .i64 0, .bool false, .bool false, .bool false, .bool false, .int .i64 0, .slice none 0 0, .slice none 0 0, .slice none 0 0, .slice none 0 0, .int .i64 0]
theorem CO {w : World} {m : MsgR} {q a u e : Value} (h : MsgV w m q a u e) : (Value.agg (fX m q a u e).toArray).cells.all (·.oneCell') = true := by
 have := h.one
 simp only [Value.cells, List.all_toArray, List.all_eq_true]
 exact this
theorem PB {ms : List MsgR} {n : Nat} (h : ∀ m ∈ ms, m.an.length ≤ n) : (ms.map (·.an)).flatten.length ≤ ms.length * n := by
 induction ms with
 | nil => simp
 | cons m t ih =>
  have h1 := h m (by simp)
  have h2 := ih (fun x hx => h x (by simp [hx]))
  simp only [List.map_cons, List.flatten_cons, List.length_append, List.length_cons]
  rw [Nat.succ_mul]
  omega
set_option maxHeartbeats 2000000 in
theorem ND (m : MsgR) (q a u e v : Value) (ms : List MsgR) (w : World) (hm : MsgV w m q a u e) (hv : MsgsAt w v ms) (hl : ms.length ≤ 1000) (ha : ∀ x ∈ ms, x.an.length ≤ 900) :
 Calls Tryz.prog 28 #[.agg (fX m q a u e).toArray, v] w (jE w fun r w' => ∃ y, r = .tuple #[y, .int .i64 (CM m ms)] ∧ Own w.heap.size 4 47 w' y (aD (CN m ms))) := by
 have hql := eG m.qs
 obtain ⟨css, hs, hcl, hat⟩ := hv.out
 go_enter Tryz.func28, Tryz.ntmps28
 refine_lift uL ?_; intro _ _ _
 refine aZ (vs := fX m q a u e) rfl rfl ?_
 intro p w1 x1 hp
 refine aA ?_
 unfold fX at hp
 have hq1 := hm.qs.ext x1
 have hs1 := hs.ext x1
 by_cases h1 : m.qs.length = 1
 ·have h1' : ((dL m.qs).length : Int) = 1 := by omega
  by_cases h0 : ms = []
  ·have h0' : (css.length : Int) = 0 := by rw [hcl, h0]; rfl
   have hE : CM m ms = 2 := by rw [CM, if_neg (by simpa using h1), if_pos h0]
   refine_lift UE (fun _ _ => ?_) (fun _ => ?_)
   all_goals first
    | (exfalso; have hh := ‹(!decide (((dL m.qs).length : Int) = 1)) = true›; simp [h1'] at hh; done)
    | (exfalso; omega)
    | skip
   go_ret2
   refine ⟨_, rfl, x1, .slice none 0 0, by rw [hE]; rfl, ?_⟩
   rw [CN, if_neg (by rw [hE]; decide)]
   exact Own.nil _ _ _ _
  ·have h0' : ¬ (css.length : Int) = 0 := by
    have := List.length_pos_iff.2 h0
    omega
   have hE : CM m ms = if ms.all (BC m) = true then 0 else 2 := by rw [CM, if_neg (by simpa using h1), if_neg h0]
   refine_lift UF (fun _ _ _ _ => ?_) (fun _ => ?_)
   all_goals first
    | (exfalso; have hh := ‹(!decide (((dL m.qs).length : Int) = 1)) = true›; simp [h1'] at hh; done)
    | (exfalso; omega)
    | skip
   have hsz1 := x1.size
   go_loopw [6, 20] (fun o i wr => ∃ k : Nat, k ≤ ms.length ∧ i = .int .i64 k ∧ Ext w1 wr ∧ Own w1.heap.size 4 47 wr o (aD ((ms.take k).map (·.an)).flatten) ∧ (ms.take k).all (BC m) = true) (fun _ i _ => ms.length - (intOf i).toNat)
   case atStart => exact ⟨0, Nat.zero_le _, rfl, Ext.refl _, Own.nil _ _ _ _, rfl⟩
   case round =>
    obtain ⟨k, hk, rfl, hx, ho, hall⟩ := hrel
    have hpr := hp.ext hx
    have hsr := hs1.ext hx
    by_cases hlt : k < ms.length
    ·obtain ⟨qk, ak, uk, ek, hck, hmk⟩ := hat k _ (List.getElem?_eq_getElem hlt)
     have hpe := hsr.elem hck
     have hkc : k < css.length := by omega
     have hmr := (hmk.ext x1).ext hx
     have hak := ha _ (List.getElem_mem hlt)
     unfold fX at hpe
     refine_lift SQ ?_; intro _ _ _ _ _ _
     refine aG (z := RF) rfl (by decide +kernel) ?_
     intro w3 x3 s3 h3
     refine aA ?_
     refine aC (v := .agg (fX ms[k] qk ak uk ek).toArray) rfl rfl rfl h3 (show aO Tryz.prog 55 13 = true by decide +kernel) rfl (CO hmr) ?_
     intro w4 p4
     have x4 : Ext wr w4 := x3.move p4.mv (by rintro k ⟨⟩; exact Nat.le_refl _)
     have hk4 : w4.heap[wr.heap.size]? = some (.cells (fX ms[k] qk ak uk ek).toArray 55 (0, 0)) := p4.this
     have hx4 := hx.trans x4
     have hp4 := hpr.ext x4
     have ho4 := ho.ext x4
     have hm4 := hmr.ext x4
     clear p4 h3 x3 x4 hpe hpr ho hx
     generalize wr.heap.size = mk at *
     have hpm := aE (cs := fX ms[k] qk ak uk ek) hk4
     unfold fX at hpm
     obtain ⟨x, hx0⟩ : ∃ x, x = ms[k] := ⟨_, rfl⟩
     rw [← hx0] at hpm hm4 hak
     have hx0 := hx0.symm
     cases hre : x.resp with
     | false =>
      rw [hre] at hpm
      refine_lift dA ?_
      go_ret2
      refine ⟨_, rfl, x1.trans hx4, .slice none 0 0, by rw [hE, if_neg (by rw [iA hlt (p := BC m) (by rw [hx0]; simp [BC, hre])]; decide)]; rfl, ?_⟩
      rw [CN, if_neg (by rw [hE, if_neg (by rw [iA hlt (p := BC m) (by rw [hx0]; simp [BC, hre])]; decide)]; decide)]
      exact Own.nil _ _ _ _
     | true =>
      rw [hre] at hpm
      by_cases hid : x.id = m.id
      ·by_cases hrc : x.rcode = 0
       ·cases htr : x.trunc with
        | true =>
         rw [htr] at hpm
         refine_lift HP (fun hc hc => ?_) (fun hc => ?_) (fun hc hc => ?_)
         all_goals first
          | (exfalso; have hh := ‹(!decide (x.id = m.id)) = true›; simp [hid] at hh; done)
          | (exfalso; have hh := ‹(!decide (x.id = m.id)) = false›; simp [hid] at hh; done)
          | (exfalso; have hh := ‹(!decide (x.rcode = 0)) = true›; simp [hrc] at hh; done)
          | (exfalso; have hh := ‹(!decide (x.rcode = 0)) = false›; simp [hrc] at hh; done)
          | skip
         go_ret2
         refine ⟨_, rfl, x1.trans hx4, .slice none 0 0, by rw [hE, if_neg (by rw [iA hlt (p := BC m) (by rw [hx0]; simp [BC, hre, hid, hrc, htr])]; decide)]; rfl, ?_⟩
         rw [CN, if_neg (by rw [hE, if_neg (by rw [iA hlt (p := BC m) (by rw [hx0]; simp [BC, hre, hid, hrc, htr])]; decide)]; decide)]
         exact Own.nil _ _ _ _
        | false =>
         rw [htr] at hpm
         refine_lift HP (fun hc hc => ?_) (fun hc => ?_) (fun hc hc => ?_)
         all_goals first
          | (exfalso; have hh := ‹(!decide (x.id = m.id)) = true›; simp [hid] at hh; done)
          | (exfalso; have hh := ‹(!decide (x.id = m.id)) = false›; simp [hid] at hh; done)
          | (exfalso; have hh := ‹(!decide (x.rcode = 0)) = true›; simp [hrc] at hh; done)
          | (exfalso; have hh := ‹(!decide (x.rcode = 0)) = false›; simp [hrc] at hh; done)
          | skip
         have hfl := PB (ms := ms.take k) (n := 900) (fun y hy => ha y (List.mem_of_mem_take hy))
         have htk : (ms.take k).length ≤ 999 := by rw [List.length_take]; omega
         have hfl2 := Nat.le_trans hfl (Nat.mul_le_mul_right 900 htk)
         refine cP rfl ho4 rfl hm4.an mM (Ext.size hx4) (by rw [aL, aL]; omega) ?_
         intro v5 w5 o5 m5 _
         refine aA ?_
         have hx5 := ho4.mvx m5 hx4 (Nat.le_refl _)
         refine_lift dA ?_
         have o5' : Own w1.heap.size 4 47 w5 v5 (aD ((ms.take (k + 1)).map (·.an)).flatten) := by
          rw [KE hlt, yI, hx0]
          exact o5
         exact ⟨⟨k + 1, by omega, rfl, hx5, o5', jB hlt hall (by rw [hx0]; simp [BC, hre, hid, hrc, htr])⟩, by simp [intOf]; omega⟩
       ·skip
        refine_lift KW (fun hc hc _ => ?_) (fun hc hc => ?_) (fun hc => ?_) (fun hc hc _ => ?_)
        all_goals first
         | (exfalso; have hh := ‹(!decide (x.id = m.id)) = true›; simp [hid] at hh; done)
         | (exfalso; have hh := ‹(!decide (x.id = m.id)) = false›; simp [hid] at hh; done)
         | (exfalso; have hh := ‹(!decide (x.rcode = 0)) = true›; simp [hrc] at hh; done)
         | (exfalso; have hh := ‹(!decide (x.rcode = 0)) = false›; simp [hrc] at hh; done)
         | skip
        go_ret2
        refine ⟨_, rfl, x1.trans hx4, .slice none 0 0, by rw [hE, if_neg (by rw [iA hlt (p := BC m) (by rw [hx0]; simp [BC, hre, hid, hrc])]; decide)]; rfl, ?_⟩
        rw [CN, if_neg (by rw [hE, if_neg (by rw [iA hlt (p := BC m) (by rw [hx0]; simp [BC, hre, hid, hrc])]; decide)]; decide)]
        exact Own.nil _ _ _ _
      ·skip
       refine_lift KW (fun hc hc _ => ?_) (fun hc hc => ?_) (fun hc => ?_) (fun hc hc _ => ?_)
       all_goals first
        | (exfalso; have hh := ‹(!decide (x.id = m.id)) = true›; simp [hid] at hh; done)
        | (exfalso; have hh := ‹(!decide (x.id = m.id)) = false›; simp [hid] at hh; done)
        | skip
       go_ret2
       refine ⟨_, rfl, x1.trans hx4, .slice none 0 0, by rw [hE, if_neg (by rw [iA hlt (p := BC m) (by rw [hx0]; simp [BC, hre, hid])]; decide)]; rfl, ?_⟩
       rw [CN, if_neg (by rw [hE, if_neg (by rw [iA hlt (p := BC m) (by rw [hx0]; simp [BC, hre, hid])]; decide)]; decide)]
       exact Own.nil _ _ _ _
    ·have hk2 : k = ms.length := by omega
     subst hk2
     rw [List.take_length] at hall ho
     refine_lift RU fun _ => ?_
     go_ret2
     refine ⟨_, rfl, x1.trans hx, _, by rw [hE, if_pos hall]; rfl, ?_⟩
     rw [CN, if_pos (by rw [hE, if_pos hall])]
     exact ho.weaken hsz1
 ·have h1' : ¬ ((dL m.qs).length : Int) = 1 := by omega
  have hE : CM m ms = 1 := by rw [CM, if_pos h1]
  refine_lift SL (fun _ _ => ?_) (fun _ _ _ _ => ?_) (fun _ => ?_)
  all_goals first
   | (exfalso; have hh := ‹(!decide (((dL m.qs).length : Int) = 1)) = false›; simp [h1'] at hh; done)
   | skip
  go_ret2
  refine ⟨_, rfl, x1, .slice none 0 0, by rw [hE]; rfl, ?_⟩
  rw [CN, if_neg (by rw [hE]; decide)]
  exact Own.nil _ _ _ _
theorem NE (n : Int) (w : World) : Calls Tryz.prog 157 #[.int .i64 n] w (bG w (.bool (eX n))) := by
 go_enter Tryz.func157, Tryz.ntmps157
 refine_lift rF (fun hc => ?_) (fun hc => ?_)
 all_goals
  go_ret
  refine ⟨?_, Ext.refl _⟩
  unfold eX
  first
   | (rw [decide_eq_false (show ¬ (0 ≤ n) by omega)]; rfl)
   | (rw [decide_eq_true (show 0 ≤ n by omega)]
      by_cases h : n ≤ 4294967295
      ·rw [decide_eq_true h, decide_eq_true (show n < 4294967296 by omega)]; rfl
      ·rw [decide_eq_false h, decide_eq_false (show ¬ n < 4294967296 by omega)]; rfl)
theorem HC (a b : Int) (w : World) : Calls Tryz.prog 99 #[.int .i64 a, .int .i64 b] w (bG w (.tuple #[.int .i64 (eU a b).1, .int .i64 (eU a b).2])) := by
 go_enter Tryz.func99, Tryz.ntmps99
 refine_lift gV fun _ _ _ _ => ?_
 refine aB (enters_of Tryz.func157 rfl rfl) rfl rfl (NE a _) ?_; intro w1 x1; refine aA ?_
 cases ha : eX a with
 | false =>
  refine_lift aS ?_
  go_ret2
  exact ⟨by rw [eU, if_pos (by simp [ha])]; rfl, x1⟩
 | true =>
  refine_lift aS ?_
  refine aB (enters_of Tryz.func157 rfl rfl) rfl rfl (NE b _) ?_; intro w2 x2; refine aA ?_
  have hx2 := x1.trans x2
  cases hb : eX b with
  | false =>
   refine_lift aS ?_
   go_ret2
   exact ⟨by rw [eU, if_pos (by simp [hb])]; rfl, hx2⟩
  | true =>
   have hk : 0 ≤ a ∧ a ≤ 4294967295 ∧ 0 ≤ b ∧ b ≤ 4294967295 := by
    simp only [eX, Bool.and_eq_true, decide_eq_true_eq] at ha hb
    omega
   obtain ⟨m, hm⟩ : ∃ m : Nat, b - a + 4294967296 = (m : Int) := ⟨(b - a + 4294967296).toNat, by omega⟩
   have hmod : ((m % 4294967296 : Nat) : Int) = (b - a) % 4294967296 := by
    rw [Int.natCast_emod, ← hm]
    omega
   refine_lift bY fun _ _ => ?_
   refine bM (Runs.remN (m := m) (n := 4294967296) (by rw [← hm]; rfl) rfl (by decide) (by omega)) ?_
   refine aA ?_
   rw [hmod]
   refine_lift QF (fun _ _ _ _ => ?_) (fun _ _ _ _ _ => ?_) (fun _ _ _ => ?_) (fun _ => ?_)
   all_goals
    go_ret2
    refine ⟨?_, hx2⟩
    rw [eU, if_neg (by simp [ha, hb])]
    first
     | (rw [if_pos (by omega)]; rfl)
     | (rw [if_neg (by omega), if_pos (by omega)]; rfl)
     | (rw [if_neg (by omega), if_neg (by omega), if_pos (by omega)]; rfl)
     | (rw [if_neg (by omega), if_neg (by omega), if_neg (by omega)]; rfl)
theorem KF (a b : Int) : eU a b = (0, 1) ∧ dB a b = false ∨ eU a b = (0, 0) ∧ dB a b = false ∨ eU a b = (-1, 0) ∧ dB a b = false ∨ eU a b = (1, 0) ∧ dB a b = true ∨ eU a b = (0, 5) ∧ dB a b = false := by
 unfold eU dB
 cases hok : (eX a && eX b) with
 | false => simp
 | true =>
  simp only [Bool.true_eq_false, if_false, Bool.true_and]
  generalize (b - a) % 4294967296 = d
  by_cases h1 : d = 0
  ·simp [h1]
  ·by_cases h2 : d < 2147483648
   ·have : ¬ 2147483648 < d := by omega
    simp [h1, h2, this]
   ·by_cases h3 : 2147483648 < d
    ·simp [h1, h2, h3]
    ·simp [h1, h2, h3]
theorem FC (a b : Int) (w : World) : Calls Tryz.prog 48 #[.int .i64 a, .int .i64 b] w (bG w (.bool (dB a b))) := by
 go_enter Tryz.func48, Tryz.ntmps48
 refine_lift bY fun _ _ => ?_
 refine aB (enters_of Tryz.func99 rfl rfl) rfl rfl (HC a b _) ?_; intro w1 x1; refine aA ?_
 rcases KF a b with ⟨h1, h2⟩ | ⟨h1, h2⟩ | ⟨h1, h2⟩ | ⟨h1, h2⟩ | ⟨h1, h2⟩
 all_goals
  rw [h1]
  refine_lift aS ?_
  go_ret
  exact ⟨by rw [h2]; rfl, x1⟩
end Go.Proofs.X
