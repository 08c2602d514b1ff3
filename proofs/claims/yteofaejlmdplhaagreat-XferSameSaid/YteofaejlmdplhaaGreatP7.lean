/- Laws and walks that the proof of the statement is made of (part 7). -/
import Derived.Test.YteofaejlmdplhaaGreatP6
set_option linter.unusedSimpArgs false
set_option linter.unusedVariables false
namespace Go.Proofs.X
open Go.RowKit
set_option maxRecDepth 100000
theorem gE (n : List UInt8) : dJ n = (bF n).map fun ls => (ls.map low).reverse := by
 cases h : bF n with
 | none => simp [dJ, fold, h]
 | some ls => simp [dJ, (vW h).2.1]
set_option maxHeartbeats 6000000 in
theorem gM (nm : List UInt8) (w : World) : Calls Tryz.prog 67 #[aI nm] w (bG w (aI (fold nm))) := by
 go_enter Tryz.func67, Tryz.ntmps67
 refine_lift bY fun _ _ => ?_
 refine aK (enters_of Tryz.func112 rfl rfl) rfl rfl (mA nm _) ?_
 intro v w1 x1 hv
 cases hl : bF nm with
 | none =>
  rw [hl] at hv
  subst hv
  refine_lift aS ?_
  go_ret
  exact ⟨by simp [fold, hl], x1⟩
 | some ls =>
  rw [hl] at hv
  obtain ⟨s, rfl, hs⟩ := hv
  have hfit := eC hl
  have hlen := gN ls
  rw [hfit.2.1] at hlen
  refine_lift bY fun _ _ => ?_
  go_loopw [5] (fun i wr => ∃ k : Nat, k ≤ ls.length ∧ i = .int .i64 k ∧ Ext w wr ∧ Own w.heap.size 1 9 wr s (aN (qJ low ls k))) (fun i _ => ls.length - (intOf i).toNat)
  case atStart => exact ⟨0, Nat.zero_le _, rfl, x1, by simpa [zJ] using hs⟩
  case round =>
   obtain ⟨k, hk, rfl, hx, ho⟩ := hrel
   have hsl := ho.sl
   have hlen2 : (aN (qJ low ls k)).length = ls.length := by rw [aR, tI]
   by_cases hlt : k < ls.length
   ·have hp := hsl.elem (qN _ _ _ (DF low ls k hlt))
    have h254 : ls[k].length ≤ 254 := by have := gO (List.getElem_mem hlt); rw [hfit.2.1] at this; omega
    refine_lift gV ?_; intro _ _ _ _
    refine aB (enters_of Tryz.func114 rfl rfl) rfl rfl (nM _ _ (by omega)) ?_; intro w2 x2; refine aA ?_
    have hsl := hsl.ext x2
    have ho := ho.ext x2
    have hx := hx.trans x2
    clear hp
    refine_lift aS ?_
    refine gU (c := aI (low ls[k])) (i := k) rfl rfl rfl ho (by omega) (by decide +kernel) rfl ?_
    intro w3 o3 m3
    have hx3 := ho.mvx m3 hx (Nat.le_refl _)
    rw [vK, ← zK low ls k hlt] at o3
    clear hx ho hsl
    refine_lift aS ?_
    exact ⟨⟨k + 1, by omega, by go_num, hx3, o3⟩, by simp [intOf]; omega⟩
   ·have : k = ls.length := by omega
    subst this
    rw [DE] at hsl hlen2
    refine_lift kL fun _ _ _ => ?_
    refine aB (enters_of Tryz.func115 rfl rfl) rfl rfl (NY _ _ _ hsl) ?_; intro w2 x2; refine aA ?_
    cases hj : lW (ls.map low) with
    | none =>
     refine_lift aS ?_
     go_ret
     exact ⟨by simp [fold, hl, hj], hx.trans x2⟩
    | some n =>
     refine_lift aS ?_
     go_ret
     exact ⟨by simp [fold, hl, hj], hx.trans x2⟩
def cQ (n t : List UInt8) : Bool := match dJ n with
 | none => false
 | some a => match dJ t with
   | none => false
   | some b => decide (a.take b.length = b)
def qP (ls : List (List UInt8)) : List (List UInt8) := (ls.map low).reverse
theorem eE (ls : List (List UInt8)) : (qP ls).length = ls.length := by simp [qP]
theorem rN {ls : List (List UInt8)} {k : Nat} (h : k < ls.length) : (qP ls)[k]'(by rw [eE]; exact h) = low (ls[ls.length - 1 - k]'(by omega)) := by
 simp [qP]
theorem uM {w : World} {v : Value} {ls : List (List UInt8)} (h : Sl 1 w v (aN ls)) {k : Nat} (hk : k < ls.length) : Pts w (bX v ((((aN ls).length : Int) - 1 - k).toNat * 1)) [aI (ls[ls.length - 1 - k]'(by omega))] := by
 have := h.elem (i := ls.length - 1 - k) (e := [aI (ls[ls.length - 1 - k]'(by omega))]) (eA (by omega))
 rwa [show (((aN ls).length : Int) - 1 - k).toNat = ls.length - 1 - k by rw [aR]; omega]
theorem DT {α : Type} {a b : List α} {k : Nat} (h : a.take b.length = b) (hk : k < b.length) (ha : k < a.length) : a[k] = b[k] := by
 have h1 : (a.take b.length)[k]? = b[k]? := by rw [h]
 rw [List.getElem?_take, if_pos hk, List.getElem?_eq_getElem ha, List.getElem?_eq_getElem hk] at h1
 exact Option.some.inj h1
set_option maxHeartbeats 12000000 in
theorem DU (a b : List UInt8) (w : World) : Calls Tryz.prog 150 #[aI a, aI b] w (bG w (.bool (cQ a b))) := by
 go_enter Tryz.func150, Tryz.ntmps150
 refine_lift bY fun _ _ => ?_
 refine aK (enters_of Tryz.func112 rfl rfl) rfl rfl (mA a _) ?_
 intro v w1 x1 hv
 cases hl : bF a with
 | none =>
  rw [hl] at hv
  subst hv
  refine_lift bY fun _ _ => ?_
  refine aK (enters_of Tryz.func112 rfl rfl) rfl rfl (mA b _) ?_
  intro v2 w2 x2 hv2
  have hu : cQ a b = false := by simp [cQ, gE, hl]
  cases hm : bF b with
  | none =>
   rw [hm] at hv2
   subst hv2
   refine_lift aS ?_
   go_ret
   exact ⟨by rw [hu]; rfl, x1.trans x2⟩
  | some ms =>
   rw [hm] at hv2
   obtain ⟨s2, rfl, o2⟩ := hv2
   refine_lift aS ?_
   go_ret
   exact ⟨by rw [hu]; rfl, x1.trans x2⟩
 | some ls =>
  rw [hl] at hv
  obtain ⟨s1, rfl, o1⟩ := hv
  refine_lift bY fun _ _ => ?_
  refine aK (enters_of Tryz.func112 rfl rfl) rfl rfl (mA b _) ?_
  intro v2 w2 x2 hv2
  cases hm : bF b with
  | none =>
   have hu : cQ a b = false := by simp [cQ, gE, hm, hl]
   rw [hm] at hv2
   subst hv2
   refine_lift aS ?_
   go_ret
   exact ⟨by rw [hu]; rfl, x1.trans x2⟩
  | some ms =>
   rw [hm] at hv2
   obtain ⟨s2, rfl, o2⟩ := hv2
   have hu : cQ a b = true ↔ (qP ls).take ms.length = qP ms := by
    simp only [cQ, gE, hm, hl, Option.map_some, decide_eq_true_eq]
    rw [show ((ms.map low).reverse).length = ms.length by simp]; rfl
   have hA := o1.sl.ext x2
   have hB := o2.sl
   have tl := aR ls
   have tm := aR ms
   have fl := eC hl
   have fm := eC hm
   have ll := gN ls
   have lm := gN ms
   rw [fl.2.1] at ll
   rw [fm.2.1] at lm
   by_cases hlt : ls.length < ms.length
   ·have hno : (qP ls).take ms.length ≠ qP ms := fun h => by
     have := congrArg List.length h
     simp [eE] at this; omega
    refine_lift fP fun _ => ?_
    go_ret
    have hno' : cQ a b = false := by cases h : cQ a b with | false => rfl | true => exact absurd (hu.1 h) hno
    exact ⟨by rw [hno']; rfl, x1.trans x2⟩
   ·have x12 := x1.trans x2
    refine_lift kL fun _ _ _ => ?_
    go_loopw [9] (fun i wr => ∃ k : Nat, k ≤ ms.length ∧ i = .int .i64 k ∧ Ext w2 wr ∧ (qP ls).take k = (qP ms).take k) (fun i _ => ms.length - (intOf i).toNat)
    case atStart => exact ⟨0, Nat.zero_le _, rfl, Ext.refl _, rfl⟩
    case round =>
     obtain ⟨k, hk, rfl, hx, hall⟩ := hrel
     by_cases hk2 : k < ms.length
     ·have hA := hA.ext hx
      have hB := hB.ext hx
      have hkl : k < ls.length := by omega
      have hpA := uM hA hkl
      have hpB := uM hB hk2
      have lA : (ls[ls.length - 1 - k]'(by omega)).length ≤ 254 := by have := gO (List.getElem_mem (l := ls) (n := ls.length - 1 - k) (by omega)); rw [fl.2.1] at this; omega
      have lB : (ms[ms.length - 1 - k]'(by omega)).length ≤ 254 := by have := gO (List.getElem_mem (l := ms) (n := ms.length - 1 - k) (by omega)); rw [fm.2.1] at this; omega
      have gA := rN hkl
      have gB := rN hk2
      generalize hx1 : ls[ls.length - 1 - k]'(by omega) = x at *
      generalize hy1 : ms[ms.length - 1 - k]'(by omega) = y at *
      refine_lift oM ?_; intro _ _ _ _ _ _
      refine bB (by decide +kernel) (by decide +kernel) ?_
      refine_lift dX ?_
      refine cA (enters_of Tryz.func114 rfl rfl) rfl rfl (fun w' _ => nM x w' (by omega)) ?_
      refine aA ?_
      refine_lift dX ?_
      refine cA (enters_of Tryz.func114 rfl rfl) rfl rfl (fun w' _ => nM y w' (by omega)) ?_
      refine aA ?_
      refine_lift dX ?_
      intro w3 x3
      refine_lift rF (fun _ => ?_) (fun _ => ?_)
      ·have hne := ‹(!decide (low x = low y)) = true›
       have hno : cQ a b = false := by
        cases h : cQ a b with
        | false => rfl
        | true =>
         have h2 := hu.1 h
         rw [← eE ms] at h2
         have := DT h2 (by rw [eE]; exact hk2) (by rw [eE]; exact hkl)
         rw [gA, gB] at this
         simp [this] at hne
       go_ret
       exact ⟨by rw [hno]; rfl, x12.trans (hx.trans x3)⟩
      ·have heq := ‹(!decide (low x = low y)) = false›
       refine ⟨⟨k + 1, by omega, by go_num, hx.trans x3, ?_⟩, by simp [intOf]; omega⟩
       refine gC hall (by rw [eE]; exact hkl) (by rw [eE]; exact hk2) ?_
       rw [gA, gB]
       simpa using heq
     ·have : k = ms.length := by omega
      subst this
      have hyes : cQ a b = true := hu.2 (by rw [hall, ← eE, List.take_length])
      refine_lift fP fun _ => ?_
      go_ret
      exact ⟨by rw [hyes]; rfl, x12.trans hx⟩
theorem sT : ∀ (k : Nat) (a b : List (List UInt8)), a.take k = b.take k → k ≤ a.length → k ≤ b.length → gG a b = gG (a.drop k) (b.drop k)
 | 0, a, b, _, _, _ => by simp
 | k + 1, x :: a, y :: b, h, h1, h2 => by
   simp only [List.take_succ_cons, List.cons.injEq] at h
   obtain ⟨rfl, h⟩ := h
   have e : jH x x = 0 := gI.refl x
   rw [gG, e]
   simp only [ne_eq, not_true_eq_false, if_false, List.drop_succ_cons]
   exact sT k a b h (by simpa using h1) (by simpa using h2)
 | k + 1, [], _, _, h1, _ => by simp at h1
 | k + 1, _ :: _, [], _, _, h2 => by simp at h2
theorem OB {k : Nat} {a b : List (List UInt8)} (h : a.take k = b.take k) (ha : k < a.length) (hb : k < b.length) (hne : jH a[k] b[k] ≠ 0) : gG a b = jH a[k] b[k] := by
 rw [sT k a b h (by omega) (by omega), List.drop_eq_getElem_cons ha, List.drop_eq_getElem_cons hb, gG, if_pos hne]
theorem vX {k : Nat} {a b : List (List UInt8)} (h : a.take k = b.take k) (h1 : k ≤ a.length) (h2 : k ≤ b.length) (he : k = a.length ∨ k = b.length) : gG a b = if a.length < b.length then -1 else if b.length < a.length then 1 else 0 := by
 rw [sT k a b h h1 h2]
 rcases he with rfl | rfl
 ·rw [List.drop_length]
  cases hd : b.drop a.length with
  | nil =>
   have := List.drop_eq_nil_iff.1 hd
   rw [gG, if_neg (by omega), if_neg (by omega)]
  | cons y l =>
   have : a.length < b.length := by
    rcases Nat.lt_or_ge a.length b.length with h | h
    ·exact h
    ·rw [List.drop_eq_nil_iff.2 h] at hd; cases hd
   rw [gG, if_pos this]
 ·rw [List.drop_length]
  cases hd : a.drop b.length with
  | nil =>
   have := List.drop_eq_nil_iff.1 hd
   rw [gG, if_neg (by omega), if_neg (by omega)]
  | cons y l =>
   have : b.length < a.length := by
    rcases Nat.lt_or_ge b.length a.length with h | h
    ·exact h
    ·rw [List.drop_eq_nil_iff.2 h] at hd; cases hd
   rw [gG, if_neg (by omega), if_pos this]
set_option maxHeartbeats 24000000 in
theorem GB (a b : List UInt8) (w : World) : Calls Tryz.prog 190 #[aI a, aI b] w (bG w (.int .i64 (gP a b))) := by
 go_enter Tryz.func190, Tryz.ntmps190
 refine_lift bY fun _ _ => ?_
 refine aK (enters_of Tryz.func112 rfl rfl) rfl rfl (mA a _) ?_
 intro v w1 x1 hv
 cases hl : bF a with
 | none =>
  rw [hl] at hv
  subst hv
  refine_lift bY fun _ _ => ?_
  refine aK (enters_of Tryz.func112 rfl rfl) rfl rfl (mA b _) ?_
  intro v2 w2 x2 hv2
  cases hm : bF b with
  | none =>
   rw [hm] at hv2
   subst hv2
   refine_lift gV fun _ _ _ _ => ?_
   refine aB (enters_of Tryz.func225 rfl rfl) rfl rfl (DO a b _) ?_; intro w3 x3; refine aA ?_
   refine_lift aS ?_
   go_ret
   exact ⟨by simp [gP, gE, hl, hm], (x1.trans x2).trans x3⟩
  | some ms =>
   rw [hm] at hv2
   obtain ⟨s2, rfl, o2⟩ := hv2
   refine_lift aS ?_
   go_ret
   exact ⟨by simp [gP, gE, hl, hm], x1.trans x2⟩
 | some ls =>
  rw [hl] at hv
  obtain ⟨s1, rfl, o1⟩ := hv
  refine_lift bY fun _ _ => ?_
  refine aK (enters_of Tryz.func112 rfl rfl) rfl rfl (mA b _) ?_
  intro v2 w2 x2 hv2
  cases hm : bF b with
  | none =>
   rw [hm] at hv2
   subst hv2
   refine_lift aS ?_
   go_ret
   exact ⟨by simp [gP, gE, hl, hm], x1.trans x2⟩
  | some ms =>
   rw [hm] at hv2
   obtain ⟨s2, rfl, o2⟩ := hv2
   have hu : gP a b = gG (qP ls) (qP ms) := by simp [gP, gE, hm, hl, qP]
   have hA := o1.sl.ext x2
   have hB := o2.sl
   have tl := aR ls
   have tm := aR ms
   have fl := eC hl
   have fm := eC hm
   have ll := gN ls
   have lm := gN ms
   rw [fl.2.1] at ll
   rw [fm.2.1] at lm
   have x12 := x1.trans x2
   have rl := eE ls
   have rm := eE ms
   refine_lift bY fun _ _ => ?_
   go_loopw [9, 10] (fun i _ wr => ∃ k : Nat, k ≤ ls.length ∧ k ≤ ms.length ∧ i = .int .i64 k ∧ Ext w2 wr ∧ (qP ls).take k = (qP ms).take k) (fun i _ _ => ms.length - (intOf i).toNat)
   case atStart => exact ⟨0, Nat.zero_le _, Nat.zero_le _, rfl, Ext.refl _, rfl⟩
   case round =>
    obtain ⟨k, hk, hk2, rfl, hx, hall⟩ := hrel
    have hA := hA.ext hx
    have hB := hB.ext hx
    by_cases hin : k < ls.length ∧ k < ms.length
    ·obtain ⟨hkl, hkm⟩ := hin
     have hpA := uM hA hkl
     have hpB := uM hB hkm
     have lA : (ls[ls.length - 1 - k]'(by omega)).length ≤ 254 := by have := gO (List.getElem_mem (l := ls) (n := ls.length - 1 - k) (by omega)); rw [fl.2.1] at this; omega
     have lB : (ms[ms.length - 1 - k]'(by omega)).length ≤ 254 := by have := gO (List.getElem_mem (l := ms) (n := ms.length - 1 - k) (by omega)); rw [fm.2.1] at this; omega
     have gA := rN hkl
     have gB := rN hkm
     generalize hx1 : ls[ls.length - 1 - k]'(by omega) = x at *
     generalize hy1 : ms[ms.length - 1 - k]'(by omega) = y at *
     refine_lift VK ?_; intro _ hc _ _ _ _ _
     refine bB (by decide +kernel) (by decide +kernel) ?_
     refine_lift dX ?_
     refine cA (enters_of Tryz.func114 rfl rfl) rfl rfl (fun w' _ => nM x w' (by omega)) ?_
     refine aA ?_
     refine_lift dX ?_
     refine cA (enters_of Tryz.func114 rfl rfl) rfl rfl (fun w' _ => nM y w' (by omega)) ?_
     refine aA ?_
     refine_lift dX ?_
     refine cA (enters_of Tryz.func225 rfl rfl) rfl rfl (fun w' _ => DO (low x) (low y) w') ?_
     refine aA ?_
     refine_lift dX ?_
     intro w3 x3
     refine_lift rF (fun _ => ?_) (fun _ => ?_)
     ·have hne := ‹(!decide (jH (low x) (low y) = 0)) = true›
      go_ret
      refine ⟨?_, x12.trans (hx.trans x3)⟩
      rw [hu, OB hall (by omega) (by omega) (by rw [gA, gB]; simpa using hne), gA, gB]
      rfl
     ·have heq := ‹(!decide (jH (low x) (low y) = 0)) = false›
      refine ⟨⟨k + 1, by omega, by omega, by go_num, hx.trans x3, ?_⟩, by simp [intOf]; omega⟩
      refine gC hall (by omega) (by omega) ?_
      rw [gA, gB]
      exact zZ (by simpa using heq)
    ·have he : gP a b = if ls.length < ms.length then -1 else if ms.length < ls.length then 1 else 0 := by
      rw [hu, vX hall (by omega) (by omega) (by omega), rl, rm]
     refine_lift SJ (fun hc _ _ _ => ?_) (fun hc _ _ => ?_) (fun hc _ _ _ _ _ => ?_)
     all_goals
      go_ret
      refine ⟨?_, x12.trans hx⟩
      rw [he]
      first
       | (rw [if_pos (by omega)]; rfl)
       | (rw [if_neg (by omega), if_pos (by omega)]; rfl)
       | (rw [if_neg (by omega), if_neg (by omega)]; rfl)
theorem iC {α : Type} {p : α → Bool} {l : List α} {k : Nat} (hk : k < l.length) (h : (l.take k).any p = false) (hp : p l[k] = false) : (l.take (k + 1)).any p = false := by
 rw [List.take_succ_eq_append_getElem hk, List.any_append, h]; simp [hp]
theorem BS {α : Type} {p : α → Bool} {l : List α} {k : Nat} (hk : k < l.length) (hp : p l[k] = true) : l.any p = true :=
 List.any_eq_true.mpr ⟨_, List.getElem_mem hk, hp⟩
theorem GD (l : List UInt8) (a : UInt8) : Lib.hasSuffix (l ++ [a]) [0] = decide (a = 0) := by
 have h : Lib.hasSuffix (l ++ [a]) [0] = true ↔ a = 0 := by
  unfold Lib.hasSuffix
  rw [List.isSuffixOf_iff_suffix]
  constructor
  ·rintro ⟨t, ht⟩
   have := congrArg List.reverse ht
   simp at this
   exact this.1.symm
  ·rintro rfl; exact ⟨l, rfl⟩
 by_cases ha : a = 0
 ·rw [h.2 ha, decide_eq_true ha]
 ·cases hh : Lib.hasSuffix (l ++ [a]) [0] with
  | true => exact absurd (h.1 hh) ha
  | false => rw [decide_eq_false ha]
theorem AC : fE [] = none := by simp [fE, Lib.hasSuffix]
theorem rO (l : List UInt8) (a : UInt8) : fE (l ++ [a]) = if a = 0 ∧ (bF l).isSome = true then some l else none := by
 have hs := GD l a
 by_cases ha : a = 0
 ·subst ha
  have ht : Lib.trimSuffix (l ++ [0]) [0] = l := by simp [Lib.trimSuffix, hs]
  simp [fE, hs, ht]
 ·simp [fE, hs, ha]
theorem JH {s n : List UInt8} (h : fE s = some n) : n = s.take (s.length - 1) := by
 rcases List.eq_nil_or_concat s with rfl | ⟨l, a, rfl⟩
 ·rw [AC] at h; cases h
 ·rw [List.concat_eq_append, rO] at h
  split at h
  ·cases h; simp
  ·cases h
set_option maxHeartbeats 1000000 in
theorem AD (s : List UInt8) (w : World) (hl : s.length ≤ 4611686018427387904) : Calls Tryz.prog 171 #[aI s] w (bG w (.bool (fE s).isSome)) := by
 rcases List.eq_nil_or_concat s with rfl | ⟨l, a, rfl⟩
 ·rw [AC]
  go_enter Tryz.func171, Tryz.ntmps171
  refine_lift aS ?_
  go_ret
  exact ⟨rfl, Ext.refl _⟩
 ·rw [List.concat_eq_append] at *
  have hlen : (l ++ [a]).length = l.length + 1 := by simp
  have hn : (((l ++ [a]).length : Int) - 1).toNat = l.length := by rw [hlen]; omega
  have e1 : (l ++ [a]).getD (((l ++ [a]).length : Int) - 1).toNat 0 = a := by rw [hn]; simp
  have e2 : (l ++ [a]).take (((l ++ [a]).length : Int) - 1).toNat = l := by rw [hn]; simp
  have hh : (fE (l ++ [a])).isSome = (decide (a = 0) && (bF l).isSome) := by
   rw [rO]; by_cases h1 : a = 0 <;> cases h2 : (bF l).isSome <;> simp [h1]
  generalize l ++ [a] = s at *
  rw [hh]
  go_enter Tryz.func171, Tryz.ntmps171
  refine_lift DL (fun hc hc => ?_) (fun hc => ?_) (fun _ _ hc hc => ?_)
  ·have hz := ‹((s.getD ((s.length : Int) - 1).toNat 0).toNat : Int) = 0›
   rw [e1] at hz
   have ha : a = 0 := by apply UInt8.toNat_inj.1; simpa using hz
   rw [e2]
   refine aB (enters_of Tryz.func65 rfl rfl) rfl rfl (nL l _) ?_; intro w1 x1; refine aA ?_
   cases hls : (bF l).isSome with
   | true =>
    refine_lift aS ?_
    go_ret
    exact ⟨by simp [ha, hls], x1⟩
   | false =>
    refine_lift aS ?_
    go_ret
    exact ⟨by simp [ha, hls], x1⟩
  ·have hz := ‹¬((s.getD ((s.length : Int) - 1).toNat 0).toNat : Int) = 0›
   rw [e1] at hz
   have ha : ¬ a = 0 := by rintro rfl; simp at hz
   go_ret
   exact ⟨by simp [ha], Ext.refl _⟩
  ·omega
theorem LF (k : Int) (w : World) : Calls Tryz.prog 170 #[.int .i64 k] w (bG w (.int .i64 (eZ k))) := by
 go_enter Tryz.func170, Tryz.ntmps170
 (repeat' first | ((with_reducible refine cY ?_); go_step) | ((with_reducible refine bR ?_); first | refine fM ?_ | (refine dN ?_ ?_ <;> intro hc)) | fail)
 all_goals
  go_ret
  exact ⟨by unfold eZ; simp_all, Ext.refl _⟩
theorem HS (nm : List UInt8) (w : World) (hl : nm.length ≤ 9223372036854775806) : Calls Tryz.prog 193 #[aI nm] w (bG w (if (bF nm).isSome = true then .tuple #[aI (nm ++ [0]), .int .i64 0] else .tuple #[aI [], .int .i64 1])) := by
 go_enter Tryz.func193, Tryz.ntmps193
 refine_lift gV fun _ _ _ _ => ?_
 refine aB (enters_of Tryz.func65 rfl rfl) rfl rfl (nL nm _) ?_; intro w1 x1; refine aA ?_
 cases hls : (bF nm).isSome with
 | true =>
  simp only [↓reduceIte]
  refine_lift aS ?_
  go_ret2
  exact ⟨by rw [hls]; rfl, x1⟩
 | false =>
  simp only [↓reduceIte, Bool.false_eq_true]
  refine_lift fP fun _ => ?_
  go_ret2
  exact ⟨by rw [hls]; rfl, x1⟩
def oO (s : List UInt8) (i : Nat) : Bool := if s.length < i then false else kU (s.drop i)
theorem BT {s : List UInt8} {i : Nat} (h : i < s.length) : oO s i = oO s (i + 1 + (s.getD i 0).toNat) := by
 unfold oO
 rw [if_neg (by omega), vL h, nK, rH h, List.drop_drop]
 simp only [List.length_drop]
 by_cases hc : s.length - (i + 1) < s[i].toNat
 ·rw [if_pos hc, if_pos (by omega)]
 ·rw [if_neg hc, if_neg (by omega)]
set_option maxHeartbeats 1000000 in
theorem LG (s : List UInt8) (w : World) (hl : s.length ≤ 4611686018427387904) : Calls Tryz.prog 169 #[aI s] w (bG w (.bool (qM s))) := by
 go_enter Tryz.func169, Tryz.ntmps169
 refine_lift bY fun _ _ => ?_
 go_loopw [3] (fun a wr => ∃ i : Nat, i ≤ s.length + 256 ∧ a = .int .i64 i ∧ Ext w wr ∧ kU s = oO s i ∧ (s.length < i → i ≤ s.length + 256)) (fun a _ => s.length - (intOf a).toNat)
 case atStart => exact ⟨0, by omega, rfl, Ext.refl _, by simp [oO], by omega⟩
 case round =>
  obtain ⟨i, hi, rfl, hx, ht, _⟩ := hrel
  by_cases hlt : i < s.length
  ·rw [BT hlt] at ht
   have hb : (s.getD i 0).toNat < 256 := UInt8.toNat_lt _
   refine_lift fP fun _ => ?_
   exact ⟨⟨i + 1 + (s.getD i 0).toNat, by omega, by go_num, hx, ht, by omega⟩, by simp [intOf]; omega⟩
  ·have hv : qM s = (decide (s ≠ []) && decide (i = s.length)) := by
    unfold qM
    rw [ht, oO]
    by_cases he : s.length < i
    ·rw [if_pos he, decide_eq_false (show ¬ i = s.length by omega)]; simp
    ·have : i = s.length := by omega
     subst this
     rw [if_neg he, List.drop_length]
     simp [kU, nI]
   refine_lift UB (fun _ hc => ?_) (fun _ hc => ?_)
   ·have h0 := ‹(!decide (s = [])) = true›
    go_ret
    exact ⟨by simp [hv] at h0 ⊢; simp [h0]; omega, hx⟩
   ·have h0 := ‹(!decide (s = [])) = false›
    go_ret
    exact ⟨by simp [hv] at h0 ⊢; simp [h0], hx⟩
def numU (s : List UInt8) (k : Nat) : Nat := (s.take k).foldl (fun n c => 256 * n + c.toNat) 0
theorem jU {s : List UInt8} {k : Nat} (h : k < s.length) : numU s (k + 1) = 256 * numU s k + (s.getD k 0).toNat := by
 rw [numU, List.take_add_one, List.getElem?_eq_getElem h, Option.toList_some, List.foldl_append, rH h]
 rfl
theorem HT (s : List UInt8) : ∀ k, k ≤ s.length → numU s k < 256 ^ k
 | 0, _ => by simp [numU]
 | k + 1, h => by
   have h1 := HT s k (by omega)
   have h2 : (s.getD k 0).toNat < 256 := UInt8.toNat_lt _
   rw [jU (by omega), Nat.pow_succ]
   omega
set_option maxHeartbeats 1000000 in
theorem JI (s : List UInt8) (w : World) (hl : s.length ≤ 4) : Calls Tryz.prog 155 #[aI s] w (bG w (.int .i64 (numU s s.length : Nat))) := by
 go_enter Tryz.func155, Tryz.ntmps155
 refine_lift bY fun _ _ => ?_
 go_loopw [3, 4] (fun n i wr => ∃ k : Nat, k ≤ s.length ∧ i = .int .i64 k ∧ Ext w wr ∧ n = .int .i64 (numU s k : Nat)) (fun _ i _ => s.length - (intOf i).toNat)
 case atStart => exact ⟨0, by omega, rfl, Ext.refl _, rfl⟩
 case round =>
  obtain ⟨k, hk, rfl, hx, rfl⟩ := hrel
  by_cases hlt : k < s.length
  ·have hb : (s.getD k 0).toNat < 256 := UInt8.toNat_lt _
   have hn : numU s k < 4294967296 := Nat.lt_of_lt_of_le (HT s k hk) (by calc 256 ^ k ≤ 256 ^ 4 := Nat.pow_le_pow_right (by omega) (by omega)
                                                                              _ = _ := by decide)
   refine_lift fP fun _ => ?_
   refine ⟨⟨k + 1, by omega, by go_num, hx, ?_⟩, by simp [intOf]; omega⟩
   rw [jU hlt]
   go_num
  ·have : k = s.length := by omega
   subst this
   refine_lift fP fun _ => ?_
   go_ret
   exact ⟨rfl, hx⟩
def mU (n j : Nat) : List UInt8 := [if 4 ≤ j then UInt8.ofNat (n / 16777216) else 0, if 3 ≤ j then UInt8.ofNat (n / 65536) else 0, if 2 ≤ j then UInt8.ofNat (n / 256) else 0, if 1 ≤ j then UInt8.ofNat n else 0]
theorem GE (n : Nat) : bJ (mU n 0) = List.replicate 4 [.int .u8 0] := by simp [mU, bJ, List.replicate]
theorem GF (n : Nat) : mU n 4 = yP n := by simp [mU, yP]
theorem GG (n j : Nat) (h : j < 4) : (bJ (mU n j)).set (3 - j) [.int .u8 ((UInt8.ofNat (n / 256 ^ j)).toNat : Nat)] = bJ (mU n (j + 1)) := by
 have : j = 0 ∨ j = 1 ∨ j = 2 ∨ j = 3 := by omega
 rcases this with rfl | rfl | rfl | rfl <;> simp [mU, bJ]
set_option maxHeartbeats 2000000 in
theorem OC (n : Nat) (w : World) (hn : n < 4294967296) : Calls Tryz.prog 194 #[.int .i64 (n : Nat), .int .i64 4] w (bG w (aI (yP n))) := by
 go_enter Tryz.func194, Tryz.ntmps194
 refine_lift bY fun _ _ => ?_
 refine IX (e := 5) (n := 4) (z := .int .u8 0) ?_ rfl rfl (by omega)
 intro v w1 x1 o1
 refine aA ?_
 refine_lift bY fun _ _ => ?_
 rw [← GE n] at o1
 go_loopw [0, 6] (fun m i wr => ∃ j : Nat, j ≤ 4 ∧ i = .int .i64 (3 - (j : Int)) ∧ m = .int .i64 (n / 256 ^ j : Nat) ∧ Ext w wr ∧ Own w.heap.size 1 5 wr v (bJ (mU n j))) (fun _ i _ => (intOf i + 1).toNat)
 case atStart => exact ⟨0, by omega, rfl, by simp, x1, o1⟩
 case round =>
  obtain ⟨j, hj, rfl, rfl, hx, ho⟩ := hrel
  have hsl := ho.sl
  have hle : n / 256 ^ j ≤ n := Nat.div_le_self _ _
  have hbl : (bJ (mU n j)).length = 4 := by simp [bJ, mU]
  by_cases hlt : j < 4
  ·generalize hq : n / 256 ^ j = q at *
   refine_lift oM ?_; intro _ _ _ _ _ _
   refine aQ rfl (Runs.remN (n := 256) rfl rfl (by omega) (by omega)) ?_
   refine aA ?_
   refine_lift aS ?_
   refine gU (c := .int .u8 _) (i := (3 - (j : Int)).toNat) rfl rfl rfl ho (by omega) (by decide +kernel) rfl ?_
   intro w2 o2 m2
   have hx2 := ho.mvx m2 hx (Nat.le_refl _)
   have e2 : (bJ (mU n j)).set (3 - (j : Int)).toNat [Value.int .u8 (IntKind.wrap .u8 ((q % 256 : Nat) : Int))] = bJ (mU n (j + 1)) := by
    rw [show (3 - (j : Int)).toNat = 3 - j by omega, zQ, ← GG n j hlt, hq]
    congr 4
    simp
   rw [e2] at o2
   clear ho hsl
   refine_lift aS ?_
   refine aQ rfl (Runs.quoN (n := 256) rfl rfl (by omega) (by omega)) ?_
   refine aA ?_
   refine_lift aS ?_
   refine ⟨⟨j + 1, by omega, by go_num, ?_, hx2, o2⟩, by simp [intOf]; omega⟩
   rw [← hq, Nat.div_div_eq_div_mul, Nat.pow_succ]
  ·have : j = 4 := by omega
   subst this
   rw [GF] at hsl
   refine_lift fP fun _ => ?_
   go_ret
   exact ⟨rfl, hx⟩
theorem LH {s : List UInt8} {i : Nat} (h : i < s.length) : fN (s.drop i) = if (s.getD i 0).toNat = 0 then 0 else 1 + (s.getD i 0).toNat + fN (s.drop (i + 1 + (s.getD i 0).toNat)) := by
 rw [vL h, qL, rH h, List.drop_drop]
def firstR (s : List UInt8) : Nat := if s.length ≤ fN s then 0 else if (fE (s.take (fN s + 1))).isSome = true then fN s + 1 else 0
theorem iV (s : List UInt8) : bU s = if firstR s = 0 then (if s.length ≤ fN s then ([], [], false) else ([], s.drop (fN s + 1), false)) else (s.take (firstR s - 1), s.drop (firstR s), true) := by
 unfold firstR bU
 by_cases h : s.length ≤ fN s
 ·simp [h]
 ·simp only [h, if_false]
  cases hh : fE (s.take (fN s + 1)) with
  | none => simp
  | some n =>
   have := JH hh
   simp only [Option.isSome_some, if_true, Option.getD_some]
   rw [if_neg (by omega), this]
   rw [List.length_take, List.take_take]
   congr 2
   omega
theorem oP (s : List UInt8) : firstR s ≤ s.length := by
 unfold firstR; split
 ·omega
 ·split <;> omega
set_option maxHeartbeats 1000000 in
theorem DV (s : List UInt8) (w : World) (hl : s.length ≤ 4611686018427387904) : Calls Tryz.prog 154 #[aI s] w (bG w (.int .i64 (firstR s : Nat))) := by
 go_enter Tryz.func154, Tryz.ntmps154
 refine_lift bY fun _ _ => ?_
 go_loopw [3] (fun a wr => ∃ i : Nat, a = .int .i64 i ∧ i ≤ s.length + 256 ∧ Ext w wr ∧ fN s = i + fN (s.drop i)) (fun a _ => s.length - (intOf a).toNat)
 case atStart => exact ⟨0, rfl, by omega, Ext.refl _, by simp⟩
 case round =>
  obtain ⟨i, rfl, hi, hx, hw⟩ := hrel
  by_cases hlt : i < s.length
  ·rw [LH hlt] at hw
   have hb : (s.getD i 0).toNat < 256 := UInt8.toNat_lt _
   by_cases hz : (s.getD i 0).toNat = 0
   ·rw [if_pos hz] at hw
    refine_lift VY ?_; intro _ _ _ _ _ _ _ _ _
    refine aB (enters_of Tryz.func171 rfl rfl) rfl rfl (AD (s.take (i + 1)) _ (by simp; omega)) ?_; intro w2 x2; refine aA ?_
    cases hh : (fE (s.take (i + 1))).isSome with
    | true =>
     refine_lift aS ?_
     go_ret
     exact ⟨by rw [firstR, hw, if_neg (by omega), Nat.add_zero, hh]; rfl, hx.trans x2⟩
    | false =>
     refine_lift aS ?_
     go_ret
     exact ⟨by rw [firstR, hw, if_neg (by omega), Nat.add_zero, hh]; rfl, hx.trans x2⟩
   ·rw [if_neg hz] at hw
    refine_lift bY fun _ _ => ?_
    exact ⟨⟨i + 1 + (s.getD i 0).toNat, by go_num, by omega, hx, by omega⟩, by simp [intOf]; omega⟩
  ·refine_lift fP fun _ => ?_
   go_ret
   exact ⟨by rw [firstR, if_pos (by omega)]; rfl, hx⟩
def vY (l : List Int) : List (List Value) := l.map fun n => [.int .i64 n]
theorem JJ {l : List Int} {k : Nat} (h : k < l.length) : (vY l)[k]? = some [.int .i64 l[k]] := by simp [vY, h]
theorem DW (m : Int) (w : World) (h0 : 0 ≤ m) (h1 : m < 4294967296) : Calls Tryz.prog 194 #[.int .i64 m, .int .i64 4] w (bG w (aI (yP m.toNat))) := by
 obtain ⟨n, rfl⟩ := Int.eq_ofNat_of_zero_le h0
 rw [Int.toNat_natCast]
 exact OC n w (by omega)
theorem BU (n : Nat) : (yP n).length = 4 := rfl
set_option maxHeartbeats 4000000 in
theorem QU (s : SoaR) (w : World) (h1 : s.main.length ≤ 4611686018427387904) (h2 : s.mail.length ≤ 4611686018427387904) : Calls Tryz.prog 156 #[.agg s.cells.toArray] w (bG w (if s.ok = true then .tuple #[aI s.data, .int .i64 0] else .tuple #[aI [], .int .i64 1])) := by
 have hA := fun w => HS s.main w (by omega)
 have hB := fun w => HS s.mail w (by omega)
 rw [LD]
 cases hm : (bF s.main).isSome with
 | false =>
  simp only [hm, Bool.false_eq_true, ↓reduceIte] at hA
  go_enter Tryz.func156, Tryz.ntmps156
  refine_lift hY fun _ _ => ?_
  refine aZ (vs := s.cells) rfl rfl ?_
  intro p w1 x1 hp
  refine aA ?_
  have hp' : Pts w1 p [aI s.main, aI s.mail, .int .i64 s.serial, .int .i64 s.refresh, .int .i64 s.retry, .int .i64 s.expire, .int .i64 s.minimum] := hp
  refine_lift bY fun _ _ => ?_
  refine aB (enters_of Tryz.func193 rfl rfl) rfl rfl (hA _) ?_; intro w2 x2; refine aA ?_
  have hp' := hp'.ext x2
  refine_lift bY fun _ _ => ?_
  refine aB (enters_of Tryz.func193 rfl rfl) rfl rfl (hB _) ?_; intro w3 x3; refine aA ?_
  cases hl : (bF s.mail).isSome
  all_goals
   have hp' := hp'.ext x3
   simp only [↓reduceIte, Bool.false_eq_true]
   refine_lift aS ?_
   go_ret2
   exact ⟨rfl, (x1.trans x2).trans x3⟩
 | true =>
  simp only [hm, ↓reduceIte] at hA
  cases hl : (bF s.mail).isSome with
  | false =>
   simp only [hl, Bool.false_eq_true, ↓reduceIte] at hB
   go_enter Tryz.func156, Tryz.ntmps156
   refine_lift hY fun _ _ => ?_
   refine aZ (vs := s.cells) rfl rfl ?_
   intro p w1 x1 hp
   refine aA ?_
   have hp' : Pts w1 p [aI s.main, aI s.mail, .int .i64 s.serial, .int .i64 s.refresh, .int .i64 s.retry, .int .i64 s.expire, .int .i64 s.minimum] := hp
   refine_lift bY fun _ _ => ?_
   refine aB (enters_of Tryz.func193 rfl rfl) rfl rfl (hA _) ?_; intro w2 x2; refine aA ?_
   have hp' := hp'.ext x2
   refine_lift bY fun _ _ => ?_
   refine aB (enters_of Tryz.func193 rfl rfl) rfl rfl (hB _) ?_; intro w3 x3; refine aA ?_
   have hp' := hp'.ext x3
   refine_lift aS ?_
   go_ret2
   exact ⟨rfl, (x1.trans x2).trans x3⟩
  | true =>
   simp only [hl, ↓reduceIte] at hB
   obtain ⟨ls, hls⟩ := Option.isSome_iff_exists.1 hm
   obtain ⟨ms, hms⟩ := Option.isSome_iff_exists.1 hl
   have hfm := eC hls
   have hfm2 := eC hms
   simp only [Bool.true_and]
   go_enter Tryz.func156, Tryz.ntmps156
   refine_lift hY fun _ _ => ?_
   refine aZ (vs := s.cells) rfl rfl ?_
   intro p w1 x1 hp
   refine aA ?_
   have hp' : Pts w1 p [aI s.main, aI s.mail, .int .i64 s.serial, .int .i64 s.refresh, .int .i64 s.retry, .int .i64 s.expire, .int .i64 s.minimum] := hp
   refine_lift bY fun _ _ => ?_
   refine aB (enters_of Tryz.func193 rfl rfl) rfl rfl (hA _) ?_; intro w2 x2; refine aA ?_
   have hp' := hp'.ext x2
   refine_lift bY fun _ _ => ?_
   refine aB (enters_of Tryz.func193 rfl rfl) rfl rfl (hB _) ?_; intro w3 x3; refine aA ?_
   have hp' := hp'.ext x3
   have x13 := (x1.trans x2).trans x3
   clear x1 x2 x3 hp hA hB
   refine_lift PL (fun hc _ _ _ => ?_) (fun hc => ?_) (fun hc _ => ?_)
   rotate_left
   ·have hc := ‹s.serial ≤ 4294967295›
    have hc0 := ‹¬s.serial < 0›
    have hser : (decide (0 ≤ s.serial) && decide (s.serial ≤ 4294967295)) = true := by simp; omega
    refine bZ (e := 3) (k := 1) (bytes := 8) (xs := (bK s).map (.int .i64)) rfl rfl rfl (by intro x hx; obtain ⟨n, _, rfl⟩ := List.mem_map.1 hx; rfl) (by decide +kernel) (by simp [bK]) ?_
    intro v4 w4 x4 _ s4 _
    have s4 : Sl 1 w4 v4 (vY (bK s)) := by simpa [vY, bK, Value.cells] using s4
    refine aA ?_
    have hp' := hp'.ext x4
    refine_lift bY fun _ _ => ?_
    refine aB (enters_of Tryz.func194 rfl rfl) rfl rfl (DW s.serial _ (by omega) (by omega)) ?_; intro w5 x5; refine aA ?_
    refine aQ rfl (Runs.addS rfl rfl (by simp [BU]; omega)) ?_
    refine aA ?_
    refine_lift bY fun _ _ => ?_
    have x15 := (x13.trans x4).trans x5
    have s5 := s4.ext x5
    have hb0 : (gD s).length ≤ 600 := by simp [gD, BU]; omega
    rw [show s.main ++ [0] ++ (s.mail ++ [0]) ++ yP s.serial.toNat = gD s from rfl]
    have hlen : (bK s).length = 4 := rfl
    have hlen2 : (vY (bK s)).length = 4 := rfl
    clear s4 x4 hp' x5
    go_loopw [9, 10] (fun o i wr => ∃ k : Nat, k ≤ 4 ∧ i = .int .i64 k ∧ Ext w5 wr ∧ o = aI (gD s ++ nB ((bK s).take k)) ∧ ((bK s).take k).all fV = true) (fun _ i _ => 4 - (intOf i).toNat)
    case atStart => exact ⟨0, by omega, rfl, Ext.refl _, by simp [nB], rfl⟩
    case round =>
     obtain ⟨k, hk, rfl, hx, rfl, hall⟩ := hrel
     have hsl := s5.ext hx
     by_cases hlt : k < 4
     ·have hlt2 : k < (bK s).length := hlt
      have hp := hsl.elem (JJ hlt2)
      have hsplit : (bK s).all fV = true → fV (bK s)[k] = true := fun h => List.all_eq_true.1 h _ (List.getElem_mem hlt2)
      have hbs : (nB ((bK s).take k)).length ≤ 16 := by rw [DP]; simp; omega
      (repeat' first | ((with_reducible refine cY ?_); go_step) | ((with_reducible refine bR ?_); first | refine fM ?_ | (refine dN ?_ ?_ <;> intro hc)) | fail)
      rotate_left
      ·refine aB (enters_of Tryz.func194 rfl rfl) rfl rfl (DW (bK s)[k] _ (by omega) (by omega)) ?_; intro w6 x6; refine aA ?_
       refine aQ rfl (Runs.addS rfl rfl (by simp [BU]; omega)) ?_
       refine aA ?_
       rw [show gD s ++ nB ((bK s).take k) ++ yP (bK s)[k].toNat = gD s ++ nB ((bK s).take (k + 1)) by rw [zV _ _ hlt2, List.append_assoc]]
       refine_lift aS ?_
       refine ⟨⟨k + 1, by omega, by go_num, hx.trans x6, rfl, ?_⟩, by simp [intOf]; omega⟩
       rw [List.take_add_one, List.getElem?_eq_getElem hlt2, Option.toList_some, List.all_append, hall]
       simp only [List.all_cons, List.all_nil, fV, Bool.true_and, Bool.and_true, Bool.and_eq_true, decide_eq_true_eq]
       omega
      all_goals
       have hno : (bK s).all fV = false := by
        cases h : (bK s).all fV with
        | false => rfl
        | true => have := hsplit h; simp [fV] at this; omega
       go_ret2
       refine ⟨?_, x15.trans hx⟩
       simp only [hser, hno, Bool.and_false, Bool.false_eq_true, if_false]
       rfl
     ·have : k = 4 := by omega
      subst this
      rw [show (bK s).take 4 = bK s from rfl] at hall ⊢
      refine_lift fP fun _ => ?_
      go_ret2
      refine ⟨?_, x15.trans hx⟩
      simp only [hser, hall, Bool.and_self, if_true]
      rw [vQ]
      rfl
   all_goals
    have hno : (decide (0 ≤ s.serial) && decide (s.serial ≤ 4294967295)) = false := by simp only [Bool.and_eq_false_iff, decide_eq_false_iff_not]; omega
    go_ret2
    refine ⟨?_, x13⟩
    simp only [hno, Bool.false_and, Bool.false_eq_true, if_false]
    rfl
theorem SZ {r : List UInt8} {i : Nat} (hr : r.length = 20) (hi : i < 5) : (numU ((r.take (4 * i + 4)).drop (4 * i)) 4 : Nat) = numP r i 4 := by
 have hl : ((r.take (4 * i + 4)).drop (4 * i)).length = 4 := by simp; omega
 have hg : ∀ k, k < 4 → ((r.take (4 * i + 4)).drop (4 * i)).getD k 0 = r.getD (4 * i + k) 0 := by
  intro k hk
  simp only [List.getD_eq_getElem?_getD, List.getElem?_drop, List.getElem?_take]
  rw [if_pos (by omega)]
 have h0 : numU ((r.take (4 * i + 4)).drop (4 * i)) 0 = 0 := rfl
 rw [jU (by omega), jU (by omega), jU (by omega), jU (by omega), h0, hg 0 (by omega), hg 1 (by omega), hg 2 (by omega), hg 3 (by omega)]
 simp only [numP]
 omega
theorem OD (s : List UInt8) (w : World) (hl : s.length = 4) : Calls Tryz.prog 155 #[aI s] w (bG w (.int .i64 (numU s 4 : Nat))) := by
 have := JI s w (by omega)
 rwa [hl] at this
theorem BV (d : List UInt8) : cD d = if firstR d = 0 then none else if firstR (d.drop (firstR d)) = 0 ∨ d.length ≠ firstR d + firstR (d.drop (firstR d)) + 20 then none
 else if (cO d).ok = true then some (cO d) else none := by
 have hd := iV d
 have he := iV (d.drop (firstR d))
 by_cases h0 : firstR d = 0
 ·rw [if_pos h0] at hd ⊢
  have : (bU d).2.2 = false := by rw [hd]; split <;> rfl
  simp [cD, this]
 ·rw [if_neg h0] at hd ⊢
  have h1 : (bU d).2.2 = true := by rw [hd]
  have h2 : (bU d).2.1 = d.drop (firstR d) := by rw [hd]
  unfold cD
  simp only [h1, h2, true_and]
  by_cases hm : firstR (d.drop (firstR d)) = 0
  ·rw [if_pos hm] at he
   have : (bU (d.drop (firstR d))).2.2 = false := by rw [he]; split <;> rfl
   simp [this, hm]
  ·rw [if_neg hm] at he
   have h3 : (bU (d.drop (firstR d))).2.2 = true := by rw [he]
   have h4 : (bU (d.drop (firstR d))).2.1 = (d.drop (firstR d)).drop (firstR (d.drop (firstR d))) := by rw [he]
   have l1 := oP d
   have l2 := oP (d.drop (firstR d))
   rw [List.length_drop] at l2
   simp only [h3, h4, true_and, hm, false_or, List.length_drop]
   by_cases hl : d.length = firstR d + firstR (d.drop (firstR d)) + 20
   ·have : d.length - firstR d - firstR (d.drop (firstR d)) = 20 := by omega
    simp [hl, this]
    rw [← hl]
    simp [this]
   ·have : ¬ d.length - firstR d - firstR (d.drop (firstR d)) = 20 := by omega
    simp [hl, this]
theorem dH (r : List UInt8) (i : Nat) (w : World) (hr : r.length = 20) (hi : i < 5) : Calls Tryz.prog 155 #[aI ((r.take (4 * i + 4)).drop (4 * i))] w (bG w (.int .i64 (numP r i 4 : Nat))) := by
 rw [← SZ hr hi]
 exact OD _ w (by simp; omega)
set_option maxHeartbeats 24000000 in
theorem nO (d : List UInt8) (w : World) (hl : d.length ≤ 4611686018427387904) : Calls Tryz.prog 98 #[aI d] w (bG w (match cD d with | some s => .tuple #[.agg s.cells.toArray, .int .i64 0] | none => .tuple #[.agg aV.toArray, .int .i64 2])) := by
 have hps := BV d
 have l1 := oP d
 have l2 := oP (d.drop (firstR d))
 rw [List.length_drop] at l2
 have hd := iV d
 have he := iV (d.drop (firstR d))
 go_enter Tryz.func98, Tryz.ntmps98
 refine_lift uL ?_; intro _ _ _
 refine aG (z := aV) rfl (by decide +kernel) ?_
 intro w1 x1 s1 h1
 refine aA ?_
 refine_lift bY fun _ _ => ?_
 refine aB (enters_of Tryz.func154 rfl rfl) rfl rfl (DV d _ hl) ?_; intro w2 x2; refine aA ?_
 have h1 := x2.at h1
 have x12 := x1.trans x2
 refine_lift rG (fun _ _ _ => ?_) (fun _ _ _ _ _ => ?_)
 ·have hz := ‹((firstR d : Nat) : Int) = 0›
  refine aQ (v := .agg aV.toArray) rfl (Runs.build (parts := []) (vals := []) rfl (by kernel_rfl)) ?_
  refine aA ?_
  refine aC (v := .agg aV.toArray) rfl rfl rfl h1 (by decide +kernel) rfl (by decide +kernel) ?_
  intro w7 p7
  have x7 : Ext w w7 := x12.move p7.mv (by rintro k ⟨⟩; omega)
  have h17 : w7.heap[w.heap.size]? = some (.cells aV.toArray 67 (0, 0)) := p7.this
  refine_lift aS ?_
  refine bodyPost_ret (aH (cs := aV) rfl rfl h17 (by decide +kernel)) rfl ⟨?_, x7⟩
  rw [hps, if_pos (by omega)]
  rfl
 ·have hz := ‹¬((firstR d : Nat) : Int) = 0›
  rw [if_neg (by omega)] at hps
  refine aB (enters_of Tryz.func154 rfl rfl) rfl rfl (DV (d.drop (firstR d)) _ (by simp; omega)) ?_; intro w3 x3; refine aA ?_
  have h1 := x3.at h1
  have x13 := x12.trans x3
  clear x1 x2 x3 x12
  have hsoa : (cO d).cells = [aI (d.take (firstR d - 1)), aI ((d.drop (firstR d)).take (firstR (d.drop (firstR d)) - 1)), .int .i64 (numP ((d.drop (firstR d)).drop (firstR (d.drop (firstR d)))) 0 4 : Nat), .int .i64 (numP ((d.drop (firstR d)).drop (firstR (d.drop (firstR d)))) 1 4 : Nat), .int .i64 (numP ((d.drop (firstR d)).drop (firstR (d.drop (firstR d)))) 2 4 : Nat), .int .i64 (numP ((d.drop (firstR d)).drop (firstR (d.drop (firstR d)))) 3 4 : Nat), .int .i64 (numP ((d.drop (firstR d)).drop (firstR (d.drop (firstR d)))) 4 4 : Nat)] ∨ firstR (d.drop (firstR d)) = 0 := by
   by_cases hm : firstR (d.drop (firstR d)) = 0
   ·exact .inr hm
   ·rw [if_neg (by omega)] at hd
    rw [if_neg hm] at he
    left
    simp only [SoaR.cells, cO, hd, he]
  refine_lift SK (fun hc _ _ _ => ?_) (fun _ _ hc _ _ => ?_) (fun _ _ hc _ _ _ => ?_)
  rotate_left
  ·have hm := ‹¬((firstR (d.drop (firstR d)) : Nat) : Int) = 0›
   have hlen := ‹(!decide ((d.length : Int) = ((firstR d : Nat) : Int) + ((firstR (d.drop (firstR d)) : Nat) : Int) + 20)) = false›
   have hlen : d.length = firstR d + firstR (d.drop (firstR d)) + 20 := by simp at hlen; omega
   rw [if_neg (by omega)] at hps
   have hsoa := hsoa.resolve_right (by omega)
   generalize hn : firstR d = n at *
   generalize hmm : firstR (d.drop n) = m at *
   have ht : (d.drop ((n : Int) + (m : Int)).toNat) = (d.drop n).drop m := by rw [List.drop_drop]; congr 1
   rw [ht]
   have htl : ((d.drop n).drop m).length = 20 := by simp; omega
   generalize hr : (d.drop n).drop m = r at *
   refine cC (S := fun w' => Ext w3 w') (by decide +kernel) ?_
   intro w4 x4 hh4
   refine tk 0 ?_; refine aA ?_; refine tk 1 ?_; refine aA ?_; refine tk 2 ?_; refine aA ?_; refine tk 3 ?_; refine aA ?_; refine tk 4 ?_; refine aA ?_; refine tk 5 ?_; refine aA ?_; refine tk 6 ?_; refine aA ?_; refine tk 7 ?_; refine aA ?_; refine tk 8 ?_; refine aA ?_; refine tk 9 ?_; refine aA ?_; refine tk 10 ?_; refine aA ?_; refine tk 11 ?_; refine aA ?_; refine tk 12 ?_; refine aA ?_; refine tk 14 ?_; refine aA ?_; refine tk 15 ?_; refine aA ?_; refine tk 17 ?_; refine aA ?_; refine tk 18 ?_; refine aA ?_; refine tk 20 ?_; refine aA ?_; refine tk 21 ?_; refine aA ?_; refine tk 23 ?_; refine aA ?_; refine tk 24 ?_; refine aA ?_
   have hx := x4
   have hA : d.take ((n : Int) - 1).toNat = d.take (n - 1) := by congr 1; omega
   rw [hA]
   have hB : (d.take ((n : Int) + (m : Int) - 1).toNat).drop n = (d.drop n).take (m - 1) := by
    rw [List.drop_take]; congr 1; omega
   rw [hB]
   apply PH (F := fun (b : Nat) w' => Ext w3 w' ∧ w4.heap.size ≤ b ∧ w'.heap[b]? = some (.cells aV.toArray 67 (0, 0)))
   ·intro hG
    have hx0 := hx
    have hx : Ext w4 w4 := Ext.refl _
    refine fJ (i := 13) (j := 27) (by decide +kernel) rfl rfl rfl ?_ ?_
    ·refine aB (enters_of Tryz.func155 rfl rfl) rfl rfl (dH r 0 _ htl (by omega)) ?_
     intro w_1 x_1
     have hx := hx.trans x_1
     refine aA ?_
     refine aJ ⟨hx0.trans hx, ?_⟩
     refine fJ (i := 16) (j := 27) (by decide +kernel) rfl rfl rfl ?_ ?_
     ·refine aB (enters_of Tryz.func155 rfl rfl) rfl rfl (dH r 1 _ htl (by omega)) ?_
      intro w_2 x_2
      have hx := hx.trans x_2
      refine aA ?_
      refine aJ ⟨hx0.trans hx, ?_⟩
      refine fJ (i := 19) (j := 27) (by decide +kernel) rfl rfl rfl ?_ ?_
      ·refine aB (enters_of Tryz.func155 rfl rfl) rfl rfl (dH r 2 _ htl (by omega)) ?_
       intro w_3 x_3
       have hx := hx.trans x_3
       refine aA ?_
       refine aJ ⟨hx0.trans hx, ?_⟩
       refine fJ (i := 22) (j := 27) (by decide +kernel) rfl rfl rfl ?_ ?_
       ·refine aB (enters_of Tryz.func155 rfl rfl) rfl rfl (dH r 3 _ htl (by omega)) ?_
        intro w_4 x_4
        have hx := hx.trans x_4
        refine aA ?_
        refine aJ ⟨hx0.trans hx, ?_⟩
        refine fJ (i := 25) (j := 27) (by decide +kernel) rfl rfl rfl ?_ ?_
        ·refine aB (enters_of Tryz.func155 rfl rfl) rfl rfl (dH r 4 _ htl (by omega)) ?_
         intro w_5 x_5
         have hx := hx.trans x_5
         refine aA ?_
         refine aJ ⟨hx0.trans hx, ?_⟩
         refine bP (i := 26) (v := .agg (cO d).cells.toArray) rfl rfl (by decide +kernel) (by decide +kernel) (by decide +kernel) rfl (hx0.trans hx) (fun w' _ => by rw [hsoa]; exact Runs.build rfl (by kernel_rfl)) (fun _ _ _ h => h) ?_; refine aA ?_
         refine aT (i := 27) (by decide +kernel) rfl rfl ?_
         refine aG (z := aV) rfl (by decide +kernel) ?_
         intro w_6 x_6 s_6 ha
         have hb := hx.size
         have hx := hx.trans x_6
         generalize w_5.heap.size = b at *
         refine aA ?_
         refine aJ ⟨hx0.trans hx, ?_⟩
         exact hG _ _ ⟨hx0.trans hx, hb, ha⟩
        ·refine aG (z := aV) rfl (by decide +kernel) ?_
         intro w_7 x_7 s_7 ha
         have hb := hx.size
         have hx := hx.trans x_7
         generalize w_4.heap.size = b at *
         refine aA ?_
         refine aJ ⟨hx0.trans hx, ?_⟩
         refine aT (i := 25) (by decide +kernel) rfl rfl ?_
         refine aB (enters_of Tryz.func155 rfl rfl) rfl rfl (dH r 4 _ htl (by omega)) ?_
         intro w_8 x_8
         have hx := hx.trans x_8
         have ha := x_8.at ha
         refine aA ?_
         refine aJ ⟨hx0.trans hx, ?_⟩
         refine bP (i := 26) (v := .agg (cO d).cells.toArray) rfl rfl (by decide +kernel) (by decide +kernel) (by decide +kernel) rfl (hx0.trans hx) (fun w' _ => by rw [hsoa]; exact Runs.build rfl (by kernel_rfl)) (fun _ _ _ h => h) ?_; refine aA ?_
         exact hG _ _ ⟨hx0.trans hx, hb, ha⟩
       ·refine aG (z := aV) rfl (by decide +kernel) ?_
        intro w_9 x_9 s_9 ha
        have hb := hx.size
        have hx := hx.trans x_9
        generalize w_3.heap.size = b at *
        refine aA ?_
        refine aJ ⟨hx0.trans hx, ?_⟩
        refine aT (i := 22) (by decide +kernel) rfl rfl ?_
        refine aB (enters_of Tryz.func155 rfl rfl) rfl rfl (dH r 3 _ htl (by omega)) ?_
        intro w_10 x_10
        have hx := hx.trans x_10
        have ha := x_10.at ha
        refine aA ?_
        refine aJ ⟨hx0.trans hx, ?_⟩
        refine aT (i := 25) (by decide +kernel) rfl rfl ?_
        refine aB (enters_of Tryz.func155 rfl rfl) rfl rfl (dH r 4 _ htl (by omega)) ?_
        intro w_11 x_11
        have hx := hx.trans x_11
        have ha := x_11.at ha
        refine aA ?_
        refine aJ ⟨hx0.trans hx, ?_⟩
        refine bP (i := 26) (v := .agg (cO d).cells.toArray) rfl rfl (by decide +kernel) (by decide +kernel) (by decide +kernel) rfl (hx0.trans hx) (fun w' _ => by rw [hsoa]; exact Runs.build rfl (by kernel_rfl)) (fun _ _ _ h => h) ?_; refine aA ?_
        exact hG _ _ ⟨hx0.trans hx, hb, ha⟩
      ·refine aG (z := aV) rfl (by decide +kernel) ?_
       intro w_12 x_12 s_12 ha
       have hb := hx.size
       have hx := hx.trans x_12
       generalize w_2.heap.size = b at *
       refine aA ?_
       refine aJ ⟨hx0.trans hx, ?_⟩
       refine aT (i := 19) (by decide +kernel) rfl rfl ?_
       refine aB (enters_of Tryz.func155 rfl rfl) rfl rfl (dH r 2 _ htl (by omega)) ?_
       intro w_13 x_13
       have hx := hx.trans x_13
       have ha := x_13.at ha
       refine aA ?_
       refine aJ ⟨hx0.trans hx, ?_⟩
       refine aT (i := 22) (by decide +kernel) rfl rfl ?_
       refine aB (enters_of Tryz.func155 rfl rfl) rfl rfl (dH r 3 _ htl (by omega)) ?_
       intro w_14 x_14
       have hx := hx.trans x_14
       have ha := x_14.at ha
       refine aA ?_
       refine aJ ⟨hx0.trans hx, ?_⟩
       refine aT (i := 25) (by decide +kernel) rfl rfl ?_
       refine aB (enters_of Tryz.func155 rfl rfl) rfl rfl (dH r 4 _ htl (by omega)) ?_
       intro w_15 x_15
       have hx := hx.trans x_15
       have ha := x_15.at ha
       refine aA ?_
       refine aJ ⟨hx0.trans hx, ?_⟩
       refine bP (i := 26) (v := .agg (cO d).cells.toArray) rfl rfl (by decide +kernel) (by decide +kernel) (by decide +kernel) rfl (hx0.trans hx) (fun w' _ => by rw [hsoa]; exact Runs.build rfl (by kernel_rfl)) (fun _ _ _ h => h) ?_; refine aA ?_
       exact hG _ _ ⟨hx0.trans hx, hb, ha⟩
     ·refine aG (z := aV) rfl (by decide +kernel) ?_
      intro w_16 x_16 s_16 ha
      have hb := hx.size
      have hx := hx.trans x_16
      generalize w_1.heap.size = b at *
      refine aA ?_
      refine aJ ⟨hx0.trans hx, ?_⟩
      refine aT (i := 16) (by decide +kernel) rfl rfl ?_
      refine aB (enters_of Tryz.func155 rfl rfl) rfl rfl (dH r 1 _ htl (by omega)) ?_
      intro w_17 x_17
      have hx := hx.trans x_17
      have ha := x_17.at ha
      refine aA ?_
      refine aJ ⟨hx0.trans hx, ?_⟩
      refine aT (i := 19) (by decide +kernel) rfl rfl ?_
      refine aB (enters_of Tryz.func155 rfl rfl) rfl rfl (dH r 2 _ htl (by omega)) ?_
      intro w_18 x_18
      have hx := hx.trans x_18
      have ha := x_18.at ha
      refine aA ?_
      refine aJ ⟨hx0.trans hx, ?_⟩
      refine aT (i := 22) (by decide +kernel) rfl rfl ?_
      refine aB (enters_of Tryz.func155 rfl rfl) rfl rfl (dH r 3 _ htl (by omega)) ?_
      intro w_19 x_19
      have hx := hx.trans x_19
      have ha := x_19.at ha
      refine aA ?_
      refine aJ ⟨hx0.trans hx, ?_⟩
      refine aT (i := 25) (by decide +kernel) rfl rfl ?_
      refine aB (enters_of Tryz.func155 rfl rfl) rfl rfl (dH r 4 _ htl (by omega)) ?_
      intro w_20 x_20
      have hx := hx.trans x_20
      have ha := x_20.at ha
      refine aA ?_
      refine aJ ⟨hx0.trans hx, ?_⟩
      refine bP (i := 26) (v := .agg (cO d).cells.toArray) rfl rfl (by decide +kernel) (by decide +kernel) (by decide +kernel) rfl (hx0.trans hx) (fun w' _ => by rw [hsoa]; exact Runs.build rfl (by kernel_rfl)) (fun _ _ _ h => h) ?_; refine aA ?_
      exact hG _ _ ⟨hx0.trans hx, hb, ha⟩
    ·refine aG (z := aV) rfl (by decide +kernel) ?_
     intro w_21 x_21 s_21 ha
     have hb := hx.size
     have hx := hx.trans x_21
     generalize w4.heap.size = b at *
     refine aA ?_
     refine aJ ⟨hx0.trans hx, ?_⟩
     refine aT (i := 13) (by decide +kernel) rfl rfl ?_
     refine aB (enters_of Tryz.func155 rfl rfl) rfl rfl (dH r 0 _ htl (by omega)) ?_
     intro w_22 x_22
     have hx := hx.trans x_22
     have ha := x_22.at ha
     refine aA ?_
     refine aJ ⟨hx0.trans hx, ?_⟩
     refine aT (i := 16) (by decide +kernel) rfl rfl ?_
     refine aB (enters_of Tryz.func155 rfl rfl) rfl rfl (dH r 1 _ htl (by omega)) ?_
     intro w_23 x_23
     have hx := hx.trans x_23
     have ha := x_23.at ha
     refine aA ?_
     refine aJ ⟨hx0.trans hx, ?_⟩
     refine aT (i := 19) (by decide +kernel) rfl rfl ?_
     refine aB (enters_of Tryz.func155 rfl rfl) rfl rfl (dH r 2 _ htl (by omega)) ?_
     intro w_24 x_24
     have hx := hx.trans x_24
     have ha := x_24.at ha
     refine aA ?_
     refine aJ ⟨hx0.trans hx, ?_⟩
     refine aT (i := 22) (by decide +kernel) rfl rfl ?_
     refine aB (enters_of Tryz.func155 rfl rfl) rfl rfl (dH r 3 _ htl (by omega)) ?_
     intro w_25 x_25
     have hx := hx.trans x_25
     have ha := x_25.at ha
     refine aA ?_
     refine aJ ⟨hx0.trans hx, ?_⟩
     refine aT (i := 25) (by decide +kernel) rfl rfl ?_
     refine aB (enters_of Tryz.func155 rfl rfl) rfl rfl (dH r 4 _ htl (by omega)) ?_
     intro w_26 x_26
     have hx := hx.trans x_26
     have ha := x_26.at ha
     refine aA ?_
     refine aJ ⟨hx0.trans hx, ?_⟩
     refine bP (i := 26) (v := .agg (cO d).cells.toArray) rfl rfl (by decide +kernel) (by decide +kernel) (by decide +kernel) rfl (hx0.trans hx) (fun w' _ => by rw [hsoa]; exact Runs.build rfl (by kernel_rfl)) (fun _ _ _ h => h) ?_; refine aA ?_
     exact hG _ _ ⟨hx0.trans hx, hb, ha⟩
   ·intro b w5 hF
    obtain ⟨x5, hbb, h5⟩ := hF
    have hsz := x4.size
    have hs1 : w.heap.size < w3.heap.size := (Array.getElem?_eq_some_iff.1 h1).1
    refine aT (i := 28) (by decide +kernel) rfl rfl ?_
    refine aC (v := .agg (cO d).cells.toArray) rfl rfl rfl h5 (show aO Tryz.prog 67 7 = true by decide +kernel) rfl (by rw [hsoa]; simp [Value.cells, Value.oneCell', aI]) ?_
    intro w6 p6
    have h16 := p6.at (x5.at h1) (by omega)
    have x36 : Ext w3 w6 := x5.move p6.mv (by rintro k ⟨⟩; omega)
    have x6 := x13.trans x36
    have hb6 : w6.heap[b]? = some (.cells (cO d).cells.toArray 67 (0, 0)) := p6.this
    refine aJ ⟨x36, ?_⟩
    refine cB (by decide +kernel) ?_
    have hp6 := aE hb6
    clear p6 h5 x5 hx x4 h1
    refine_lift bY fun _ _ => ?_
    refine aQ (v := .agg (cO d).cells.toArray) rfl (Runs.loadN (n := 7) hp6 rfl (by decide +kernel)) ?_
    refine aA ?_
    have hm1 : (cO d).main.length ≤ 4611686018427387904 := by
     have := congrArg (fun c : List Value => uP (c.getD 0 undef)) hsoa
     simp only [SoaR.cells, List.getD_cons_zero, qB] at this
     rw [this]; simp; omega
    have hm2 : (cO d).mail.length ≤ 4611686018427387904 := by
     have := congrArg (fun c : List Value => uP (c.getD 1 undef)) hsoa
     simp only [SoaR.cells, List.getD_cons_zero, List.getD_cons_succ, qB] at this
     rw [this]; simp; omega
    refine aB (enters_of Tryz.func156 rfl rfl) rfl rfl (QU (cO d) _ hm1 hm2) ?_; intro w7 x7; refine aA ?_
    have h16 := x7.at h16
    have hb6 := x7.at hb6
    have x6 := x6.trans x7
    have hp6 := hp6.ext x7
    cases hok : (cO d).ok with
    | false =>
     simp only [hok, Bool.false_eq_true, if_false] at hps ⊢
     refine_lift QL fun _ _ _ _ _ => ?_
     refine aQ (v := .agg aV.toArray) rfl (Runs.build (parts := []) (vals := []) rfl (by kernel_rfl)) ?_
     refine aA ?_
     refine aC (v := .agg aV.toArray) rfl rfl rfl h16 (by decide +kernel) rfl (by decide +kernel) ?_
     intro w8 p8
     have x8 : Ext w w8 := x6.move p8.mv (by rintro k ⟨⟩; omega)
     have h18 : w8.heap[w.heap.size]? = some (.cells aV.toArray 67 (0, 0)) := p8.this
     refine_lift aS ?_
     refine bodyPost_ret (aH (cs := aV) rfl rfl h18 (by decide +kernel)) rfl ⟨?_, x8⟩
     rw [hps]
     rfl
    | true =>
     simp only [hok, if_true] at hps ⊢
     refine_lift bY fun _ _ => ?_
     refine aQ (v := .agg (cO d).cells.toArray) rfl (Runs.loadN (n := 7) hp6 rfl (by decide +kernel)) ?_
     refine aA ?_
     refine aC (v := .agg (cO d).cells.toArray) rfl rfl rfl h16 (show aO Tryz.prog 67 7 = true by decide +kernel) rfl (by rw [hsoa]; simp [Value.cells, Value.oneCell', aI]) ?_
     intro w8 p8
     have x8 : Ext w w8 := x6.move p8.mv (by rintro k ⟨⟩; omega)
     have h18 : w8.heap[w.heap.size]? = some (.cells (cO d).cells.toArray 67 (0, 0)) := p8.this
     refine_lift aS ?_
     refine bodyPost_ret (aH (cs := (cO d).cells) rfl rfl h18 (show dY Tryz.prog 67 7 = true by decide +kernel)) rfl ⟨?_, x8⟩
     rw [hps]
     rfl
  all_goals
   refine aQ (v := .agg aV.toArray) rfl (Runs.build (parts := []) (vals := []) rfl (by kernel_rfl)) ?_
   refine aA ?_
   refine aC (v := .agg aV.toArray) rfl rfl rfl h1 (by decide +kernel) rfl (by decide +kernel) ?_
   intro w7 p7
   have x7 : Ext w w7 := x13.move p7.mv (by rintro k ⟨⟩; omega)
   have h17 : w7.heap[w.heap.size]? = some (.cells aV.toArray 67 (0, 0)) := p7.this
   refine_lift aS ?_
   refine bodyPost_ret (aH (cs := aV) rfl rfl h17 (by decide +kernel)) rfl ⟨?_, x7⟩
   have hbad : firstR (d.drop (firstR d)) = 0 ∨ d.length ≠ firstR d + firstR (d.drop (firstR d)) + 20 := by
    first
     | exact .inl (by omega)
     | exact .inr (by have hq := ‹(!decide ((d.length : Int) = ((firstR d : Nat) : Int) + ((firstR (d.drop (firstR d)) : Nat) : Int) + 20)) = true›; simp at hq; omega)
   rw [hps, if_pos hbad]
   rfl
theorem JK (k : Int) (d : List UInt8) : decide ((fZ k d).2 ≠ 2) = (decide (eZ k < 0) || (decide (eZ k ≤ (d.length : Int)) && (fE (d.drop (eZ k).toNat)).isSome)) := by
 unfold fZ
 by_cases h1 : eZ k < 0
 ·simp [h1]
 ·by_cases h2 : (d.length : Int) < eZ k
  ·simp [h1, h2]; omega
  ·rw [if_neg h1, if_neg h2]
   cases hh : fE (d.drop (eZ k).toNat) with
   | none => simp [h1]
   | some n => simp [h1]; omega
set_option maxHeartbeats 12000000 in
theorem OE (k : Int) (d : List UInt8) (w : World) (hl : d.length ≤ 4611686018427387904) : Calls Tryz.prog 113 #[.int .i64 k, aI d] w (bG w (.bool (decide (d.length ≤ 4000) && fits k d))) := by
 go_enter Tryz.func113, Tryz.ntmps113
 (repeat' first | ((with_reducible refine cY ?_); go_step) | ((with_reducible refine bR ?_); first | refine fM ?_ | (refine dN ?_ ?_ <;> intro hc)) | fail)
 ·have h4 := ‹4000 < (d.length : Int)›
  go_ret
  exact ⟨by rw [decide_eq_false (show ¬ d.length ≤ 4000 by omega)]; rfl, Ext.refl _⟩
 ·have h4 := ‹(d.length : Int) ≤ 4000›
  have hk := ‹k = 1›
  go_ret
  refine ⟨?_, Ext.refl _⟩
  rw [decide_eq_true (show d.length ≤ 4000 by omega), fits, if_pos hk]
  simp; omega
 ·have h4 := ‹(d.length : Int) ≤ 4000›
  have hk := ‹k = 28›
  subst hk
  go_ret
  refine ⟨?_, Ext.refl _⟩
  rw [decide_eq_true (show d.length ≤ 4000 by omega)]
  simp [fits]; omega
 ·have h4 := ‹(d.length : Int) ≤ 4000›
  have hk := ‹k = 6›
  subst hk
  have hf : (decide (d.length ≤ 4000) && fits 6 d) = (cD d).isSome := by
   rw [decide_eq_true (show d.length ≤ 4000 by omega)]; simp [fits]
  refine aB (enters_of Tryz.func98 rfl rfl) rfl rfl (nO d _ hl) ?_; intro w1 x1; refine aA ?_
  cases hps : cD d with
  | none =>
   refine_lift aS ?_
   refine aG (z := aV) rfl (by decide +kernel) ?_
   intro w2 x2 s2 h2
   refine aA ?_
   refine aC (v := .agg aV.toArray) rfl rfl rfl h2 (by decide +kernel) rfl (by decide +kernel) ?_
   intro w3 p3
   have x3 : Ext w w3 := (x1.trans x2).move p3.mv (by rintro k ⟨⟩; exact x1.size)
   refine_lift aS ?_
   go_ret
   exact ⟨by rw [hf, hps]; simp, x3⟩
  | some s =>
   refine_lift aS ?_
   refine aG (z := aV) rfl (by decide +kernel) ?_
   intro w2 x2 s2 h2
   refine aA ?_
   refine aC (v := .agg s.cells.toArray) rfl rfl rfl h2 (show aO Tryz.prog 67 7 = true by decide +kernel) rfl (by simp [SoaR.cells, Value.cells, Value.oneCell', aI]) ?_
   intro w3 p3
   have x3 : Ext w w3 := (x1.trans x2).move p3.mv (by rintro k ⟨⟩; exact x1.size)
   refine_lift aS ?_
   go_ret
   exact ⟨by rw [hf, hps]; simp, x3⟩
 ·have h4 := ‹(d.length : Int) ≤ 4000›
  have hk := ‹k = 16›
  subst hk
  refine aB (enters_of Tryz.func169 rfl rfl) rfl rfl (LG d _ hl) ?_; intro w1 x1; refine aA ?_
  refine_lift aS ?_
  go_ret
  refine ⟨?_, x1⟩
  rw [decide_eq_true (show d.length ≤ 4000 by omega)]
  simp [fits]
 ·have h4 := ‹(d.length : Int) ≤ 4000›
  have q1 := ‹¬k = 1›
  have q2 := ‹¬k = 28›
  have q3 := ‹¬k = 6›
  have q4 := ‹¬k = 16›
  have hf : (decide (d.length ≤ 4000) && fits k d) = (decide (eZ k < 0) || (decide (eZ k ≤ (d.length : Int)) && (fE (d.drop (eZ k).toNat)).isSome)) := by
   rw [decide_eq_true (show d.length ≤ 4000 by omega), ← JK]
   simp [fits, q1, q2, q3, q4]
  refine aB (enters_of Tryz.func170 rfl rfl) rfl rfl (LF k _) ?_; intro w1 x1; refine aA ?_
  generalize eZ k = a at *
  refine_lift DL (fun hc hc => ?_) (fun hc => ?_) (fun _ _ hc hc => ?_)
  ·have c1 := ‹¬a < 0›
   have c2 := ‹a ≤ (d.length : Int)›
   refine aB (enters_of Tryz.func171 rfl rfl) rfl rfl (AD (d.drop a.toNat) _ (by simp; omega)) ?_; intro w2 x2; refine aA ?_
   refine_lift aS ?_
   go_ret
   exact ⟨by rw [hf, decide_eq_false c1, decide_eq_true c2]; simp, x1.trans x2⟩
  ·have c1 := ‹¬a < 0›
   have c2 := ‹¬a ≤ (d.length : Int)›
   go_ret
   exact ⟨by rw [hf, decide_eq_false c1, decide_eq_false c2]; simp, x1⟩
  ·have c1 := ‹a < 0›
   go_ret
   exact ⟨by rw [hf, decide_eq_true c1]; simp, x1⟩
set_option maxHeartbeats 24000000 in
theorem vZ (r : Rec) (w : World) (hl : r.data.length ≤ 4611686018427387904) : Calls Tryz.prog 66 #[.agg #[aI r.name, .int .i64 r.kind, .int .i64 r.ttl, aI r.data]] w (bG w (.int .i64 (aW r))) := by
 go_enter Tryz.func66, Tryz.ntmps66
 refine_lift hY fun _ _ => ?_
 refine aZ (vs := Rec.cells r) rfl rfl ?_
 intro p w1 x1 hp
 refine aA ?_
 have hp : Pts w1 p [aI r.name, .int .i64 r.kind, .int .i64 r.ttl, aI r.data] := hp
 refine_lift gV fun _ _ _ _ => ?_
 refine aB (enters_of Tryz.func65 rfl rfl) rfl rfl (nL r.name _) ?_; intro w2 x2; refine aA ?_
 have hp := hp.ext x2
 have x2 := x1.trans x2
 cases hlab : (bF r.name).isSome with
 | false =>
  simp only [Bool.false_eq_true, ↓reduceIte]
  refine_lift aS ?_
  go_ret
  refine ⟨?_, x2⟩
  have : aW r = 1 := by unfold aW; simp [hlab]
  rw [this]; rfl
 | true =>
  simp only [↓reduceIte]
  (repeat' first | ((with_reducible refine cY ?_); go_step) | ((with_reducible refine bR ?_); first | refine fM ?_ | (refine dN ?_ ?_ <;> intro hc)) | fail)
  rotate_left
  ·have : aW r = 1 := by simp [aW, hc]
   go_ret
   exact ⟨by rw [this]; rfl, x2⟩
  ·have : aW r = 1 := by simp [aW, hc]
   go_ret
   exact ⟨by rw [this]; rfl, x2⟩
  ·have : aW r = 1 := by simp [aW, hc]
   go_ret
   exact ⟨by rw [this]; rfl, x2⟩
  ·have : aW r = 1 := by simp [aW, hc]
   go_ret
   exact ⟨by rw [this]; rfl, x2⟩
  ·have : aW r = 1 := by simp [aW, hc]
   go_ret
   exact ⟨by rw [this]; rfl, x2⟩
  ·have : aW r = 1 := by simp [aW, hc]
   go_ret
   exact ⟨by rw [this]; rfl, x2⟩
  ·have : aW r = 1 := by simp [aW, hc]
   go_ret
   exact ⟨by rw [this]; rfl, x2⟩
  ·have : aW r = 1 := by simp [aW, hc]
   go_ret
   exact ⟨by rw [this]; rfl, x2⟩
  ·have q1 := ‹¬r.kind < 1›
   have q2 := ‹¬65535 < r.kind›
   have q3 := ‹¬r.kind = 41›
   have q4 := ‹¬r.kind = 251›
   have q5 := ‹¬r.kind = 252›
   have q6 := ‹¬r.kind = 255›
   have q7 := ‹¬r.ttl < 0›
   have q8 := ‹¬2147483647 < r.ttl›
   refine aB (enters_of Tryz.func113 rfl rfl) rfl rfl (OE r.kind r.data _ hl) ?_; intro w3 x3; refine aA ?_
   cases hf : (decide (r.data.length ≤ 4000) && fits r.kind r.data) with
   | true =>
    simp only [Bool.and_eq_true, decide_eq_true_eq] at hf
    have : aW r = 0 := by simp [aW, q1, q2, q3, q4, q5, q6, q7, q8, hf.2, hlab]; omega
    refine_lift aS ?_
    go_ret
    exact ⟨by rw [this]; rfl, x2.trans x3⟩
   | false =>
    have : aW r = 1 := by
     simp only [Bool.and_eq_false_iff, decide_eq_false_iff_not] at hf
     rcases hf with hf | hf
     ·simp [aW, show 4000 < r.data.length by omega]
     ·simp [aW, hf]
    refine_lift aS ?_
    go_ret
    exact ⟨by rw [this]; rfl, x2.trans x3⟩
theorem AE {r q : Rec} {w : World} : (Op.equalIn 10000 47 (.agg #[aI r.name, .int .i64 r.kind, .int .i64 r.ttl, aI r.data]) (.agg #[aI q.name, .int .i64 q.kind, .int .i64 q.ttl, aI q.data])).run Tryz.prog w = .ok (decide (r = q)) w := by
 have hS : Tryz.prog.underlying 47 = some (.struct (Tryz.prog.fieldsOf 47)) := by kernel_rfl
 rw [show (10000 : Nat) = 9999 + 1 from rfl, run_equalIn_agg w 9999 47 _ _ hS (by kernel_rfl)]
 simp only [Program.fieldsOf, Tryz.underlying47]
 have u3 := Tryz.underlying3
 have u9 := Tryz.underlying9
 have u31 := Tryz.underlying22
 have a3 := Tryz.isAgg3
 have a9 := Tryz.isAgg9
 have a31 := Tryz.isAgg22
 have z3 := Tryz.sizeOf3
 have z9 := Tryz.sizeOf9
 have z31 := Tryz.sizeOf22
 unfold aI
 go_simp
 obtain ⟨a1, a2, a3, a4⟩ := r
 obtain ⟨b1, b2, b3, b4⟩ := q
 simp only [Rec.mk.injEq]
 by_cases h1 : a1 = b1 <;> by_cases h2 : a2 = b2 <;> by_cases h3 : a3 = b3 <;> by_cases h4 : a4 = b4 <;> simp [h1, h2, h3, h4]
theorem Runs.neqRec {r q : Rec} {x y : Operand} {a : Act} {w : World} {d : Option Nat} {u ty : TypeId} {ps : String} {af : Array Edge} {g : Option (Nat × Bool)}
 (hx : a.eval x = .agg #[aI r.name, .int .i64 r.kind, .int .i64 r.ttl, aI r.data]) (hy : a.eval y = .agg #[aI q.name, .int .i64 q.kind, .int .i64 q.ttl, aI q.data]) :
 Runs Tryz.prog (Oper.mk d (.binOp .neq 47 x y u) ty ps af g) a w (.bool (!decide (r = q))) := by
 constructor
 have hg := run_eqGuard_agg (P := Tryz.prog) w .neq 47 x y #[aI r.name, .int .i64 r.kind, .int .i64 r.ttl, aI r.data] #[aI q.name, .int .i64 q.kind, .int .i64 q.ttl, aI q.data] (by kernel_rfl)
 simp only [execOp, hx, hy, Sem.run_bind, hg, Result.andThen_ok, run_neq_struct, AE, Sem.run_pure]
set_option maxHeartbeats 12000000 in
theorem OF (u v : Value) (a b : List Rec) (w : World) (hu : Sl 4 w u (aD a)) (hv : Sl 4 w v (aD b)) : Calls Tryz.prog 13 #[u, v] w (bG w (.bool (decide (a = b)))) := by
 have la := aL a
 have lb := aL b
 have hla := hu.le
 have hlb := hv.le
 by_cases hl : a.length = b.length
 ·go_enter Tryz.func13, Tryz.ntmps13
  refine_lift vF (fun _ _ _ => ?_) (fun _ => ?_)
  ·have hbad := ‹(!decide (((aD a).length : Int) = ((aD b).length : Int))) = true›
   exfalso; simp at hbad; omega
  go_loopw [5] (fun i wr => ∃ k : Nat, k ≤ a.length ∧ i = .int .i64 k ∧ Ext w wr ∧ a.take k = b.take k) (fun i _ => a.length - (intOf i).toNat)
  case atStart => exact ⟨0, Nat.zero_le _, rfl, Ext.refl _, rfl⟩
  case round =>
   obtain ⟨k, hk, rfl, hx, hall⟩ := hrel
   by_cases hlt : k < a.length
   ·have hlt2 : k < b.length := by omega
    have hpa := (hu.ext hx).elem (cT hlt)
    have hpb := (hv.ext hx).elem (cT hlt2)
    have hua := hu.ext hx
    have hvb := hv.ext hx
    refine_lift oM ?_; intro _ _ _ _ _ _
    refine bB (by decide +kernel) (by decide +kernel) ?_
    refine_lift dX ?_
    refine uI (v := .bool (!decide (a[k] = b[k]))) rfl (fun w' _ => Runs.neqRec rfl rfl) ?_
    refine aA ?_
    refine_lift dX ?_
    intro w3 x3
    refine_lift rF (fun _ => ?_) (fun _ => ?_)
    ·have hne := ‹(!decide (a[k] = b[k])) = true›
     have hab : a ≠ b := rI hlt hlt2 (by simpa using hne)
     go_ret
     exact ⟨by rw [decide_eq_false hab]; rfl, hx.trans x3⟩
    ·have heq := ‹(!decide (a[k] = b[k])) = false›
     exact ⟨⟨k + 1, by omega, by go_num, hx.trans x3, gC hall hlt hlt2 (by simpa using heq)⟩, by simp [intOf]; omega⟩
   ·have : k = a.length := by omega
    subst this
    have hab : a = b := by rw [List.take_length, hl, List.take_length] at hall; exact hall
    refine_lift fP fun _ => ?_
    go_ret
    exact ⟨by rw [decide_eq_true hab]; rfl, hx⟩
 ·have hab : a ≠ b := fun h => hl (by rw [h])
  go_enter Tryz.func13, Tryz.ntmps13
  refine_lift vF (fun _ _ _ => ?_) (fun _ => ?_)
  ·go_ret
   exact ⟨by rw [decide_eq_false hab]; rfl, Ext.refl _⟩
  ·have hbad := ‹(!decide (((aD a).length : Int) = ((aD b).length : Int))) = false›
   exfalso; simp at hbad; omega
def pJ (n : List UInt8) : Nat := ((bF n).getD []).length
def iD (o n : List UInt8) (b : List UInt8 × Bool) (s : RSet) : List UInt8 × Bool :=
 if s.kind = 2 ∧ s.name ≠ o ∧ cQ n s.name = true ∧ (b.2 = false ∨ pJ s.name < pJ b.1) then (s.name, true) else b
def lJ (o : List UInt8) (l : List RSet) (n : List UInt8) : List UInt8 × Bool := l.foldl (iD o n) ([], false)
theorem LI {o n : List UInt8} {l : List RSet} {k : Nat} (hk : k < l.length) : lJ o (l.take (k + 1)) n = iD o n (lJ o (l.take k) n) l[k] := by
 rw [List.take_succ_eq_append_getElem hk, lJ, List.foldl_append]; rfl
set_option maxHeartbeats 3000000 in
theorem GH (o : List UInt8) (v : Value) (l : List RSet) (n : List UInt8) (w : World) (hv : SetsAt w v l) : Calls Tryz.prog 151 #[.agg #[aI o, v], aI n] w (bG w (.tuple #[aI (lJ o l n).1, .bool (lJ o l n).2])) := by
 obtain ⟨cv, hv1, hvl⟩ := hv.sl
 have hle := hv1.le
 go_enter Tryz.func151, Tryz.ntmps151
 refine_lift hY fun _ _ => ?_
 refine aZ (vs := [aI o, v]) rfl rfl ?_
 intro p w1 x1 hp
 refine aA ?_
 refine_lift bY fun _ _ => ?_
 go_loopw [6, 7, 8, 9] (fun b f i _ wr => ∃ k : Nat, k ≤ l.length ∧ i = .int .i64 k ∧ b = aI (lJ o (l.take k) n).1 ∧ f = .bool (lJ o (l.take k) n).2 ∧ Ext w1 wr) (fun _ _ i _ _ => l.length - (intOf i).toNat)
 case atStart => exact ⟨0, Nat.zero_le _, rfl, rfl, rfl, Ext.refl _⟩
 case round =>
  obtain ⟨k, hk, rfl, rfl, rfl, hx⟩ := hrel
  have hxw : Ext w wr := x1.trans hx
  have hv2 := hv1.ext hxw
  have hp2 := hp.ext hx
  by_cases hlt : k < l.length
  ·obtain ⟨x, h4, h4d⟩ := (hv.ext hxw).elem (List.getElem?_eq_getElem hlt)
   refine_lift oM ?_; intro _ _ _ _ _ _
   refine aG (z := gR) rfl (by decide +kernel) ?_
   intro w2 x2 s2 h2
   refine aA ?_
   refine aC (v := .agg #[aI l[k].name, .int .i64 l[k].kind, .int .i64 l[k].ttl, x]) rfl rfl rfl h2 (show aO Tryz.prog 119 4 = true by decide +kernel) rfl (iM rfl rfl rfl (h4d.ext x2).one) ?_
   intro w3 p3
   have x3 : Ext wr w3 := x2.move p3.mv (by rintro k ⟨⟩; have := hxw.size; omega)
   have h3 : Pts w3 (.pointer (some ⟨wr.heap.size, 0, none⟩)) [aI l[k].name, .int .i64 l[k].kind, .int .i64 l[k].ttl, x] := aE p3.this
   have hp3 := hp2.ext x3
   have hstep := LI (o := o) (n := n) hlt
   generalize hg : lJ o (l.take k) n = g at *
   obtain ⟨best, found⟩ := g
   have hsame : ¬ (l[k].kind = 2 ∧ l[k].name ≠ o ∧ cQ n l[k].name = true ∧ (found = false ∨ pJ l[k].name < pJ best)) → lJ o (l.take (k + 1)) n = (best, found) := fun h => by
    rw [hstep, iD, if_neg h]
   have hnew : (l[k].kind = 2 ∧ l[k].name ≠ o ∧ cQ n l[k].name = true ∧ (found = false ∨ pJ l[k].name < pJ best)) → lJ o (l.take (k + 1)) n = (l[k].name, true) := fun h => by
    rw [hstep, iD, if_pos h]
   refine_lift DL (fun hc hc => ?_) (fun hc => ?_) (fun _ _ hc hc => ?_)
   ·have hne : l[k].name ≠ o := by simpa using hc
    have hk2 : l[k].kind = 2 := by assumption
    refine aB (enters_of Tryz.func150 rfl rfl) rfl rfl (DU _ _ _) ?_; intro w4 x4; refine aA ?_
    have hx4 := hx.trans (x3.trans x4)
    have h5 := h3.ext x4
    cases hu : cQ n l[k].name with
    | false =>
     refine_lift aS ?_
     have h := hsame (fun h => absurd h.2.2.1 (by rw [hu]; decide))
     exact ⟨⟨k + 1, by omega, by go_num, by rw [h], by rw [h], hx4⟩, by simp [intOf]; omega⟩
    | true =>
     cases found with
     | false =>
      refine_lift aS ?_
      have h := hnew ⟨hk2, hne, hu, .inl rfl⟩
      exact ⟨⟨k + 1, by omega, by go_num, by rw [h], by rw [h], hx4⟩, by simp [intOf]; omega⟩
     | true =>
      refine_lift aS ?_
      refine aK (enters_of Tryz.func191 rfl rfl) rfl rfl (zU l[k].name _) ?_
      intro v5 w5 x5 o5
      have hl5 := aR ((bF l[k].name).getD [])
      have hs5 := o5.sl
      have h6 := h5.ext x5
      refine aA ?_
      refine_lift aS ?_
      refine aK (enters_of Tryz.func191 rfl rfl) rfl rfl (zU best _) ?_
      intro v6 w6 x6 o6
      have hl6 := aR ((bF best).getD [])
      have hs6 := o6.sl
      have h7 := h6.ext x6
      have hx7 := hx4.trans (x5.trans x6)
      refine aA ?_
      refine_lift rF (fun _ => ?_) (fun _ => ?_)
      ·rename_i hh
       have h := hnew ⟨hk2, hne, hu, .inr (by simp only [pJ]; omega)⟩
       exact ⟨⟨k + 1, by omega, by go_num, by rw [h], by rw [h], hx7⟩, by simp [intOf]; omega⟩
      ·rename_i hh
       have h := hsame (fun h => by have h8 := h.2.2.2; simp only [pJ] at h8; rcases h8 with h8 | h8; cases h8; omega)
       exact ⟨⟨k + 1, by omega, by go_num, by rw [h], by rw [h], hx7⟩, by simp [intOf]; omega⟩
   ·have h := hsame (fun h => by first | exact absurd h.1 hc | exact h.2.1 (by simpa using hc))
    exact ⟨⟨k + 1, by omega, by go_num, by rw [h], by rw [h], hx.trans x3⟩, by simp [intOf]; omega⟩
   ·have h := hsame (fun h => by first | exact absurd h.1 hc | exact h.2.1 (by simpa using hc))
    exact ⟨⟨k + 1, by omega, by go_num, by rw [h], by rw [h], hx.trans x3⟩, by simp [intOf]; omega⟩
  ·have : k = l.length := by omega
   subst this
   rw [List.take_length]
   refine_lift fP fun _ => ?_
   go_ret2
   exact ⟨rfl, hxw⟩
end Go.Proofs.X
