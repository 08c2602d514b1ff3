/- Laws and walks that the proof of the statement is made of (part 7). -/
import Derived.Test.YteofaejlmdplhaaGreatP6
set_option linter.unusedSimpArgs false
set_option linter.unusedVariables false
namespace Go.Proofs.X
open Go.RowKit
set_option maxRecDepth 100000
theorem fX (n : List UInt8) : dD n = (bA n).map fun ls => (ls.map low).reverse := by
 cases h : bA n with
 | none => simp [dD, fold, h]
 | some ls => simp [dD, (uZ h).2.1]
set_option maxHeartbeats 6000000 in
theorem tT (nm : List UInt8) (w : World) : Calls Tryz.prog 67 #[aH nm] w (bC w (aH (fold nm))) := by
 go_enter Tryz.func67, Tryz.ntmps67
 refine_lift bS fun _ _ => ?_
 refine aI (enters_of Tryz.func112 rfl rfl) rfl rfl (lZ nm _) ?_
 intro v w1 x1 hv
 cases hl : bA nm with
 | none =>
  rw [hl] at hv
  subst hv
  refine_lift aP ?_
  go_ret
  exact ⟨by simp [fold, hl], x1⟩
 | some ls =>
  rw [hl] at hv
  obtain ⟨s, rfl, hs⟩ := hv
  have hfit := dO hl
  have hlen := gH ls
  rw [hfit.2.1] at hlen
  refine_lift bS fun _ _ => ?_
  go_loopw [5] (fun i wr => ∃ k : Nat, k ≤ ls.length ∧ i = .int .i64 k ∧ Ext w wr ∧ Own w.heap.size 1 9 wr s (aM (pT low ls k))) (fun i _ => ls.length - (intOf i).toNat)
  case atStart => exact ⟨0, Nat.zero_le _, rfl, x1, by simpa [yG] using hs⟩
  case round =>
   obtain ⟨k, hk, rfl, hx, ho⟩ := hrel
   have hsl := ho.sl
   have hlen2 : (aM (pT low ls k)).length = ls.length := by rw [aR, sL]
   by_cases hlt : k < ls.length
   ·have hp := hsl.elem (pX _ _ _ (BY low ls k hlt))
    have h254 : ls[k].length ≤ 254 := by have := gI (List.getElem_mem hlt); rw [hfit.2.1] at this; omega
    refine_lift gO ?_; intro _ _ _ _
    refine aB (enters_of Tryz.func114 rfl rfl) rfl rfl (nI _ _ (by omega)) ?_; intro w2 x2; refine aA ?_
    have hsl := hsl.ext x2
    have ho := ho.ext x2
    have hx := hx.trans x2
    clear hp
    refine_lift aP ?_
    refine gM (c := aH (low ls[k])) (i := k) rfl rfl rfl ho (by omega) (by decide +kernel) rfl ?_
    intro w3 o3 m3
    have hx3 := ho.mvx m3 hx (Nat.le_refl _)
    rw [uP, ← yH low ls k hlt] at o3
    clear hx ho hsl
    refine_lift aP ?_
    exact ⟨⟨k + 1, by omega, by go_num, hx3, o3⟩, by simp [intOf]; omega⟩
   ·have : k = ls.length := by omega
    subst this
    rw [BX] at hsl hlen2
    refine_lift kT fun _ _ _ => ?_
    refine aB (enters_of Tryz.func115 rfl rfl) rfl rfl (ML _ _ _ hsl) ?_; intro w2 x2; refine aA ?_
    cases hj : lV (ls.map low) with
    | none =>
     refine_lift aP ?_
     go_ret
     exact ⟨by simp [fold, hl, hj], hx.trans x2⟩
    | some n =>
     refine_lift aP ?_
     go_ret
     exact ⟨by simp [fold, hl, hj], hx.trans x2⟩
def cH (n t : List UInt8) : Bool := match dD n with
 | none => false
 | some a => match dD t with
   | none => false
   | some b => decide (a.take b.length = b)
def pZ (ls : List (List UInt8)) : List (List UInt8) := (ls.map low).reverse
theorem dV (ls : List (List UInt8)) : (pZ ls).length = ls.length := by simp [pZ]
theorem qS {ls : List (List UInt8)} {k : Nat} (h : k < ls.length) : (pZ ls)[k]'(by rw [dV]; exact h) = low (ls[ls.length - 1 - k]'(by omega)) := by
 simp [pZ]
theorem tU {w : World} {v : Value} {ls : List (List UInt8)} (h : Sl 1 w v (aM ls)) {k : Nat} (hk : k < ls.length) : Pts w (bU v ((((aM ls).length : Int) - 1 - k).toNat * 1)) [aH (ls[ls.length - 1 - k]'(by omega))] := by
 have := h.elem (i := ls.length - 1 - k) (e := [aH (ls[ls.length - 1 - k]'(by omega))]) (dW (by omega))
 rwa [show (((aM ls).length : Int) - 1 - k).toNat = ls.length - 1 - k by rw [aR]; omega]
theorem CM {α : Type} {a b : List α} {k : Nat} (h : a.take b.length = b) (hk : k < b.length) (ha : k < a.length) : a[k] = b[k] := by
 have h1 : (a.take b.length)[k]? = b[k]? := by rw [h]
 rw [List.getElem?_take, if_pos hk, List.getElem?_eq_getElem ha, List.getElem?_eq_getElem hk] at h1
 exact Option.some.inj h1
set_option maxHeartbeats 12000000 in
theorem CN (a b : List UInt8) (w : World) : Calls Tryz.prog 150 #[aH a, aH b] w (bC w (.bool (cH a b))) := by
 go_enter Tryz.func150, Tryz.ntmps150
 refine_lift bS fun _ _ => ?_
 refine aI (enters_of Tryz.func112 rfl rfl) rfl rfl (lZ a _) ?_
 intro v w1 x1 hv
 cases hl : bA a with
 | none =>
  rw [hl] at hv
  subst hv
  refine_lift bS fun _ _ => ?_
  refine aI (enters_of Tryz.func112 rfl rfl) rfl rfl (lZ b _) ?_
  intro v2 w2 x2 hv2
  have hu : cH a b = false := by simp [cH, fX, hl]
  cases hm : bA b with
  | none =>
   rw [hm] at hv2
   subst hv2
   refine_lift aP ?_
   go_ret
   exact ⟨by rw [hu]; rfl, x1.trans x2⟩
  | some ms =>
   rw [hm] at hv2
   obtain ⟨s2, rfl, o2⟩ := hv2
   refine_lift aP ?_
   go_ret
   exact ⟨by rw [hu]; rfl, x1.trans x2⟩
 | some ls =>
  rw [hl] at hv
  obtain ⟨s1, rfl, o1⟩ := hv
  refine_lift bS fun _ _ => ?_
  refine aI (enters_of Tryz.func112 rfl rfl) rfl rfl (lZ b _) ?_
  intro v2 w2 x2 hv2
  cases hm : bA b with
  | none =>
   have hu : cH a b = false := by simp [cH, fX, hm, hl]
   rw [hm] at hv2
   subst hv2
   refine_lift aP ?_
   go_ret
   exact ⟨by rw [hu]; rfl, x1.trans x2⟩
  | some ms =>
   rw [hm] at hv2
   obtain ⟨s2, rfl, o2⟩ := hv2
   have hu : cH a b = true ↔ (pZ ls).take ms.length = pZ ms := by
    simp only [cH, fX, hm, hl, Option.map_some, decide_eq_true_eq]
    rw [show ((ms.map low).reverse).length = ms.length by simp]; rfl
   have hA := o1.sl.ext x2
   have hB := o2.sl
   have tl := aR ls
   have tm := aR ms
   have fl := dO hl
   have fm := dO hm
   have ll := gH ls
   have lm := gH ms
   rw [fl.2.1] at ll
   rw [fm.2.1] at lm
   by_cases hlt : ls.length < ms.length
   ·have hno : (pZ ls).take ms.length ≠ pZ ms := fun h => by
     have := congrArg List.length h
     simp [dV] at this; omega
    refine_lift fG fun _ => ?_
    go_ret
    have hno' : cH a b = false := by cases h : cH a b with | false => rfl | true => exact absurd (hu.1 h) hno
    exact ⟨by rw [hno']; rfl, x1.trans x2⟩
   ·have x12 := x1.trans x2
    refine_lift kT fun _ _ _ => ?_
    go_loopw [9] (fun i wr => ∃ k : Nat, k ≤ ms.length ∧ i = .int .i64 k ∧ Ext w2 wr ∧ (pZ ls).take k = (pZ ms).take k) (fun i _ => ms.length - (intOf i).toNat)
    case atStart => exact ⟨0, Nat.zero_le _, rfl, Ext.refl _, rfl⟩
    case round =>
     obtain ⟨k, hk, rfl, hx, hall⟩ := hrel
     by_cases hk2 : k < ms.length
     ·have hA := hA.ext hx
      have hB := hB.ext hx
      have hkl : k < ls.length := by omega
      have hpA := tU hA hkl
      have hpB := tU hB hk2
      have lA : (ls[ls.length - 1 - k]'(by omega)).length ≤ 254 := by have := gI (List.getElem_mem (l := ls) (n := ls.length - 1 - k) (by omega)); rw [fl.2.1] at this; omega
      have lB : (ms[ms.length - 1 - k]'(by omega)).length ≤ 254 := by have := gI (List.getElem_mem (l := ms) (n := ms.length - 1 - k) (by omega)); rw [fm.2.1] at this; omega
      have gA := qS hkl
      have gB := qS hk2
      generalize hx1 : ls[ls.length - 1 - k]'(by omega) = x at *
      generalize hy1 : ms[ms.length - 1 - k]'(by omega) = y at *
      refine_lift nX ?_; intro _ _ _ _ _ _
      refine bE (by decide +kernel) (by decide +kernel) ?_
      refine_lift dN ?_
      refine bY (enters_of Tryz.func114 rfl rfl) rfl rfl (fun w' _ => nI x w' (by omega)) ?_
      refine aA ?_
      refine_lift dN ?_
      refine bY (enters_of Tryz.func114 rfl rfl) rfl rfl (fun w' _ => nI y w' (by omega)) ?_
      refine aA ?_
      refine_lift dN ?_
      intro w3 x3
      refine_lift rP (fun _ => ?_) (fun _ => ?_)
      ·have hne := ‹(!decide (low x = low y)) = true›
       have hno : cH a b = false := by
        cases h : cH a b with
        | false => rfl
        | true =>
         have h2 := hu.1 h
         rw [← dV ms] at h2
         have := CM h2 (by rw [dV]; exact hk2) (by rw [dV]; exact hkl)
         rw [gA, gB] at this
         simp [this] at hne
       go_ret
       exact ⟨by rw [hno]; rfl, x12.trans (hx.trans x3)⟩
      ·have heq := ‹(!decide (low x = low y)) = false›
       refine ⟨⟨k + 1, by omega, by go_num, hx.trans x3, ?_⟩, by simp [intOf]; omega⟩
       refine eG hall (by rw [dV]; exact hkl) (by rw [dV]; exact hk2) ?_
       rw [gA, gB]
       simpa using heq
     ·have : k = ms.length := by omega
      subst this
      have hyes : cH a b = true := hu.2 (by rw [hall, ← dV, List.take_length])
      refine_lift fG fun _ => ?_
      go_ret
      exact ⟨by rw [hyes]; rfl, x12.trans hx⟩
theorem rT : ∀ (k : Nat) (a b : List (List UInt8)), a.take k = b.take k → k ≤ a.length → k ≤ b.length → gD a b = gD (a.drop k) (b.drop k)
 | 0, a, b, _, _, _ => by simp
 | k + 1, x :: a, y :: b, h, h1, h2 => by
   simp only [List.take_succ_cons, List.cons.injEq] at h
   obtain ⟨rfl, h⟩ := h
   have e : iZ x x = 0 := gF.refl x
   rw [gD, e]
   simp only [ne_eq, not_true_eq_false, if_false, List.drop_succ_cons]
   exact rT k a b h (by simpa using h1) (by simpa using h2)
 | k + 1, [], _, _, h1, _ => by simp at h1
 | k + 1, _ :: _, [], _, _, h2 => by simp at h2
theorem MO {k : Nat} {a b : List (List UInt8)} (h : a.take k = b.take k) (ha : k < a.length) (hb : k < b.length) (hne : iZ a[k] b[k] ≠ 0) : gD a b = iZ a[k] b[k] := by
 rw [rT k a b h (by omega) (by omega), List.drop_eq_getElem_cons ha, List.drop_eq_getElem_cons hb, gD, if_pos hne]
theorem vD {k : Nat} {a b : List (List UInt8)} (h : a.take k = b.take k) (h1 : k ≤ a.length) (h2 : k ≤ b.length) (he : k = a.length ∨ k = b.length) : gD a b = if a.length < b.length then -1 else if b.length < a.length then 1 else 0 := by
 rw [rT k a b h h1 h2]
 rcases he with rfl | rfl
 ·rw [List.drop_length]
  cases hd : b.drop a.length with
  | nil =>
   have := List.drop_eq_nil_iff.1 hd
   rw [gD, if_neg (by omega), if_neg (by omega)]
  | cons y l =>
   have : a.length < b.length := by
    rcases Nat.lt_or_ge a.length b.length with h | h
    ·exact h
    ·rw [List.drop_eq_nil_iff.2 h] at hd; cases hd
   rw [gD, if_pos this]
 ·rw [List.drop_length]
  cases hd : a.drop b.length with
  | nil =>
   have := List.drop_eq_nil_iff.1 hd
   rw [gD, if_neg (by omega), if_neg (by omega)]
  | cons y l =>
   have : b.length < a.length := by
    rcases Nat.lt_or_ge b.length a.length with h | h
    ·exact h
    ·rw [List.drop_eq_nil_iff.2 h] at hd; cases hd
   rw [gD, if_neg (by omega), if_pos this]
set_option maxHeartbeats 24000000 in
theorem EV (a b : List UInt8) (w : World) : Calls Tryz.prog 190 #[aH a, aH b] w (bC w (.int .i64 (gJ a b))) := by
 go_enter Tryz.func190, Tryz.ntmps190
 refine_lift bS fun _ _ => ?_
 refine aI (enters_of Tryz.func112 rfl rfl) rfl rfl (lZ a _) ?_
 intro v w1 x1 hv
 cases hl : bA a with
 | none =>
  rw [hl] at hv
  subst hv
  refine_lift bS fun _ _ => ?_
  refine aI (enters_of Tryz.func112 rfl rfl) rfl rfl (lZ b _) ?_
  intro v2 w2 x2 hv2
  cases hm : bA b with
  | none =>
   rw [hm] at hv2
   subst hv2
   refine_lift gO fun _ _ _ _ => ?_
   refine aB (enters_of Tryz.func225 rfl rfl) rfl rfl (CH a b _) ?_; intro w3 x3; refine aA ?_
   refine_lift aP ?_
   go_ret
   exact ⟨by simp [gJ, fX, hl, hm], (x1.trans x2).trans x3⟩
  | some ms =>
   rw [hm] at hv2
   obtain ⟨s2, rfl, o2⟩ := hv2
   refine_lift aP ?_
   go_ret
   exact ⟨by simp [gJ, fX, hl, hm], x1.trans x2⟩
 | some ls =>
  rw [hl] at hv
  obtain ⟨s1, rfl, o1⟩ := hv
  refine_lift bS fun _ _ => ?_
  refine aI (enters_of Tryz.func112 rfl rfl) rfl rfl (lZ b _) ?_
  intro v2 w2 x2 hv2
  cases hm : bA b with
  | none =>
   rw [hm] at hv2
   subst hv2
   refine_lift aP ?_
   go_ret
   exact ⟨by simp [gJ, fX, hl, hm], x1.trans x2⟩
  | some ms =>
   rw [hm] at hv2
   obtain ⟨s2, rfl, o2⟩ := hv2
   have hu : gJ a b = gD (pZ ls) (pZ ms) := by simp [gJ, fX, hm, hl, pZ]
   have hA := o1.sl.ext x2
   have hB := o2.sl
   have tl := aR ls
   have tm := aR ms
   have fl := dO hl
   have fm := dO hm
   have ll := gH ls
   have lm := gH ms
   rw [fl.2.1] at ll
   rw [fm.2.1] at lm
   have x12 := x1.trans x2
   have rl := dV ls
   have rm := dV ms
   refine_lift bS fun _ _ => ?_
   go_loopw [9, 10] (fun i _ wr => ∃ k : Nat, k ≤ ls.length ∧ k ≤ ms.length ∧ i = .int .i64 k ∧ Ext w2 wr ∧ (pZ ls).take k = (pZ ms).take k) (fun i _ _ => ms.length - (intOf i).toNat)
   case atStart => exact ⟨0, Nat.zero_le _, Nat.zero_le _, rfl, Ext.refl _, rfl⟩
   case round =>
    obtain ⟨k, hk, hk2, rfl, hx, hall⟩ := hrel
    have hA := hA.ext hx
    have hB := hB.ext hx
    by_cases hin : k < ls.length ∧ k < ms.length
    ·obtain ⟨hkl, hkm⟩ := hin
     have hpA := tU hA hkl
     have hpB := tU hB hkm
     have lA : (ls[ls.length - 1 - k]'(by omega)).length ≤ 254 := by have := gI (List.getElem_mem (l := ls) (n := ls.length - 1 - k) (by omega)); rw [fl.2.1] at this; omega
     have lB : (ms[ms.length - 1 - k]'(by omega)).length ≤ 254 := by have := gI (List.getElem_mem (l := ms) (n := ms.length - 1 - k) (by omega)); rw [fm.2.1] at this; omega
     have gA := qS hkl
     have gB := qS hkm
     generalize hx1 : ls[ls.length - 1 - k]'(by omega) = x at *
     generalize hy1 : ms[ms.length - 1 - k]'(by omega) = y at *
     refine_lift TO ?_; intro _ hc _ _ _ _ _
     refine bE (by decide +kernel) (by decide +kernel) ?_
     refine_lift dN ?_
     refine bY (enters_of Tryz.func114 rfl rfl) rfl rfl (fun w' _ => nI x w' (by omega)) ?_
     refine aA ?_
     refine_lift dN ?_
     refine bY (enters_of Tryz.func114 rfl rfl) rfl rfl (fun w' _ => nI y w' (by omega)) ?_
     refine aA ?_
     refine_lift dN ?_
     refine bY (enters_of Tryz.func225 rfl rfl) rfl rfl (fun w' _ => CH (low x) (low y) w') ?_
     refine aA ?_
     refine_lift dN ?_
     intro w3 x3
     refine_lift rP (fun _ => ?_) (fun _ => ?_)
     ·have hne := ‹(!decide (iZ (low x) (low y) = 0)) = true›
      go_ret
      refine ⟨?_, x12.trans (hx.trans x3)⟩
      rw [hu, MO hall (by omega) (by omega) (by rw [gA, gB]; simpa using hne), gA, gB]
      rfl
     ·have heq := ‹(!decide (iZ (low x) (low y) = 0)) = false›
      refine ⟨⟨k + 1, by omega, by omega, by go_num, hx.trans x3, ?_⟩, by simp [intOf]; omega⟩
      refine eG hall (by omega) (by omega) ?_
      rw [gA, gB]
      exact yW (by simpa using heq)
    ·have he : gJ a b = if ls.length < ms.length then -1 else if ms.length < ls.length then 1 else 0 := by
      rw [hu, vD hall (by omega) (by omega) (by omega), rl, rm]
     refine_lift QR (fun hc _ _ _ => ?_) (fun hc _ _ => ?_) (fun hc _ _ _ _ _ => ?_)
     all_goals
      go_ret
      refine ⟨?_, x12.trans hx⟩
      rw [he]
      first
       | (rw [if_pos (by omega)]; rfl)
       | (rw [if_neg (by omega), if_pos (by omega)]; rfl)
       | (rw [if_neg (by omega), if_neg (by omega)]; rfl)
theorem fR {α : Type} {p : α → Bool} {l : List α} {k : Nat} (hk : k < l.length) (h : (l.take k).any p = false) (hp : p l[k] = false) : (l.take (k + 1)).any p = false := by
 rw [List.take_succ_eq_append_getElem hk, List.any_append, h]; simp [hp]
theorem AP {α : Type} {p : α → Bool} {l : List α} {k : Nat} (hk : k < l.length) (hp : p l[k] = true) : l.any p = true :=
 List.any_eq_true.mpr ⟨_, List.getElem_mem hk, hp⟩
theorem EW (l : List UInt8) (a : UInt8) : Lib.hasSuffix (l ++ [a]) [0] = decide (a = 0) := by
 have h : Lib.hasSuffix (l ++ [a]) [0] = true ↔ a = 0 := by
  unfold Lib.hasSuffix
  rw [List.isSuffixOf_iff_suffix]
  constructor
  ·rintro ⟨t, ht⟩
   have := congrArg List.reverse ht
   simp at this
   exact this.1.symm
  ·rintro rfl; exact ⟨l, rfl⟩
 by_cases ha : a = 0
 ·rw [h.2 ha, decide_eq_true ha]
 ·cases hh : Lib.hasSuffix (l ++ [a]) [0] with
  | true => exact absurd (h.1 hh) ha
  | false => rw [decide_eq_false ha]
theorem yZ : eR [] = none := by simp [eR, Lib.hasSuffix]
theorem qT (l : List UInt8) (a : UInt8) : eR (l ++ [a]) = if a = 0 ∧ (bA l).isSome = true then some l else none := by
 have hs := EW l a
 by_cases ha : a = 0
 ·subst ha
  have ht : Lib.trimSuffix (l ++ [0]) [0] = l := by simp [Lib.trimSuffix, hs]
  simp [eR, hs, ht]
 ·simp [eR, hs, ha]
theorem HQ {s n : List UInt8} (h : eR s = some n) : n = s.take (s.length - 1) := by
 rcases List.eq_nil_or_concat s with rfl | ⟨l, a, rfl⟩
 ·rw [yZ] at h; cases h
 ·rw [List.concat_eq_append, qT] at h
  split at h
  ·cases h; simp
  ·cases h
set_option maxHeartbeats 1000000 in
theorem zA (s : List UInt8) (w : World) (hl : s.length ≤ 4611686018427387904) : Calls Tryz.prog 171 #[aH s] w (bC w (.bool (eR s).isSome)) := by
 rcases List.eq_nil_or_concat s with rfl | ⟨l, a, rfl⟩
 ·rw [yZ]
  go_enter Tryz.func171, Tryz.ntmps171
  refine_lift aP ?_
  go_ret
  exact ⟨rfl, Ext.refl _⟩
 ·rw [List.concat_eq_append] at *
  have hlen : (l ++ [a]).length = l.length + 1 := by simp
  have hn : (((l ++ [a]).length : Int) - 1).toNat = l.length := by rw [hlen]; omega
  have e1 : (l ++ [a]).getD (((l ++ [a]).length : Int) - 1).toNat 0 = a := by rw [hn]; simp
  have e2 : (l ++ [a]).take (((l ++ [a]).length : Int) - 1).toNat = l := by rw [hn]; simp
  have hh : (eR (l ++ [a])).isSome = (decide (a = 0) && (bA l).isSome) := by
   rw [qT]; by_cases h1 : a = 0 <;> cases h2 : (bA l).isSome <;> simp [h1]
  generalize l ++ [a] = s at *
  rw [hh]
  go_enter Tryz.func171, Tryz.ntmps171
  refine_lift CE (fun hc hc => ?_) (fun hc => ?_) (fun _ _ hc hc => ?_)
  ·have hz := ‹((s.getD ((s.length : Int) - 1).toNat 0).toNat : Int) = 0›
   rw [e1] at hz
   have ha : a = 0 := by apply UInt8.toNat_inj.1; simpa using hz
   rw [e2]
   refine aB (enters_of Tryz.func65 rfl rfl) rfl rfl (nH l _) ?_; intro w1 x1; refine aA ?_
   cases hls : (bA l).isSome with
   | true =>
    refine_lift aP ?_
    go_ret
    exact ⟨by simp [ha, hls], x1⟩
   | false =>
    refine_lift aP ?_
    go_ret
    exact ⟨by simp [ha, hls], x1⟩
  ·have hz := ‹¬((s.getD ((s.length : Int) - 1).toNat 0).toNat : Int) = 0›
   rw [e1] at hz
   have ha : ¬ a = 0 := by rintro rfl; simp at hz
   go_ret
   exact ⟨by simp [ha], Ext.refl _⟩
  ·omega
theorem JU (k : Int) (w : World) : Calls Tryz.prog 170 #[.int .i64 k] w (bC w (.int .i64 (eP k))) := by
 go_enter Tryz.func170, Tryz.ntmps170
 (repeat' first | ((with_reducible refine cI ?_); go_step) | ((with_reducible refine bJ ?_); first | refine fD ?_ | (refine cZ ?_ ?_ <;> intro hc)) | fail)
 all_goals
  go_ret
  exact ⟨by unfold eP; simp_all, Ext.refl _⟩
theorem GF (nm : List UInt8) (w : World) (hl : nm.length ≤ 9223372036854775806) : Calls Tryz.prog 193 #[aH nm] w (bC w (if (bA nm).isSome = true then .tuple #[aH (nm ++ [0]), .int .i64 0] else .tuple #[aH [], .int .i64 1])) := by
 go_enter Tryz.func193, Tryz.ntmps193
 refine_lift gO fun _ _ _ _ => ?_
 refine aB (enters_of Tryz.func65 rfl rfl) rfl rfl (nH nm _) ?_; intro w1 x1; refine aA ?_
 cases hls : (bA nm).isSome with
 | true =>
  simp only [↓reduceIte]
  refine_lift aP ?_
  go_ret2
  exact ⟨by rw [hls]; rfl, x1⟩
 | false =>
  simp only [↓reduceIte, Bool.false_eq_true]
  refine_lift fG fun _ => ?_
  go_ret2
  exact ⟨by rw [hls]; rfl, x1⟩
def nZ (s : List UInt8) (i : Nat) : Bool := if s.length < i then false else kS (s.drop i)
theorem AQ {s : List UInt8} {i : Nat} (h : i < s.length) : nZ s i = nZ s (i + 1 + (s.getD i 0).toNat) := by
 unfold nZ
 rw [if_neg (by omega), uQ h, nG, qN h, List.drop_drop]
 simp only [List.length_drop]
 by_cases hc : s.length - (i + 1) < s[i].toNat
 ·rw [if_pos hc, if_pos (by omega)]
 ·rw [if_neg hc, if_neg (by omega)]
set_option maxHeartbeats 1000000 in
theorem JV (s : List UInt8) (w : World) (hl : s.length ≤ 4611686018427387904) : Calls Tryz.prog 169 #[aH s] w (bC w (.bool (pW s))) := by
 go_enter Tryz.func169, Tryz.ntmps169
 refine_lift bS fun _ _ => ?_
 go_loopw [3] (fun a wr => ∃ i : Nat, i ≤ s.length + 256 ∧ a = .int .i64 i ∧ Ext w wr ∧ kS s = nZ s i ∧ (s.length < i → i ≤ s.length + 256)) (fun a _ => s.length - (intOf a).toNat)
 case atStart => exact ⟨0, by omega, rfl, Ext.refl _, by simp [nZ], by omega⟩
 case round =>
  obtain ⟨i, hi, rfl, hx, ht, _⟩ := hrel
  by_cases hlt : i < s.length
  ·rw [AQ hlt] at ht
   have hb : (s.getD i 0).toNat < 256 := UInt8.toNat_lt _
   refine_lift fG fun _ => ?_
   exact ⟨⟨i + 1 + (s.getD i 0).toNat, by omega, by go_num, hx, ht, by omega⟩, by simp [intOf]; omega⟩
  ·have hv : pW s = (decide (s ≠ []) && decide (i = s.length)) := by
    unfold pW
    rw [ht, nZ]
    by_cases he : s.length < i
    ·rw [if_pos he, decide_eq_false (show ¬ i = s.length by omega)]; simp
    ·have : i = s.length := by omega
     subst this
     rw [if_neg he, List.drop_length]
     simp [kS, nE]
   refine_lift SF (fun _ hc => ?_) (fun _ hc => ?_)
   ·have h0 := ‹(!decide (s = [])) = true›
    go_ret
    exact ⟨by simp [hv] at h0 ⊢; simp [h0]; omega, hx⟩
   ·have h0 := ‹(!decide (s = [])) = false›
    go_ret
    exact ⟨by simp [hv] at h0 ⊢; simp [h0], hx⟩
def numU (s : List UInt8) (k : Nat) : Nat := (s.take k).foldl (fun n c => 256 * n + c.toNat) 0
theorem jS {s : List UInt8} {k : Nat} (h : k < s.length) : numU s (k + 1) = 256 * numU s k + (s.getD k 0).toNat := by
 rw [numU, List.take_add_one, List.getElem?_eq_getElem h, Option.toList_some, List.foldl_append, qN h]
 rfl
theorem GG (s : List UInt8) : ∀ k, k ≤ s.length → numU s k < 256 ^ k
 | 0, _ => by simp [numU]
 | k + 1, h => by
   have h1 := GG s k (by omega)
   have h2 : (s.getD k 0).toNat < 256 := UInt8.toNat_lt _
   rw [jS (by omega), Nat.pow_succ]
   omega
set_option maxHeartbeats 1000000 in
theorem HR (s : List UInt8) (w : World) (hl : s.length ≤ 4) : Calls Tryz.prog 155 #[aH s] w (bC w (.int .i64 (numU s s.length : Nat))) := by
 go_enter Tryz.func155, Tryz.ntmps155
 refine_lift bS fun _ _ => ?_
 go_loopw [3, 4] (fun n i wr => ∃ k : Nat, k ≤ s.length ∧ i = .int .i64 k ∧ Ext w wr ∧ n = .int .i64 (numU s k : Nat)) (fun _ i _ => s.length - (intOf i).toNat)
 case atStart => exact ⟨0, by omega, rfl, Ext.refl _, rfl⟩
 case round =>
  obtain ⟨k, hk, rfl, hx, rfl⟩ := hrel
  by_cases hlt : k < s.length
  ·have hb : (s.getD k 0).toNat < 256 := UInt8.toNat_lt _
   have hn : numU s k < 4294967296 := Nat.lt_of_lt_of_le (GG s k hk) (by calc 256 ^ k ≤ 256 ^ 4 := Nat.pow_le_pow_right (by omega) (by omega)
                                                                              _ = _ := by decide)
   refine_lift fG fun _ => ?_
   refine ⟨⟨k + 1, by omega, by go_num, hx, ?_⟩, by simp [intOf]; omega⟩
   rw [jS hlt]
   go_num
  ·have : k = s.length := by omega
   subst this
   refine_lift fG fun _ => ?_
   go_ret
   exact ⟨rfl, hx⟩
def mU (n j : Nat) : List UInt8 := [if 4 ≤ j then UInt8.ofNat (n / 16777216) else 0, if 3 ≤ j then UInt8.ofNat (n / 65536) else 0, if 2 ≤ j then UInt8.ofNat (n / 256) else 0, if 1 ≤ j then UInt8.ofNat n else 0]
theorem EX (n : Nat) : bH (mU n 0) = List.replicate 4 [.int .u8 0] := by simp [mU, bH, List.replicate]
theorem EY (n : Nat) : mU n 4 = wZ n := by simp [mU, wZ]
theorem EZ (n j : Nat) (h : j < 4) : (bH (mU n j)).set (3 - j) [.int .u8 ((UInt8.ofNat (n / 256 ^ j)).toNat : Nat)] = bH (mU n (j + 1)) := by
 have : j = 0 ∨ j = 1 ∨ j = 2 ∨ j = 3 := by omega
 rcases this with rfl | rfl | rfl | rfl <;> simp [mU, bH]
set_option maxHeartbeats 2000000 in
theorem MP (n : Nat) (w : World) (hn : n < 4294967296) : Calls Tryz.prog 194 #[.int .i64 (n : Nat), .int .i64 4] w (bC w (aH (wZ n))) := by
 go_enter Tryz.func194, Tryz.ntmps194
 refine_lift bS fun _ _ => ?_
 refine HH (e := 5) (n := 4) (z := .int .u8 0) ?_ rfl rfl (by omega)
 intro v w1 x1 o1
 refine aA ?_
 refine_lift bS fun _ _ => ?_
 rw [← EX n] at o1
 go_loopw [0, 6] (fun m i wr => ∃ j : Nat, j ≤ 4 ∧ i = .int .i64 (3 - (j : Int)) ∧ m = .int .i64 (n / 256 ^ j : Nat) ∧ Ext w wr ∧ Own w.heap.size 1 5 wr v (bH (mU n j))) (fun _ i _ => (intOf i + 1).toNat)
 case atStart => exact ⟨0, by omega, rfl, by simp, x1, o1⟩
 case round =>
  obtain ⟨j, hj, rfl, rfl, hx, ho⟩ := hrel
  have hsl := ho.sl
  have hle : n / 256 ^ j ≤ n := Nat.div_le_self _ _
  have hbl : (bH (mU n j)).length = 4 := by simp [bH, mU]
  by_cases hlt : j < 4
  ·generalize hq : n / 256 ^ j = q at *
   refine_lift nX ?_; intro _ _ _ _ _ _
   refine aU rfl (Runs.remN (n := 256) rfl rfl (by omega) (by omega)) ?_
   refine aA ?_
   refine_lift aP ?_
   refine gM (c := .int .u8 _) (i := (3 - (j : Int)).toNat) rfl rfl rfl ho (by omega) (by decide +kernel) rfl ?_
   intro w2 o2 m2
   have hx2 := ho.mvx m2 hx (Nat.le_refl _)
   have e2 : (bH (mU n j)).set (3 - (j : Int)).toNat [Value.int .u8 (IntKind.wrap .u8 ((q % 256 : Nat) : Int))] = bH (mU n (j + 1)) := by
    rw [show (3 - (j : Int)).toNat = 3 - j by omega, yM, ← EZ n j hlt, hq]
    congr 4
    simp
   rw [e2] at o2
   clear ho hsl
   refine_lift aP ?_
   refine aU rfl (Runs.quoN (n := 256) rfl rfl (by omega) (by omega)) ?_
   refine aA ?_
   refine_lift aP ?_
   refine ⟨⟨j + 1, by omega, by go_num, ?_, hx2, o2⟩, by simp [intOf]; omega⟩
   rw [← hq, Nat.div_div_eq_div_mul, Nat.pow_succ]
  ·have : j = 4 := by omega
   subst this
   rw [EY] at hsl
   refine_lift fG fun _ => ?_
   go_ret
   exact ⟨rfl, hx⟩
theorem JW {s : List UInt8} {i : Nat} (h : i < s.length) : fI (s.drop i) = if (s.getD i 0).toNat = 0 then 0 else 1 + (s.getD i 0).toNat + fI (s.drop (i + 1 + (s.getD i 0).toNat)) := by
 rw [uQ h, pV, qN h, List.drop_drop]
def firstR (s : List UInt8) : Nat := if s.length ≤ fI s then 0 else if (eR (s.take (fI s + 1))).isSome = true then fI s + 1 else 0
theorem iM (s : List UInt8) : bO s = if firstR s = 0 then (if s.length ≤ fI s then ([], [], false) else ([], s.drop (fI s + 1), false)) else (s.take (firstR s - 1), s.drop (firstR s), true) := by
 unfold firstR bO
 by_cases h : s.length ≤ fI s
 ·simp [h]
 ·simp only [h, if_false]
  cases hh : eR (s.take (fI s + 1)) with
  | none => simp
  | some n =>
   have := HQ hh
   simp only [Option.isSome_some, if_true, Option.getD_some]
   rw [if_neg (by omega), this]
   rw [List.length_take, List.take_take]
   congr 2
   omega
theorem oA (s : List UInt8) : firstR s ≤ s.length := by
 unfold firstR; split
 ·omega
 ·split <;> omega
set_option maxHeartbeats 1000000 in
theorem CO (s : List UInt8) (w : World) (hl : s.length ≤ 4611686018427387904) : Calls Tryz.prog 154 #[aH s] w (bC w (.int .i64 (firstR s : Nat))) := by
 go_enter Tryz.func154, Tryz.ntmps154
 refine_lift bS fun _ _ => ?_
 go_loopw [3] (fun a wr => ∃ i : Nat, a = .int .i64 i ∧ i ≤ s.length + 256 ∧ Ext w wr ∧ fI s = i + fI (s.drop i)) (fun a _ => s.length - (intOf a).toNat)
 case atStart => exact ⟨0, rfl, by omega, Ext.refl _, by simp⟩
 case round =>
  obtain ⟨i, rfl, hi, hx, hw⟩ := hrel
  by_cases hlt : i < s.length
  ·rw [JW hlt] at hw
   have hb : (s.getD i 0).toNat < 256 := UInt8.toNat_lt _
   by_cases hz : (s.getD i 0).toNat = 0
   ·rw [if_pos hz] at hw
    refine_lift UC ?_; intro _ _ _ _ _ _ _ _ _
    refine aB (enters_of Tryz.func171 rfl rfl) rfl rfl (zA (s.take (i + 1)) _ (by simp; omega)) ?_; intro w2 x2; refine aA ?_
    cases hh : (eR (s.take (i + 1))).isSome with
    | true =>
     refine_lift aP ?_
     go_ret
     exact ⟨by rw [firstR, hw, if_neg (by omega), Nat.add_zero, hh]; rfl, hx.trans x2⟩
    | false =>
     refine_lift aP ?_
     go_ret
     exact ⟨by rw [firstR, hw, if_neg (by omega), Nat.add_zero, hh]; rfl, hx.trans x2⟩
   ·rw [if_neg hz] at hw
    refine_lift bS fun _ _ => ?_
    exact ⟨⟨i + 1 + (s.getD i 0).toNat, by go_num, by omega, hx, by omega⟩, by simp [intOf]; omega⟩
  ·refine_lift fG fun _ => ?_
   go_ret
   exact ⟨by rw [firstR, if_pos (by omega)]; rfl, hx⟩
def vE (l : List Int) : List (List Value) := l.map fun n => [.int .i64 n]
theorem HS {l : List Int} {k : Nat} (h : k < l.length) : (vE l)[k]? = some [.int .i64 l[k]] := by simp [vE, h]
theorem CP (m : Int) (w : World) (h0 : 0 ≤ m) (h1 : m < 4294967296) : Calls Tryz.prog 194 #[.int .i64 m, .int .i64 4] w (bC w (aH (wZ m.toNat))) := by
 obtain ⟨n, rfl⟩ := Int.eq_ofNat_of_zero_le h0
 rw [Int.toNat_natCast]
 exact MP n w (by omega)
theorem AR (n : Nat) : (wZ n).length = 4 := rfl
set_option maxHeartbeats 4000000 in
theorem PG (s : SoaR) (w : World) (h1 : s.main.length ≤ 4611686018427387904) (h2 : s.mail.length ≤ 4611686018427387904) : Calls Tryz.prog 156 #[.agg s.cells.toArray] w (bC w (if s.ok = true then .tuple #[aH s.data, .int .i64 0] else .tuple #[aH [], .int .i64 1])) := by
 have hA := fun w => GF s.main w (by omega)
 have hB := fun w => GF s.mail w (by omega)
 rw [JR]
 cases hm : (bA s.main).isSome with
 | false =>
  simp only [hm, Bool.false_eq_true, ↓reduceIte] at hA
  go_enter Tryz.func156, Tryz.ntmps156
  refine_lift gT fun _ _ => ?_
  refine aT (vs := s.cells) rfl rfl ?_
  intro p w1 x1 hp
  refine aA ?_
  have hp' : Pts w1 p [aH s.main, aH s.mail, .int .i64 s.serial, .int .i64 s.refresh, .int .i64 s.retry, .int .i64 s.expire, .int .i64 s.minimum] := hp
  refine_lift bS fun _ _ => ?_
  refine aB (enters_of Tryz.func193 rfl rfl) rfl rfl (hA _) ?_; intro w2 x2; refine aA ?_
  have hp' := hp'.ext x2
  refine_lift bS fun _ _ => ?_
  refine aB (enters_of Tryz.func193 rfl rfl) rfl rfl (hB _) ?_; intro w3 x3; refine aA ?_
  cases hl : (bA s.mail).isSome
  all_goals
   have hp' := hp'.ext x3
   simp only [↓reduceIte, Bool.false_eq_true]
   refine_lift aP ?_
   go_ret2
   exact ⟨rfl, (x1.trans x2).trans x3⟩
 | true =>
  simp only [hm, ↓reduceIte] at hA
  cases hl : (bA s.mail).isSome with
  | false =>
   simp only [hl, Bool.false_eq_true, ↓reduceIte] at hB
   go_enter Tryz.func156, Tryz.ntmps156
   refine_lift gT fun _ _ => ?_
   refine aT (vs := s.cells) rfl rfl ?_
   intro p w1 x1 hp
   refine aA ?_
   have hp' : Pts w1 p [aH s.main, aH s.mail, .int .i64 s.serial, .int .i64 s.refresh, .int .i64 s.retry, .int .i64 s.expire, .int .i64 s.minimum] := hp
   refine_lift bS fun _ _ => ?_
   refine aB (enters_of Tryz.func193 rfl rfl) rfl rfl (hA _) ?_; intro w2 x2; refine aA ?_
   have hp' := hp'.ext x2
   refine_lift bS fun _ _ => ?_
   refine aB (enters_of Tryz.func193 rfl rfl) rfl rfl (hB _) ?_; intro w3 x3; refine aA ?_
   have hp' := hp'.ext x3
   refine_lift aP ?_
   go_ret2
   exact ⟨rfl, (x1.trans x2).trans x3⟩
  | true =>
   simp only [hl, ↓reduceIte] at hB
   obtain ⟨ls, hls⟩ := Option.isSome_iff_exists.1 hm
   obtain ⟨ms, hms⟩ := Option.isSome_iff_exists.1 hl
   have hfm := dO hls
   have hfm2 := dO hms
   simp only [Bool.true_and]
   go_enter Tryz.func156, Tryz.ntmps156
   refine_lift gT fun _ _ => ?_
   refine aT (vs := s.cells) rfl rfl ?_
   intro p w1 x1 hp
   refine aA ?_
   have hp' : Pts w1 p [aH s.main, aH s.mail, .int .i64 s.serial, .int .i64 s.refresh, .int .i64 s.retry, .int .i64 s.expire, .int .i64 s.minimum] := hp
   refine_lift bS fun _ _ => ?_
   refine aB (enters_of Tryz.func193 rfl rfl) rfl rfl (hA _) ?_; intro w2 x2; refine aA ?_
   have hp' := hp'.ext x2
   refine_lift bS fun _ _ => ?_
   refine aB (enters_of Tryz.func193 rfl rfl) rfl rfl (hB _) ?_; intro w3 x3; refine aA ?_
   have hp' := hp'.ext x3
   have x13 := (x1.trans x2).trans x3
   clear x1 x2 x3 hp hA hB
   refine_lift NX (fun hc _ _ _ => ?_) (fun hc => ?_) (fun hc _ => ?_)
   rotate_left
   ·have hc := ‹s.serial ≤ 4294967295›
    have hc0 := ‹¬s.serial < 0›
    have hser : (decide (0 ≤ s.serial) && decide (s.serial ≤ 4294967295)) = true := by simp; omega
    refine bR (e := 3) (k := 1) (bytes := 8) (xs := (bI s).map (.int .i64)) rfl rfl rfl (by intro x hx; obtain ⟨n, _, rfl⟩ := List.mem_map.1 hx; rfl) (by decide +kernel) (by simp [bI]) ?_
    intro v4 w4 x4 _ s4 _
    have s4 : Sl 1 w4 v4 (vE (bI s)) := by simpa [vE, bI, Value.cells] using s4
    refine aA ?_
    have hp' := hp'.ext x4
    refine_lift bS fun _ _ => ?_
    refine aB (enters_of Tryz.func194 rfl rfl) rfl rfl (CP s.serial _ (by omega) (by omega)) ?_; intro w5 x5; refine aA ?_
    refine aU rfl (Runs.addS rfl rfl (by simp [AR]; omega)) ?_
    refine aA ?_
    refine_lift bS fun _ _ => ?_
    have x15 := (x13.trans x4).trans x5
    have s5 := s4.ext x5
    have hb0 : (fW s).length ≤ 600 := by simp [fW, AR]; omega
    rw [show s.main ++ [0] ++ (s.mail ++ [0]) ++ wZ s.serial.toNat = fW s from rfl]
    have hlen : (bI s).length = 4 := rfl
    have hlen2 : (vE (bI s)).length = 4 := rfl
    clear s4 x4 hp' x5
    go_loopw [9, 10] (fun o i wr => ∃ k : Nat, k ≤ 4 ∧ i = .int .i64 k ∧ Ext w5 wr ∧ o = aH (fW s ++ mZ ((bI s).take k)) ∧ ((bI s).take k).all fP = true) (fun _ i _ => 4 - (intOf i).toNat)
    case atStart => exact ⟨0, by omega, rfl, Ext.refl _, by simp [mZ], rfl⟩
    case round =>
     obtain ⟨k, hk, rfl, hx, rfl, hall⟩ := hrel
     have hsl := s5.ext hx
     by_cases hlt : k < 4
     ·have hlt2 : k < (bI s).length := hlt
      have hp := hsl.elem (HS hlt2)
      have hsplit : (bI s).all fP = true → fP (bI s)[k] = true := fun h => List.all_eq_true.1 h _ (List.getElem_mem hlt2)
      have hbs : (mZ ((bI s).take k)).length ≤ 16 := by rw [CI]; simp; omega
      (repeat' first | ((with_reducible refine cI ?_); go_step) | ((with_reducible refine bJ ?_); first | refine fD ?_ | (refine cZ ?_ ?_ <;> intro hc)) | fail)
      rotate_left
      ·refine aB (enters_of Tryz.func194 rfl rfl) rfl rfl (CP (bI s)[k] _ (by omega) (by omega)) ?_; intro w6 x6; refine aA ?_
       refine aU rfl (Runs.addS rfl rfl (by simp [AR]; omega)) ?_
       refine aA ?_
       rw [show fW s ++ mZ ((bI s).take k) ++ wZ (bI s)[k].toNat = fW s ++ mZ ((bI s).take (k + 1)) by rw [yQ _ _ hlt2, List.append_assoc]]
       refine_lift aP ?_
       refine ⟨⟨k + 1, by omega, by go_num, hx.trans x6, rfl, ?_⟩, by simp [intOf]; omega⟩
       rw [List.take_add_one, List.getElem?_eq_getElem hlt2, Option.toList_some, List.all_append, hall]
       simp only [List.all_cons, List.all_nil, fP, Bool.true_and, Bool.and_true, Bool.and_eq_true, decide_eq_true_eq]
       omega
      all_goals
       have hno : (bI s).all fP = false := by
        cases h : (bI s).all fP with
        | false => rfl
        | true => have := hsplit h; simp [fP] at this; omega
       go_ret2
       refine ⟨?_, x15.trans hx⟩
       simp only [hser, hno, Bool.and_false, Bool.false_eq_true, if_false]
       rfl
     ·have : k = 4 := by omega
      subst this
      rw [show (bI s).take 4 = bI s from rfl] at hall ⊢
      refine_lift fG fun _ => ?_
      go_ret2
      refine ⟨?_, x15.trans hx⟩
      simp only [hser, hall, Bool.and_self, if_true]
      rw [uU]
      rfl
   all_goals
    have hno : (decide (0 ≤ s.serial) && decide (s.serial ≤ 4294967295)) = false := by simp only [Bool.and_eq_false_iff, decide_eq_false_iff_not]; omega
    go_ret2
    refine ⟨?_, x13⟩
    simp only [hno, Bool.false_and, Bool.false_eq_true, if_false]
    rfl
theorem RE {r : List UInt8} {i : Nat} (hr : r.length = 20) (hi : i < 5) : (numU ((r.take (4 * i + 4)).drop (4 * i)) 4 : Nat) = numP r i 4 := by
 have hl : ((r.take (4 * i + 4)).drop (4 * i)).length = 4 := by simp; omega
 have hg : ∀ k, k < 4 → ((r.take (4 * i + 4)).drop (4 * i)).getD k 0 = r.getD (4 * i + k) 0 := by
  intro k hk
  simp only [List.getD_eq_getElem?_getD, List.getElem?_drop, List.getElem?_take]
  rw [if_pos (by omega)]
 have h0 : numU ((r.take (4 * i + 4)).drop (4 * i)) 0 = 0 := rfl
 rw [jS (by omega), jS (by omega), jS (by omega), jS (by omega), h0, hg 0 (by omega), hg 1 (by omega), hg 2 (by omega), hg 3 (by omega)]
 simp only [numP]
 omega
theorem MQ (s : List UInt8) (w : World) (hl : s.length = 4) : Calls Tryz.prog 155 #[aH s] w (bC w (.int .i64 (numU s 4 : Nat))) := by
 have := HR s w (by omega)
 rwa [hl] at this
theorem AS (d : List UInt8) : cB d = if firstR d = 0 then none else if firstR (d.drop (firstR d)) = 0 ∨ d.length ≠ firstR d + firstR (d.drop (firstR d)) + 20 then none
 else if (cG d).ok = true then some (cG d) else none := by
 have hd := iM d
 have he := iM (d.drop (firstR d))
 by_cases h0 : firstR d = 0
 ·rw [if_pos h0] at hd ⊢
  have : (bO d).2.2 = false := by rw [hd]; split <;> rfl
  simp [cB, this]
 ·rw [if_neg h0] at hd ⊢
  have h1 : (bO d).2.2 = true := by rw [hd]
  have h2 : (bO d).2.1 = d.drop (firstR d) := by rw [hd]
  unfold cB
  simp only [h1, h2, true_and]
  by_cases hm : firstR (d.drop (firstR d)) = 0
  ·rw [if_pos hm] at he
   have : (bO (d.drop (firstR d))).2.2 = false := by rw [he]; split <;> rfl
   simp [this, hm]
  ·rw [if_neg hm] at he
   have h3 : (bO (d.drop (firstR d))).2.2 = true := by rw [he]
   have h4 : (bO (d.drop (firstR d))).2.1 = (d.drop (firstR d)).drop (firstR (d.drop (firstR d))) := by rw [he]
   have l1 := oA d
   have l2 := oA (d.drop (firstR d))
   rw [List.length_drop] at l2
   simp only [h3, h4, true_and, hm, false_or, List.length_drop]
   by_cases hl : d.length = firstR d + firstR (d.drop (firstR d)) + 20
   ·have : d.length - firstR d - firstR (d.drop (firstR d)) = 20 := by omega
    simp [hl, this]
    rw [← hl]
    simp [this]
   ·have : ¬ d.length - firstR d - firstR (d.drop (firstR d)) = 20 := by omega
    simp [hl, this]
theorem dC (r : List UInt8) (i : Nat) (w : World) (hr : r.length = 20) (hi : i < 5) : Calls Tryz.prog 155 #[aH ((r.take (4 * i + 4)).drop (4 * i))] w (bC w (.int .i64 (numP r i 4 : Nat))) := by
 rw [← RE hr hi]
 exact MQ _ w (by simp; omega)
set_option maxHeartbeats 24000000 in
theorem sT (d : List UInt8) (w : World) (hl : d.length ≤ 4611686018427387904) : Calls Tryz.prog 98 #[aH d] w (bC w (match cB d with | some s => .tuple #[.agg s.cells.toArray, .int .i64 0] | none => .tuple #[.agg aX.toArray, .int .i64 2])) := by
 have hps := AS d
 have l1 := oA d
 have l2 := oA (d.drop (firstR d))
 rw [List.length_drop] at l2
 have hd := iM d
 have he := iM (d.drop (firstR d))
 go_enter Tryz.func98, Tryz.ntmps98
 refine_lift rF ?_; intro _ _ _
 refine aF (z := aX) rfl (by decide +kernel) ?_
 intro w1 x1 s1 h1
 refine aA ?_
 refine_lift bS fun _ _ => ?_
 refine aB (enters_of Tryz.func154 rfl rfl) rfl rfl (CO d _ hl) ?_; intro w2 x2; refine aA ?_
 have h1 := x2.at h1
 have x12 := x1.trans x2
 refine_lift tK (fun _ _ _ => ?_) (fun _ _ _ _ _ => ?_)
 ·have hz := ‹((firstR d : Nat) : Int) = 0›
  refine aU (v := .agg aX.toArray) rfl (Runs.build (parts := []) (vals := []) rfl (by kernel_rfl)) ?_
  refine aA ?_
  refine aD (v := .agg aX.toArray) rfl rfl rfl h1 (by decide +kernel) rfl (by decide +kernel) ?_
  intro w7 p7
  have x7 : Ext w w7 := x12.move p7.mv (by rintro k ⟨⟩; omega)
  have h17 : w7.heap[w.heap.size]? = some (.cells aX.toArray 67 (0, 0)) := p7.this
  refine_lift aP ?_
  refine bodyPost_ret (aJ (cs := aX) rfl rfl h17 (by decide +kernel)) rfl ⟨?_, x7⟩
  rw [hps, if_pos (by omega)]
  rfl
 ·have hz := ‹¬((firstR d : Nat) : Int) = 0›
  rw [if_neg (by omega)] at hps
  refine aB (enters_of Tryz.func154 rfl rfl) rfl rfl (CO (d.drop (firstR d)) _ (by simp; omega)) ?_; intro w3 x3; refine aA ?_
  have h1 := x3.at h1
  have x13 := x12.trans x3
  clear x1 x2 x3 x12
  have hsoa : (cG d).cells = [aH (d.take (firstR d - 1)), aH ((d.drop (firstR d)).take (firstR (d.drop (firstR d)) - 1)), .int .i64 (numP ((d.drop (firstR d)).drop (firstR (d.drop (firstR d)))) 0 4 : Nat), .int .i64 (numP ((d.drop (firstR d)).drop (firstR (d.drop (firstR d)))) 1 4 : Nat), .int .i64 (numP ((d.drop (firstR d)).drop (firstR (d.drop (firstR d)))) 2 4 : Nat), .int .i64 (numP ((d.drop (firstR d)).drop (firstR (d.drop (firstR d)))) 3 4 : Nat), .int .i64 (numP ((d.drop (firstR d)).drop (firstR (d.drop (firstR d)))) 4 4 : Nat)] ∨ firstR (d.drop (firstR d)) = 0 := by
   by_cases hm : firstR (d.drop (firstR d)) = 0
   ·exact .inr hm
   ·rw [if_neg (by omega)] at hd
    rw [if_neg hm] at he
    left
    simp only [SoaR.cells, cG, hd, he]
  refine_lift QS (fun hc _ _ _ => ?_) (fun _ _ hc _ _ => ?_) (fun _ _ hc _ _ _ => ?_)
  rotate_left
  ·have hm := ‹¬((firstR (d.drop (firstR d)) : Nat) : Int) = 0›
   have hlen := ‹(!decide ((d.length : Int) = ((firstR d : Nat) : Int) + ((firstR (d.drop (firstR d)) : Nat) : Int) + 20)) = false›
   have hlen : d.length = firstR d + firstR (d.drop (firstR d)) + 20 := by simp at hlen; omega
   rw [if_neg (by omega)] at hps
   have hsoa := hsoa.resolve_right (by omega)
   generalize hn : firstR d = n at *
   generalize hmm : firstR (d.drop n) = m at *
   have ht : (d.drop ((n : Int) + (m : Int)).toNat) = (d.drop n).drop m := by rw [List.drop_drop]; congr 1
   rw [ht]
   have htl : ((d.drop n).drop m).length = 20 := by simp; omega
   generalize hr : (d.drop n).drop m = r at *
   refine cE (S := fun w' => Ext w3 w') (by decide +kernel) ?_
   intro w4 x4 hh4
   refine tk 0 ?_; refine aA ?_; refine tk 1 ?_; refine aA ?_; refine tk 2 ?_; refine aA ?_; refine tk 3 ?_; refine aA ?_; refine tk 4 ?_; refine aA ?_; refine tk 5 ?_; refine aA ?_; refine tk 6 ?_; refine aA ?_; refine tk 7 ?_; refine aA ?_; refine tk 8 ?_; refine aA ?_; refine tk 9 ?_; refine aA ?_; refine tk 10 ?_; refine aA ?_; refine tk 11 ?_; refine aA ?_; refine tk 12 ?_; refine aA ?_; refine tk 14 ?_; refine aA ?_; refine tk 15 ?_; refine aA ?_; refine tk 17 ?_; refine aA ?_; refine tk 18 ?_; refine aA ?_; refine tk 20 ?_; refine aA ?_; refine tk 21 ?_; refine aA ?_; refine tk 23 ?_; refine aA ?_; refine tk 24 ?_; refine aA ?_
   have hx := x4
   have hA : d.take ((n : Int) - 1).toNat = d.take (n - 1) := by congr 1; omega
   rw [hA]
   have hB : (d.take ((n : Int) + (m : Int) - 1).toNat).drop n = (d.drop n).take (m - 1) := by
    rw [List.drop_take]; congr 1; omega
   rw [hB]
   apply NU (F := fun (b : Nat) w' => Ext w3 w' ∧ w4.heap.size ≤ b ∧ w'.heap[b]? = some (.cells aX.toArray 67 (0, 0)))
   ·intro hG
    have hx0 := hx
    have hx : Ext w4 w4 := Ext.refl _
    refine kK (i := 13) (j := 27) (by decide +kernel) rfl rfl rfl ?_ ?_
    ·refine aB (enters_of Tryz.func155 rfl rfl) rfl rfl (dC r 0 _ htl (by omega)) ?_
     intro w_1 x_1
     have hx := hx.trans x_1
     refine aA ?_
     refine aK ⟨hx0.trans hx, ?_⟩
     refine kK (i := 16) (j := 27) (by decide +kernel) rfl rfl rfl ?_ ?_
     ·refine aB (enters_of Tryz.func155 rfl rfl) rfl rfl (dC r 1 _ htl (by omega)) ?_
      intro w_2 x_2
      have hx := hx.trans x_2
      refine aA ?_
      refine aK ⟨hx0.trans hx, ?_⟩
      refine kK (i := 19) (j := 27) (by decide +kernel) rfl rfl rfl ?_ ?_
      ·refine aB (enters_of Tryz.func155 rfl rfl) rfl rfl (dC r 2 _ htl (by omega)) ?_
       intro w_3 x_3
       have hx := hx.trans x_3
       refine aA ?_
       refine aK ⟨hx0.trans hx, ?_⟩
       refine kK (i := 22) (j := 27) (by decide +kernel) rfl rfl rfl ?_ ?_
       ·refine aB (enters_of Tryz.func155 rfl rfl) rfl rfl (dC r 3 _ htl (by omega)) ?_
        intro w_4 x_4
        have hx := hx.trans x_4
        refine aA ?_
        refine aK ⟨hx0.trans hx, ?_⟩
        refine kK (i := 25) (j := 27) (by decide +kernel) rfl rfl rfl ?_ ?_
        ·refine aB (enters_of Tryz.func155 rfl rfl) rfl rfl (dC r 4 _ htl (by omega)) ?_
         intro w_5 x_5
         have hx := hx.trans x_5
         refine aA ?_
         refine aK ⟨hx0.trans hx, ?_⟩
         refine cA (i := 26) (v := .agg (cG d).cells.toArray) rfl rfl (by decide +kernel) (by decide +kernel) (by decide +kernel) rfl (hx0.trans hx) (fun w' _ => by rw [hsoa]; exact Runs.build rfl (by kernel_rfl)) (fun _ _ _ h => h) ?_; refine aA ?_
         refine aY (i := 27) (by decide +kernel) rfl rfl ?_
         refine aF (z := aX) rfl (by decide +kernel) ?_
         intro w_6 x_6 s_6 ha
         have hb := hx.size
         have hx := hx.trans x_6
         generalize w_5.heap.size = b at *
         refine aA ?_
         refine aK ⟨hx0.trans hx, ?_⟩
         exact hG _ _ ⟨hx0.trans hx, hb, ha⟩
        ·refine aF (z := aX) rfl (by decide +kernel) ?_
         intro w_7 x_7 s_7 ha
         have hb := hx.size
         have hx := hx.trans x_7
         generalize w_4.heap.size = b at *
         refine aA ?_
         refine aK ⟨hx0.trans hx, ?_⟩
         refine aY (i := 25) (by decide +kernel) rfl rfl ?_
         refine aB (enters_of Tryz.func155 rfl rfl) rfl rfl (dC r 4 _ htl (by omega)) ?_
         intro w_8 x_8
         have hx := hx.trans x_8
         have ha := x_8.at ha
         refine aA ?_
         refine aK ⟨hx0.trans hx, ?_⟩
         refine cA (i := 26) (v := .agg (cG d).cells.toArray) rfl rfl (by decide +kernel) (by decide +kernel) (by decide +kernel) rfl (hx0.trans hx) (fun w' _ => by rw [hsoa]; exact Runs.build rfl (by kernel_rfl)) (fun _ _ _ h => h) ?_; refine aA ?_
         exact hG _ _ ⟨hx0.trans hx, hb, ha⟩
       ·refine aF (z := aX) rfl (by decide +kernel) ?_
        intro w_9 x_9 s_9 ha
        have hb := hx.size
        have hx := hx.trans x_9
        generalize w_3.heap.size = b at *
        refine aA ?_
        refine aK ⟨hx0.trans hx, ?_⟩
        refine aY (i := 22) (by decide +kernel) rfl rfl ?_
        refine aB (enters_of Tryz.func155 rfl rfl) rfl rfl (dC r 3 _ htl (by omega)) ?_
        intro w_10 x_10
        have hx := hx.trans x_10
        have ha := x_10.at ha
        refine aA ?_
        refine aK ⟨hx0.trans hx, ?_⟩
        refine aY (i := 25) (by decide +kernel) rfl rfl ?_
        refine aB (enters_of Tryz.func155 rfl rfl) rfl rfl (dC r 4 _ htl (by omega)) ?_
        intro w_11 x_11
        have hx := hx.trans x_11
        have ha := x_11.at ha
        refine aA ?_
        refine aK ⟨hx0.trans hx, ?_⟩
        refine cA (i := 26) (v := .agg (cG d).cells.toArray) rfl rfl (by decide +kernel) (by decide +kernel) (by decide +kernel) rfl (hx0.trans hx) (fun w' _ => by rw [hsoa]; exact Runs.build rfl (by kernel_rfl)) (fun _ _ _ h => h) ?_; refine aA ?_
        exact hG _ _ ⟨hx0.trans hx, hb, ha⟩
      ·refine aF (z := aX) rfl (by decide +kernel) ?_
       intro w_12 x_12 s_12 ha
       have hb := hx.size
       have hx := hx.trans x_12
       generalize w_2.heap.size = b at *
       refine aA ?_
       refine aK ⟨hx0.trans hx, ?_⟩
       refine aY (i := 19) (by decide +kernel) rfl rfl ?_
       refine aB (enters_of Tryz.func155 rfl rfl) rfl rfl (dC r 2 _ htl (by omega)) ?_
       intro w_13 x_13
       have hx := hx.trans x_13
       have ha := x_13.at ha
       refine aA ?_
       refine aK ⟨hx0.trans hx, ?_⟩
       refine aY (i := 22) (by decide +kernel) rfl rfl ?_
       refine aB (enters_of Tryz.func155 rfl rfl) rfl rfl (dC r 3 _ htl (by omega)) ?_
       intro w_14 x_14
       have hx := hx.trans x_14
       have ha := x_14.at ha
       refine aA ?_
       refine aK ⟨hx0.trans hx, ?_⟩
       refine aY (i := 25) (by decide +kernel) rfl rfl ?_
       refine aB (enters_of Tryz.func155 rfl rfl) rfl rfl (dC r 4 _ htl (by omega)) ?_
       intro w_15 x_15
       have hx := hx.trans x_15
       have ha := x_15.at ha
       refine aA ?_
       refine aK ⟨hx0.trans hx, ?_⟩
       refine cA (i := 26) (v := .agg (cG d).cells.toArray) rfl rfl (by decide +kernel) (by decide +kernel) (by decide +kernel) rfl (hx0.trans hx) (fun w' _ => by rw [hsoa]; exact Runs.build rfl (by kernel_rfl)) (fun _ _ _ h => h) ?_; refine aA ?_
       exact hG _ _ ⟨hx0.trans hx, hb, ha⟩
     ·refine aF (z := aX) rfl (by decide +kernel) ?_
      intro w_16 x_16 s_16 ha
      have hb := hx.size
      have hx := hx.trans x_16
      generalize w_1.heap.size = b at *
      refine aA ?_
      refine aK ⟨hx0.trans hx, ?_⟩
      refine aY (i := 16) (by decide +kernel) rfl rfl ?_
      refine aB (enters_of Tryz.func155 rfl rfl) rfl rfl (dC r 1 _ htl (by omega)) ?_
      intro w_17 x_17
      have hx := hx.trans x_17
      have ha := x_17.at ha
      refine aA ?_
      refine aK ⟨hx0.trans hx, ?_⟩
      refine aY (i := 19) (by decide +kernel) rfl rfl ?_
      refine aB (enters_of Tryz.func155 rfl rfl) rfl rfl (dC r 2 _ htl (by omega)) ?_
      intro w_18 x_18
      have hx := hx.trans x_18
      have ha := x_18.at ha
      refine aA ?_
      refine aK ⟨hx0.trans hx, ?_⟩
      refine aY (i := 22) (by decide +kernel) rfl rfl ?_
      refine aB (enters_of Tryz.func155 rfl rfl) rfl rfl (dC r 3 _ htl (by omega)) ?_
      intro w_19 x_19
      have hx := hx.trans x_19
      have ha := x_19.at ha
      refine aA ?_
      refine aK ⟨hx0.trans hx, ?_⟩
      refine aY (i := 25) (by decide +kernel) rfl rfl ?_
      refine aB (enters_of Tryz.func155 rfl rfl) rfl rfl (dC r 4 _ htl (by omega)) ?_
      intro w_20 x_20
      have hx := hx.trans x_20
      have ha := x_20.at ha
      refine aA ?_
      refine aK ⟨hx0.trans hx, ?_⟩
      refine cA (i := 26) (v := .agg (cG d).cells.toArray) rfl rfl (by decide +kernel) (by decide +kernel) (by decide +kernel) rfl (hx0.trans hx) (fun w' _ => by rw [hsoa]; exact Runs.build rfl (by kernel_rfl)) (fun _ _ _ h => h) ?_; refine aA ?_
      exact hG _ _ ⟨hx0.trans hx, hb, ha⟩
    ·refine aF (z := aX) rfl (by decide +kernel) ?_
     intro w_21 x_21 s_21 ha
     have hb := hx.size
     have hx := hx.trans x_21
     generalize w4.heap.size = b at *
     refine aA ?_
     refine aK ⟨hx0.trans hx, ?_⟩
     refine aY (i := 13) (by decide +kernel) rfl rfl ?_
     refine aB (enters_of Tryz.func155 rfl rfl) rfl rfl (dC r 0 _ htl (by omega)) ?_
     intro w_22 x_22
     have hx := hx.trans x_22
     have ha := x_22.at ha
     refine aA ?_
     refine aK ⟨hx0.trans hx, ?_⟩
     refine aY (i := 16) (by decide +kernel) rfl rfl ?_
     refine aB (enters_of Tryz.func155 rfl rfl) rfl rfl (dC r 1 _ htl (by omega)) ?_
     intro w_23 x_23
     have hx := hx.trans x_23
     have ha := x_23.at ha
     refine aA ?_
     refine aK ⟨hx0.trans hx, ?_⟩
     refine aY (i := 19) (by decide +kernel) rfl rfl ?_
     refine aB (enters_of Tryz.func155 rfl rfl) rfl rfl (dC r 2 _ htl (by omega)) ?_
     intro w_24 x_24
     have hx := hx.trans x_24
     have ha := x_24.at ha
     refine aA ?_
     refine aK ⟨hx0.trans hx, ?_⟩
     refine aY (i := 22) (by decide +kernel) rfl rfl ?_
     refine aB (enters_of Tryz.func155 rfl rfl) rfl rfl (dC r 3 _ htl (by omega)) ?_
     intro w_25 x_25
     have hx := hx.trans x_25
     have ha := x_25.at ha
     refine aA ?_
     refine aK ⟨hx0.trans hx, ?_⟩
     refine aY (i := 25) (by decide +kernel) rfl rfl ?_
     refine aB (enters_of Tryz.func155 rfl rfl) rfl rfl (dC r 4 _ htl (by omega)) ?_
     intro w_26 x_26
     have hx := hx.trans x_26
     have ha := x_26.at ha
     refine aA ?_
     refine aK ⟨hx0.trans hx, ?_⟩
     refine cA (i := 26) (v := .agg (cG d).cells.toArray) rfl rfl (by decide +kernel) (by decide +kernel) (by decide +kernel) rfl (hx0.trans hx) (fun w' _ => by rw [hsoa]; exact Runs.build rfl (by kernel_rfl)) (fun _ _ _ h => h) ?_; refine aA ?_
     exact hG _ _ ⟨hx0.trans hx, hb, ha⟩
   ·intro b w5 hF
    obtain ⟨x5, hbb, h5⟩ := hF
    have hsz := x4.size
    have hs1 : w.heap.size < w3.heap.size := (Array.getElem?_eq_some_iff.1 h1).1
    refine aY (i := 28) (by decide +kernel) rfl rfl ?_
    refine aD (v := .agg (cG d).cells.toArray) rfl rfl rfl h5 (show aO Tryz.prog 67 7 = true by decide +kernel) rfl (by rw [hsoa]; simp [Value.cells, Value.oneCell', aH]) ?_
    intro w6 p6
    have h16 := p6.at (x5.at h1) (by omega)
    have x36 : Ext w3 w6 := x5.move p6.mv (by rintro k ⟨⟩; omega)
    have x6 := x13.trans x36
    have hb6 : w6.heap[b]? = some (.cells (cG d).cells.toArray 67 (0, 0)) := p6.this
    refine aK ⟨x36, ?_⟩
    refine cL (by decide +kernel) ?_
    have hp6 := aE hb6
    clear p6 h5 x5 hx x4 h1
    refine_lift bS fun _ _ => ?_
    refine aU (v := .agg (cG d).cells.toArray) rfl (Runs.loadN (n := 7) hp6 rfl (by decide +kernel)) ?_
    refine aA ?_
    have hm1 : (cG d).main.length ≤ 4611686018427387904 := by
     have := congrArg (fun c : List Value => tY (c.getD 0 undef)) hsoa
     simp only [SoaR.cells, List.getD_cons_zero, pM] at this
     rw [this]; simp; omega
    have hm2 : (cG d).mail.length ≤ 4611686018427387904 := by
     have := congrArg (fun c : List Value => tY (c.getD 1 undef)) hsoa
     simp only [SoaR.cells, List.getD_cons_zero, List.getD_cons_succ, pM] at this
     rw [this]; simp; omega
    refine aB (enters_of Tryz.func156 rfl rfl) rfl rfl (PG (cG d) _ hm1 hm2) ?_; intro w7 x7; refine aA ?_
    have h16 := x7.at h16
    have hb6 := x7.at hb6
    have x6 := x6.trans x7
    have hp6 := hp6.ext x7
    cases hok : (cG d).ok with
    | false =>
     simp only [hok, Bool.false_eq_true, if_false] at hps ⊢
     refine_lift MG fun _ _ _ _ _ => ?_
     refine aU (v := .agg aX.toArray) rfl (Runs.build (parts := []) (vals := []) rfl (by kernel_rfl)) ?_
     refine aA ?_
     refine aD (v := .agg aX.toArray) rfl rfl rfl h16 (by decide +kernel) rfl (by decide +kernel) ?_
     intro w8 p8
     have x8 : Ext w w8 := x6.move p8.mv (by rintro k ⟨⟩; omega)
     have h18 : w8.heap[w.heap.size]? = some (.cells aX.toArray 67 (0, 0)) := p8.this
     refine_lift aP ?_
     refine bodyPost_ret (aJ (cs := aX) rfl rfl h18 (by decide +kernel)) rfl ⟨?_, x8⟩
     rw [hps]
     rfl
    | true =>
     simp only [hok, if_true] at hps ⊢
     refine_lift bS fun _ _ => ?_
     refine aU (v := .agg (cG d).cells.toArray) rfl (Runs.loadN (n := 7) hp6 rfl (by decide +kernel)) ?_
     refine aA ?_
     refine aD (v := .agg (cG d).cells.toArray) rfl rfl rfl h16 (show aO Tryz.prog 67 7 = true by decide +kernel) rfl (by rw [hsoa]; simp [Value.cells, Value.oneCell', aH]) ?_
     intro w8 p8
     have x8 : Ext w w8 := x6.move p8.mv (by rintro k ⟨⟩; omega)
     have h18 : w8.heap[w.heap.size]? = some (.cells (cG d).cells.toArray 67 (0, 0)) := p8.this
     refine_lift aP ?_
     refine bodyPost_ret (aJ (cs := (cG d).cells) rfl rfl h18 (show cY Tryz.prog 67 7 = true by decide +kernel)) rfl ⟨?_, x8⟩
     rw [hps]
     rfl
  all_goals
   refine aU (v := .agg aX.toArray) rfl (Runs.build (parts := []) (vals := []) rfl (by kernel_rfl)) ?_
   refine aA ?_
   refine aD (v := .agg aX.toArray) rfl rfl rfl h1 (by decide +kernel) rfl (by decide +kernel) ?_
   intro w7 p7
   have x7 : Ext w w7 := x13.move p7.mv (by rintro k ⟨⟩; omega)
   have h17 : w7.heap[w.heap.size]? = some (.cells aX.toArray 67 (0, 0)) := p7.this
   refine_lift aP ?_
   refine bodyPost_ret (aJ (cs := aX) rfl rfl h17 (by decide +kernel)) rfl ⟨?_, x7⟩
   have hbad : firstR (d.drop (firstR d)) = 0 ∨ d.length ≠ firstR d + firstR (d.drop (firstR d)) + 20 := by
    first
     | exact .inl (by omega)
     | exact .inr (by have hq := ‹(!decide ((d.length : Int) = ((firstR d : Nat) : Int) + ((firstR (d.drop (firstR d)) : Nat) : Int) + 20)) = true›; simp at hq; omega)
   rw [hps, if_pos hbad]
   rfl
theorem HT (k : Int) (d : List UInt8) : decide ((fV k d).2 ≠ 2) = (decide (eP k < 0) || (decide (eP k ≤ (d.length : Int)) && (eR (d.drop (eP k).toNat)).isSome)) := by
 unfold fV
 by_cases h1 : eP k < 0
 ·simp [h1]
 ·by_cases h2 : (d.length : Int) < eP k
  ·simp [h1, h2]; omega
  ·rw [if_neg h1, if_neg h2]
   cases hh : eR (d.drop (eP k).toNat) with
   | none => simp [h1]
   | some n => simp [h1]; omega
set_option maxHeartbeats 12000000 in
theorem MR (k : Int) (d : List UInt8) (w : World) (hl : d.length ≤ 4611686018427387904) : Calls Tryz.prog 113 #[.int .i64 k, aH d] w (bC w (.bool (decide (d.length ≤ 4000) && fits k d))) := by
 go_enter Tryz.func113, Tryz.ntmps113
 (repeat' first | ((with_reducible refine cI ?_); go_step) | ((with_reducible refine bJ ?_); first | refine fD ?_ | (refine cZ ?_ ?_ <;> intro hc)) | fail)
 ·have h4 := ‹4000 < (d.length : Int)›
  go_ret
  exact ⟨by rw [decide_eq_false (show ¬ d.length ≤ 4000 by omega)]; rfl, Ext.refl _⟩
 ·have h4 := ‹(d.length : Int) ≤ 4000›
  have hk := ‹k = 1›
  go_ret
  refine ⟨?_, Ext.refl _⟩
  rw [decide_eq_true (show d.length ≤ 4000 by omega), fits, if_pos hk]
  simp; omega
 ·have h4 := ‹(d.length : Int) ≤ 4000›
  have hk := ‹k = 28›
  subst hk
  go_ret
  refine ⟨?_, Ext.refl _⟩
  rw [decide_eq_true (show d.length ≤ 4000 by omega)]
  simp [fits]; omega
 ·have h4 := ‹(d.length : Int) ≤ 4000›
  have hk := ‹k = 6›
  subst hk
  have hf : (decide (d.length ≤ 4000) && fits 6 d) = (cB d).isSome := by
   rw [decide_eq_true (show d.length ≤ 4000 by omega)]; simp [fits]
  refine aB (enters_of Tryz.func98 rfl rfl) rfl rfl (sT d _ hl) ?_; intro w1 x1; refine aA ?_
  cases hps : cB d with
  | none =>
   refine_lift aP ?_
   refine aF (z := aX) rfl (by decide +kernel) ?_
   intro w2 x2 s2 h2
   refine aA ?_
   refine aD (v := .agg aX.toArray) rfl rfl rfl h2 (by decide +kernel) rfl (by decide +kernel) ?_
   intro w3 p3
   have x3 : Ext w w3 := (x1.trans x2).move p3.mv (by rintro k ⟨⟩; exact x1.size)
   refine_lift aP ?_
   go_ret
   exact ⟨by rw [hf, hps]; simp, x3⟩
  | some s =>
   refine_lift aP ?_
   refine aF (z := aX) rfl (by decide +kernel) ?_
   intro w2 x2 s2 h2
   refine aA ?_
   refine aD (v := .agg s.cells.toArray) rfl rfl rfl h2 (show aO Tryz.prog 67 7 = true by decide +kernel) rfl (by simp [SoaR.cells, Value.cells, Value.oneCell', aH]) ?_
   intro w3 p3
   have x3 : Ext w w3 := (x1.trans x2).move p3.mv (by rintro k ⟨⟩; exact x1.size)
   refine_lift aP ?_
   go_ret
   exact ⟨by rw [hf, hps]; simp, x3⟩
 ·have h4 := ‹(d.length : Int) ≤ 4000›
  have hk := ‹k = 16›
  subst hk
  refine aB (enters_of Tryz.func169 rfl rfl) rfl rfl (JV d _ hl) ?_; intro w1 x1; refine aA ?_
  refine_lift aP ?_
  go_ret
  refine ⟨?_, x1⟩
  rw [decide_eq_true (show d.length ≤ 4000 by omega)]
  simp [fits]
 ·have h4 := ‹(d.length : Int) ≤ 4000›
  have q1 := ‹¬k = 1›
  have q2 := ‹¬k = 28›
  have q3 := ‹¬k = 6›
  have q4 := ‹¬k = 16›
  have hf : (decide (d.length ≤ 4000) && fits k d) = (decide (eP k < 0) || (decide (eP k ≤ (d.length : Int)) && (eR (d.drop (eP k).toNat)).isSome)) := by
   rw [decide_eq_true (show d.length ≤ 4000 by omega), ← HT]
   simp [fits, q1, q2, q3, q4]
  refine aB (enters_of Tryz.func170 rfl rfl) rfl rfl (JU k _) ?_; intro w1 x1; refine aA ?_
  generalize eP k = a at *
  refine_lift CE (fun hc hc => ?_) (fun hc => ?_) (fun _ _ hc hc => ?_)
  ·have c1 := ‹¬a < 0›
   have c2 := ‹a ≤ (d.length : Int)›
   refine aB (enters_of Tryz.func171 rfl rfl) rfl rfl (zA (d.drop a.toNat) _ (by simp; omega)) ?_; intro w2 x2; refine aA ?_
   refine_lift aP ?_
   go_ret
   exact ⟨by rw [hf, decide_eq_false c1, decide_eq_true c2]; simp, x1.trans x2⟩
  ·have c1 := ‹¬a < 0›
   have c2 := ‹¬a ≤ (d.length : Int)›
   go_ret
   exact ⟨by rw [hf, decide_eq_false c1, decide_eq_false c2]; simp, x1⟩
  ·have c1 := ‹a < 0›
   go_ret
   exact ⟨by rw [hf, decide_eq_true c1]; simp, x1⟩
set_option maxHeartbeats 24000000 in
theorem vF (r : Rec) (w : World) (hl : r.data.length ≤ 4611686018427387904) : Calls Tryz.prog 66 #[.agg #[aH r.name, .int .i64 r.kind, .int .i64 r.ttl, aH r.data]] w (bC w (.int .i64 (aV r))) := by
 go_enter Tryz.func66, Tryz.ntmps66
 refine_lift gT fun _ _ => ?_
 refine aT (vs := Rec.cells r) rfl rfl ?_
 intro p w1 x1 hp
 refine aA ?_
 have hp : Pts w1 p [aH r.name, .int .i64 r.kind, .int .i64 r.ttl, aH r.data] := hp
 refine_lift gO fun _ _ _ _ => ?_
 refine aB (enters_of Tryz.func65 rfl rfl) rfl rfl (nH r.name _) ?_; intro w2 x2; refine aA ?_
 have hp := hp.ext x2
 have x2 := x1.trans x2
 cases hlab : (bA r.name).isSome with
 | false =>
  simp only [Bool.false_eq_true, ↓reduceIte]
  refine_lift aP ?_
  go_ret
  refine ⟨?_, x2⟩
  have : aV r = 1 := by unfold aV; simp [hlab]
  rw [this]; rfl
 | true =>
  simp only [↓reduceIte]
  (repeat' first | ((with_reducible refine cI ?_); go_step) | ((with_reducible refine bJ ?_); first | refine fD ?_ | (refine cZ ?_ ?_ <;> intro hc)) | fail)
  rotate_left
  ·have : aV r = 1 := by simp [aV, hc]
   go_ret
   exact ⟨by rw [this]; rfl, x2⟩
  ·have : aV r = 1 := by simp [aV, hc]
   go_ret
   exact ⟨by rw [this]; rfl, x2⟩
  ·have : aV r = 1 := by simp [aV, hc]
   go_ret
   exact ⟨by rw [this]; rfl, x2⟩
  ·have : aV r = 1 := by simp [aV, hc]
   go_ret
   exact ⟨by rw [this]; rfl, x2⟩
  ·have : aV r = 1 := by simp [aV, hc]
   go_ret
   exact ⟨by rw [this]; rfl, x2⟩
  ·have : aV r = 1 := by simp [aV, hc]
   go_ret
   exact ⟨by rw [this]; rfl, x2⟩
  ·have : aV r = 1 := by simp [aV, hc]
   go_ret
   exact ⟨by rw [this]; rfl, x2⟩
  ·have : aV r = 1 := by simp [aV, hc]
   go_ret
   exact ⟨by rw [this]; rfl, x2⟩
  ·have q1 := ‹¬r.kind < 1›
   have q2 := ‹¬65535 < r.kind›
   have q3 := ‹¬r.kind = 41›
   have q4 := ‹¬r.kind = 251›
   have q5 := ‹¬r.kind = 252›
   have q6 := ‹¬r.kind = 255›
   have q7 := ‹¬r.ttl < 0›
   have q8 := ‹¬2147483647 < r.ttl›
   refine aB (enters_of Tryz.func113 rfl rfl) rfl rfl (MR r.kind r.data _ hl) ?_; intro w3 x3; refine aA ?_
   cases hf : (decide (r.data.length ≤ 4000) && fits r.kind r.data) with
   | true =>
    simp only [Bool.and_eq_true, decide_eq_true_eq] at hf
    have : aV r = 0 := by simp [aV, q1, q2, q3, q4, q5, q6, q7, q8, hf.2, hlab]; omega
    refine_lift aP ?_
    go_ret
    exact ⟨by rw [this]; rfl, x2.trans x3⟩
   | false =>
    have : aV r = 1 := by
     simp only [Bool.and_eq_false_iff, decide_eq_false_iff_not] at hf
     rcases hf with hf | hf
     ·simp [aV, show 4000 < r.data.length by omega]
     ·simp [aV, hf]
    refine_lift aP ?_
    go_ret
    exact ⟨by rw [this]; rfl, x2.trans x3⟩
theorem zB {r q : Rec} {w : World} : (Op.equalIn 10000 47 (.agg #[aH r.name, .int .i64 r.kind, .int .i64 r.ttl, aH r.data]) (.agg #[aH q.name, .int .i64 q.kind, .int .i64 q.ttl, aH q.data])).run Tryz.prog w = .ok (decide (r = q)) w := by
 have hS : Tryz.prog.underlying 47 = some (.struct (Tryz.prog.fieldsOf 47)) := by kernel_rfl
 rw [show (10000 : Nat) = 9999 + 1 from rfl, run_equalIn_agg w 9999 47 _ _ hS (by kernel_rfl)]
 simp only [Program.fieldsOf, Tryz.underlying47]
 have u3 := Tryz.underlying3
 have u9 := Tryz.underlying9
 have u31 := Tryz.underlying22
 have a3 := Tryz.isAgg3
 have a9 := Tryz.isAgg9
 have a31 := Tryz.isAgg22
 have z3 := Tryz.sizeOf3
 have z9 := Tryz.sizeOf9
 have z31 := Tryz.sizeOf22
 unfold aH
 go_simp
 obtain ⟨a1, a2, a3, a4⟩ := r
 obtain ⟨b1, b2, b3, b4⟩ := q
 simp only [Rec.mk.injEq]
 by_cases h1 : a1 = b1 <;> by_cases h2 : a2 = b2 <;> by_cases h3 : a3 = b3 <;> by_cases h4 : a4 = b4 <;> simp [h1, h2, h3, h4]
theorem Runs.neqRec {r q : Rec} {x y : Operand} {a : Act} {w : World} {d : Option Nat} {u ty : TypeId} {ps : String} {af : Array Edge} {g : Option (Nat × Bool)}
 (hx : a.eval x = .agg #[aH r.name, .int .i64 r.kind, .int .i64 r.ttl, aH r.data]) (hy : a.eval y = .agg #[aH q.name, .int .i64 q.kind, .int .i64 q.ttl, aH q.data]) :
 Runs Tryz.prog (Oper.mk d (.binOp .neq 47 x y u) ty ps af g) a w (.bool (!decide (r = q))) := by
 constructor
 have hg := run_eqGuard_agg (P := Tryz.prog) w .neq 47 x y #[aH r.name, .int .i64 r.kind, .int .i64 r.ttl, aH r.data] #[aH q.name, .int .i64 q.kind, .int .i64 q.ttl, aH q.data] (by kernel_rfl)
 simp only [execOp, hx, hy, Sem.run_bind, hg, Result.andThen_ok, run_neq_struct, zB, Sem.run_pure]
set_option maxHeartbeats 12000000 in
theorem kM (u v : Value) (a b : List Rec) (w : World) (hu : Sl 4 w u (aC a)) (hv : Sl 4 w v (aC b)) : Calls Tryz.prog 13 #[u, v] w (bC w (.bool (decide (a = b)))) := by
 have la := aG a
 have lb := aG b
 have hla := hu.le
 have hlb := hv.le
 by_cases hl : a.length = b.length
 ·go_enter Tryz.func13, Tryz.ntmps13
  refine_lift rQ (fun _ _ _ => ?_) (fun _ => ?_)
  ·have hbad := ‹(!decide (((aC a).length : Int) = ((aC b).length : Int))) = true›
   exfalso; simp at hbad; omega
  go_loopw [5] (fun i wr => ∃ k : Nat, k ≤ a.length ∧ i = .int .i64 k ∧ Ext w wr ∧ a.take k = b.take k) (fun i _ => a.length - (intOf i).toNat)
  case atStart => exact ⟨0, Nat.zero_le _, rfl, Ext.refl _, rfl⟩
  case round =>
   obtain ⟨k, hk, rfl, hx, hall⟩ := hrel
   by_cases hlt : k < a.length
   ·have hlt2 : k < b.length := by omega
    have hpa := (hu.ext hx).elem (dI hlt)
    have hpb := (hv.ext hx).elem (dI hlt2)
    have hua := hu.ext hx
    have hvb := hv.ext hx
    refine_lift nX ?_; intro _ _ _ _ _ _
    refine bE (by decide +kernel) (by decide +kernel) ?_
    refine_lift dN ?_
    refine tQ (v := .bool (!decide (a[k] = b[k]))) rfl (fun w' _ => Runs.neqRec rfl rfl) ?_
    refine aA ?_
    refine_lift dN ?_
    intro w3 x3
    refine_lift rP (fun _ => ?_) (fun _ => ?_)
    ·have hne := ‹(!decide (a[k] = b[k])) = true›
     have hab : a ≠ b := lG hlt hlt2 (by simpa using hne)
     go_ret
     exact ⟨by rw [decide_eq_false hab]; rfl, hx.trans x3⟩
    ·have heq := ‹(!decide (a[k] = b[k])) = false›
     exact ⟨⟨k + 1, by omega, by go_num, hx.trans x3, eG hall hlt hlt2 (by simpa using heq)⟩, by simp [intOf]; omega⟩
   ·have : k = a.length := by omega
    subst this
    have hab : a = b := by rw [List.take_length, hl, List.take_length] at hall; exact hall
    refine_lift fG fun _ => ?_
    go_ret
    exact ⟨by rw [decide_eq_true hab]; rfl, hx⟩
 ·have hab : a ≠ b := fun h => hl (by rw [h])
  go_enter Tryz.func13, Tryz.ntmps13
  refine_lift rQ (fun _ _ _ => ?_) (fun _ => ?_)
  ·go_ret
   exact ⟨by rw [decide_eq_false hab]; rfl, Ext.refl _⟩
  ·have hbad := ‹(!decide (((aC a).length : Int) = ((aC b).length : Int))) = false›
   exfalso; simp at hbad; omega
def oR (n : List UInt8) : Nat := ((bA n).getD []).length
def gX (o n : List UInt8) (b : List UInt8 × Bool) (s : RSet) : List UInt8 × Bool :=
 if s.kind = 2 ∧ s.name ≠ o ∧ cH n s.name = true ∧ (b.2 = false ∨ oR s.name < oR b.1) then (s.name, true) else b
def lI (o : List UInt8) (l : List RSet) (n : List UInt8) : List UInt8 × Bool := l.foldl (gX o n) ([], false)
theorem JX {o n : List UInt8} {l : List RSet} {k : Nat} (hk : k < l.length) : lI o (l.take (k + 1)) n = gX o n (lI o (l.take k) n) l[k] := by
 rw [List.take_succ_eq_append_getElem hk, lI, List.foldl_append]; rfl
set_option maxHeartbeats 3000000 in
theorem FA (o : List UInt8) (v : Value) (l : List RSet) (n : List UInt8) (w : World) (hv : SetsAt w v l) : Calls Tryz.prog 151 #[.agg #[aH o, v], aH n] w (bC w (.tuple #[aH (lI o l n).1, .bool (lI o l n).2])) := by
 obtain ⟨cv, hv1, hvl⟩ := hv.sl
 have hle := hv1.le
 go_enter Tryz.func151, Tryz.ntmps151
 refine_lift gT fun _ _ => ?_
 refine aT (vs := [aH o, v]) rfl rfl ?_
 intro p w1 x1 hp
 refine aA ?_
 refine_lift bS fun _ _ => ?_
 go_loopw [6, 7, 8, 9] (fun b f i _ wr => ∃ k : Nat, k ≤ l.length ∧ i = .int .i64 k ∧ b = aH (lI o (l.take k) n).1 ∧ f = .bool (lI o (l.take k) n).2 ∧ Ext w1 wr) (fun _ _ i _ _ => l.length - (intOf i).toNat)
 case atStart => exact ⟨0, Nat.zero_le _, rfl, rfl, rfl, Ext.refl _⟩
 case round =>
  obtain ⟨k, hk, rfl, rfl, rfl, hx⟩ := hrel
  have hxw : Ext w wr := x1.trans hx
  have hv2 := hv1.ext hxw
  have hp2 := hp.ext hx
  by_cases hlt : k < l.length
  ·obtain ⟨x, h4, h4d⟩ := (hv.ext hxw).elem (List.getElem?_eq_getElem hlt)
   refine_lift nX ?_; intro _ _ _ _ _ _
   refine aF (z := iS) rfl (by decide +kernel) ?_
   intro w2 x2 s2 h2
   refine aA ?_
   refine aD (v := .agg #[aH l[k].name, .int .i64 l[k].kind, .int .i64 l[k].ttl, x]) rfl rfl rfl h2 (show aO Tryz.prog 119 4 = true by decide +kernel) rfl (fU rfl rfl rfl (h4d.ext x2).one) ?_
   intro w3 p3
   have x3 : Ext wr w3 := x2.move p3.mv (by rintro k ⟨⟩; have := hxw.size; omega)
   have h3 : Pts w3 (.pointer (some ⟨wr.heap.size, 0, none⟩)) [aH l[k].name, .int .i64 l[k].kind, .int .i64 l[k].ttl, x] := aE p3.this
   have hp3 := hp2.ext x3
   have hstep := JX (o := o) (n := n) hlt
   generalize hg : lI o (l.take k) n = g at *
   obtain ⟨best, found⟩ := g
   have hsame : ¬ (l[k].kind = 2 ∧ l[k].name ≠ o ∧ cH n l[k].name = true ∧ (found = false ∨ oR l[k].name < oR best)) → lI o (l.take (k + 1)) n = (best, found) := fun h => by
    rw [hstep, gX, if_neg h]
   have hnew : (l[k].kind = 2 ∧ l[k].name ≠ o ∧ cH n l[k].name = true ∧ (found = false ∨ oR l[k].name < oR best)) → lI o (l.take (k + 1)) n = (l[k].name, true) := fun h => by
    rw [hstep, gX, if_pos h]
   refine_lift CE (fun hc hc => ?_) (fun hc => ?_) (fun _ _ hc hc => ?_)
   ·have hne : l[k].name ≠ o := by simpa using hc
    have hk2 : l[k].kind = 2 := by assumption
    refine aB (enters_of Tryz.func150 rfl rfl) rfl rfl (CN _ _ _) ?_; intro w4 x4; refine aA ?_
    have hx4 := hx.trans (x3.trans x4)
    have h5 := h3.ext x4
    cases hu : cH n l[k].name with
    | false =>
     refine_lift aP ?_
     have h := hsame (fun h => absurd h.2.2.1 (by rw [hu]; decide))
     exact ⟨⟨k + 1, by omega, by go_num, by rw [h], by rw [h], hx4⟩, by simp [intOf]; omega⟩
    | true =>
     cases found with
     | false =>
      refine_lift aP ?_
      have h := hnew ⟨hk2, hne, hu, .inl rfl⟩
      exact ⟨⟨k + 1, by omega, by go_num, by rw [h], by rw [h], hx4⟩, by simp [intOf]; omega⟩
     | true =>
      refine_lift aP ?_
      refine aI (enters_of Tryz.func191 rfl rfl) rfl rfl (yP l[k].name _) ?_
      intro v5 w5 x5 o5
      have hl5 := aR ((bA l[k].name).getD [])
      have hs5 := o5.sl
      have h6 := h5.ext x5
      refine aA ?_
      refine_lift aP ?_
      refine aI (enters_of Tryz.func191 rfl rfl) rfl rfl (yP best _) ?_
      intro v6 w6 x6 o6
      have hl6 := aR ((bA best).getD [])
      have hs6 := o6.sl
      have h7 := h6.ext x6
      have hx7 := hx4.trans (x5.trans x6)
      refine aA ?_
      refine_lift rP (fun _ => ?_) (fun _ => ?_)
      ·rename_i hh
       have h := hnew ⟨hk2, hne, hu, .inr (by simp only [oR]; omega)⟩
       exact ⟨⟨k + 1, by omega, by go_num, by rw [h], by rw [h], hx7⟩, by simp [intOf]; omega⟩
      ·rename_i hh
       have h := hsame (fun h => by have h8 := h.2.2.2; simp only [oR] at h8; rcases h8 with h8 | h8; cases h8; omega)
       exact ⟨⟨k + 1, by omega, by go_num, by rw [h], by rw [h], hx7⟩, by simp [intOf]; omega⟩
   ·have h := hsame (fun h => by first | exact absurd h.1 hc | exact h.2.1 (by simpa using hc))
    exact ⟨⟨k + 1, by omega, by go_num, by rw [h], by rw [h], hx.trans x3⟩, by simp [intOf]; omega⟩
   ·have h := hsame (fun h => by first | exact absurd h.1 hc | exact h.2.1 (by simpa using hc))
    exact ⟨⟨k + 1, by omega, by go_num, by rw [h], by rw [h], hx.trans x3⟩, by simp [intOf]; omega⟩
  ·have : k = l.length := by omega
   subst this
   rw [List.take_length]
   refine_lift fG fun _ => ?_
   go_ret2
   exact ⟨rfl, hxw⟩
end Go.Proofs.X
