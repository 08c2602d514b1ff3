/- Laws and walks that the proof of the statement is made of (part 7). -/
import Derived.Test.YtgljkfpcadempaaGreatP6
set_option linter.unusedSimpArgs false
set_option linter.unusedVariables false
namespace Go.Proofs.X
open Go.RowKit
set_option maxRecDepth 100000
theorem GI (a b : RSet) : uU a b = decide (dS a.name b.name a.kind b.kind < 0) := by
 unfold uU dS FY
 by_cases h1 : lL a.name b.name < 0
 ·rw [if_pos (by omega)]; simp [h1]
 ·by_cases h2 : lL a.name b.name = 0
  ·simp [h2]
   by_cases h3 : a.kind < b.kind
   ·simp [h3]
   ·simp [h3]; split <;> omega
  ·rw [if_pos h2]; simp [h1, h2]
def eP (o : List UInt8) : Int := if (aX o).isSome then 0 else 1
def cJ (o : List UInt8) (l : List RSet) : Int :=
 if eP o ≠ 0 ∨ fold o ≠ o ∨ dM l ≠ 0 then 1 else
 if (cC l o 6).isSome = false ∨ (cC l o 2).isSome = false then 2 else
 if l.any (fun s => !gM o l s) = true then 2 else 0
theorem TPO.ltt {α : Type} {c : α → α → Int} (h : TPO c) {x y z : α} (h1 : c x y < 0) (h2 : c y z < 0) : c x z < 0 := by
 have h3 := h.tr x y z (by omega) (by omega)
 rcases Int.lt_or_eq_of_le h3 with h4 | h4
 ·exact h4
 ·exfalso
  have h5 := (h.eqL h4 (z := y)).1 (by omega)
  have h6 := h.anti y z
  omega
theorem AV {l : List RSet} (h : dM l = 0) : ∀ i, i < l.length → kJ l i = false := by
 unfold dM at h
 split at h
 ·omega
 ·split at h
  ·rename_i h1
   intro i hi
   rw [List.all_eq_true] at h1
   have := h1 i (by simpa using hi)
   simpa using this
  ·omega
theorem rD {l : List RSet} (h : dM l = 0) {i : Nat} (hi : i < l.length) : kI l[i] = true := by
 have := AV h i hi
 rw [kJ, List.getElem?_eq_getElem hi] at this
 simp only [Bool.or_eq_false_iff, Bool.not_eq_false'] at this
 exact this.1
theorem IU {l : List RSet} (h : dM l = 0) {i : Nat} (hi : i + 1 < l.length) : dS l[i].name l[i + 1].name l[i].kind l[i + 1].kind < 0 := by
 have := AV h (i + 1) hi
 rw [kJ, List.getElem?_eq_getElem hi] at this
 simp only [Bool.or_eq_false_iff, Bool.and_eq_false_iff, decide_eq_false_iff_not] at this
 have h2 := this.2.resolve_left (by omega)
 have e : l.getD (i + 1 - 1) default = l[i] := by simp [show i < l.length by omega]
 rw [e] at h2
 omega
theorem lQ {l : List RSet} (h : dM l = 0) (i : Nat) : ∀ j (hj : i < j) (hl : j < l.length), dS l[i].name l[j].name l[i].kind l[j].kind < 0
 | 0, hj, _ => by omega
 | j + 1, hj, hl => by
   have h1 := IU h hl
   by_cases e : i = j
   ·subst e; exact h1
   ·have h2 := lQ h i j (by omega) (by omega)
    exact jH.ltt (x := (l[i].name, l[i].kind)) (y := (l[j].name, l[j].kind)) (z := (l[j + 1].name, l[j + 1].kind)) h2 h1
theorem AW {s : RSet} (h : kI s = true) : fold s.name = s.name := by
 simp only [kI, Bool.and_eq_true, decide_eq_true_eq] at h
 exact h.1.1.1
theorem GJ {l : List RSet} (h : dM l = 0) {i : Nat} (hi : i < l.length) : cC l l[i].name l[i].kind = some l[i] := by
 have hf := AW (rD h hi)
 refine EM hi ?_ (by simp [MZ, hf])
 rw [List.find?_eq_none]
 intro x hx hh
 obtain ⟨j, hj, rfl⟩ := List.getElem_of_mem hx
 have hj' : j < i := by rw [List.length_take] at hj; omega
 rw [List.getElem_take] at hh
 simp only [MZ, hf, Bool.and_eq_true, decide_eq_true_eq] at hh
 have h1 := lQ h j i hj' hi
 rw [hh.1, hh.2] at h1
 have h2 := jH.refl (l[i].name, l[i].kind)
 simp only at h2
 omega
def fB (o n : List UInt8) (s : RSet) : Bool := decide (s.kind = 2) && decide (s.name ≠ o) && cW n s.name
def fU (o : List UInt8) (l : List RSet) (n : List UInt8) : List UInt8 × Bool := match l.find? (fB o n) with
 | some s => (s.name, true)
 | none => ([], false)
theorem uV {o n : List UInt8} {b : List UInt8 × Bool} {s : RSet} (h : fB o n s = false) : jU o n b s = b := by
 unfold jU
 rw [if_neg]
 rintro ⟨h1, h2, h3, _⟩
 simp [fB, h1, h2, h3] at h
theorem AX {o n : List UInt8} {m : List UInt8} {s : RSet} (h : fB o n s = true) : jU o n (m, false) s = (s.name, true) := by
 simp only [fB, Bool.and_eq_true, decide_eq_true_eq] at h
 unfold jU
 rw [if_pos ⟨h.1.1, h.1.2, h.2, .inl rfl⟩]
theorem yZ {o n : List UInt8} {m : List UInt8} {s : RSet} (h : fB o n s = true → mT m ≤ mT s.name) : jU o n (m, true) s = (m, true) := by
 cases hc : fB o n s with
 | false => exact uV hc
 | true =>
  have := h hc
  unfold jU
  rw [if_neg]
  rintro ⟨_, _, _, h4⟩
  rcases h4 with h4 | h4
  ·cases h4
  ·simp only at h4; omega
theorem xQ {o n m : List UInt8} : ∀ {l : List RSet}, (∀ t ∈ l, fB o n t = true → mT m ≤ mT t.name) → l.foldl (jU o n) (m, true) = (m, true)
 | [], _ => rfl
 | t :: l, h => by
   rw [List.foldl_cons, yZ (h t (by simp)), xQ fun u hu => h u (by simp [hu])]
theorem xR {o n : List UInt8} : ∀ {l : List RSet}, l.Pairwise (fun s t => fB o n s = true → fB o n t = true → mT s.name ≤ mT t.name) → yY o l n = fU o l n
 | [], _ => rfl
 | t :: l, h => by
   obtain ⟨h1, h2⟩ := List.pairwise_cons.1 h
   unfold yY fU
   rw [List.foldl_cons, List.find?_cons]
   cases hc : fB o n t with
   | true => simp only [AX hc]; exact xQ fun u hu => h1 u hu hc
   | false => simp only [uV hc]; exact xR h2
theorem sJ {n : List UInt8} {a : List (List UInt8)} (h : dD n = some a) : mT n = a.length := by
 rw [xO] at h
 cases hl : aX n with
 | none => rw [hl] at h; cases h
 | some ls =>
  rw [hl] at h
  cases h
  simp [mT, hl]
theorem gN {n t : List UInt8} (h : cW n t = true) : ∃ a b, dD n = some a ∧ dD t = some b ∧ a.take b.length = b := by
 unfold cW at h
 cases ha : dD n with
 | none => rw [ha] at h; cases h
 | some a =>
  cases hb : dD t with
  | none => rw [ha, hb] at h; cases h
  | some b =>
   rw [ha, hb] at h
   exact ⟨a, b, rfl, rfl, by simpa using h⟩
theorem kW {n t : List UInt8} {a b : List (List UInt8)} (ha : dD n = some a) (hb : dD t = some b) : cW n t = decide (a.take b.length = b) := by
 unfold cW; rw [ha, hb]
theorem sK {α : Type} {a b : List α} (h : a.take b.length = b) : b.length ≤ a.length := by
 have := congrArg List.length h
 rw [List.length_take] at this
 omega
theorem DA {a b c : List (List UInt8)} (hb : a.take b.length = b) (hc : a.take c.length = c) (h : gH b c ≤ 0) : b.length ≤ c.length := by
 have e : gH b c = if b.length < c.length then -1 else if c.length < b.length then 1 else 0 := by
  rcases Nat.le_total b.length c.length with hl | hl
  ·refine AU (k := b.length) ?_ (Nat.le_refl _) hl (.inl rfl)
   rw [List.take_length, ← hc, List.take_take, Nat.min_eq_left hl, hb]
  ·refine AU (k := c.length) ?_ hl (Nat.le_refl _) (.inr rfl)
   rw [List.take_length, ← hb, List.take_take, Nat.min_eq_left hl, hc]
 rw [e] at h
 split at h
 ·omega
 ·split at h <;> omega
theorem IV {a b : List UInt8} {j k : Int} (h : dS a b j k < 0) : lL a b ≤ 0 := by
 unfold dS at h
 split at h <;> omega
theorem uW {o : List UInt8} {l : List RSet} (h : dM l = 0) (n : List UInt8) : yY o l n = fU o l n := by
 refine xR ?_
 rw [List.pairwise_iff_getElem]
 intro i j hi hj hij h1 h2
 have hc := IV (lQ h i j hij hj)
 simp only [fB, Bool.and_eq_true] at h1 h2
 obtain ⟨a, b, ha, hb, e1⟩ := gN h1.2
 obtain ⟨a', c, ha', hc', e2⟩ := gN h2.2
 rw [ha] at ha'
 cases ha'
 rw [sJ hb, sJ hc']
 refine DA e1 e2 ?_
 unfold lL at hc
 rw [hb, hc'] at hc
 exact hc
theorem jV {n : List UInt8} : (dD n).isSome = (aX n).isSome := by
 rw [xO]; cases aX n <;> rfl
theorem uX {n : List UInt8} (h : (aX n).isSome = true) : cW n n = true := by
 rw [← jV] at h
 obtain ⟨a, ha⟩ := Option.isSome_iff_exists.1 h
 rw [kW ha ha]
 simp
theorem AY {a b c : List UInt8} (h : cW a b = true) (k : cW b c = true) : cW a c = true := by
 obtain ⟨x, y, hx, hy, e1⟩ := gN h
 obtain ⟨y', z, hy', hz, e2⟩ := gN k
 rw [hy] at hy'
 cases hy'
 have hl := sK e2
 rw [kW hx hz, decide_eq_true_eq]
 rw [← e1, List.take_take, Nat.min_eq_left hl] at e2
 exact e2
theorem qA {a b : List UInt8} (h : cW a b = true) : (aX a).isSome = true ∧ (aX b).isSome = true := by
 obtain ⟨x, y, hx, hy, _⟩ := gN h
 rw [← jV, ← jV, hx, hy]
 exact ⟨rfl, rfl⟩
structure ZoneOk (o : List UInt8) (l : List RSet) : Prop where
 lab : (aX o).isSome = true
 fold : fold o = o
 chk : dM l = 0
 soa : (cC l o 6).isSome = true
 ns : (cC l o 2).isSome = true
 right : ∀ s ∈ l, gM o l s = true
theorem jW {o : List UInt8} {l : List RSet} (h : cJ o l = 0) : ZoneOk o l := by
 unfold cJ at h
 split at h
 ·cases h
 ·rename_i h1
  split at h
  ·cases h
  ·rename_i h2
   split at h
   ·cases h
   ·rename_i h3
    simp only [not_or, ne_eq, Decidable.not_not, Bool.not_eq_false] at h1 h2
    refine ⟨?_, h1.2.1, h1.2.2, h2.1, h2.2, fun s hs => ?_⟩
    ·have := h1.1
     unfold eP at this
     split at this
     ·assumption
     ·cases this
    ·cases hr : gM o l s with
     | true => rfl
     | false => exact absurd (List.any_eq_true.2 ⟨s, hs, by simp [hr]⟩) h3
theorem mU {o : List UInt8} {l : List RSet} (h : ZoneOk o l) : cJ o l = 0 := by
 obtain ⟨h1, h2, h3, h4, h5, h6⟩ := h
 have h7 : l.any (fun s => !gM o l s) = false := by
  rw [List.any_eq_false]
  intro s hs
  simp [h6 s hs]
 unfold cJ eP
 simp [h1, h2, h3, h4, h5, h7]
theorem AZ {o : List UInt8} {l : List RSet} {s : RSet} (h : gM o l s = true) : cW s.name o = true := by
 simp only [gM, Bool.and_eq_true] at h
 exact h.1.1.1
theorem ZoneOk.may {o : List UInt8} {l : List RSet} (h : ZoneOk o l) {s : RSet} (hs : s ∈ l) : kI s = true := by
 obtain ⟨i, hi, rfl⟩ := List.getElem_of_mem hs
 exact rD h.chk hi
theorem ZoneOk.small {o : List UInt8} {l : List RSet} (h : ZoneOk o l) {s : RSet} (hs : s ∈ l) : X.fold s.name = s.name ∧ (aX s.name).isSome = true :=
 ⟨AW (h.may hs), (qA (AZ (h.right s hs))).1⟩
theorem nG {l : List RSet} {n : List UInt8} {k : Int} {s : RSet} (h : cC l n k = some s) : s ∈ l ∧ s.name = fold n ∧ s.kind = k := by
 have h1 := List.mem_of_find?_eq_some h
 have h2 := List.find?_some h
 simp only [MZ, Bool.and_eq_true, decide_eq_true_eq] at h2
 exact ⟨h1, h2⟩
theorem ZoneOk.cut {o : List UInt8} {l : List RSet} (h : ZoneOk o l) {n c : List UInt8} (hc : yY o l n = (c, true)) : cW n c = true ∧ c ≠ o ∧ yY o l c = (c, true) := by
 rw [uW h.chk, fU] at hc
 rw [uW h.chk, fU]
 cases hf : l.find? (fB o n) with
 | none => rw [hf] at hc; cases hc
 | some s =>
  rw [hf] at hc
  simp only [Prod.mk.injEq, and_true] at hc
  subst hc
  obtain ⟨h1, la, lb, h2, h3⟩ := List.find?_eq_some_iff_append.1 hf
  have hs : s ∈ l := by rw [h2]; simp
  have h1' := h1
  simp only [fB, Bool.and_eq_true, decide_eq_true_eq] at h1'
  refine ⟨h1'.2, h1'.1.2, ?_⟩
  have : l.find? (fB o s.name) = some s := by
   rw [List.find?_eq_some_iff_append]
   refine ⟨?_, la, lb, h2, fun t ht => ?_⟩
   ·simp only [fB, Bool.and_eq_true, decide_eq_true_eq]
    exact ⟨h1'.1, uX (h.small hs).2⟩
   ·have hn := h3 t ht
    cases hq : fB o s.name t with
    | false => rfl
    | true =>
     simp only [fB, Bool.and_eq_true, decide_eq_true_eq] at hq
     have : fB o n t = true := by
      simp only [fB, Bool.and_eq_true, decide_eq_true_eq]
      exact ⟨hq.1, AY h1'.2 hq.2⟩
     rw [this] at hn
     exact hn
  rw [this]
theorem BA (m : List UInt8) : Lib.hasSuffix (m ++ [0]) [0] = true ∧ Lib.trimSuffix (m ++ [0]) [0] = m := by
 have h : Lib.hasSuffix (m ++ [0]) [0] = true := by
  unfold Lib.hasSuffix
  rw [List.isSuffixOf_iff_suffix]
  exact List.suffix_append _ _
 refine ⟨h, ?_⟩
 unfold Lib.trimSuffix
 rw [if_pos h]
 simp
theorem lR {s m : List UInt8} (h : gU s = some m) : s = m ++ [0] ∧ (aX m).isSome = true := by
 unfold gU at h
 split at h
 ·rename_i hh
  obtain ⟨h1, h2⟩ := hh
  unfold Lib.hasSuffix at h1
  rw [List.isSuffixOf_iff_suffix] at h1
  obtain ⟨t, rfl⟩ := h1
  obtain ⟨_, h3⟩ := BA t
  rw [h3] at h h2
  cases h
  exact ⟨rfl, h2⟩
 ·cases h
theorem uY {d : List UInt8} (h : (bM d).2.2 = true) : d = (bM d).1 ++ [0] ++ (bM d).2.1 ∧ (aX (bM d).1).isSome = true := by
 unfold bM at *
 split at h
 ·cases h
 ·rename_i hw
  rw [if_neg hw]
  simp only at h ⊢
  obtain ⟨m, hm⟩ := Option.isSome_iff_exists.1 h
  rw [hm]
  obtain ⟨h1, h2⟩ := lR hm
  refine ⟨?_, h2⟩
  simp only [Option.getD_some]
  rw [← h1, List.take_append_drop]
set_option maxHeartbeats 3000000 in
theorem LI (u v : Value) (a b : List (List UInt8)) (w : World) (hu : Sl 1 w u (aS a)) (hv : Sl 1 w v (aS b)) : Calls Tryz.prog 117 #[u, v] w (bS w (.bool (decide (a = b)))) := by
 have hal := hu.le
 have ha := bN a
 have hb := bN b
 go_enter Tryz.func117, Tryz.ntmps117
 (repeat' first | ((with_reducible refine aJ ?_); go_step) | ((with_reducible refine aH ?_); first | refine bQ ?_ | (refine aK ?_ ?_ <;> intro hc)) | fail)
 ·have hne := ‹(!decide (((aS a).length : Int) = ((aS b).length : Int))) = true›
  go_ret
  refine ⟨?_, Ext.refl _⟩
  have : a ≠ b := by rintro rfl; simp at hne
  simp [this]
 ·have hne := ‹(!decide (((aS a).length : Int) = ((aS b).length : Int))) = false›
  have hlen : a.length = b.length := by simp at hne; omega
  go_loopw [5, 13] (fun _ i wr => ∃ k : Nat, k ≤ a.length ∧ i = .int .i64 k ∧ Ext w wr ∧ a.take k = b.take k) (fun _ i _ => a.length - (intOf i).toNat)
  case atStart => exact ⟨0, Nat.zero_le _, rfl, Ext.refl _, rfl⟩
  case round =>
   obtain ⟨k, hk, rfl, hx, hall⟩ := hrel
   by_cases hlt : k < a.length
   ·have hlt2 : k < b.length := by omega
    have h1 := (hu.ext hx).elem (jA hlt)
    have h2 := (hv.ext hx).elem (jA hlt2)
    have hu2 := hu.ext hx
    have hv2 := hv.ext hx
    refine_lift HW ?_; intro _ _ _ _ _ _
    refine dU (S := Ext wr) (by decide +kernel) ?_
    intro w2 x2 _
    refine tk 0 ?_; refine aA ?_; refine tk 1 ?_; refine aA ?_; refine tk 2 ?_; refine aA ?_; refine tk 3 ?_; refine aA ?_; refine tk 4 ?_; refine aA ?_; refine tk 5 ?_; refine aA ?_; refine tk 6 ?_; refine aA ?_; refine tk 7 ?_; refine aA ?_; refine tk 8 ?_; refine aA ?_
    refine dR (by decide +kernel) ?_
    by_cases he : a[k] = b[k]
    ·have e1 : decide (a[k] = b[k]) = true := decide_eq_true he
     simp only [e1, Bool.not_true]
     refine_lift dL ?_
     exact ⟨⟨k + 1, by omega, by go_num, by exact fC, lN hall hlt hlt2 he⟩, by simp [intOf]; omega⟩
    ·have e1 : decide (a[k] = b[k]) = false := decide_eq_false he
     simp only [e1, Bool.not_false]
     refine_lift dL ?_
     go_ret
     refine ⟨?_, by exact fC⟩
     simp [uH hlt hlt2 he]
   ·have hk2 : k = a.length := by omega
    subst hk2
    refine_lift yU fun _ => ?_
    go_ret
    refine ⟨?_, by exact fC⟩
    rw [List.take_length, hlen, List.take_length] at hall
    simp [hall]
set_option maxHeartbeats 3000000 in
theorem qD (n t : List UInt8) (w : World) : Calls Tryz.prog 64 #[aI n, aI t] w (bS w (.bool (cW n t))) := by
 go_enter Tryz.func64, Tryz.ntmps64
 refine_lift gA fun _ _ => ?_
 refine aT (enters_of Tryz.func116 rfl rfl) rfl rfl (PB n _) ?_
 intro r1 w1 x1 h1
 cases ha : dD n with
 | none =>
  rw [ha] at h1
  obtain ⟨s1, rfl⟩ := h1
  refine_lift gA fun _ _ => ?_
  refine aT (enters_of Tryz.func116 rfl rfl) rfl rfl (PB t _) ?_
  intro r2 w2 x2 h2
  obtain ⟨s2, b2, rfl⟩ : ∃ s b, r2 = .tuple #[s, .bool b] := by
   cases hb : dD t with
   | none => rw [hb] at h2; obtain ⟨s, rfl⟩ := h2; exact ⟨s, _, rfl⟩
   | some y => rw [hb] at h2; obtain ⟨s, rfl, _⟩ := h2; exact ⟨s, _, rfl⟩
  refine_lift dL ?_
  go_ret
  exact ⟨by simp [cW, ha], x1.trans x2⟩
 | some a =>
  rw [ha] at h1
  obtain ⟨s1, rfl, hs1, hl1⟩ := h1
  refine_lift gA fun _ _ => ?_
  refine aT (enters_of Tryz.func116 rfl rfl) rfl rfl (PB t _) ?_
  intro r2 w2 x2 h2
  cases hb : dD t with
  | none =>
   rw [hb] at h2
   obtain ⟨s2, rfl⟩ := h2
   refine_lift dL ?_
   go_ret
   exact ⟨by simp [cW, ha, hb], x1.trans x2⟩
  | some b =>
   rw [hb] at h2
   obtain ⟨s2, rfl, hs2, hl2⟩ := h2
   have hs1 := hs1.ext x2
   have tl1 := bN a
   have tl2 := bN b
   refine_lift PJ (fun hc => ?_) (fun _ _ hc => ?_)
   ·have hle : b.length ≤ a.length := by omega
    have hcut := hs1.cut (m := 0) (n := (aS b).length) (Nat.zero_le _) (by omega)
    rw [List.drop_zero] at hcut
    have hcut : Sl 1 w2 (eG s1 1 0 (aS b).length) (aS (a.take b.length)) := by
     rw [tl2] at hcut ⊢
     simpa [aS, List.map_take] using hcut
    refine aE (enters_of Tryz.func117 rfl rfl) rfl rfl (LI _ _ _ _ _ hcut hs2) ?_; intro w3 x3; refine aA ?_
    refine_lift dL ?_
    go_ret
    exact ⟨by rw [kW ha hb]; rfl, (x1.trans x2).trans x3⟩
   ·go_ret
    refine ⟨?_, x1.trans x2⟩
    have hlt : a.length < b.length := by omega
    rw [kW ha hb, decide_eq_false (fun h => by have := sK h; omega)]
    rfl
def mH {α : Type} (p : α → Bool) (l : List α) : Int := match l.findIdx? p with
 | some i => (i : Int)
 | none => -1
theorem nH {α : Type} (p : α → Bool) (l : List α) : (∃ (k : Nat) (hk : k < l.length), mH p l = k ∧ p l[k] = true ∧ l.find? p = some l[k]) ∨ (mH p l = -1 ∧ l.any p = false ∧ l.find? p = none) := by
 unfold mH
 cases h : l.findIdx? p with
 | none =>
  rw [List.findIdx?_eq_none_iff] at h
  refine .inr ⟨rfl, ?_, ?_⟩
  ·rw [List.any_eq_false]; intro x hx; simp [h x hx]
  ·rw [List.find?_eq_none]; intro x hx; simp [h x hx]
 | some k =>
  rw [List.findIdx?_eq_some_iff_getElem] at h
  obtain ⟨hk, hp, hj⟩ := h
  refine .inl ⟨k, hk, rfl, hp, ?_⟩
  rw [List.find?_eq_some_iff_getElem]
  exact ⟨hp, k, hk, rfl, fun j hjk => by simpa using hj j hjk⟩
theorem zA {α : Type} {p : α → Bool} {l : List α} {k : Nat} (hk : k < l.length) (ha : (l.take k).any p = false) (hp : p l[k] = true) : mH p l = k := by
 have : l.findIdx? p = some k := by
  rw [List.findIdx?_eq_some_iff_getElem]
  refine ⟨hk, hp, fun j hj => ?_⟩
  rw [List.any_eq_false] at ha
  exact ha l[j] (by rw [List.mem_take_iff_getElem]; exact ⟨j, by omega, rfl⟩)
 rw [mH, this]
theorem zB {α : Type} {p : α → Bool} {l : List α} (ha : l.any p = false) : mH p l = -1 := by
 have : l.findIdx? p = none := by
  rw [List.findIdx?_eq_none_iff]
  intro x hx
  rw [List.any_eq_false] at ha
  simpa using ha x hx
 rw [mH, this]
theorem tH {α : Type} (p : α → Bool) (l : List α) : decide (0 ≤ mH p l) = l.any p := by
 rcases nH p l with ⟨k, hk, e, hp, _⟩ | ⟨e, h, _⟩
 ·rw [e, OA hk hp]; simp
 ·rw [e, h]; rfl
def SetFn (w : World) (f : FuncId) (caps : Array Value) (l : List RSet) (p : RSet → Bool) : Prop :=
 ∀ s ∈ l, ∀ x w', Ext w w' → Sl 1 w' x (aS s.data) → Calls Tryz.prog f ([Value.agg #[aI s.name, .int .i64 s.kind, .int .i64 s.ttl, x]].toArray ++ caps) w' (bS w' (.bool (p s)))
theorem SetFn.ext {w w1 : World} {f : FuncId} {caps : Array Value} {l : List RSet} {p : RSet → Bool} (h : SetFn w f caps l p) (hx : Ext w w1) : SetFn w1 f caps l p :=
 fun s hs x w' hx' hd => h s hs x w' (hx.trans hx') hd
set_option maxHeartbeats 3000000 in
theorem jX (v : Value) (l : List RSet) (f : FuncId) (caps : Array Value) (p : RSet → Bool) (w : World) (hv : SetsAt w v l) (he : Enters Tryz.prog f) (hf : SetFn w f caps l p) : Calls Tryz.prog 122 #[v, .func (.func f) #[] caps] w (bS w (.int .i64 (mH p l))) := by
 obtain ⟨cv, hv1, hvl⟩ := hv.sl
 have hle := hv1.le
 go_enter Tryz.func122, Tryz.ntmps122
 refine_lift gA fun _ _ => ?_
 go_loopw [5, 8] (fun _ i wr => ∃ k : Nat, k ≤ l.length ∧ i = .int .i64 k ∧ Ext w wr ∧ (l.take k).any p = false) (fun _ i _ => l.length - (intOf i).toNat)
 case atStart => exact ⟨0, Nat.zero_le _, rfl, Ext.refl _, rfl⟩
 case round =>
  obtain ⟨k, hk, rfl, hx, hall⟩ := hrel
  have hv2 := hv1.ext hx
  by_cases hlt : k < l.length
  ·obtain ⟨x, h4, h4d⟩ := (hv.ext hx).elem (List.getElem?_eq_getElem hlt)
   refine_lift HW ?_; intro _ _ _ _ _ _
   refine eV he rfl rfl rfl (hf _ (List.getElem_mem hlt) x _ hx h4d) ?_
   rintro e w2 ⟨rfl, x2⟩
   refine ⟨_, rfl, ?_⟩
   refine aA ?_
   cases hp : p l[k] with
   | true =>
    refine_lift dL ?_
    go_ret
    exact ⟨by rw [zA hlt hall hp]; rfl, hx.trans x2⟩
   | false =>
    refine_lift dL ?_
    exact ⟨⟨k + 1, by omega, by go_num, hx.trans x2, pZ hlt hall hp⟩, by simp [intOf]; omega⟩
  ·have : k = l.length := by omega
   subst this
   rw [List.take_length] at hall
   refine_lift yU fun _ => ?_
   go_ret
   exact ⟨by rw [zB hall]; rfl, hx⟩
theorem jJ (v : Value) (l : List RSet) (f : FuncId) (caps : Array Value) (p : RSet → Bool) (w : World) (hv : SetsAt w v l) (he : Enters Tryz.prog f) (hf : SetFn w f caps l p) : Calls Tryz.prog 113 #[v, .func (.func f) #[] caps] w (bS w (.bool (l.any p))) := by
 go_enter Tryz.func113, Tryz.ntmps113
 refine_lift gA fun _ _ => ?_
 refine aE (enters_of Tryz.func122 rfl rfl) rfl rfl (jX v l f caps p _ hv he hf) ?_; intro w1 x1; refine aA ?_
 refine_lift dL ?_
 go_ret
 exact ⟨by rw [← tH]; rfl, x1⟩
set_option maxHeartbeats 3000000 in
theorem OB (o n : List UInt8) (v pz pn : Value) (s : RSet) (x : Value) (w : World) (hz : Pts w pz [aI o, v]) (hn : Pts w pn [aI n]) : Calls Tryz.prog 210 #[.agg #[aI s.name, .int .i64 s.kind, .int .i64 s.ttl, x], pz, pn] w (bS w (.bool (fB o n s))) := by
 go_enter Tryz.func210, Tryz.ntmps210
 refine_lift zW fun _ _ => ?_
 refine bU (vs := [aI s.name, .int .i64 s.kind, .int .i64 s.ttl, x]) rfl rfl ?_
 intro p w1 x1 hp
 refine aA ?_
 have hz1 := hz.ext x1
 have hn1 := hn.ext x1
 refine_lift MW (fun hc hc => ?_) (fun hc => ?_) (fun _ _ hc hc => ?_)
 ·have hk := ‹s.kind = 2›
  have hne := ‹(!decide (s.name = o)) = true›
  refine aE (enters_of Tryz.func64 rfl rfl) rfl rfl (qD n s.name _) ?_; intro w2 x2; refine aA ?_
  refine_lift dL ?_
  go_ret
  refine ⟨?_, x1.trans x2⟩
  have hne' : s.name ≠ o := by simpa using hne
  simp [fB, hk, hne']
 all_goals
  go_ret
  refine ⟨?_, x1⟩
  simp_all [fB]
set_option maxHeartbeats 3000000 in
theorem NA (o : List UInt8) (v : Value) (l : List RSet) (n : List UInt8) (w : World) (hv : SetsAt w v l) : Calls Tryz.prog 168 #[.agg #[aI o, v], aI n] w (bS w (.tuple #[aI (fU o l n).1, .bool (fU o l n).2])) := by
 obtain ⟨cv, hv1, hvl⟩ := hv.sl
 go_enter Tryz.func168, Tryz.ntmps168
 refine_lift zW fun _ _ => ?_
 refine bU (vs := [aI o, v]) rfl rfl ?_
 intro pz w1 x1 hz
 refine aA ?_
 refine_lift QN ?_
 refine bU (vs := [aI n]) rfl rfl ?_
 intro pn w2 x2 hn
 refine aA ?_
 have hx2 := x1.trans x2
 have hz2 := hz.ext x2
 refine_lift gA fun _ _ => ?_
 have hf : SetFn w2 210 #[pz, pn] l (fB o n) := fun s _ x w' hx' _ => OB o n v pz pn s x w' (hz2.ext hx') (hn.ext hx')
 refine aE (enters_of Tryz.func122 rfl rfl) rfl rfl (jX v l 210 #[pz, pn] (fB o n) _ (hv.ext hx2) (enters_of Tryz.func210 rfl rfl) hf) ?_; intro w3 x3; refine aA ?_
 have hx3 := hx2.trans x3
 have hz3 := hz2.ext x3
 rcases nH (fB o n) l with ⟨k, hk, e, hp, hfi⟩ | ⟨e, h, hfi⟩
 ·rw [e]
  obtain ⟨x, h4, h4d⟩ := (hv.ext hx3).elem (List.getElem?_eq_getElem hk)
  have hv3 := hv1.ext hx3
  refine_lift yU fun _ => ?_
  go_ret2
  exact ⟨by simp only [fU, hfi]; rfl, hx3⟩
 ·rw [e]
  refine_lift yU fun _ => ?_
  go_ret2
  exact ⟨by simp only [fU, hfi]; rfl, hx3⟩
def Rule (w : World) (f : Value) (b : Bool) : Prop := ∃ (g : FuncId) (caps : Array Value), f = .func (.func g) #[] caps ∧ Enters Tryz.prog g ∧ ∀ w', Ext w w' → Calls Tryz.prog g (([] : List Value).toArray ++ caps) w' (bS w' (.bool b))
theorem IW (o : List UInt8) (v ps pz : Value) (s : RSet) (u : Value) (w : World) (hs : Pts w ps [aI s.name, .int .i64 s.kind, .int .i64 s.ttl, u]) (hz : Pts w pz [aI o, v]) : Calls Tryz.prog 163 #[ps, pz] w (bS w (.bool (cW s.name o))) := by
 go_enter Tryz.func163, Tryz.ntmps163
 refine_lift gA fun _ _ => ?_
 refine aE (enters_of Tryz.func64 rfl rfl) rfl rfl (qD s.name o _) ?_; intro w1 x1; refine aA ?_
 refine_lift dL ?_
 go_ret
 exact ⟨rfl, x1⟩
def BC (o : List UInt8) (s : RSet) (one : Bool) : Bool := decide (s.kind ≠ 6) || (decide (s.name = o) && one)
set_option maxHeartbeats 3000000 in
theorem IX (o : List UInt8) (v ps pz pb : Value) (s : RSet) (u : Value) (one : Bool) (w : World) (hs : Pts w ps [aI s.name, .int .i64 s.kind, .int .i64 s.ttl, u]) (hz : Pts w pz [aI o, v]) (hb : Pts w pb [.bool one]) : Calls Tryz.prog 164 #[ps, pz, pb] w (bS w (.bool (BC o s one))) := by
 go_enter Tryz.func164, Tryz.ntmps164
 refine_lift MV (fun hc hc => ?_) (fun hc => ?_) (fun hc hc => ?_)
 all_goals
  go_ret
  refine ⟨?_, Ext.refl _⟩
  simp_all [BC]
set_option maxHeartbeats 3000000 in
theorem GK (ps : Value) (s t : RSet) (u x : Value) (w : World) (hs : Pts w ps [aI s.name, .int .i64 s.kind, .int .i64 s.ttl, u]) : Calls Tryz.prog 166 #[.agg #[aI t.name, .int .i64 t.kind, .int .i64 t.ttl, x], ps] w (bS w (.bool (uT s t))) := by
 go_enter Tryz.func166, Tryz.ntmps166
 refine_lift zW fun _ _ => ?_
 refine bU (vs := [aI t.name, .int .i64 t.kind, .int .i64 t.ttl, x]) rfl rfl ?_
 intro p w1 x1 hp
 refine aA ?_
 have hs1 := hs.ext x1
 refine_lift CR (fun hc => ?_) (fun hc => ?_)
 all_goals
  go_ret
  refine ⟨?_, x1⟩
  simp_all [uT]
def uZ (l : List RSet) (s : RSet) (one : Bool) : Bool := decide (s.kind ≠ 5) || (one && !l.any (uT s))
set_option maxHeartbeats 3000000 in
theorem IY (o : List UInt8) (v ps pz pb : Value) (l : List RSet) (s : RSet) (u : Value) (one : Bool) (w : World) (hs : Pts w ps [aI s.name, .int .i64 s.kind, .int .i64 s.ttl, u]) (hz : Pts w pz [aI o, v]) (hb : Pts w pb [.bool one]) (hv : SetsAt w v l) : Calls Tryz.prog 165 #[ps, pb, pz] w (bS w (.bool (uZ l s one))) := by
 have hf : SetFn w 166 #[ps] l (uT s) := fun t _ x w' hx' _ => GK ps s t u x w' (hs.ext hx')
 go_enter Tryz.func165, Tryz.ntmps165
 cases one with
 | false =>
  refine_lift CR (fun hc => ?_) (fun hc => ?_)
  all_goals
   go_ret
   refine ⟨?_, Ext.refl _⟩
   simp_all [uZ]
 | true =>
  refine_lift PJ (fun hc => ?_) (fun _ _ hc => ?_)
  ·have h5 : s.kind = 5 := by simpa using (by assumption : (!decide (s.kind = 5)) = false)
   refine aE (enters_of Tryz.func113 rfl rfl) rfl rfl (jJ v l 166 #[ps] (uT s) _ hv (enters_of Tryz.func166 rfl rfl) hf) ?_; intro w1 x1; refine aA ?_
   refine_lift dL ?_
   go_ret
   exact ⟨by simp [uZ, h5], x1⟩
  all_goals
   go_ret
   refine ⟨?_, Ext.refl _⟩
   simp_all [uZ]
def sL (o : List UInt8) (l : List RSet) (s : RSet) : Bool :=
 !(fU o l s.name).2 || decide (s.kind = 1) || decide (s.kind = 28) || (decide (s.kind = 2) && decide (s.name = (fU o l s.name).1))
set_option maxHeartbeats 3000000 in
theorem IZ (o : List UInt8) (v ps pz : Value) (l : List RSet) (s : RSet) (u : Value) (w : World) (hs : Pts w ps [aI s.name, .int .i64 s.kind, .int .i64 s.ttl, u]) (hz : Pts w pz [aI o, v]) (hv : SetsAt w v l) : Calls Tryz.prog 167 #[pz, ps] w (bS w (.bool (sL o l s))) := by
 go_enter Tryz.func167, Tryz.ntmps167
 refine_lift gA fun _ _ => ?_
 refine aE (enters_of Tryz.func168 rfl rfl) rfl rfl (NA o v l s.name _ hv) ?_; intro w1 x1; refine aA ?_
 generalize hcut : fU o l s.name = g at *
 obtain ⟨c, is⟩ := g
 have hs1 := hs.ext x1
 cases is with
 | false =>
  refine_lift dL ?_
  go_ret
  exact ⟨by simp [sL, hcut], x1⟩
 | true =>
  refine_lift NS (fun hc hc hc => ?_) (fun hc hc => ?_) (fun hc => ?_) (fun hc hc hc => ?_)
  all_goals
   go_ret
   refine ⟨?_, x1⟩
   simp_all [sL]
set_option maxHeartbeats 3000000 in
theorem JA (f : Value) (b : Bool) (w : World) (hf : Rule w f b) : Calls Tryz.prog 170 #[f] w (bS w (.bool (!b))) := by
 obtain ⟨g, caps, rfl, he, hc⟩ := hf
 go_enter Tryz.func170, Tryz.ntmps170
 refine_lift gA fun _ _ => ?_
 refine eV he rfl rfl rfl (hc _ (Ext.refl _)) ?_
 rintro e w1 ⟨rfl, x1⟩
 refine ⟨_, rfl, ?_⟩
 refine aA ?_
 refine_lift dL ?_
 go_ret
 exact ⟨rfl, x1⟩
theorem Rule.ext {w w' : World} {f : Value} {b : Bool} (h : Rule w f b) (hx : Ext w w') : Rule w' f b := by
 obtain ⟨g, caps, h1, h2, h3⟩ := h
 exact ⟨g, caps, h1, h2, fun w2 hx2 => h3 w2 (hx.trans hx2)⟩
def oL (l : List (Value × Bool)) : List (List Value) := l.map fun x => [x.1]
theorem wG (l : List (Value × Bool)) : (oL l).length = l.length := by simp [oL]
theorem GL {l : List (Value × Bool)} {k : Nat} (h : k < l.length) : (oL l)[k]? = some [l[k].1] := by simp [oL, h]
def GM (x : Value × Bool) : Bool := !x.2
set_option maxHeartbeats 3000000 in
theorem BD (v : Value) (l : List (Value × Bool)) (w : World) (hv : Sl 1 w v (oL l)) (hf : ∀ x ∈ l, Rule w x.1 x.2) : Calls Tryz.prog 211 #[v, .func (.func 170) #[] #[]] w (bS w (.int .i64 (mH GM l))) := by
 have hle := hv.le
 have hlen := wG l
 go_enter Tryz.func211, Tryz.ntmps211
 refine_lift gA fun _ _ => ?_
 go_loopw [5, 8] (fun _ i wr => ∃ k : Nat, k ≤ l.length ∧ i = .int .i64 k ∧ Ext w wr ∧ (l.take k).any GM = false) (fun _ i _ => l.length - (intOf i).toNat)
 case atStart => exact ⟨0, Nat.zero_le _, rfl, Ext.refl _, rfl⟩
 case round =>
  obtain ⟨k, hk, rfl, hx, hall⟩ := hrel
  have hv2 := hv.ext hx
  by_cases hlt : k < l.length
  ·have hp := hv2.elem (GL hlt)
   refine_lift HW ?_; intro _ _ _ _ _ _
   refine eV (f := 170) (caps := #[]) (enters_of Tryz.func170 rfl rfl) rfl rfl rfl (JA l[k].1 l[k].2 _ ((hf _ (List.getElem_mem hlt)).ext hx)) ?_
   rintro e w2 ⟨rfl, x2⟩
   refine ⟨_, rfl, ?_⟩
   refine aA ?_
   cases hb : l[k].2 with
   | false =>
    refine_lift yU fun _ => ?_
    go_ret
    exact ⟨by rw [zA hlt hall (by simp [GM, hb])]; rfl, hx.trans x2⟩
   | true =>
    refine_lift yU fun _ => ?_
    exact ⟨⟨k + 1, by omega, by go_num, hx.trans x2, pZ hlt hall (by simp [GM, hb])⟩, by simp [intOf]; omega⟩
  ·have : k = l.length := by omega
   subst this
   rw [List.take_length] at hall
   refine_lift yU fun _ => ?_
   go_ret
   exact ⟨by rw [zB hall]; rfl, hx⟩
theorem vB (v : Value) (l : List (Value × Bool)) (w : World) (hv : Sl 1 w v (oL l)) (hf : ∀ x ∈ l, Rule w x.1 x.2) : Calls Tryz.prog 169 #[v, .func (.func 170) #[] #[]] w (bS w (.bool (l.any GM))) := by
 go_enter Tryz.func169, Tryz.ntmps169
 refine_lift gA fun _ _ => ?_
 refine aE (enters_of Tryz.func211 rfl rfl) rfl rfl (BD v l _ hv hf) ?_; intro w1 x1; refine aA ?_
 refine_lift dL ?_
 go_ret
 exact ⟨by rw [← tH]; rfl, x1⟩
set_option maxHeartbeats 6000000 in
theorem LJ (o : List UInt8) (v : Value) (l : List RSet) (s : RSet) (u : Value) (w : World) (hv : SetsAt w v l) (hu : Sl 1 w u (aS s.data)) (hck : dM l = 0) : Calls Tryz.prog 115 #[.agg #[aI o, v], .agg #[aI s.name, .int .i64 s.kind, .int .i64 s.ttl, u]] w (bS w (.bool (gM o l s))) := by
 have hlen := bN s.data
 go_enter Tryz.func115, Tryz.ntmps115
 refine_lift zW fun _ _ => ?_
 refine bU (vs := [aI o, v]) rfl rfl ?_
 intro pz w1 x1 hz
 refine aA ?_
 refine_lift QN ?_
 refine bU (vs := [aI s.name, .int .i64 s.kind, .int .i64 s.ttl, u]) rfl rfl ?_
 intro ps w2 x2 hs
 refine aA ?_
 have hz2 := hz.ext x2
 have hx2 := x1.trans x2
 have hu2 := hu.ext hx2
 refine_lift gA fun _ _ => ?_
 refine aN (z := [.bool false]) rfl (by decide +kernel) ?_
 intro w3 x3 s3 h3
 refine aA ?_
 have hone : decide (((aS s.data).length : Int) = 1) = decide (s.data.length = 1) := by rw [hlen, Bool.eq_iff_iff]; simp; omega
 rw [hone]
 refine eH (v := .bool (decide (s.data.length = 1))) rfl rfl rfl h3 (by decide +kernel) rfl ?_
 intro w4 p4
 have x4 : Ext w2 w4 := x3.move p4.mv (by rintro k ⟨⟩; exact Nat.le_refl _)
 have hb4 := aD (cs := [.bool (decide (s.data.length = 1))]) p4.this
 have hz4 := hz2.ext x4
 have hs4 := hs.ext x4
 have hx4 := hx2.trans x4
 have hv4 := hv.ext hx4
 clear p4 h3 x3
 generalize hpb : Value.pointer (some ⟨w2.heap.size, 0, none⟩) = pb at *
 refine_lift gA fun _ _ => ?_
 have r1 : Rule w4 (.func (.func 163) #[] #[ps, pz]) (cW s.name o) := ⟨163, _, rfl, enters_of Tryz.func163 rfl rfl, fun w' hx' => IW o v ps pz s u w' (hs4.ext hx') (hz4.ext hx')⟩
 have r2 : Rule w4 (.func (.func 164) #[] #[ps, pz, pb]) (BC o s (decide (s.data.length = 1))) := ⟨164, _, rfl, enters_of Tryz.func164 rfl rfl, fun w' hx' => IX o v ps pz pb s u _ w' (hs4.ext hx') (hz4.ext hx') (hb4.ext hx')⟩
 have r3 : Rule w4 (.func (.func 165) #[] #[ps, pb, pz]) (uZ l s (decide (s.data.length = 1))) := ⟨165, _, rfl, enters_of Tryz.func165 rfl rfl, fun w' hx' => IY o v ps pz pb l s u _ w' (hs4.ext hx') (hz4.ext hx') (hb4.ext hx') (hv4.ext hx')⟩
 have r4 : Rule w4 (.func (.func 167) #[] #[pz, ps]) (sL o l s) := ⟨167, _, rfl, enters_of Tryz.func167 rfl rfl, fun w' hx' => IZ o v ps pz l s u w' (hs4.ext hx') (hz4.ext hx') (hv4.ext hx')⟩
 refine bT (e := 29) (k := 1) (bytes := 8) (xs := [.func (.func 163) #[] #[ps, pz], .func (.func 164) #[] #[ps, pz, pb], .func (.func 165) #[] #[ps, pb, pz], .func (.func 167) #[] #[pz, ps]]) rfl rfl rfl (by simp [Value.cells]) (by decide +kernel) (by simp) ?_
 intro v5 w5 x5 _ sl5 _
 refine aA ?_
 have sl5 : Sl 1 w5 v5 (oL [(.func (.func 163) #[] #[ps, pz], cW s.name o), (.func (.func 164) #[] #[ps, pz, pb], BC o s (decide (s.data.length = 1))), (.func (.func 165) #[] #[ps, pb, pz], uZ l s (decide (s.data.length = 1))), (.func (.func 167) #[] #[pz, ps], sL o l s)]) := sl5
 refine_lift gA fun _ _ => ?_
 refine aE (enters_of Tryz.func169 rfl rfl) rfl rfl (vB v5 _ _ sl5 (by
  intro x hx
  simp only [List.mem_cons, List.not_mem_nil, or_false] at hx
  rcases hx with rfl | rfl | rfl | rfl
  ·exact r1.ext x5
  ·exact r2.ext x5
  ·exact r3.ext x5
  ·exact r4.ext x5)) ?_; intro w6 x6; refine aA ?_
 refine_lift dL ?_
 go_ret
 refine ⟨?_, (hx4.trans x5).trans x6⟩
 congr 2
 have h4 : IT o l s = sL o l s := by rw [IT, sL, uW hck]
 simp only [gM, h4, List.any_cons, List.any_nil, GM, BC, uZ, Bool.or_false]
 cases cW s.name o <;> cases sL o l s <;> simp <;> by_cases a6 : s.kind = 6 <;> by_cases a5 : s.kind = 5 <;> by_cases an : s.name = o <;> by_cases a1 : s.data.length = 1 <;> cases l.any (uT s) <;> simp_all
def eA : RSet := ⟨[], 0, 0, []⟩
theorem qE {w w' : World} {r : Value} {o : Option RSet} (h : match o with
 | some s => ∃ x, r = .tuple #[.agg #[aI s.name, .int .i64 s.kind, .int .i64 s.ttl, x], .bool true] ∧ Own w.heap.size 1 9 w' x (aS s.data)
 | none => r = .tuple #[.agg mS.toArray, .bool false]) : ∃ x, r = .tuple #[.agg #[aI (o.getD eA).name, .int .i64 (o.getD eA).kind, .int .i64 (o.getD eA).ttl, x], .bool o.isSome] ∧ Sl 1 w' x (aS (o.getD eA).data) := by
 cases o with
 | none => exact ⟨.slice none 0 0, h, Sl.nil _ _⟩
 | some s => obtain ⟨x, h1, h2⟩ := h; exact ⟨x, h1, h2.sl⟩
set_option maxHeartbeats 3000000 in
theorem JB (o : List UInt8) (v pz : Value) (l : List RSet) (s : RSet) (u : Value) (w : World) (hz : Pts w pz [aI o, v]) (hv : SetsAt w v l) (hu : Sl 1 w u (aS s.data)) (hck : dM l = 0) : Calls Tryz.prog 114 #[.agg #[aI s.name, .int .i64 s.kind, .int .i64 s.ttl, u], pz] w (bS w (.bool (!gM o l s))) := by
 go_enter Tryz.func114, Tryz.ntmps114
 repeat' (first | ((with_reducible refine aJ ?_); go_step) | fail)
 refine bU (vs := [aI s.name, .int .i64 s.kind, .int .i64 s.ttl, u]) rfl rfl ?_
 intro ps w1 x1 hs
 refine aA ?_
 have hz1 := hz.ext x1
 (repeat' first | ((with_reducible refine aJ ?_); go_step) | ((with_reducible refine aH ?_); first | refine bQ ?_ | (refine aK ?_ ?_ <;> intro hc)) | fail)
 refine aE (enters_of Tryz.func115 rfl rfl) rfl rfl (LJ o v l s u _ (hv.ext x1) (hu.ext x1) hck) ?_; intro w2 x2; refine aA ?_
 (repeat' first | ((with_reducible refine aJ ?_); go_step) | ((with_reducible refine aH ?_); first | refine bQ ?_ | (refine aK ?_ ?_ <;> intro hc)) | fail)
 go_ret
 exact ⟨rfl, x1.trans x2⟩
set_option maxHeartbeats 6000000 in
theorem tI (o : List UInt8) (v : Value) (l : List RSet) (w : World) (hv : SetsAt w v l) (hb : ∀ s ∈ l, s.data.length ≤ 1000000) : Calls Tryz.prog 61 #[.agg #[aI o, v]] w (bS w (.int .i64 (cJ o l))) := by
 obtain ⟨cv, hv1, hvl⟩ := hv.sl
 have hle := hv1.le
 have hb' : ∀ s ∈ l, s.data.length ≤ 8796093022208 := fun s hs => by have := hb s hs; omega
 go_enter Tryz.func61, Tryz.ntmps61
 repeat' (first | ((with_reducible refine aJ ?_); go_step) | fail)
 refine bU (vs := [aI o, v]) rfl rfl ?_
 intro p w1 x1 hp
 refine aA ?_
 (repeat' first | ((with_reducible refine aJ ?_); go_step) | ((with_reducible refine aH ?_); first | refine bQ ?_ | (refine aK ?_ ?_ <;> intro hc)) | fail)
 have c1 : ∀ w', Calls Tryz.prog 65 #[aI o] w' (bS w' (.int .i64 (eP o))) := fun w' => NV o w'
 have hv2 := hv.ext x1
 have c3 : ∀ w', Ext w1 w' → Calls Tryz.prog 111 #[v] w' (bS w' (.int .i64 (dM l))) := fun w' x' => TZ v l w' (hv2.ext x')
 refine fN (by decide +kernel) (by decide +kernel) ?_
 (try ((with_reducible refine AI ?_); refine KY ?_))
 refine oY (enters_of Tryz.func65 rfl rfl) rfl rfl (fun w' _ => c1 w') ?_
 refine aA ?_
 (try ((with_reducible refine AI ?_); refine KY ?_))
 by_cases q1 : eP o = 0
 ·rw [decide_eq_true q1]
  simp only [Bool.not_true]
  (try ((with_reducible refine AI ?_); refine KY ?_))
  refine oY (enters_of Tryz.func32 rfl rfl) rfl rfl (fun w' _ => IK o w') ?_
  refine aA ?_
  (try ((with_reducible refine AI ?_); refine KY ?_))
  by_cases q2 : fold o = o
  ·rw [decide_eq_true q2]
   simp only [Bool.not_true]
   (try ((with_reducible refine AI ?_); refine KY ?_))
   refine oY (enters_of Tryz.func111 rfl rfl) rfl rfl (fun w' x' => c3 w' x') ?_
   refine aA ?_
   (try ((with_reducible refine AI ?_); refine KY ?_))
   intro w2 x2
   by_cases q3 : dM l = 0
   ·rw [decide_eq_true q3]
    simp only [Bool.not_true]
    have hx2 := x1.trans x2
    have hp2 := hp.ext x2
    have hs2 := hv.ext hx2
    (repeat' first | ((with_reducible refine aJ ?_); go_step) | ((with_reducible refine aH ?_); first | refine bQ ?_ | (refine aK ?_ ?_ <;> intro hc)) | fail)
    refine aT (enters_of Tryz.func112 rfl rfl) rfl rfl (PC v l o 6 _ hs2 hb') ?_
    intro r3 w3 x3 hr3
    obtain ⟨y3, rfl, hy3⟩ := qE hr3
    clear hr3
    (repeat' first | ((with_reducible refine aJ ?_); go_step) | ((with_reducible refine aH ?_); first | refine bQ ?_ | (refine aK ?_ ?_ <;> intro hc)) | fail)
    refine aN (z := mS) rfl (by decide +kernel) ?_
    intro w4 x4 s4 h4
    refine aA ?_
    refine aG rfl rfl rfl h4 (show aZ Tryz.prog 131 4 = true by decide +kernel) rfl (iV rfl rfl rfl (hy3.one)) ?_
    intro w5 p5
    have x5 : Ext w3 w5 := x4.move p5.mv (by rintro k ⟨⟩; exact Nat.le_refl _)
    have hx5 := hx2.trans (x3.trans x5)
    have hp5 := hp.ext (x2.trans (x3.trans x5))
    have hs5 := hv.ext hx5
    clear p5 h4 x4
    (repeat' first | ((with_reducible refine aJ ?_); go_step) | ((with_reducible refine aH ?_); first | refine bQ ?_ | (refine aK ?_ ?_ <;> intro hc)) | fail)
    refine aT (enters_of Tryz.func112 rfl rfl) rfl rfl (PC v l o 2 _ hs5 hb') ?_
    intro r6 w6 x6 hr6
    obtain ⟨y6, rfl, hy6⟩ := qE hr6
    clear hr6
    (repeat' first | ((with_reducible refine aJ ?_); go_step) | ((with_reducible refine aH ?_); first | refine bQ ?_ | (refine aK ?_ ?_ <;> intro hc)) | fail)
    refine aN (z := mS) rfl (by decide +kernel) ?_
    intro w7 x7 s7 h7
    refine aA ?_
    refine aG rfl rfl rfl h7 (show aZ Tryz.prog 131 4 = true by decide +kernel) rfl (iV rfl rfl rfl (hy6.one)) ?_
    intro w8 p8
    have x8 : Ext w6 w8 := x7.move p8.mv (by rintro k ⟨⟩; exact Nat.le_refl _)
    have hx8 := hx5.trans (x6.trans x8)
    have hp8 := hp5.ext (x6.trans x8)
    have hs8 := hv.ext hx8
    clear p8 h7 x7
    cases f6 : (cC l o 6).isSome with
    | false =>
     (repeat' first | ((with_reducible refine aJ ?_); go_step) | ((with_reducible refine aH ?_); first | refine bQ ?_ | (refine aK ?_ ?_ <;> intro hc)) | fail)
     go_ret
     exact ⟨by rw [show cJ o l = 2 by simp [cJ, q1, q2, q3, f6]]; rfl, hx8⟩
    | true =>
     cases f2 : (cC l o 2).isSome with
     | false =>
      (repeat' first | ((with_reducible refine aJ ?_); go_step) | ((with_reducible refine aH ?_); first | refine bQ ?_ | (refine aK ?_ ?_ <;> intro hc)) | fail)
      go_ret
      exact ⟨by rw [show cJ o l = 2 by simp [cJ, q1, q2, q3, f6, f2]]; rfl, hx8⟩
     | true =>
      (repeat' first | ((with_reducible refine aJ ?_); go_step) | ((with_reducible refine aH ?_); first | refine bQ ?_ | (refine aK ?_ ?_ <;> intro hc)) | fail)
      have hf : SetFn w8 114 #[p] l (fun s => !gM o l s) := fun s _ x w' hx' hd' => JB o v p l s x w' (hp8.ext hx') (hs8.ext hx') hd' q3
      refine aE (enters_of Tryz.func113 rfl rfl) rfl rfl (jJ v l 114 #[p] (fun s => !gM o l s) _ hs8 (enters_of Tryz.func114 rfl rfl) hf) ?_; intro w9 x9; refine aA ?_
      cases ha : l.any (fun s => !gM o l s) with
      | true =>
       (repeat' first | ((with_reducible refine aJ ?_); go_step) | ((with_reducible refine aH ?_); first | refine bQ ?_ | (refine aK ?_ ?_ <;> intro hc)) | fail)
       go_ret
       exact ⟨by rw [show cJ o l = 2 by simp only [cJ, q1, q2, q3, f6, f2, ha]; simp]; rfl, hx8.trans x9⟩
      | false =>
       (repeat' first | ((with_reducible refine aJ ?_); go_step) | ((with_reducible refine aH ?_); first | refine bQ ?_ | (refine aK ?_ ?_ <;> intro hc)) | fail)
       go_ret
       exact ⟨by rw [show cJ o l = 0 by simp only [cJ, q1, q2, q3, f6, f2, ha]; simp]; rfl, hx8.trans x9⟩
   ·rw [decide_eq_false q3]
    simp only [Bool.not_false]
    (repeat' first | ((with_reducible refine aJ ?_); go_step) | ((with_reducible refine aH ?_); first | refine bQ ?_ | (refine aK ?_ ?_ <;> intro hc)) | fail)
    go_ret
    exact ⟨by rw [show cJ o l = 1 by simp [cJ, q3]]; rfl, x1.trans x2⟩
  ·rw [decide_eq_false q2]
   simp only [Bool.not_false]
   (try ((with_reducible refine AI ?_); refine KY ?_))
   intro w2 x2
   (repeat' first | ((with_reducible refine aJ ?_); go_step) | ((with_reducible refine aH ?_); first | refine bQ ?_ | (refine aK ?_ ?_ <;> intro hc)) | fail)
   go_ret
   exact ⟨by rw [show cJ o l = 1 by simp [cJ, q2]]; rfl, x1.trans x2⟩
 ·rw [decide_eq_false q1]
  simp only [Bool.not_false]
  (try ((with_reducible refine AI ?_); refine KY ?_))
  intro w2 x2
  (repeat' first | ((with_reducible refine aJ ?_); go_step) | ((with_reducible refine aH ?_); first | refine bQ ?_ | (refine aK ?_ ?_ <;> intro hc)) | fail)
  go_ret
  exact ⟨by rw [show cJ o l = 1 by simp [cJ, q1]]; rfl, x1.trans x2⟩
set_option maxHeartbeats 3000000 in
theorem PR (o : List UInt8) (v : Value) (l : List RSet) (n : List UInt8) (w : World) (hv : SetsAt w v l) (hb : ∀ s ∈ l, s.data.length ≤ 1000000) : Calls Tryz.prog 118 #[.agg #[aI o, v], aI n] w (bS w (.tuple (if cJ o l = 0 then #[aI (yY o l n).1, .bool (yY o l n).2] else #[aI [], .bool false]))) := by
 go_enter Tryz.func118, Tryz.ntmps118
 repeat' (first | ((with_reducible refine aJ ?_); go_step) | fail)
 refine bU (vs := [aI o, v]) rfl rfl ?_
 intro p w1 x1 hp
 refine aA ?_
 have hv1 := hv.ext x1
 (repeat' first | ((with_reducible refine aJ ?_); go_step) | ((with_reducible refine aH ?_); first | refine bQ ?_ | (refine aK ?_ ?_ <;> intro hc)) | fail)
 refine aE (enters_of Tryz.func61 rfl rfl) rfl rfl (tI o v l _ hv1 hb) ?_; intro w2 x2; refine aA ?_
 have hx2 := x1.trans x2
 have hp2 := hp.ext x2
 have hv2 := hv1.ext x2
 (repeat' first | ((with_reducible refine aJ ?_); go_step) | ((with_reducible refine aH ?_); first | refine bQ ?_ | (refine aK ?_ ?_ <;> intro hc)) | fail)
 ·rename_i q
  have q' : ¬ cJ o l = 0 := by simpa using q
  go_ret2
  exact ⟨by rw [if_neg q']; rfl, hx2⟩
 ·have q' : cJ o l = 0 := by simpa using (by assumption : (!decide (cJ o l = 0)) = false)
  refine aE (enters_of Tryz.func168 rfl rfl) rfl rfl (NA o v l n _ hv2) ?_; intro w3 x3; refine aA ?_
  (repeat' first | ((with_reducible refine aJ ?_); go_step) | ((with_reducible refine aH ?_); first | refine bQ ?_ | (refine aK ?_ ?_ <;> intro hc)) | fail)
  go_ret2
  exact ⟨by rw [if_pos q', uW (jW q').chk]; rfl, hx2.trans x3⟩
theorem DB {s : RSet} (h : kI s = true) {i : Nat} (hi : i < s.data.length) : bF ⟨s.name, s.kind, s.ttl, s.data[i]⟩ = 0 := by
 simp only [kI, Bool.and_eq_true, List.all_eq_true] at h
 have := h.2 i (by simpa using hi)
 simp only [sF, Bool.not_eq_true', Bool.or_eq_false_iff, decide_eq_false_iff_not, ne_eq, Decidable.not_not] at this
 have e : s.data.getD i [] = s.data[i] := by simp [hi]
 rw [e] at this
 exact this.1
theorem mV {r : Rec} (h : bF r = 0) : r.data.length ≤ 4000 ∧ fits r.kind r.data = true := by
 unfold bF at h
 split at h
 ·omega
 ·split at h
  ·omega
  ·rename_i h2
   simp only [not_or, Bool.not_eq_false] at h2
   exact ⟨by omega, h2.2.2.2.2.2⟩
def zR : SoaR := ⟨[], [], 0, 0, 0, 0, 0⟩
theorem JC : zR.cells = cP := rfl
def mI (o : List UInt8) (l : List RSet) : List UInt8 := ((cC l o 6).getD eA).data.getD 0 []
def eK (o : List UInt8) (l : List RSet) : SoaR := if cJ o l = 0 then fA (mI o l) else zR
theorem DC {d : List UInt8} (h : (cI d).isSome = true) : cI d = some (fA d) := by
 unfold cI at *
 simp only at *
 split at h
 ·rename_i h1; rw [if_pos h1]
 ·cases h
theorem ZoneOk.soaSet {o : List UInt8} {l : List RSet} (h : ZoneOk o l) : ∃ s, cC l o 6 = some s ∧ s ∈ l ∧ s.name = o ∧ s.kind = 6 ∧ s.data = [mI o l] ∧ cI (mI o l) = some (fA (mI o l)) ∧ (mI o l).length ≤ 4000 := by
 obtain ⟨s, hs⟩ := Option.isSome_iff_exists.1 h.soa
 obtain ⟨h1, h2, h3⟩ := nG hs
 have hr := h.right s h1
 have hm := h.may h1
 have hl : s.data.length = 1 := by
  simp only [gM, Bool.and_eq_true, Bool.not_eq_true', h3] at hr
  have := hr.1.1.2
  simp only [decide_true, Bool.true_and, Bool.or_eq_false_iff, decide_eq_false_iff_not, ne_eq, Decidable.not_not] at this
  exact this.2
 have hd : s.data = [mI o l] := by
  have e : mI o l = s.data.getD 0 [] := by rw [mI, hs]; rfl
  rw [e]
  match s.data, hl with
  | [d], _ => rfl
 have hc := DB hm (i := 0) (by omega)
 obtain ⟨c1, c2⟩ := mV hc
 have e0 : s.data[0]'(by omega) = mI o l := by simp [hd]
 simp only [e0, h3] at c1 c2
 refine ⟨s, hs, h1, by rw [h2, h.fold], h3, hd, DC ?_, c1⟩
 simpa [fits] using c2
theorem vD (s : SoaR) : (Value.agg s.cells.toArray).cells.all (·.oneCell') = true := by
 simp [SoaR.cells, Value.cells, Value.oneCell', aI]
set_option maxHeartbeats 3000000 in
theorem PS (o : List UInt8) (v : Value) (l : List RSet) (w : World) (hv : SetsAt w v l) (hb : ∀ s ∈ l, s.data.length ≤ 1000000) (hd : ∀ s ∈ l, ∀ d ∈ s.data, d.length ≤ 4611686018427387904) : Calls Tryz.prog 213 #[.agg #[aI o, v]] w (bS w (.tuple #[.agg (eK o l).cells.toArray, .int .i64 (cJ o l)])) := by
 go_enter Tryz.func213, Tryz.ntmps213
 refine_lift zW fun _ _ => ?_
 refine bU (vs := [aI o, v]) rfl rfl ?_
 intro p w1 x1 hp
 refine aA ?_
 refine aN (z := cP) rfl (by decide +kernel) ?_
 intro w2 x2 s2 h2
 refine aA ?_
 have hx2 := x1.trans x2
 have hp2 := hp.ext x2
 have hv2 := hv.ext hx2
 refine_lift CI fun _ _ _ _ => ?_
 refine aE (enters_of Tryz.func61 rfl rfl) rfl rfl (tI o v l _ hv2 hb) ?_; intro w3 x3; refine aA ?_
 have hx3 := hx2.trans x3
 have hp3 := hp2.ext x3
 have hv3 := hv2.ext x3
 have h3 := x3.at h2
 refine_lift QY (fun _ _ _ => ?_) (fun _ _ _ => ?_)
 ·have q : ¬ cJ o l = 0 := by simpa using (by assumption : (!decide (cJ o l = 0)) = true)
  refine cT (v := .agg cP.toArray) rfl (Runs.build0 (by kernel_rfl)) ?_
  refine aA ?_
  refine_lift dL ?_
  refine aG (v := .agg cP.toArray) rfl rfl rfl h3 (by decide +kernel) rfl (by decide +kernel) ?_
  intro w4 p4
  have x4 : Ext w w4 := hx3.move p4.mv (by rintro k ⟨⟩; exact x1.size)
  refine_lift dL ?_
  refine bodyPost_ret (bK (cs := cP) rfl rfl p4.this (by decide +kernel)) rfl ⟨?_, x4⟩
  rw [show eK o l = zR by rw [eK, if_neg q], JC]
  rfl
 ·have q : cJ o l = 0 := by simpa using (by assumption : (!decide (cJ o l = 0)) = false)
  obtain ⟨s, hf, hs, hn, hk, hdat, hpar, hlen⟩ := (jW q).soaSet
  have hZ : eK o l = fA (mI o l) := by rw [eK, if_pos q]
  have hP : ∀ w', Calls Tryz.prog 106 #[aI (mI o l)] w' (bS w' (.tuple #[.agg (fA (mI o l)).cells.toArray, .int .i64 0])) := fun w' => by
   have := RH (mI o l) w' (by omega)
   rw [hpar] at this
   exact this
  clear hpar
  generalize mI o l = dd at *
  generalize hgen : fA dd = ss at *
  refine aT (enters_of Tryz.func112 rfl rfl) rfl rfl (PC v l o 6 _ hv3 (fun s hs => by have := hb s hs; omega)) ?_
  intro r4 w4 x4 hr4
  rw [hf] at hr4
  obtain ⟨y, rfl, oy⟩ := hr4
  have hx4 := hx3.trans x4
  refine_lift dL ?_
  refine aN (z := mS) rfl (by decide +kernel) ?_
  intro w5 x5 s5 h5
  refine aA ?_
  refine aG (v := .agg #[aI s.name, .int .i64 s.kind, .int .i64 s.ttl, y]) rfl rfl rfl h5 (show aZ Tryz.prog 131 4 = true by decide +kernel) rfl (iV rfl rfl rfl oy.one) ?_
  intro w6 p6
  have x6 : Ext w4 w6 := x5.move p6.mv (by rintro k ⟨⟩; exact Nat.le_refl _)
  have hp6 := aD (cs := [aI s.name, .int .i64 s.kind, .int .i64 s.ttl, y]) p6.this
  have hy6 := oy.sl.ext x6
  rw [hdat] at hy6
  have hx6 := hx4.trans x6
  have h6 := (x4.trans x6).at h3
  have hy0 := hy6.elem (i := 0) (e := [aI dd]) rfl
  clear p6 h5 x5
  have hl1 : (aS [dd]).length = 1 := rfl
  refine_lift gA fun _ _ => ?_
  refine aE (enters_of Tryz.func106 rfl rfl) rfl rfl (hP _) ?_; intro w7 x7; refine aA ?_
  have h7 := x7.at h6
  refine_lift dL ?_
  refine aG (v := .agg ss.cells.toArray) rfl rfl rfl h7 (show aZ Tryz.prog 160 7 = true by decide +kernel) rfl (vD _) ?_
  intro w8 p8
  have x8 : Ext w w8 := (hx6.trans x7).move p8.mv (by rintro k ⟨⟩; exact x1.size)
  refine_lift dL ?_
  refine bodyPost_ret (bK (cs := ss.cells) rfl rfl p8.this (show dY Tryz.prog 160 7 = true by decide +kernel)) rfl ⟨?_, x8⟩
  rw [hZ, q]
  rfl
def iR (s : List UInt8) : List (List UInt8) → List (List UInt8)
 | [] => [s]
 | x :: l => if Op.bytesLess x s = true then x :: iR s l else if x = s then x :: l else s :: x :: l
theorem xS (s : List UInt8) : ∀ l : List (List UInt8), (iR s l).length ≤ l.length + 1
 | [] => by simp [iR]
 | x :: l => by
   rw [iR]
   split
   ·have := xS s l; simp; omega
   ·split <;> simp
def cY (r : Rec) : RSet := ⟨fold r.name, r.kind, r.ttl, [r.data]⟩
def iH (r : Rec) : List RSet → List RSet
 | [] => [cY r]
 | g :: gs => if uU g (cY r) = true then g :: iH r gs else if uU (cY r) g = true then cY r :: g :: gs else ⟨fold r.name, r.kind, min r.ttl g.ttl, iR r.data g.data⟩ :: gs
def bW (l : List Rec) : List RSet := l.foldl (fun gs r => iH r gs) []
theorem mW {l : List Rec} {k : Nat} (h : k < l.length) : bW (l.take (k + 1)) = iH l[k] (bW (l.take k)) := by
 rw [bW, List.take_add_one, List.getElem?_eq_getElem h, Option.toList_some, List.foldl_append]
 rfl
theorem BE (r : Rec) : ∀ gs : List RSet, (iH r gs).length ≤ gs.length + 1
 | [] => by simp [iH]
 | g :: gs => by
   have := BE r gs
   rw [iH]
   split
   ·simp; omega
   ·split <;> simp
theorem xT (r : Rec) (n : Nat) : ∀ gs : List RSet, (∀ s ∈ gs, s.data.length ≤ n) → ∀ s ∈ iH r gs, s.data.length ≤ n + 1
 | [], _, s, h => by
   have : s = cY r := by simpa [iH] using h
   subst this; simp [cY]
 | g :: gs, hn, s, h => by
   have hg := hn g (by simp)
   have hn' : ∀ s ∈ gs, s.data.length ≤ n := fun s hs => hn s (by simp [hs])
   rw [iH] at h
   split at h
   ·rcases List.mem_cons.1 h with rfl | h
    ·omega
    ·exact xT r n gs hn' s h
   ·split at h
    ·rcases List.mem_cons.1 h with rfl | h
     ·simp [cY]
     ·have := hn s h; omega
    ·rcases List.mem_cons.1 h with rfl | h
     ·have := xS r.data g.data
      show (iR r.data g.data).length ≤ n + 1
      omega
     ·have := hn' s h; omega
theorem nU (l : List Rec) : ∀ k, k ≤ l.length → (bW (l.take k)).length ≤ k ∧ ∀ s ∈ bW (l.take k), s.data.length ≤ k
 | 0, _ => by simp [bW]
 | k + 1, h => by
   obtain ⟨h1, h2⟩ := nU l k (by omega)
   rw [mW (show k < l.length by omega)]
   have := BE (l[k]'(by omega)) (bW (l.take k))
   exact ⟨by omega, xT _ k _ h2⟩
def tA (l : List Rec) : Int := if l.all xJ = false then 1 else if 200 < (bW l).length then 4 else if (bW l).any IR = true then 4 else 0
def RefR (B : Nat) (l : List Rec) (r : Value) (w' : World) : Prop := if tA l = 0 then ∃ v, r = .tuple #[v, .int .i64 0] ∧ SetsO B w' v (bW l) else r = .tuple #[.slice none 0 0, .int .i64 (tA l)]
theorem xU : ∀ {gs : List RSet} {r : Rec} {s : RSet}, sC gs → s ∈ dG gs r → (s ∈ gs ∧ bH s r = false) ∨ (∃ t ∈ gs, bH t r = true ∧ s = iM t r) ∨ ((∀ t ∈ gs, bH t r = false) ∧ s = ⟨fold r.name, r.kind, r.ttl, [r.data]⟩)
 | [], r, s, _, h => by
   right; right
   exact ⟨by simp, by simpa [dG] using h⟩
 | a :: l, r, s, hd, h => by
   obtain ⟨p1, p2⟩ := List.pairwise_cons.1 (gB.1 hd)
   by_cases hm : bH a r = true
   ·simp only [dG, hm, if_true, List.mem_cons] at h
    rcases h with h | h
    ·exact .inr (.inl ⟨a, by simp, hm, h⟩)
    ·refine .inl ⟨by simp [h], ?_⟩
     cases hs : bH s r with
     | false => rfl
     | true =>
      exfalso
      simp only [bH, Bool.and_eq_true, decide_eq_true_eq] at hs hm
      exact p1 s h ⟨by rw [hm.1, hs.1], by rw [hm.2, hs.2]⟩
   ·have hm' : bH a r = false := by simpa using hm
    simp only [dG, hm', Bool.false_eq_true, if_false, List.mem_cons] at h
    rcases h with rfl | h
    ·exact .inl ⟨by simp, hm'⟩
    ·rcases xU (gB.2 p2) h with ⟨h1, h2⟩ | ⟨t, h1, h2, h3⟩ | ⟨h1, h2⟩
     ·exact .inl ⟨by simp [h1], h2⟩
     ·exact .inr (.inl ⟨t, by simp [h1], h2, h3⟩)
     ·refine .inr (.inr ⟨?_, h2⟩)
      intro t ht
      rcases List.mem_cons.1 ht with rfl | ht
      ·exact hm'
      ·exact h1 t ht
structure Ch (L : List Rec) (s : RSet) : Prop where
 dat : ∀ d, d ∈ s.data ↔ ∃ r ∈ L, bH s r = true ∧ r.data = d
 ttl : ∃ r ∈ L, bH s r = true ∧ r.ttl = s.ttl
 low : ∀ r ∈ L, bH s r = true → s.ttl ≤ r.ttl
theorem Ch.miss {L : List Rec} {s : RSet} {r : Rec} (h : Ch L s) (hm : bH s r = false) : Ch (L ++ [r]) s where
 dat d := by
  rw [h.dat]
  constructor
  ·rintro ⟨q, h1, h2⟩; exact ⟨q, by simp [h1], h2⟩
  ·rintro ⟨q, h1, h2, h3⟩
   rcases List.mem_append.1 h1 with h1 | h1
   ·exact ⟨q, h1, h2, h3⟩
   ·obtain rfl := List.mem_singleton.1 h1
    rw [hm] at h2; cases h2
 ttl := let ⟨q, h1, h2⟩ := h.ttl; ⟨q, by simp [h1], h2⟩
 low q h1 h2 := by
  rcases List.mem_append.1 h1 with h1 | h1
  ·exact h.low q h1 h2
  ·obtain rfl := List.mem_singleton.1 h1
   rw [hm] at h2; cases h2
theorem Ch.bump {L : List Rec} {s : RSet} {r : Rec} (h : Ch L s) (hm : bH s r = true) : Ch (L ++ [r]) (X.iM s r) where
 dat d := by
  show d ∈ s.data ++ [r.data] ↔ ∃ q ∈ L ++ [r], bH s q = true ∧ q.data = d
  rw [List.mem_append, h.dat, List.mem_singleton]
  constructor
  ·rintro (⟨q, h1, h2⟩ | rfl)
   ·exact ⟨q, by simp [h1], h2⟩
   ·exact ⟨r, by simp, hm, rfl⟩
  ·rintro ⟨q, h1, h2, h3⟩
   rcases List.mem_append.1 h1 with h1 | h1
   ·exact .inl ⟨q, h1, h2, h3⟩
   ·obtain rfl := List.mem_singleton.1 h1
    exact .inr h3.symm
 ttl := by
  show ∃ q ∈ L ++ [r], bH s q = true ∧ q.ttl = min s.ttl r.ttl
  obtain ⟨q, h1, h2, h3⟩ := h.ttl
  rcases Int.le_total s.ttl r.ttl with hl | hl
  ·exact ⟨q, by simp [h1], h2, by rw [h3]; omega⟩
  ·exact ⟨r, by simp, hm, by omega⟩
 low q h1 h2 := by
  show min s.ttl r.ttl ≤ q.ttl
  rcases List.mem_append.1 h1 with h1 | h1
  ·have := h.low q h1 h2
   omega
  ·obtain rfl := List.mem_singleton.1 h1
   omega
theorem Ch.new {L : List Rec} {r : Rec} (h : ∀ q ∈ L, bH ⟨fold r.name, r.kind, r.ttl, [r.data]⟩ q = false) : Ch (L ++ [r]) ⟨fold r.name, r.kind, r.ttl, [r.data]⟩ where
 dat d := by
  rw [List.mem_singleton]
  constructor
  ·rintro rfl; exact ⟨r, by simp, by simp [bH], rfl⟩
  ·rintro ⟨q, h1, h2, h3⟩
   rcases List.mem_append.1 h1 with h1 | h1
   ·rw [h q h1] at h2; cases h2
   ·obtain rfl := List.mem_singleton.1 h1
    exact h3.symm
 ttl := ⟨r, by simp, by simp [bH], rfl⟩
 low q h1 h2 := by
  rcases List.mem_append.1 h1 with h1 | h1
  ·rw [h q h1] at h2; cases h2
  ·obtain rfl := List.mem_singleton.1 h1
   exact Int.le_refl _
theorem xV (l : List Rec) : ∀ k, k ≤ l.length → ∀ s ∈ cK (l.take k), Ch (l.take k) s
 | 0, _, s, h => by simp [cK] at h
 | k + 1, hk, s, h => by
   have hlt : k < l.length := by omega
   have e : l.take (k + 1) = l.take k ++ [l[k]] := by simp
   rw [mR hlt] at h
   rw [e]
   have ih := xV l k (by omega)
   rcases xU (iW _) h with ⟨h1, h2⟩ | ⟨t, h1, h2, rfl⟩ | ⟨h1, rfl⟩
   ·exact (ih s h1).miss h2
   ·exact (ih t h1).bump h2
   ·refine Ch.new fun q hq => ?_
    obtain ⟨t, ht, hm, _⟩ := uS hq
    have := h1 t ht
    cases hx : bH ⟨fold l[k].name, l[k].kind, l[k].ttl, [l[k].data]⟩ q with
    | false => rfl
    | true =>
     exfalso
     simp only [bH, Bool.and_eq_true, decide_eq_true_eq] at hx hm
     have h5 : bH t l[k] = true := by
      simp only [bH, Bool.and_eq_true, decide_eq_true_eq]
      exact ⟨by rw [hm.1, hx.1], by rw [hm.2, hx.2]⟩
     rw [this] at h5; cases h5
theorem Ch.norm {L : List Rec} {s : RSet} (h : Ch L s) : Ch L (X.kV s) where
 dat d := by
  show d ∈ PQ s.data ↔ ∃ r ∈ L, bH s r = true ∧ r.data = d
  rw [LG, h.dat]
 ttl := h.ttl
 low := h.low
theorem xX {l : List Rec} {s : RSet} (h : s ∈ dW l) : Ch l s ∧ s.data.Pairwise (· < ·) := by
 obtain ⟨u, hu, rfl⟩ := List.mem_map.1 h
 have := xV l l.length (Nat.le_refl _)
 rw [List.take_length] at this
 exact ⟨(this u hu).norm, CY _⟩
theorem Ch.uniq {L : List Rec} {s t : RSet} (h : Ch L s) (k : Ch L t) (hs : s.data.Pairwise (· < ·)) (ht : t.data.Pairwise (· < ·)) (hn : s.name = t.name) (hk : s.kind = t.kind) : s = t := by
 have hm : ∀ r, bH s r = bH t r := fun r => by rw [bH, bH, hn, hk]
 have hd : s.data = t.data := GD hs ht fun d => by
  rw [h.dat, k.dat]
  simp only [hm]
 have ha : s.ttl = t.ttl := by
  obtain ⟨q, h1, h2, h3⟩ := h.ttl
  obtain ⟨q', k1, k2, k3⟩ := k.ttl
  have e1 := k.low q h1 (by rw [← hm]; exact h2)
  have e2 := h.low q' k1 (by rw [hm]; exact k2)
  omega
 cases s; cases t
 simp_all
end Go.Proofs.X
