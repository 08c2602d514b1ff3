/- Laws and walks that the proof of the statement is made of (part 6). -/
import Derived.Test.YtcabalnocddidaaGreatP5
set_option linter.unusedSimpArgs false
set_option linter.unusedVariables false
namespace Go.Proofs.X
open Go.RowKit
set_option maxRecDepth 100000
def fO (o : List UInt8) : Int := if (aU o).isSome then 0 else 1
def iS (o : List UInt8) (l : List RSet) : Int :=
 if fO o ≠ 0 ∨ fold o ≠ o ∨ gP l ≠ 0 then 1 else
 if (kH l o 6).isSome = false ∨ (kH l o 2).isSome = false then 2 else
 if l.any (fun s => !iC o l s) = true then 2 else 0
theorem TPO.ltt {α : Type} {c : α → α → Int} (h : TPO c) {x y z : α} (h1 : c x y < 0) (h2 : c y z < 0) : c x z < 0 := by
 have h3 := h.tr x y z (by omega) (by omega)
 rcases Int.lt_or_eq_of_le h3 with h4 | h4
 ·exact h4
 ·exfalso
  have h5 := (h.eqL h4 (z := y)).1 (by omega)
  have h6 := h.anti y z
  omega
theorem rW {l : List RSet} (h : gP l = 0) : ∀ i, i < l.length → qP l i = false := by
 unfold gP at h
 split at h
 ·omega
 ·split at h
  ·rename_i h1
   intro i hi
   rw [List.all_eq_true] at h1
   have := h1 i (by simpa using hi)
   simpa using this
  ·omega
theorem pR {l : List RSet} (h : gP l = 0) {i : Nat} (hi : i < l.length) : tH l[i] = true := by
 have := rW h i hi
 rw [qP, List.getElem?_eq_getElem hi] at this
 simp only [Bool.or_eq_false_iff, Bool.not_eq_false'] at this
 exact this.1
theorem xJ {l : List RSet} (h : gP l = 0) {i : Nat} (hi : i + 1 < l.length) : cJ l[i].name l[i + 1].name l[i].kind l[i + 1].kind < 0 := by
 have := rW h (i + 1) hi
 rw [qP, List.getElem?_eq_getElem hi] at this
 simp only [Bool.or_eq_false_iff, Bool.and_eq_false_iff, decide_eq_false_iff_not] at this
 have h2 := this.2.resolve_left (by omega)
 have e : l.getD (i + 1 - 1) default = l[i] := by simp [show i < l.length by omega]
 rw [e] at h2
 omega
theorem gR {l : List RSet} (h : gP l = 0) (i : Nat) : ∀ j (hj : i < j) (hl : j < l.length), cJ l[i].name l[j].name l[i].kind l[j].kind < 0
 | 0, hj, _ => by omega
 | j + 1, hj, hl => by
   have h1 := xJ h hl
   by_cases e : i = j
   ·subst e; exact h1
   ·have h2 := gR h i j (by omega) (by omega)
    exact eX.ltt (x := (l[i].name, l[i].kind)) (y := (l[j].name, l[j].kind)) (z := (l[j + 1].name, l[j + 1].kind)) h2 h1
theorem rX {s : RSet} (h : tH s = true) : fold s.name = s.name := by
 simp only [tH, Bool.and_eq_true, decide_eq_true_eq] at h
 exact h.1.1.1
theorem vS {l : List RSet} (h : gP l = 0) {i : Nat} (hi : i < l.length) : kH l l[i].name l[i].kind = some l[i] := by
 have hf := rX (pR h hi)
 refine zF hi ?_ (by simp [DH, hf])
 rw [List.find?_eq_none]
 intro x hx hh
 obtain ⟨j, hj, rfl⟩ := List.getElem_of_mem hx
 have hj' : j < i := by rw [List.length_take] at hj; omega
 rw [List.getElem_take] at hh
 simp only [DH, hf, Bool.and_eq_true, decide_eq_true_eq] at hh
 have h1 := gR h j i hj' hi
 rw [hh.1, hh.2] at h1
 have h2 := eX.refl (l[i].name, l[i].kind)
 simp only at h2
 omega
def dO (o n : List UInt8) (s : RSet) : Bool := decide (s.kind = 2) && decide (s.name ≠ o) && bO n s.name
def xK (o : List UInt8) (l : List RSet) (n : List UInt8) : List UInt8 × Bool := match l.find? (dO o n) with
 | some s => (s.name, true)
 | none => ([], false)
theorem oF {o n : List UInt8} {b : List UInt8 × Bool} {s : RSet} (h : dO o n s = false) : fI o n b s = b := by
 unfold fI
 rw [if_neg]
 rintro ⟨h1, h2, h3, _⟩
 simp [dO, h1, h2, h3] at h
theorem rY {o n : List UInt8} {m : List UInt8} {s : RSet} (h : dO o n s = true) : fI o n (m, false) s = (s.name, true) := by
 simp only [dO, Bool.and_eq_true, decide_eq_true_eq] at h
 unfold fI
 rw [if_pos ⟨h.1.1, h.1.2, h.2, .inl rfl⟩]
theorem qQ {o n : List UInt8} {m : List UInt8} {s : RSet} (h : dO o n s = true → oS m ≤ oS s.name) : fI o n (m, true) s = (m, true) := by
 cases hc : dO o n s with
 | false => exact oF hc
 | true =>
  have := h hc
  unfold fI
  rw [if_neg]
  rintro ⟨_, _, _, h4⟩
  rcases h4 with h4 | h4
  ·cases h4
  ·simp only at h4; omega
theorem pS {o n m : List UInt8} : ∀ {l : List RSet}, (∀ t ∈ l, dO o n t = true → oS m ≤ oS t.name) → l.foldl (fI o n) (m, true) = (m, true)
 | [], _ => rfl
 | t :: l, h => by
   rw [List.foldl_cons, qQ (h t (by simp)), pS fun u hu => h u (by simp [hu])]
theorem pT {o n : List UInt8} : ∀ {l : List RSet}, l.Pairwise (fun s t => dO o n s = true → dO o n t = true → oS s.name ≤ oS t.name) → tL o l n = xK o l n
 | [], _ => rfl
 | t :: l, h => by
   obtain ⟨h1, h2⟩ := List.pairwise_cons.1 h
   unfold tL xK
   rw [List.foldl_cons, List.find?_cons]
   cases hc : dO o n t with
   | true => simp only [rY hc]; exact pS fun u hu => h1 u hu hc
   | false => simp only [oF hc]; exact pT h2
theorem mA {n : List UInt8} {a : List (List UInt8)} (h : bT n = some a) : oS n = a.length := by
 rw [pP] at h
 cases hl : aU n with
 | none => rw [hl] at h; cases h
 | some ls =>
  rw [hl] at h
  cases h
  simp [oS, hl]
theorem dT {n t : List UInt8} (h : bO n t = true) : ∃ a b, bT n = some a ∧ bT t = some b ∧ a.take b.length = b := by
 unfold bO at h
 cases ha : bT n with
 | none => rw [ha] at h; cases h
 | some a =>
  cases hb : bT t with
  | none => rw [ha, hb] at h; cases h
  | some b =>
   rw [ha, hb] at h
   exact ⟨a, b, rfl, rfl, by simpa using h⟩
theorem iI {n t : List UInt8} {a b : List (List UInt8)} (ha : bT n = some a) (hb : bT t = some b) : bO n t = decide (a.take b.length = b) := by
 unfold bO; rw [ha, hb]
theorem mB {α : Type} {a b : List α} (h : a.take b.length = b) : b.length ≤ a.length := by
 have := congrArg List.length h
 rw [List.length_take] at this
 omega
theorem tM {a b c : List (List UInt8)} (hb : a.take b.length = b) (hc : a.take c.length = c) (h : dQ b c ≤ 0) : b.length ≤ c.length := by
 have e : dQ b c = if b.length < c.length then -1 else if c.length < b.length then 1 else 0 := by
  rcases Nat.le_total b.length c.length with hl | hl
  ·refine rU (k := b.length) ?_ (Nat.le_refl _) hl (.inl rfl)
   rw [List.take_length, ← hc, List.take_take, Nat.min_eq_left hl, hb]
  ·refine rU (k := c.length) ?_ hl (Nat.le_refl _) (.inr rfl)
   rw [List.take_length, ← hb, List.take_take, Nat.min_eq_left hl, hc]
 rw [e] at h
 split at h
 ·omega
 ·split at h <;> omega
theorem xL {a b : List UInt8} {j k : Int} (h : cJ a b j k < 0) : gL a b ≤ 0 := by
 unfold cJ at h
 split at h <;> omega
theorem xM {o : List UInt8} {l : List RSet} (h : gP l = 0) (n : List UInt8) : tL o l n = xK o l n := by
 refine pT ?_
 rw [List.pairwise_iff_getElem]
 intro i j hi hj hij h1 h2
 have hc := xL (gR h i j hij hj)
 simp only [dO, Bool.and_eq_true] at h1 h2
 obtain ⟨a, b, ha, hb, e1⟩ := dT h1.2
 obtain ⟨a', c, ha', hc', e2⟩ := dT h2.2
 rw [ha] at ha'
 cases ha'
 rw [mA hb, mA hc']
 refine tM e1 e2 ?_
 unfold gL at hc
 rw [hb, hc'] at hc
 exact hc
theorem iD {n : List UInt8} : (bT n).isSome = (aU n).isSome := by
 rw [pP]; cases aU n <;> rfl
theorem oG {n : List UInt8} (h : (aU n).isSome = true) : bO n n = true := by
 rw [← iD] at h
 obtain ⟨a, ha⟩ := Option.isSome_iff_exists.1 h
 rw [iI ha ha]
 simp
theorem rZ {a b c : List UInt8} (h : bO a b = true) (k : bO b c = true) : bO a c = true := by
 obtain ⟨x, y, hx, hy, e1⟩ := dT h
 obtain ⟨y', z, hy', hz, e2⟩ := dT k
 rw [hy] at hy'
 cases hy'
 have hl := mB e2
 rw [iI hx hz, decide_eq_true_eq]
 rw [← e1, List.take_take, Nat.min_eq_left hl] at e2
 exact e2
theorem kL {a b : List UInt8} (h : bO a b = true) : (aU a).isSome = true ∧ (aU b).isSome = true := by
 obtain ⟨x, y, hx, hy, _⟩ := dT h
 rw [← iD, ← iD, hx, hy]
 exact ⟨rfl, rfl⟩
structure ZoneOk (o : List UInt8) (l : List RSet) : Prop where
 lab : (aU o).isSome = true
 fold : fold o = o
 chk : gP l = 0
 soa : (kH l o 6).isSome = true
 ns : (kH l o 2).isSome = true
 right : ∀ s ∈ l, iC o l s = true
theorem uK {o : List UInt8} {l : List RSet} (h : iS o l = 0) : ZoneOk o l := by
 unfold iS at h
 split at h
 ·cases h
 ·rename_i h1
  split at h
  ·cases h
  ·rename_i h2
   split at h
   ·cases h
   ·rename_i h3
    simp only [not_or, ne_eq, Decidable.not_not, Bool.not_eq_false] at h1 h2
    refine ⟨?_, h1.2.1, h1.2.2, h2.1, h2.2, fun s hs => ?_⟩
    ·have := h1.1
     unfold fO at this
     split at this
     ·assumption
     ·cases this
    ·cases hr : iC o l s with
     | true => rfl
     | false => exact absurd (List.any_eq_true.2 ⟨s, hs, by simp [hr]⟩) h3
theorem xN {o : List UInt8} {l : List RSet} (h : ZoneOk o l) : iS o l = 0 := by
 obtain ⟨h1, h2, h3, h4, h5, h6⟩ := h
 have h7 : l.any (fun s => !iC o l s) = false := by
  rw [List.any_eq_false]
  intro s hs
  simp [h6 s hs]
 unfold iS fO
 simp [h1, h2, h3, h4, h5, h7]
theorem sA {o : List UInt8} {l : List RSet} {s : RSet} (h : iC o l s = true) : bO s.name o = true := by
 simp only [iC, Bool.and_eq_true] at h
 exact h.1.1.1
theorem ZoneOk.may {o : List UInt8} {l : List RSet} (h : ZoneOk o l) {s : RSet} (hs : s ∈ l) : tH s = true := by
 obtain ⟨i, hi, rfl⟩ := List.getElem_of_mem hs
 exact pR h.chk hi
theorem ZoneOk.small {o : List UInt8} {l : List RSet} (h : ZoneOk o l) {s : RSet} (hs : s ∈ l) : X.fold s.name = s.name ∧ (aU s.name).isSome = true :=
 ⟨rX (h.may hs), (kL (sA (h.right s hs))).1⟩
theorem vT {l : List RSet} {n : List UInt8} {k : Int} {s : RSet} (h : kH l n k = some s) : s ∈ l ∧ s.name = fold n ∧ s.kind = k := by
 have h1 := List.mem_of_find?_eq_some h
 have h2 := List.find?_some h
 simp only [DH, Bool.and_eq_true, decide_eq_true_eq] at h2
 exact ⟨h1, h2⟩
theorem ZoneOk.cut {o : List UInt8} {l : List RSet} (h : ZoneOk o l) {n c : List UInt8} (hc : tL o l n = (c, true)) : bO n c = true ∧ c ≠ o ∧ tL o l c = (c, true) := by
 rw [xM h.chk, xK] at hc
 rw [xM h.chk, xK]
 cases hf : l.find? (dO o n) with
 | none => rw [hf] at hc; cases hc
 | some s =>
  rw [hf] at hc
  simp only [Prod.mk.injEq, and_true] at hc
  subst hc
  obtain ⟨h1, la, lb, h2, h3⟩ := List.find?_eq_some_iff_append.1 hf
  have hs : s ∈ l := by rw [h2]; simp
  have h1' := h1
  simp only [dO, Bool.and_eq_true, decide_eq_true_eq] at h1'
  refine ⟨h1'.2, h1'.1.2, ?_⟩
  have : l.find? (dO o s.name) = some s := by
   rw [List.find?_eq_some_iff_append]
   refine ⟨?_, la, lb, h2, fun t ht => ?_⟩
   ·simp only [dO, Bool.and_eq_true, decide_eq_true_eq]
    exact ⟨h1'.1, oG (h.small hs).2⟩
   ·have hn := h3 t ht
    cases hq : dO o s.name t with
    | false => rfl
    | true =>
     simp only [dO, Bool.and_eq_true, decide_eq_true_eq] at hq
     have : dO o n t = true := by
      simp only [dO, Bool.and_eq_true, decide_eq_true_eq]
      exact ⟨hq.1, rZ h1'.2 hq.2⟩
     rw [this] at hn
     exact hn
  rw [this]
set_option maxHeartbeats 3000000 in
theorem zJ (u v : Value) (a b : List (List UInt8)) (w : World) (hu : Sl 1 w u (aI a)) (hv : Sl 1 w v (aI b)) : Calls Tryz.prog 110 #[u, v] w (bS w (.bool (decide (a = b)))) := by
 have hal := hu.le
 have ha := bA a
 have hb := bA b
 go_enter Tryz.func110, Tryz.ntmps110
 (repeat' first | ((with_reducible refine aJ ?_); go_step) | ((with_reducible refine aG ?_); first | refine gE ?_ | (refine aK ?_ ?_ <;> intro hc)) | fail)
 ·have hne := ‹(!decide (((aI a).length : Int) = ((aI b).length : Int))) = true›
  go_ret
  refine ⟨?_, Ext.refl _⟩
  have : a ≠ b := by rintro rfl; simp at hne
  simp [this]
 ·have hne := ‹(!decide (((aI a).length : Int) = ((aI b).length : Int))) = false›
  have hlen : a.length = b.length := by simp at hne; omega
  go_loopw [5, 13] (fun _ i wr => ∃ k : Nat, k ≤ a.length ∧ i = .int .i64 k ∧ Ext w wr ∧ a.take k = b.take k) (fun _ i _ => a.length - (intOf i).toNat)
  case atStart => exact ⟨0, Nat.zero_le _, rfl, Ext.refl _, rfl⟩
  case round =>
   obtain ⟨k, hk, rfl, hx, hall⟩ := hrel
   by_cases hlt : k < a.length
   ·have hlt2 : k < b.length := by omega
    have h1 := (hu.ext hx).elem (fY hlt)
    have h2 := (hv.ext hx).elem (fY hlt2)
    have hu2 := hu.ext hx
    have hv2 := hv.ext hx
    refine_lift CH ?_; intro _ _ _ _ _ _
    refine cN (S := Ext wr) (by decide +kernel) ?_
    intro w2 x2 _
    refine tk 0 ?_; refine aA ?_; refine tk 1 ?_; refine aA ?_; refine tk 2 ?_; refine aA ?_; refine tk 3 ?_; refine aA ?_; refine tk 4 ?_; refine aA ?_; refine tk 5 ?_; refine aA ?_; refine tk 6 ?_; refine aA ?_; refine tk 7 ?_; refine aA ?_; refine tk 8 ?_; refine aA ?_
    refine cK (by decide +kernel) ?_
    by_cases he : a[k] = b[k]
    ·have e1 : decide (a[k] = b[k]) = true := decide_eq_true he
     simp only [e1, Bool.not_true]
     refine_lift cI ?_
     exact ⟨⟨k + 1, by omega, by go_num, by exact eN, qO hall hlt hlt2 he⟩, by simp [intOf]; omega⟩
    ·have e1 : decide (a[k] = b[k]) = false := decide_eq_false he
     simp only [e1, Bool.not_false]
     refine_lift cI ?_
     go_ret
     refine ⟨?_, by exact eN⟩
     simp [xC hlt hlt2 he]
   ·have hk2 : k = a.length := by omega
    subst hk2
    refine_lift wN fun _ => ?_
    go_ret
    refine ⟨?_, by exact eN⟩
    rw [List.take_length, hlen, List.take_length] at hall
    simp [hall]
set_option maxHeartbeats 3000000 in
theorem mV (n t : List UInt8) (w : World) : Calls Tryz.prog 62 #[aF n, aF t] w (bS w (.bool (bO n t))) := by
 go_enter Tryz.func62, Tryz.ntmps62
 refine_lift eJ fun _ _ => ?_
 refine aO (enters_of Tryz.func109 rfl rfl) rfl rfl (BY n _) ?_
 intro r1 w1 x1 h1
 cases ha : bT n with
 | none =>
  rw [ha] at h1
  obtain ⟨s1, rfl⟩ := h1
  refine_lift eJ fun _ _ => ?_
  refine aO (enters_of Tryz.func109 rfl rfl) rfl rfl (BY t _) ?_
  intro r2 w2 x2 h2
  obtain ⟨s2, b2, rfl⟩ : ∃ s b, r2 = .tuple #[s, .bool b] := by
   cases hb : bT t with
   | none => rw [hb] at h2; obtain ⟨s, rfl⟩ := h2; exact ⟨s, _, rfl⟩
   | some y => rw [hb] at h2; obtain ⟨s, rfl, _⟩ := h2; exact ⟨s, _, rfl⟩
  refine_lift cI ?_
  go_ret
  exact ⟨by simp [bO, ha], x1.trans x2⟩
 | some a =>
  rw [ha] at h1
  obtain ⟨s1, rfl, hs1, hl1⟩ := h1
  refine_lift eJ fun _ _ => ?_
  refine aO (enters_of Tryz.func109 rfl rfl) rfl rfl (BY t _) ?_
  intro r2 w2 x2 h2
  cases hb : bT t with
  | none =>
   rw [hb] at h2
   obtain ⟨s2, rfl⟩ := h2
   refine_lift cI ?_
   go_ret
   exact ⟨by simp [bO, ha, hb], x1.trans x2⟩
  | some b =>
   rw [hb] at h2
   obtain ⟨s2, rfl, hs2, hl2⟩ := h2
   have hs1 := hs1.ext x2
   have tl1 := bA a
   have tl2 := bA b
   refine_lift DP (fun hc => ?_) (fun _ _ hc => ?_)
   ·have hle : b.length ≤ a.length := by omega
    have hcut := hs1.cut (m := 0) (n := (aI b).length) (Nat.zero_le _) (by omega)
    rw [List.drop_zero] at hcut
    have hcut : Sl 1 w2 (cC s1 1 0 (aI b).length) (aI (a.take b.length)) := by
     rw [tl2] at hcut ⊢
     simpa [aI, List.map_take] using hcut
    refine aB (enters_of Tryz.func110 rfl rfl) rfl rfl (zJ _ _ _ _ _ hcut hs2) ?_; intro w3 x3; refine aA ?_
    refine_lift cI ?_
    go_ret
    exact ⟨by rw [iI ha hb]; rfl, (x1.trans x2).trans x3⟩
   ·go_ret
    refine ⟨?_, x1.trans x2⟩
    have hlt : a.length < b.length := by omega
    rw [iI ha hb, decide_eq_false (fun h => by have := mB h; omega)]
    rfl
def oT {α : Type} (p : α → Bool) (l : List α) : Int := match l.findIdx? p with
 | some i => (i : Int)
 | none => -1
theorem pU {α : Type} (p : α → Bool) (l : List α) : (∃ (k : Nat) (hk : k < l.length), oT p l = k ∧ p l[k] = true ∧ l.find? p = some l[k]) ∨ (oT p l = -1 ∧ l.any p = false ∧ l.find? p = none) := by
 unfold oT
 cases h : l.findIdx? p with
 | none =>
  rw [List.findIdx?_eq_none_iff] at h
  refine .inr ⟨rfl, ?_, ?_⟩
  ·rw [List.any_eq_false]; intro x hx; simp [h x hx]
  ·rw [List.find?_eq_none]; intro x hx; simp [h x hx]
 | some k =>
  rw [List.findIdx?_eq_some_iff_getElem] at h
  obtain ⟨hk, hp, hj⟩ := h
  refine .inl ⟨k, hk, rfl, hp, ?_⟩
  rw [List.find?_eq_some_iff_getElem]
  exact ⟨hp, k, hk, rfl, fun j hjk => by simpa using hj j hjk⟩
theorem xO {α : Type} {p : α → Bool} {l : List α} {k : Nat} (hk : k < l.length) (ha : (l.take k).any p = false) (hp : p l[k] = true) : oT p l = k := by
 have : l.findIdx? p = some k := by
  rw [List.findIdx?_eq_some_iff_getElem]
  refine ⟨hk, hp, fun j hj => ?_⟩
  rw [List.any_eq_false] at ha
  exact ha l[j] (by rw [List.mem_take_iff_getElem]; exact ⟨j, by omega, rfl⟩)
 rw [oT, this]
theorem xP {α : Type} {p : α → Bool} {l : List α} (ha : l.any p = false) : oT p l = -1 := by
 have : l.findIdx? p = none := by
  rw [List.findIdx?_eq_none_iff]
  intro x hx
  rw [List.any_eq_false] at ha
  simpa using ha x hx
 rw [oT, this]
theorem zK {α : Type} (p : α → Bool) (l : List α) : decide (0 ≤ oT p l) = l.any p := by
 rcases pU p l with ⟨k, hk, e, hp, _⟩ | ⟨e, h, _⟩
 ·rw [e, BI hk hp]; simp
 ·rw [e, h]; rfl
def SetFn (w : World) (f : FuncId) (caps : Array Value) (l : List RSet) (p : RSet → Bool) : Prop :=
 ∀ s ∈ l, ∀ x w', Ext w w' → Sl 1 w' x (aI s.data) → Calls Tryz.prog f ([Value.agg #[aF s.name, .int .i64 s.kind, .int .i64 s.ttl, x]].toArray ++ caps) w' (bS w' (.bool (p s)))
theorem SetFn.ext {w w1 : World} {f : FuncId} {caps : Array Value} {l : List RSet} {p : RSet → Bool} (h : SetFn w f caps l p) (hx : Ext w w1) : SetFn w1 f caps l p :=
 fun s hs x w' hx' hd => h s hs x w' (hx.trans hx') hd
def Rule (w : World) (f : Value) (b : Bool) : Prop := ∃ (g : FuncId) (caps : Array Value), f = .func (.func g) #[] caps ∧ Enters Tryz.prog g ∧ ∀ w', Ext w w' → Calls Tryz.prog g (([] : List Value).toArray ++ caps) w' (bS w' (.bool b))
theorem Rule.ext {w w' : World} {f : Value} {b : Bool} (h : Rule w f b) (hx : Ext w w') : Rule w' f b := by
 obtain ⟨g, caps, h1, h2, h3⟩ := h
 exact ⟨g, caps, h1, h2, fun w2 hx2 => h3 w2 (hx.trans hx2)⟩
def CP : RSet := ⟨[], 0, 0, []⟩
theorem BJ {s : RSet} (h : tH s = true) {i : Nat} (hi : i < s.data.length) : bF ⟨s.name, s.kind, s.ttl, s.data[i]⟩ = 0 := by
 simp only [tH, Bool.and_eq_true, List.all_eq_true] at h
 have := h.2 i (by simpa using hi)
 simp only [AK, Bool.not_eq_true', Bool.or_eq_false_iff, decide_eq_false_iff_not, ne_eq, Decidable.not_not] at this
 have e : s.data.getD i [] = s.data[i] := by simp [hi]
 rw [e] at this
 exact this.1
theorem sB {r : Rec} (h : bF r = 0) : r.data.length ≤ 4000 ∧ mM r.kind r.data = true := by
 unfold bF at h
 split at h
 ·omega
 ·split at h
  ·omega
  ·rename_i h2
   simp only [not_or, Bool.not_eq_false] at h2
   exact ⟨by omega, h2.2.2.2.2.2⟩
def zR : SoaR := ⟨[], [], 0, 0, 0, 0, 0⟩
def oH (o : List UInt8) (l : List RSet) : List UInt8 := ((kH l o 6).getD CP).data.getD 0 []
def eQ (o : List UInt8) (l : List RSet) : SoaR := if iS o l = 0 then dA (oH o l) else zR
theorem tN {d : List UInt8} (h : (bV d).isSome = true) : bV d = some (dA d) := by
 unfold bV at *
 simp only at *
 split at h
 ·rename_i h1; rw [if_pos h1]
 ·cases h
theorem ZoneOk.soaSet {o : List UInt8} {l : List RSet} (h : ZoneOk o l) : ∃ s, kH l o 6 = some s ∧ s ∈ l ∧ s.name = o ∧ s.kind = 6 ∧ s.data = [oH o l] ∧ bV (oH o l) = some (dA (oH o l)) ∧ (oH o l).length ≤ 4000 := by
 obtain ⟨s, hs⟩ := Option.isSome_iff_exists.1 h.soa
 obtain ⟨h1, h2, h3⟩ := vT hs
 have hr := h.right s h1
 have hm := h.may h1
 have hl : s.data.length = 1 := by
  simp only [iC, Bool.and_eq_true, Bool.not_eq_true', h3] at hr
  have := hr.1.1.2
  simp only [decide_true, Bool.true_and, Bool.or_eq_false_iff, decide_eq_false_iff_not, ne_eq, Decidable.not_not] at this
  exact this.2
 have hd : s.data = [oH o l] := by
  have e : oH o l = s.data.getD 0 [] := by rw [oH, hs]; rfl
  rw [e]
  match s.data, hl with
  | [d], _ => rfl
 have hc := BJ hm (i := 0) (by omega)
 obtain ⟨c1, c2⟩ := sB hc
 have e0 : s.data[0]'(by omega) = oH o l := by simp [hd]
 simp only [e0, h3] at c1 c2
 refine ⟨s, hs, h1, by rw [h2, h.fold], h3, hd, tN ?_, c1⟩
 simpa [mM] using c2
def gB (s : List UInt8) : List (List UInt8) → List (List UInt8)
 | [] => [s]
 | x :: l => if Op.bytesLess x s = true then x :: gB s l else if x = s then x :: l else s :: x :: l
theorem pV (s : List UInt8) : ∀ l : List (List UInt8), (gB s l).length ≤ l.length + 1
 | [] => by simp [gB]
 | x :: l => by
   rw [gB]
   split
   ·have := pV s l; simp; omega
   ·split <;> simp
def bP (r : Rec) : RSet := ⟨fold r.name, r.kind, r.ttl, [r.data]⟩
def eZ (r : Rec) : List RSet → List RSet
 | [] => [bP r]
 | g :: gs => if oE g (bP r) = true then g :: eZ r gs else if oE (bP r) g = true then bP r :: g :: gs else ⟨fold r.name, r.kind, min r.ttl g.ttl, gB r.data g.data⟩ :: gs
def bJ (l : List Rec) : List RSet := l.foldl (fun gs r => eZ r gs) []
theorem mC {l : List Rec} {k : Nat} (h : k < l.length) : bJ (l.take (k + 1)) = eZ l[k] (bJ (l.take k)) := by
 rw [bJ, List.take_add_one, List.getElem?_eq_getElem h, Option.toList_some, List.foldl_append]
 rfl
theorem sC (r : Rec) : ∀ gs : List RSet, (eZ r gs).length ≤ gs.length + 1
 | [] => by simp [eZ]
 | g :: gs => by
   have := sC r gs
   rw [eZ]
   split
   ·simp; omega
   ·split <;> simp
theorem pW (r : Rec) (n : Nat) : ∀ gs : List RSet, (∀ s ∈ gs, s.data.length ≤ n) → ∀ s ∈ eZ r gs, s.data.length ≤ n + 1
 | [], _, s, h => by
   have : s = bP r := by simpa [eZ] using h
   subst this; simp [bP]
 | g :: gs, hn, s, h => by
   have hg := hn g (by simp)
   have hn' : ∀ s ∈ gs, s.data.length ≤ n := fun s hs => hn s (by simp [hs])
   rw [eZ] at h
   split at h
   ·rcases List.mem_cons.1 h with rfl | h
    ·omega
    ·exact pW r n gs hn' s h
   ·split at h
    ·rcases List.mem_cons.1 h with rfl | h
     ·simp [bP]
     ·have := hn s h; omega
    ·rcases List.mem_cons.1 h with rfl | h
     ·have := pV r.data g.data
      show (gB r.data g.data).length ≤ n + 1
      omega
     ·have := hn' s h; omega
theorem fP (l : List Rec) : ∀ k, k ≤ l.length → (bJ (l.take k)).length ≤ k ∧ ∀ s ∈ bJ (l.take k), s.data.length ≤ k
 | 0, _ => by simp [bJ]
 | k + 1, h => by
   obtain ⟨h1, h2⟩ := fP l k (by omega)
   rw [mC (show k < l.length by omega)]
   have := sC (l[k]'(by omega)) (bJ (l.take k))
   exact ⟨by omega, pW _ k _ h2⟩
def jM (l : List Rec) : Int := if l.all oR = false then 1 else if 200 < (bJ l).length then 4 else if (bJ l).any xH = true then 4 else 0
def RefR (B : Nat) (l : List Rec) (r : Value) (w' : World) : Prop := if jM l = 0 then ∃ v, r = .tuple #[v, .int .i64 0] ∧ SetsO B w' v (bJ l) else r = .tuple #[.slice none 0 0, .int .i64 (jM l)]
theorem pX : ∀ {gs : List RSet} {r : Rec} {s : RSet}, lU gs → s ∈ bQ gs r → (s ∈ gs ∧ aR s r = false) ∨ (∃ t ∈ gs, aR t r = true ∧ s = eG t r) ∨ ((∀ t ∈ gs, aR t r = false) ∧ s = ⟨fold r.name, r.kind, r.ttl, [r.data]⟩)
 | [], r, s, _, h => by
   right; right
   exact ⟨by simp, by simpa [bQ] using h⟩
 | a :: l, r, s, hd, h => by
   obtain ⟨p1, p2⟩ := List.pairwise_cons.1 (dI.1 hd)
   by_cases hm : aR a r = true
   ·simp only [bQ, hm, if_true, List.mem_cons] at h
    rcases h with h | h
    ·exact .inr (.inl ⟨a, by simp, hm, h⟩)
    ·refine .inl ⟨by simp [h], ?_⟩
     cases hs : aR s r with
     | false => rfl
     | true =>
      exfalso
      simp only [aR, Bool.and_eq_true, decide_eq_true_eq] at hs hm
      exact p1 s h ⟨by rw [hm.1, hs.1], by rw [hm.2, hs.2]⟩
   ·have hm' : aR a r = false := by simpa using hm
    simp only [bQ, hm', Bool.false_eq_true, if_false, List.mem_cons] at h
    rcases h with rfl | h
    ·exact .inl ⟨by simp, hm'⟩
    ·rcases pX (dI.2 p2) h with ⟨h1, h2⟩ | ⟨t, h1, h2, h3⟩ | ⟨h1, h2⟩
     ·exact .inl ⟨by simp [h1], h2⟩
     ·exact .inr (.inl ⟨t, by simp [h1], h2, h3⟩)
     ·refine .inr (.inr ⟨?_, h2⟩)
      intro t ht
      rcases List.mem_cons.1 ht with rfl | ht
      ·exact hm'
      ·exact h1 t ht
structure Ch (L : List Rec) (s : RSet) : Prop where
 dat : ∀ d, d ∈ s.data ↔ ∃ r ∈ L, aR s r = true ∧ r.data = d
 ttl : ∃ r ∈ L, aR s r = true ∧ r.ttl = s.ttl
 low : ∀ r ∈ L, aR s r = true → s.ttl ≤ r.ttl
theorem Ch.miss {L : List Rec} {s : RSet} {r : Rec} (h : Ch L s) (hm : aR s r = false) : Ch (L ++ [r]) s where
 dat d := by
  rw [h.dat]
  constructor
  ·rintro ⟨q, h1, h2⟩; exact ⟨q, by simp [h1], h2⟩
  ·rintro ⟨q, h1, h2, h3⟩
   rcases List.mem_append.1 h1 with h1 | h1
   ·exact ⟨q, h1, h2, h3⟩
   ·obtain rfl := List.mem_singleton.1 h1
    rw [hm] at h2; cases h2
 ttl := let ⟨q, h1, h2⟩ := h.ttl; ⟨q, by simp [h1], h2⟩
 low q h1 h2 := by
  rcases List.mem_append.1 h1 with h1 | h1
  ·exact h.low q h1 h2
  ·obtain rfl := List.mem_singleton.1 h1
   rw [hm] at h2; cases h2
theorem Ch.bump {L : List Rec} {s : RSet} {r : Rec} (h : Ch L s) (hm : aR s r = true) : Ch (L ++ [r]) (X.eG s r) where
 dat d := by
  show d ∈ s.data ++ [r.data] ↔ ∃ q ∈ L ++ [r], aR s q = true ∧ q.data = d
  rw [List.mem_append, h.dat, List.mem_singleton]
  constructor
  ·rintro (⟨q, h1, h2⟩ | rfl)
   ·exact ⟨q, by simp [h1], h2⟩
   ·exact ⟨r, by simp, hm, rfl⟩
  ·rintro ⟨q, h1, h2, h3⟩
   rcases List.mem_append.1 h1 with h1 | h1
   ·exact .inl ⟨q, h1, h2, h3⟩
   ·obtain rfl := List.mem_singleton.1 h1
    exact .inr h3.symm
 ttl := by
  show ∃ q ∈ L ++ [r], aR s q = true ∧ q.ttl = min s.ttl r.ttl
  obtain ⟨q, h1, h2, h3⟩ := h.ttl
  rcases Int.le_total s.ttl r.ttl with hl | hl
  ·exact ⟨q, by simp [h1], h2, by rw [h3]; omega⟩
  ·exact ⟨r, by simp, hm, by omega⟩
 low q h1 h2 := by
  show min s.ttl r.ttl ≤ q.ttl
  rcases List.mem_append.1 h1 with h1 | h1
  ·have := h.low q h1 h2
   omega
  ·obtain rfl := List.mem_singleton.1 h1
   omega
theorem Ch.new {L : List Rec} {r : Rec} (h : ∀ q ∈ L, aR ⟨fold r.name, r.kind, r.ttl, [r.data]⟩ q = false) : Ch (L ++ [r]) ⟨fold r.name, r.kind, r.ttl, [r.data]⟩ where
 dat d := by
  rw [List.mem_singleton]
  constructor
  ·rintro rfl; exact ⟨r, by simp, by simp [aR], rfl⟩
  ·rintro ⟨q, h1, h2, h3⟩
   rcases List.mem_append.1 h1 with h1 | h1
   ·rw [h q h1] at h2; cases h2
   ·obtain rfl := List.mem_singleton.1 h1
    exact h3.symm
 ttl := ⟨r, by simp, by simp [aR], rfl⟩
 low q h1 h2 := by
  rcases List.mem_append.1 h1 with h1 | h1
  ·rw [h q h1] at h2; cases h2
  ·obtain rfl := List.mem_singleton.1 h1
   exact Int.le_refl _
theorem pY (l : List Rec) : ∀ k, k ≤ l.length → ∀ s ∈ bG (l.take k), Ch (l.take k) s
 | 0, _, s, h => by simp [bG] at h
 | k + 1, hk, s, h => by
   have hlt : k < l.length := by omega
   have e : l.take (k + 1) = l.take k ++ [l[k]] := by simp
   rw [iA hlt] at h
   rw [e]
   have ih := pY l k (by omega)
   rcases pX (eO _) h with ⟨h1, h2⟩ | ⟨t, h1, h2, rfl⟩ | ⟨h1, rfl⟩
   ·exact (ih s h1).miss h2
   ·exact (ih t h1).bump h2
   ·refine Ch.new fun q hq => ?_
    obtain ⟨t, ht, hm, _⟩ := oD hq
    have := h1 t ht
    cases hx : aR ⟨fold l[k].name, l[k].kind, l[k].ttl, [l[k].data]⟩ q with
    | false => rfl
    | true =>
     exfalso
     simp only [aR, Bool.and_eq_true, decide_eq_true_eq] at hx hm
     have h5 : aR t l[k] = true := by
      simp only [aR, Bool.and_eq_true, decide_eq_true_eq]
      exact ⟨by rw [hm.1, hx.1], by rw [hm.2, hx.2]⟩
     rw [this] at h5; cases h5
theorem Ch.norm {L : List Rec} {s : RSet} (h : Ch L s) : Ch L (X.gA s) where
 dat d := by
  show d ∈ CM s.data ↔ ∃ r ∈ L, aR s r = true ∧ r.data = d
  rw [zG, h.dat]
 ttl := h.ttl
 low := h.low
theorem pZ {l : List Rec} {s : RSet} (h : s ∈ cH l) : Ch l s ∧ s.data.Pairwise (· < ·) := by
 obtain ⟨u, hu, rfl⟩ := List.mem_map.1 h
 have := pY l l.length (Nat.le_refl _)
 rw [List.take_length] at this
 exact ⟨(this u hu).norm, tI _⟩
theorem Ch.uniq {L : List Rec} {s t : RSet} (h : Ch L s) (k : Ch L t) (hs : s.data.Pairwise (· < ·)) (ht : t.data.Pairwise (· < ·)) (hn : s.name = t.name) (hk : s.kind = t.kind) : s = t := by
 have hm : ∀ r, aR s r = aR t r := fun r => by rw [aR, aR, hn, hk]
 have hd : s.data = t.data := vL hs ht fun d => by
  rw [h.dat, k.dat]
  simp only [hm]
 have ha : s.ttl = t.ttl := by
  obtain ⟨q, h1, h2, h3⟩ := h.ttl
  obtain ⟨q', k1, k2, k3⟩ := k.ttl
  have e1 := k.low q h1 (by rw [← hm]; exact h2)
  have e2 := h.low q' k1 (by rw [hm]; exact k2)
  omega
 cases s; cases t
 simp_all
def gS (s t : RSet) : Int := cJ s.name t.name s.kind t.kind
theorem oI : TPO gS := eX.comap fun s : RSet => (s.name, s.kind)
def SO (gs : List RSet) : Prop := gs.Pairwise fun s t => gS s t < 0
def CQ (r : Rec) (t : RSet) : RSet := ⟨fold r.name, r.kind, min r.ttl t.ttl, gB r.data t.data⟩
theorem iJ (a b : RSet) : oE a b = decide (gS a b < 0) := vR a b
theorem cG {s : RSet} {r : Rec} : aR s r = true ↔ s.name = fold r.name ∧ s.kind = r.kind := by simp [aR]
theorem kM {s t u : RSet} (hn : s.name = t.name) (hk : s.kind = t.kind) : gS u s = gS u t ∧ gS s u = gS t u := by
 unfold gS; rw [hn, hk]; exact ⟨rfl, rfl⟩
theorem kN {s : RSet} {r : Rec} (h : gS s (bP r) ≠ 0) : aR s r = false := by
 cases hm : aR s r with
 | false => rfl
 | true =>
  obtain ⟨h1, h2⟩ := cG.1 hm
  exact absurd (by rw [(kM (t := bP r) h1 h2).2]; exact oI.refl _) h
theorem sD {r : Rec} (hr : Small (fold r.name)) : ∀ {gs : List RSet} {s : RSet}, SO gs → (∀ g ∈ gs, Small g.name) → s ∈ eZ r gs →
 (s ∈ gs ∧ aR s r = false) ∨ (∃ t ∈ gs, aR t r = true ∧ s = CQ r t) ∨ ((∀ t ∈ gs, aR t r = false) ∧ s = bP r)
 | [], s, _, _, h => by
   right; right
   exact ⟨by simp, by simpa [eZ] using h⟩
 | g :: gs, s, hso, hsm, h => by
   obtain ⟨p1, p2⟩ := List.pairwise_cons.1 hso
   have hg := hsm g (by simp)
   rw [eZ, iJ, iJ] at h
   by_cases h1 : gS g (bP r) < 0
   ·rw [if_pos (decide_eq_true h1)] at h
    have m1 : aR g r = false := kN (by omega)
    rcases List.mem_cons.1 h with rfl | h
    ·exact .inl ⟨by simp, m1⟩
    ·rcases sD hr p2 (fun x hx => hsm x (by simp [hx])) h with ⟨a, b⟩ | ⟨t, a, b, c⟩ | ⟨a, b⟩
     ·exact .inl ⟨by simp [a], b⟩
     ·exact .inr (.inl ⟨t, by simp [a], b, c⟩)
     ·refine .inr (.inr ⟨fun t ht => ?_, b⟩)
      rcases List.mem_cons.1 ht with rfl | ht
      ·exact m1
      ·exact a t ht
   ·rw [if_neg (by simpa using h1)] at h
    by_cases h2 : gS (bP r) g < 0
    ·rw [if_pos (decide_eq_true h2)] at h
     have m1 : aR g r = false := kN (by have := oI.anti g (bP r); omega)
     have m2 : ∀ t ∈ gs, aR t r = false := fun t ht => kN (by
      have := oI.ltt h2 (p1 t ht)
      have := oI.anti t (bP r); omega)
     rcases List.mem_cons.1 h with rfl | h
     ·refine .inr (.inr ⟨fun t ht => ?_, rfl⟩)
      rcases List.mem_cons.1 ht with rfl | ht
      ·exact m1
      ·exact m2 t ht
     ·rcases List.mem_cons.1 h with rfl | h
      ·exact .inl ⟨by simp, m1⟩
      ·exact .inl ⟨by simp [h], m2 s h⟩
    ·rw [if_neg (by simpa using h2)] at h
     have h0 : gS g (bP r) = 0 := by have := oI.anti g (bP r); omega
     obtain ⟨e1, e2⟩ := fH hg hr h0
     have mg : aR g r = true := cG.2 ⟨e1, e2⟩
     rcases List.mem_cons.1 h with rfl | h
     ·exact .inr (.inl ⟨g, by simp, mg, rfl⟩)
     ·refine .inl ⟨by simp [h], kN ?_⟩
      have := p1 s h
      rw [(kM (t := bP r) e1 e2).2] at this
      have := oI.anti s (bP r); omega
theorem sE {r : Rec} : ∀ {gs : List RSet} {s : RSet}, s ∈ eZ r gs → s ∈ gs ∨ (s.name = fold r.name ∧ s.kind = r.kind)
 | [], s, h => by
   right
   have : s = bP r := by simpa [eZ] using h
   subst this; exact ⟨rfl, rfl⟩
 | g :: gs, s, h => by
   rw [eZ] at h
   split at h
   ·rcases List.mem_cons.1 h with rfl | h
    ·exact .inl (by simp)
    ·rcases sE h with h | h
     ·exact .inl (by simp [h])
     ·exact .inr h
   ·split at h
    ·rcases List.mem_cons.1 h with rfl | h
     ·exact .inr ⟨rfl, rfl⟩
     ·exact .inl h
    ·rcases List.mem_cons.1 h with rfl | h
     ·exact .inr ⟨rfl, rfl⟩
     ·exact .inl (by simp [h])
theorem uL {r : Rec} (hr : Small (fold r.name)) : ∀ {gs : List RSet}, SO gs → (∀ g ∈ gs, Small g.name) → SO (eZ r gs)
 | [], _, _ => by simp [eZ, SO]
 | g :: gs, hso, hsm => by
   obtain ⟨p1, p2⟩ := List.pairwise_cons.1 hso
   have hg := hsm g (by simp)
   rw [eZ, iJ, iJ]
   by_cases h1 : gS g (bP r) < 0
   ·rw [if_pos (decide_eq_true h1)]
    refine List.pairwise_cons.2 ⟨fun s hs => ?_, uL hr p2 fun x hx => hsm x (by simp [hx])⟩
    rcases sE hs with h | ⟨a, b⟩
    ·exact p1 s h
    ·rw [(kM (t := bP r) a b).1]; exact h1
   ·rw [if_neg (by simpa using h1)]
    by_cases h2 : gS (bP r) g < 0
    ·rw [if_pos (decide_eq_true h2)]
     refine List.pairwise_cons.2 ⟨fun s hs => ?_, hso⟩
     rcases List.mem_cons.1 hs with rfl | hs
     ·exact h2
     ·exact oI.ltt h2 (p1 s hs)
    ·rw [if_neg (by simpa using h2)]
     have h0 : gS g (bP r) = 0 := by have := oI.anti g (bP r); omega
     obtain ⟨e1, e2⟩ := fH hg hr h0
     refine List.pairwise_cons.2 ⟨fun s hs => ?_, p2⟩
     have := p1 s hs
     rw [(kM (s := g) (t := ⟨fold r.name, r.kind, min r.ttl g.ttl, gB r.data g.data⟩) e1 e2).2] at this
     exact this
theorem gT {s : List UInt8} : ∀ {l : List (List UInt8)}, l.Pairwise (· < ·) → (gB s l).Pairwise (· < ·) ∧ ∀ x, x ∈ gB s l ↔ x = s ∨ x ∈ l
 | [], _ => by simp [gB]
 | y :: l, h => by
   obtain ⟨p1, p2⟩ := List.pairwise_cons.1 h
   obtain ⟨i1, i2⟩ := gT (s := s) p2
   rw [gB]
   by_cases h1 : y < s
   ·rw [if_pos (uG.2 h1)]
    refine ⟨List.pairwise_cons.2 ⟨fun x hx => ?_, i1⟩, fun x => ?_⟩
    ·rcases (i2 x).1 hx with rfl | hx
     ·exact h1
     ·exact p1 x hx
    ·simp only [List.mem_cons, i2]; exact or_left_comm
   ·rw [if_neg (fun hb => h1 (uG.1 hb))]
    by_cases h2 : y = s
    ·rw [if_pos h2]
     subst h2
     exact ⟨h, fun x => by simp⟩
    ·rw [if_neg h2]
     have h3 : s < y := lX (List.not_lt.1 h1) (fun e => h2 e.symm)
     refine ⟨List.pairwise_cons.2 ⟨fun x hx => ?_, h⟩, fun x => by simp⟩
     rcases List.mem_cons.1 hx with rfl | hx
     ·exact h3
     ·exact List.lt_trans h3 (p1 x hx)
theorem qA {r : Rec} (hr : Small (fold r.name)) : ∀ {gs : List RSet}, (∀ g ∈ gs, Small g.name) → ∀ t ∈ gs, ∃ s ∈ eZ r gs, s.name = t.name ∧ s.kind = t.kind
 | [], _, t, h => by simp at h
 | g :: gs, hsm, t, h => by
   have hg := hsm g (by simp)
   rw [eZ, iJ, iJ]
   by_cases h1 : gS g (bP r) < 0
   ·rw [if_pos (decide_eq_true h1)]
    rcases List.mem_cons.1 h with rfl | h
    ·exact ⟨t, by simp, rfl, rfl⟩
    ·obtain ⟨s, a, b⟩ := qA hr (fun x hx => hsm x (by simp [hx])) t h
     exact ⟨s, by simp [a], b⟩
   ·rw [if_neg (by simpa using h1)]
    by_cases h2 : gS (bP r) g < 0
    ·rw [if_pos (decide_eq_true h2)]
     exact ⟨t, List.mem_cons_of_mem _ h, rfl, rfl⟩
    ·rw [if_neg (by simpa using h2)]
     have h0 : gS g (bP r) = 0 := by have := oI.anti g (bP r); omega
     obtain ⟨e1, e2⟩ := fH hg hr h0
     rcases List.mem_cons.1 h with rfl | h
     ·exact ⟨_, List.mem_cons_self, e1.symm, e2.symm⟩
     ·exact ⟨t, by simp [h], rfl, rfl⟩
theorem sF (r : Rec) : ∀ gs : List RSet, ∃ s ∈ eZ r gs, s.name = fold r.name ∧ s.kind = r.kind
 | [] => ⟨bP r, by simp [eZ], rfl, rfl⟩
 | g :: gs => by
   obtain ⟨s, a, b⟩ := sF r gs
   rw [eZ]
   split
   ·exact ⟨s, by simp [a], b⟩
   ·split
    ·exact ⟨bP r, by simp, rfl, rfl⟩
    ·exact ⟨_, List.mem_cons_self, rfl, rfl⟩
theorem Ch.newS {L : List Rec} {t : RSet} {r : Rec} (h : Ch L t) (hm : aR t r = true) (ht : t.data.Pairwise (· < ·)) : Ch (L ++ [r]) (X.CQ r t) := by
 have hb := h.bump hm
 obtain ⟨e1, e2⟩ := cG.1 hm
 have hk : ∀ q, aR (X.CQ r t) q = aR (X.eG t r) q := fun q => by simp only [aR, X.CQ, X.eG, e1, e2]; rfl
 refine ⟨fun d => ?_, ?_, fun q hq hmq => ?_⟩
 ·show d ∈ gB r.data t.data ↔ _
  rw [(gT ht).2]
  have := hb.dat d
  simp only [hk]
  rw [← this]
  show _ ↔ d ∈ t.data ++ [r.data]
  simp [or_comm]
 ·obtain ⟨q, a, b, c⟩ := hb.ttl
  exact ⟨q, a, by rw [hk]; exact b, by rw [c]; show min t.ttl r.ttl = min r.ttl t.ttl; omega⟩
 ·have := hb.low q hq (by rw [← hk]; exact hmq)
  show min r.ttl t.ttl ≤ q.ttl
  have h2 : min t.ttl r.ttl ≤ q.ttl := this
  omega
theorem xQ {r : Rec} (h : oR r = true) : Small (fold r.name) := by
 obtain ⟨ls, hl⟩ := Option.isSome_iff_exists.1 (eP (r := r) (n := []) (by simpa [oR] using h)).1
 exact ⟨r.name, ls, hl, rfl⟩
theorem oJ {l : List Rec} (hok : l.all oR = true) : ∀ k, k ≤ l.length → SO (bJ (l.take k)) ∧ (∀ s ∈ bJ (l.take k), Ch (l.take k) s ∧ s.data.Pairwise (· < ·) ∧ Small s.name) ∧ ∀ q ∈ l.take k, ∃ s ∈ bJ (l.take k), aR s q = true
 | 0, _ => by simp [bJ, SO]
 | k + 1, h => by
   have hlt : k < l.length := by omega
   obtain ⟨i1, i2, i3⟩ := oJ hok k (by omega)
   have hr := xQ (List.all_eq_true.1 hok _ (List.getElem_mem hlt))
   have hsm : ∀ g ∈ bJ (l.take k), Small g.name := fun g hg => (i2 g hg).2.2
   have e : l.take (k + 1) = l.take k ++ [l[k]] := by simp
   rw [mC hlt, e]
   refine ⟨uL hr i1 hsm, fun s hs => ?_, fun q hq => ?_⟩
   ·rcases sD hr i1 hsm hs with ⟨a, b⟩ | ⟨t, a, b, rfl⟩ | ⟨a, rfl⟩
    ·exact ⟨(i2 s a).1.miss b, (i2 s a).2⟩
    ·exact ⟨(i2 t a).1.newS b (i2 t a).2.1, (gT (i2 t a).2.1).1, hr⟩
    ·refine ⟨Ch.new fun q hq => ?_, by simp [bP], hr⟩
     obtain ⟨t, ht, hm⟩ := i3 q hq
     cases hx : aR ⟨fold l[k].name, l[k].kind, l[k].ttl, [l[k].data]⟩ q with
     | false => rfl
     | true =>
      exfalso
      obtain ⟨x1, x2⟩ := cG.1 hx
      obtain ⟨y1, y2⟩ := cG.1 hm
      have h5 : aR t l[k] = true := cG.2 ⟨y1.trans x1.symm, y2.trans x2.symm⟩
      rw [a t ht] at h5; cases h5
   ·rcases List.mem_append.1 hq with hq | hq
    ·obtain ⟨t, ht, hm⟩ := i3 q hq
     obtain ⟨s, a, b, c⟩ := qA hr hsm t ht
     obtain ⟨y1, y2⟩ := cG.1 hm
     exact ⟨s, a, cG.2 ⟨b.trans y1, c.trans y2⟩⟩
    ·obtain rfl := List.mem_singleton.1 hq
     obtain ⟨s, a, b, c⟩ := sF l[k] (bJ (l.take k))
     exact ⟨s, a, cG.2 ⟨b, c⟩⟩
theorem jN {l : List Rec} (hok : l.all oR = true) : SO (bJ l) ∧ (∀ s ∈ bJ l, Ch l s ∧ s.data.Pairwise (· < ·) ∧ Small s.name) ∧ ∀ q ∈ l, ∃ s ∈ bJ l, aR s q = true := by
 have := oJ hok l.length (Nat.le_refl _)
 rwa [List.take_length] at this
theorem mD {l : List Rec} (hok : l.all oR = true) : (bJ l).Perm (cH l) := by
 obtain ⟨i1, i2, i3⟩ := jN hok
 have n1 : (cH l).Nodup := (kK _).imp fun h e => by subst e; exact h ⟨rfl, rfl⟩
 have n0 : (bJ l).Nodup := i1.imp fun h e => by subst e; have := oI.refl ‹RSet›; omega
 refine (List.perm_ext_iff_of_nodup n0 n1).2 fun s => ⟨fun hs => ?_, fun hs => ?_⟩
 ·obtain ⟨hc, hst, _⟩ := i2 s hs
  obtain ⟨q, h1, h2, _⟩ := hc.ttl
  obtain ⟨t, ht, hm, _⟩ := oD h1
  have hg : gA t ∈ cH l := List.mem_map_of_mem ht
  obtain ⟨hc', hst'⟩ := pZ hg
  obtain ⟨x1, x2⟩ := cG.1 h2
  obtain ⟨y1, y2⟩ := cG.1 hm
  have e := hc.uniq hc' hst hst' (x1.trans y1.symm) (x2.trans y2.symm)
  rw [e]; exact hg
 ·obtain ⟨hc, hst⟩ := pZ hs
  obtain ⟨q, h1, h2, _⟩ := hc.ttl
  obtain ⟨t, ht, hm⟩ := i3 q h1
  obtain ⟨hc', hst', _⟩ := i2 t ht
  obtain ⟨x1, x2⟩ := cG.1 h2
  obtain ⟨y1, y2⟩ := cG.1 hm
  have e := hc.uniq hc' hst hst' (x1.trans y1.symm) (x2.trans y2.symm)
  rw [e]; exact ht
theorem oU {l : List Rec} (hok : l.all oR = true) : lE (bJ l) := by
 obtain ⟨i1, _, _⟩ := jN hok
 intro i j s t hij hi hj
 obtain ⟨a, rfl⟩ := List.getElem?_eq_some_iff.1 hi
 obtain ⟨b, rfl⟩ := List.getElem?_eq_some_iff.1 hj
 have h := List.pairwise_iff_getElem.1 i1 i j a b hij
 have := oI.anti (bJ l)[j] (bJ l)[i]
 show 0 ≤ gS (bJ l)[j] (bJ l)[i]
 omega
theorem zL {l : List Rec} (hok : l.all oR = true) {out : List RSet} (hp : out.Perm (cH l)) (hs : lE out) : out = bJ l :=
 tK hok hp (mD hok) hs (oU hok)
theorem AL (l : List Rec) : jM l = eH l := by
 unfold jM eH
 cases hok : l.all oR with
 | false => simp
 | true =>
  have hp := mD hok
  have hl := hp.length_eq
  have ha : (bJ l).any xH = (cH l).any xH := by
   cases h : (cH l).any xH with
   | true =>
    obtain ⟨s, h1, h2⟩ := List.any_eq_true.1 h
    exact List.any_eq_true.2 ⟨s, hp.mem_iff.2 h1, h2⟩
   | false =>
    cases h' : (bJ l).any xH with
    | false => rfl
    | true =>
     obtain ⟨s, h1, h2⟩ := List.any_eq_true.1 h'
     rw [List.any_eq_true.2 ⟨s, hp.mem_iff.1 h1, h2⟩] at h; cases h
  rw [ha, hl]
  simp only [Bool.true_eq_false, if_false]
  split <;> split <;> rfl
def uM : List Value := [aF [], .slice none 0 0]
def iT (o : List UInt8) (l : List Rec) : Int := if jM l = 0 then iS (fold o) (bJ l) else jM l
def kO (o : List UInt8) (l : List Rec) : List UInt8 := if iT o l = 0 then fold o else []
def kP (o : List UInt8) (l : List Rec) : List RSet := if iT o l = 0 then bJ l else []
def LoadU (B : Nat) (o : List UInt8) (l : List Rec) (r : Value) (w' : World) : Prop :=
 ∃ v, r = .tuple #[.agg #[aF (kO o l), v], .int .i64 (iT o l)] ∧ SetsO B w' v (kP o l)
theorem LoadU.bad {B : Nat} {o : List UInt8} {l : List Rec} {e : Int} {w' : World} (h : iT o l = e) (he : e ≠ 0) : LoadU B o l (.tuple #[.agg uM.toArray, .int .i64 e]) w' := by
 refine ⟨.slice none 0 0, ?_, ?_⟩
 ·rw [h, kO, if_neg (by rw [h]; exact he)]; rfl
 ·rw [kP, if_neg (by rw [h]; exact he)]; exact SetsO.nil _ _
def xR (B : Nat) (l : List Rec) (r : Value) (w' : World) : Prop := ∃ v, r = .tuple #[v, .int .i64 (jM l)] ∧ (jM l = 0 → SetsO B w' v (bJ l))
theorem RefR.uni {B : Nat} {l : List Rec} {r : Value} {w' : World} (h : RefR B l r w') : xR B l r w' := by
 unfold RefR at h
 split at h
 ·rename_i h0
  obtain ⟨v, rfl, hv⟩ := h
  exact ⟨v, by rw [h0], fun _ => hv⟩
 ·rename_i h0
  exact ⟨_, h, fun h1 => absurd h1 h0⟩
theorem GroupO.uni {B : Nat} {l : List Rec} {r : Value} {w' : World} (h : GroupO B l r w') : xR B l r w' := by
 unfold GroupO at h
 rw [← AL] at h
 split at h
 ·rename_i h0
  obtain ⟨out, v, rfl, hp, hs, hv⟩ := h
  have hok : l.all oR = true := by
   cases hok : l.all oR with
   | true => rfl
   | false => rw [jM, if_pos hok] at h0; cases h0
  have e := zL hok hp hs
  exact ⟨v, by rw [h0], fun _ => by rw [← e]; exact hv⟩
 ·rename_i h0
  exact ⟨_, h, fun h1 => absurd h1 h0⟩
section
variable {P : Program} {ops : Array Oper} {Q : Exit → Act → World → Prop} {w : World} {rest : List Oper} {ts : List Value} {df : List Deferred} {ty : TypeId} {ps : String} {af : Array Edge} {g : Option (Nat × Bool)}
end
structure SetsW (B : Nat) (w : World) (css : List (List Value)) (l : List RSet) : Prop where
 len : css.length = l.length
 at' : ∀ (i : Nat) (s : RSet), l[i]? = some s → ∃ x, css[i]? = some [aF s.name, .int .i64 s.kind, .int .i64 s.ttl, x] ∧ Own B 1 9 w x (aI s.data)
theorem SetsW.sets {B : Nat} {w : World} {css : List (List Value)} {l : List RSet} (h : SetsW B w css l) : SetsC w css l :=
 ⟨h.len, fun i s hi => let ⟨x, a, b⟩ := h.at' i s hi; ⟨x, a, b.sl⟩⟩
theorem SetsW.ext {B : Nat} {w w' : World} {css : List (List Value)} {l : List RSet} (h : SetsW B w css l) (hx : Ext w w') : SetsW B w' css l :=
 ⟨h.len, fun i s hi => let ⟨x, a, b⟩ := h.at' i s hi; ⟨x, a, b.ext hx⟩⟩
theorem SetsW.mv {B B' k' e' : Nat} {w w' : World} {css : List (List Value)} {l : List RSet} {v : Value} {es : List (List Value)} (h : SetsW B w css l) (ho : Own B' k' e' w v es) (he : 9 ≠ e') (hm : Mv v.ownBlock w w') : SetsW B w' css l :=
 ⟨h.len, fun i s hi => let ⟨x, a, b⟩ := h.at' i s hi; ⟨x, a, b.mv hm (b.ne ho he)⟩⟩
theorem SetsW.put {B b t : Nat} {w w' : World} {css : List (List Value)} {l : List RSet} {cs : Array Value} {fz : Nat × Nat} {o : Obj} (h : SetsW B w css l) (hb : w.heap[b]? = some (.cells cs t fz)) (ht : t ≠ 9) (hp : Put w w' b o) : SetsW B w' css l :=
 ⟨h.len, fun i s hi => let ⟨x, a, c⟩ := h.at' i s hi; ⟨x, a, c.mv hp.mv (.inr (c.neBlock hb ht))⟩⟩
theorem SetsW.weaken {B C : Nat} {w : World} {css : List (List Value)} {l : List RSet} (h : SetsW B w css l) (hc : C ≤ B) : SetsW C w css l :=
 ⟨h.len, fun i s hi => let ⟨x, a, b⟩ := h.at' i s hi; ⟨x, a, b.weaken hc⟩⟩
theorem SetsW.append {B : Nat} {w : World} {l m : List RSet} {c d : List (List Value)} (h : SetsW B w c l) (k : SetsW B w d m) : SetsW B w (c ++ d) (l ++ m) := by
 refine ⟨by rw [List.length_append, List.length_append, h.len, k.len], fun i s hi => ?_⟩
 rw [List.getElem?_append] at hi ⊢
 rw [h.len]
 split at hi
 ·rw [if_pos ‹_›]; exact h.at' i s hi
 ·rw [if_neg ‹_›]; exact k.at' _ s hi
theorem SetsW.one {B : Nat} {w : World} {s : RSet} {x : Value} (h : Own B 1 9 w x (aI s.data)) : SetsW B w [[aF s.name, .int .i64 s.kind, .int .i64 s.ttl, x]] [s] :=
 ⟨rfl, fun i t hi => by
  match i, hi with
  | 0, hi => cases hi; exact ⟨x, rfl, h⟩⟩
theorem SetsW.nil (B : Nat) (w : World) : SetsW B w [] [] := ⟨rfl, by simp⟩
theorem SetsW.from' {B C : Nat} {w : World} {css : List (List Value)} {l : List RSet} (h : SetsW B w css l) (hc : C ≤ B) : FromC C css := by
 intro f hf u hu
 obtain ⟨i, hi, rfl⟩ := List.mem_iff_getElem.1 hf
 obtain ⟨x, h1, h2⟩ := h.at' i _ (List.getElem?_eq_getElem (by rw [← h.len]; exact hi))
 rw [List.getElem?_eq_getElem hi] at h1
 rw [Option.some.inj h1] at hu
 exact (FromC.one (h2.from' hc)) _ (List.mem_singleton.2 rfl) u hu
structure SetsV (B : Nat) (w : World) (v : Value) (l : List RSet) : Prop where
 out : ∃ css, Own B 4 59 w v css ∧ SetsW B w css l
theorem SetsV.ext {B : Nat} {w w' : World} {v : Value} {l : List RSet} (h : SetsV B w v l) (hx : Ext w w') : SetsV B w' v l := by
 obtain ⟨css, h1, h2⟩ := h
 exact ⟨css, h1.ext hx, h2.ext hx⟩
theorem SetsV.weaken {B C : Nat} {w : World} {v : Value} {l : List RSet} (h : SetsV B w v l) (hc : C ≤ B) : SetsV C w v l := by
 obtain ⟨css, h1, h2⟩ := h
 exact ⟨css, h1.weaken hc, h2.weaken hc⟩
theorem SetsV.put {B b t : Nat} {w w' : World} {v : Value} {l : List RSet} {cs : Array Value} {fz : Nat × Nat} {o : Obj} (h : SetsV B w v l) (hb : w.heap[b]? = some (.cells cs t fz)) (ht : t ≠ 9) (ht2 : t ≠ 59) (hp : Put w w' b o) : SetsV B w' v l := by
 obtain ⟨css, h1, h2⟩ := h
 exact ⟨css, h1.mv hp.mv (.inr (h1.neBlock hb ht2)), h2.put hb ht hp⟩
theorem SetsV.slf {B : Nat} {w : World} {v : Value} {l : List RSet} (h : SetsV B w v l) : ∃ a n c, v = .slice a n c := by
 obtain ⟨css, h1, h2⟩ := h
 exact h1.sl.slf
def AM (s : SoaR) (n : Int) : SoaR := { s with serial := n }
def zM (o : List UInt8) (l : List RSet) (n : Int) : Int := if iS o l = 0 then (if (AM (eQ o l) n).ok = true then 0 else 1) else iS o l
def DY (o : List UInt8) (l : List RSet) (n : Int) : List UInt8 := (AM (eQ o l) n).data
def kQ (d : List UInt8) (s : RSet) : RSet := if s.kind = 6 then ⟨s.name, s.kind, s.ttl, [d]⟩ else s
def CR (o : List UInt8) (l : List RSet) (n : Int) : List RSet := if zM o l n = 0 then l.map (kQ (DY o l n)) else []
def CS (o : List UInt8) (l : List RSet) (n : Int) : List UInt8 := if zM o l n = 0 then o else []
def RenU (B : Nat) (o : List UInt8) (l : List RSet) (n : Int) (r : Value) (w' : World) : Prop :=
 ∃ v, r = .tuple #[.agg #[aF (CS o l n), v], .int .i64 (zM o l n)] ∧ SetsO B w' v (CR o l n)
theorem RenU.bad {B : Nat} {o : List UInt8} {l : List RSet} {n e : Int} {w' : World} (h : zM o l n = e) (he : e ≠ 0) : RenU B o l n (.tuple #[.agg uM.toArray, .int .i64 e]) w' := by
 refine ⟨.slice none 0 0, ?_, ?_⟩
 ·rw [h, CS, if_neg (by rw [h]; exact he)]; rfl
 ·rw [CR, if_neg (by rw [h]; exact he)]; exact SetsO.nil _ _
theorem ZoneOk.one6 {o : List UInt8} {l : List RSet} (h : ZoneOk o l) {s : RSet} (hs : s ∈ l) (h6 : s.kind = 6) : s.name = o ∧ s.data.length = 1 := by
 have hr := h.right s hs
 simp only [iC, Bool.and_eq_true, Bool.not_eq_true', h6] at hr
 have := hr.1.1.2
 simp only [decide_true, Bool.true_and, Bool.or_eq_false_iff, decide_eq_false_iff_not, ne_eq, Decidable.not_not] at this
 exact this
theorem uN {d : List UInt8} {s : RSet} (h : ¬ s.kind = 6) : kQ d s = s := by rw [kQ, if_neg h]
theorem sG {d : List UInt8} {s : RSet} (h : s.kind = 6) : kQ d s = ⟨s.name, s.kind, s.ttl, [d]⟩ := by rw [kQ, if_pos h]
theorem SetsW.set {B : Nat} {w : World} {css : List (List Value)} {l : List RSet} (h : SetsW B w css l) {i : Nat} {s : RSet} {x : Value} (hx : Own B 1 9 w x (aI s.data)) : SetsW B w (css.set i [aF s.name, .int .i64 s.kind, .int .i64 s.ttl, x]) (l.set i s) := by
 refine ⟨by rw [List.length_set, List.length_set, h.len], fun j t hj => ?_⟩
 by_cases e : i = j
 ·subst e
  have hlt : i < l.length := by have := (List.getElem?_eq_some_iff.1 hj).1; simpa using this
  rw [List.getElem?_set_self hlt] at hj
  cases hj
  exact ⟨x, List.getElem?_set_self (by rw [h.len]; exact hlt), hx⟩
 ·rw [List.getElem?_set_ne e] at hj
  rw [List.getElem?_set_ne e]
  exact h.at' j t hj
structure SetsM (B : Nat) (w0 w : World) (css0 css : List (List Value)) (l : List RSet) (d : List UInt8) (k : Nat) : Prop where
 len : css.length = l.length
 new : ∀ (i : Nat) (s : RSet), l[i]? = some s → i < k → ∃ x, css[i]? = some [aF s.name, .int .i64 s.kind, .int .i64 s.ttl, x] ∧ Own B 1 9 w x (aI (kQ d s).data)
 old : ∀ i, k ≤ i → css[i]? = css0[i]?
theorem SetsM.ext {B : Nat} {w0 w w' : World} {css0 css : List (List Value)} {l : List RSet} {d : List UInt8} {k : Nat} (h : SetsM B w0 w css0 css l d k) (hx : Ext w w') : SetsM B w0 w' css0 css l d k :=
 ⟨h.len, fun i s hi hk => let ⟨x, a, b⟩ := h.new i s hi hk; ⟨x, a, b.ext hx⟩, h.old⟩
theorem SetsM.mv {B : Nat} {w0 w w' : World} {css0 css : List (List Value)} {l : List RSet} {d : List UInt8} {k : Nat} {row : Option Nat} (h : SetsM B w0 w css0 css l d k) (hm : Mv row w w') (hne : ∀ x es, Own B 1 9 w x es → x.ownBlock = none ∨ x.ownBlock ≠ row) : SetsM B w0 w' css0 css l d k :=
 ⟨h.len, fun i s hi hk => let ⟨x, a, b⟩ := h.new i s hi hk; ⟨x, a, b.mv hm (hne x _ b)⟩, h.old⟩
theorem SetsM.step {B : Nat} {w0 w : World} {css0 css : List (List Value)} {l : List RSet} {d : List UInt8} {k : Nat} (h : SetsM B w0 w css0 css l d k) (hk : k < l.length) {y : Value} (hy : Own B 1 9 w y (aI (kQ d l[k]).data)) :
 SetsM B w0 w css0 (css.set k [aF l[k].name, .int .i64 l[k].kind, .int .i64 l[k].ttl, y]) l d (k + 1) := by
 refine ⟨by rw [List.length_set, h.len], fun i s hi hik => ?_, fun i hi => ?_⟩
 ·by_cases e : k = i
  ·subst e
   rw [List.getElem?_eq_getElem hk] at hi
   cases hi
   exact ⟨y, List.getElem?_set_self (by rw [h.len]; exact hk), hy⟩
  ·obtain ⟨x, a, b⟩ := h.new i s hi (by omega)
   exact ⟨x, by rw [List.getElem?_set_ne e]; exact a, b⟩
 ·rw [List.getElem?_set_ne (by omega)]; exact h.old i (by omega)
theorem vU {d : List UInt8} {s : RSet} : (kQ d s).name = s.name ∧ (kQ d s).kind = s.kind ∧ (kQ d s).ttl = s.ttl := by
 unfold kQ; split <;> exact ⟨rfl, rfl, rfl⟩
theorem SetsM.done {B : Nat} {w0 w : World} {css0 css : List (List Value)} {l : List RSet} {d : List UInt8} (h : SetsM B w0 w css0 css l d l.length) : SetsW B w css (l.map (kQ d)) := by
 refine ⟨by rw [List.length_map, h.len], fun i s hi => ?_⟩
 rw [List.getElem?_map] at hi
 cases hq : l[i]? with
 | none => rw [hq] at hi; cases hi
 | some t =>
  rw [hq] at hi
  cases hi
  obtain ⟨x, a, b⟩ := h.new i t hq (List.getElem?_eq_some_iff.1 hq).1
  obtain ⟨e1, e2, e3⟩ := vU (d := d) (s := t)
  exact ⟨x, by rw [e1, e2, e3]; exact a, b⟩
theorem xS {d : List UInt8} {s : SoaR} (h : bV d = some s) : s.ok = true := by
 unfold bV at h
 simp only at h
 split at h
 ·rename_i hh; cases h; exact hh.2.2.2
 ·cases h
theorem ZoneOk.only {o : List UInt8} {l : List RSet} (h : ZoneOk o l) {s : RSet} (hs : s ∈ l) (h6 : s.kind = 6) : s.data = [oH o l] := by
 obtain ⟨t, ht, _, _, _, hd, _⟩ := h.soaSet
 obtain ⟨i, hi, rfl⟩ := List.mem_iff_getElem.1 hs
 have hf := vS h.chk hi
 rw [h6, (h.one6 hs h6).1, ht] at hf
 rw [← Option.some.inj hf]
 exact hd
theorem ZoneOk.back {o d : List UInt8} {l : List RSet} (h : ZoneOk o l) : (l.map (kQ d)).map (kQ (oH o l)) = l := by
 rw [List.map_map]
 conv => rhs; rw [← List.map_id l]
 apply List.map_congr_left
 intro s hs
 simp only [Function.comp, id]
 by_cases h6 : s.kind = 6
 ·rw [sG (d := d) h6, sG (by exact h6)]
  have := h.only hs h6
  cases s
  simp only at this
  rw [this]
 ·rw [uN (d := d) h6, uN h6]
def CT (a b : List Rec) : List Rec := a.filter fun r => !decide (r ∈ b)
structure DeltaR where
 fr : Int
 to : Int
 gone : List Rec
 new : List Rec
 deriving DecidableEq, Inhabited
def CU : DeltaR := ⟨0, 0, [], []⟩
def AN : List Rec → List Rec → Option (List Rec)
 | l, [] => some l
 | l, r :: g => if r ∈ l then AN (l.erase r) g else none
def CV : List Rec → List Rec → Option (List Rec)
 | l, [] => some l
 | l, r :: g => if r ∈ l then none else CV (l ++ [r]) g
def uO (l : List Rec) (d : DeltaR) : Option (List Rec) := (AN l d.gone).bind fun m => CV m d.new
def CW (o : List UInt8) (m : List Rec) (to : Int) : Int :=
 if iT o m = 0 then (if (eQ (kO o m) (kP o m)).serial = to ∧ (fZ (kP o m)).length = m.length ∧ CT m (fZ (kP o m)) = [] then 0 else 2) else iT o m
def jO (o : List UInt8) (l : List RSet) (d : DeltaR) : Int :=
 if iS o l = 0 then (if (eQ o l).serial = d.fr then (match uO (fZ l) d with
  | none => 5
  | some m => CW o m d.to) else 7) else iS o l
def tO (o : List UInt8) (l : List RSet) (d : DeltaR) : List RSet := if jO o l d = 0 then kP o ((uO (fZ l) d).getD []) else []
def sH (o : List UInt8) (l : List RSet) (d : DeltaR) : List UInt8 := if jO o l d = 0 then kO o ((uO (fZ l) d).getD []) else []
theorem Ch.same {L M : List Rec} {s : RSet} (h : Ch L s) (hm : ∀ r, r ∈ L ↔ r ∈ M) : Ch M s where
 dat d := by
  rw [h.dat]
  constructor
  ·rintro ⟨r, h1, h2⟩; exact ⟨r, (hm r).1 h1, h2⟩
  ·rintro ⟨r, h1, h2⟩; exact ⟨r, (hm r).2 h1, h2⟩
 ttl := let ⟨r, h1, h2⟩ := h.ttl; ⟨r, (hm r).1 h1, h2⟩
 low r h1 h2 := h.low r ((hm r).2 h1) h2
set_option maxHeartbeats 3000000 in
theorem sI (v : Value) (l : List Rec) (w : World) (hv : Sl 4 w v (aE l)) (hl : l.length ≤ 1000000) : Calls Tryz.prog 94 #[v] w (uT w fun v' w' => Own w.heap.size 4 64 w' v' (aE l)) := by
 have hlen := aM l
 go_enter Tryz.func94, Tryz.ntmps94
 (repeat' first | ((with_reducible refine aJ ?_); go_step) | ((with_reducible refine aG ?_); first | refine gE ?_ | (refine aK ?_ ?_ <;> intro hc)) | fail)
 ·have hn := ‹uC v = true›
  go_ret
  have : aE l = [] := hv.isNil hn
  refine ⟨_, rfl, Ext.refl _, ?_⟩
  rw [this]
  exact Own.nil _ _ _ _
 ·refine nF (t := 23) (e := 64) (k := 4) (bytes := 48) (by decide +kernel) rfl ?_
  intro v2 w2 x2 s2 o2
  refine aA ?_
  (repeat' first | ((with_reducible refine aJ ?_); go_step) | ((with_reducible refine aG ?_); first | refine gE ?_ | (refine aK ?_ ?_ <;> intro hc)) | fail)
  refine cU (B := w.heap.size) (e := 64) rfl o2 rfl (hv.ext x2) (by intro f hf u hu; obtain ⟨r, _, rfl⟩ := List.mem_map.1 hf; simp only [Rec.cells, List.mem_cons, List.not_mem_nil, or_false] at hu; rcases hu with rfl | rfl | rfl | rfl <;> rfl) x2.size (by simp; omega) ?_
  intro v3 w3 o3 m3 _
  have x3 := o2.mvx m3 x2 (Nat.le_refl _)
  refine aA ?_
  (repeat' first | ((with_reducible refine aJ ?_); go_step) | ((with_reducible refine aG ?_); first | refine gE ?_ | (refine aK ?_ ?_ <;> intro hc)) | fail)
  go_ret
  exact ⟨_, rfl, x3, by simpa using o3⟩
def DZ : List Value := [.int .i64 0, .int .i64 0, .slice none 0 0, .slice none 0 0]
def DelA (d : DeltaR) (r : Value) (w : World) : Prop := ∃ g n, r = .agg #[.int .i64 d.fr, .int .i64 d.to, g, n] ∧ Sl 4 w g (aE d.gone) ∧ Sl 4 w n (aE d.new)
def DelO (B : Nat) (d : DeltaR) (r : Value) (w : World) : Prop := ∃ g n, r = .agg #[.int .i64 d.fr, .int .i64 d.to, g, n] ∧ Own B 4 64 w g (aE d.gone) ∧ Own B 4 64 w n (aE d.new)
theorem DelO.a {B : Nat} {d : DeltaR} {r : Value} {w : World} (h : DelO B d r w) : DelA d r w := let ⟨g, n, e, a, b⟩ := h; ⟨g, n, e, a.sl, b.sl⟩
def DelU (B : Nat) (d : DeltaR) (e : Int) (r : Value) (w : World) : Prop := ∃ y, r = .tuple #[y, .int .i64 e] ∧ DelO B d y w
theorem DelU.bad {B : Nat} {d : DeltaR} {e : Int} {w : World} (h : d = CU) : DelU B d e (.tuple #[.agg DZ.toArray, .int .i64 e]) w := by
 subst h
 exact ⟨_, rfl, _, _, rfl, Own.nil _ _ _ _, Own.nil _ _ _ _⟩
end Go.Proofs.X
