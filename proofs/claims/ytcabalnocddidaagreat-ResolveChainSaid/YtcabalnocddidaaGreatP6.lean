/- Laws and walks that the proof of the statement is made of (part 6). -/
import Derived.Test.YtcabalnocddidaaGreatP5
set_option linter.unusedSimpArgs false
set_option linter.unusedVariables false
namespace Go.Proofs.X
open Go.RowKit
set_option maxRecDepth 100000
theorem TPO.ltt {α : Type} {c : α → α → Int} (h : TPO c) {x y z : α} (h1 : c x y < 0) (h2 : c y z < 0) : c x z < 0 := by
 have h3 := h.tr x y z (by omega) (by omega)
 rcases Int.lt_or_eq_of_le h3 with h4 | h4
 ·exact h4
 ·exfalso
  have h5 := (h.eqL h4 (z := y)).1 (by omega)
  have h6 := h.anti y z
  omega
theorem qL {l : List RSet} (h : gB l = 0) : ∀ i, i < l.length → pH l i = false := by
 unfold gB at h
 split at h
 ·omega
 ·split at h
  ·rename_i h1
   intro i hi
   rw [List.all_eq_true] at h1
   have := h1 i (by simpa using hi)
   simpa using this
  ·omega
theorem oM {l : List RSet} (h : gB l = 0) {i : Nat} (hi : i < l.length) : rW l[i] = true := by
 have := qL h i hi
 rw [pH, List.getElem?_eq_getElem hi] at this
 simp only [Bool.or_eq_false_iff, Bool.not_eq_false'] at this
 exact this.1
theorem wA {l : List RSet} (h : gB l = 0) {i : Nat} (hi : i + 1 < l.length) : cJ l[i].name l[i + 1].name l[i].kind l[i + 1].kind < 0 := by
 have := qL h (i + 1) hi
 rw [pH, List.getElem?_eq_getElem hi] at this
 simp only [Bool.or_eq_false_iff, Bool.and_eq_false_iff, decide_eq_false_iff_not] at this
 have h2 := this.2.resolve_left (by omega)
 have e : l.getD (i + 1 - 1) default = l[i] := by simp [show i < l.length by omega]
 rw [e] at h2
 omega
theorem gD {l : List RSet} (h : gB l = 0) (i : Nat) : ∀ j (hj : i < j) (hl : j < l.length), cJ l[i].name l[j].name l[i].kind l[j].kind < 0
 | 0, hj, _ => by omega
 | j + 1, hj, hl => by
   have h1 := wA h hl
   by_cases e : i = j
   ·subst e; exact h1
   ·have h2 := gD h i j (by omega) (by omega)
    exact eP.ltt (x := (l[i].name, l[i].kind)) (y := (l[j].name, l[j].kind)) (z := (l[j + 1].name, l[j + 1].kind)) h2 h1
theorem qM {s : RSet} (h : rW s = true) : fold s.name = s.name := by
 simp only [rW, Bool.and_eq_true, decide_eq_true_eq] at h
 exact h.1.1.1
theorem uJ {l : List RSet} (h : gB l = 0) {i : Nat} (hi : i < l.length) : jI l l[i].name l[i].kind = some l[i] := by
 have hf := qM (oM h hi)
 refine xS hi ?_ (by simp [BR, hf])
 rw [List.find?_eq_none]
 intro x hx hh
 obtain ⟨j, hj, rfl⟩ := List.getElem_of_mem hx
 have hj' : j < i := by rw [List.length_take] at hj; omega
 rw [List.getElem_take] at hh
 simp only [BR, hf, Bool.and_eq_true, decide_eq_true_eq] at hh
 have h1 := gD h j i hj' hi
 rw [hh.1, hh.2] at h1
 have h2 := eP.refl (l[i].name, l[i].kind)
 simp only at h2
 omega
def dI (o n : List UInt8) (s : RSet) : Bool := decide (s.kind = 2) && decide (s.name ≠ o) && bP n s.name
def wB (o : List UInt8) (l : List RSet) (n : List UInt8) : List UInt8 × Bool := match l.find? (dI o n) with
 | some s => (s.name, true)
 | none => ([], false)
theorem mY {o n : List UInt8} {b : List UInt8 × Bool} {s : RSet} (h : dI o n s = false) : fA o n b s = b := by
 unfold fA
 rw [if_neg]
 rintro ⟨h1, h2, h3, _⟩
 simp [dI, h1, h2, h3] at h
theorem qN {o n : List UInt8} {m : List UInt8} {s : RSet} (h : dI o n s = true) : fA o n (m, false) s = (s.name, true) := by
 simp only [dI, Bool.and_eq_true, decide_eq_true_eq] at h
 unfold fA
 rw [if_pos ⟨h.1.1, h.1.2, h.2, .inl rfl⟩]
theorem pI {o n : List UInt8} {m : List UInt8} {s : RSet} (h : dI o n s = true → nO m ≤ nO s.name) : fA o n (m, true) s = (m, true) := by
 cases hc : dI o n s with
 | false => exact mY hc
 | true =>
  have := h hc
  unfold fA
  rw [if_neg]
  rintro ⟨_, _, _, h4⟩
  rcases h4 with h4 | h4
  ·cases h4
  ·simp only at h4; omega
theorem oN {o n m : List UInt8} : ∀ {l : List RSet}, (∀ t ∈ l, dI o n t = true → nO m ≤ nO t.name) → l.foldl (fA o n) (m, true) = (m, true)
 | [], _ => rfl
 | t :: l, h => by
   rw [List.foldl_cons, pI (h t (by simp)), oN fun u hu => h u (by simp [hu])]
theorem oO {o n : List UInt8} : ∀ {l : List RSet}, l.Pairwise (fun s t => dI o n s = true → dI o n t = true → nO s.name ≤ nO t.name) → sA o l n = wB o l n
 | [], _ => rfl
 | t :: l, h => by
   obtain ⟨h1, h2⟩ := List.pairwise_cons.1 h
   unfold sA wB
   rw [List.foldl_cons, List.find?_cons]
   cases hc : dI o n t with
   | true => simp only [qN hc]; exact oN fun u hu => h1 u hu hc
   | false => simp only [mY hc]; exact oO h2
theorem lA {n : List UInt8} {a : List (List UInt8)} (h : bT n = some a) : nO n = a.length := by
 rw [oK] at h
 cases hl : aS n with
 | none => rw [hl] at h; cases h
 | some ls =>
  rw [hl] at h
  cases h
  simp [nO, hl]
theorem dO {n t : List UInt8} (h : bP n t = true) : ∃ a b, bT n = some a ∧ bT t = some b ∧ a.take b.length = b := by
 unfold bP at h
 cases ha : bT n with
 | none => rw [ha] at h; cases h
 | some a =>
  cases hb : bT t with
  | none => rw [ha, hb] at h; cases h
  | some b =>
   rw [ha, hb] at h
   exact ⟨a, b, rfl, rfl, by simpa using h⟩
theorem gU {n t : List UInt8} {a b : List (List UInt8)} (ha : bT n = some a) (hb : bT t = some b) : bP n t = decide (a.take b.length = b) := by
 unfold bP; rw [ha, hb]
theorem lB {α : Type} {a b : List α} (h : a.take b.length = b) : b.length ≤ a.length := by
 have := congrArg List.length h
 rw [List.length_take] at this
 omega
theorem sB {a b c : List (List UInt8)} (hb : a.take b.length = b) (hc : a.take c.length = c) (h : dK b c ≤ 0) : b.length ≤ c.length := by
 have e : dK b c = if b.length < c.length then -1 else if c.length < b.length then 1 else 0 := by
  rcases Nat.le_total b.length c.length with hl | hl
  ·refine qJ (k := b.length) ?_ (Nat.le_refl _) hl (.inl rfl)
   rw [List.take_length, ← hc, List.take_take, Nat.min_eq_left hl, hb]
  ·refine qJ (k := c.length) ?_ hl (Nat.le_refl _) (.inr rfl)
   rw [List.take_length, ← hb, List.take_take, Nat.min_eq_left hl, hc]
 rw [e] at h
 split at h
 ·omega
 ·split at h <;> omega
theorem wC {a b : List UInt8} {j k : Int} (h : cJ a b j k < 0) : fY a b ≤ 0 := by
 unfold cJ at h
 split at h <;> omega
theorem wD {o : List UInt8} {l : List RSet} (h : gB l = 0) (n : List UInt8) : sA o l n = wB o l n := by
 refine oO ?_
 rw [List.pairwise_iff_getElem]
 intro i j hi hj hij h1 h2
 have hc := wC (gD h i j hij hj)
 simp only [dI, Bool.and_eq_true] at h1 h2
 obtain ⟨a, b, ha, hb, e1⟩ := dO h1.2
 obtain ⟨a', c, ha', hc', e2⟩ := dO h2.2
 rw [ha] at ha'
 cases ha'
 rw [lA hb, lA hc']
 refine sB e1 e2 ?_
 unfold fY at hc
 rw [hb, hc'] at hc
 exact hc
theorem gR {n : List UInt8} : (bT n).isSome = (aS n).isSome := by
 rw [oK]; cases aS n <;> rfl
theorem mZ {n : List UInt8} (h : (aS n).isSome = true) : bP n n = true := by
 rw [← gR] at h
 obtain ⟨a, ha⟩ := Option.isSome_iff_exists.1 h
 rw [gU ha ha]
 simp
theorem qO {a b c : List UInt8} (h : bP a b = true) (k : bP b c = true) : bP a c = true := by
 obtain ⟨x, y, hx, hy, e1⟩ := dO h
 obtain ⟨y', z, hy', hz, e2⟩ := dO k
 rw [hy] at hy'
 cases hy'
 have hl := lB e2
 rw [gU hx hz, decide_eq_true_eq]
 rw [← e1, List.take_take, Nat.min_eq_left hl] at e2
 exact e2
theorem jM {a b : List UInt8} (h : bP a b = true) : (aS a).isSome = true ∧ (aS b).isSome = true := by
 obtain ⟨x, y, hx, hy, _⟩ := dO h
 rw [← gR, ← gR, hx, hy]
 exact ⟨rfl, rfl⟩
structure ZoneOk (o : List UInt8) (l : List RSet) : Prop where
 lab : (aS o).isSome = true
 fold : fold o = o
 chk : gB l = 0
 soa : (jI l o 6).isSome = true
 ns : (jI l o 2).isSome = true
 right : ∀ s ∈ l, gQ o l s = true
theorem tB {o : List UInt8} {l : List RSet} (h : iD o l = 0) : ZoneOk o l := by
 unfold iD at h
 split at h
 ·cases h
 ·rename_i h1
  split at h
  ·cases h
  ·rename_i h2
   split at h
   ·cases h
   ·rename_i h3
    simp only [not_or, ne_eq, Decidable.not_not, Bool.not_eq_false] at h1 h2
    refine ⟨?_, h1.2.1, h1.2.2, h2.1, h2.2, fun s hs => ?_⟩
    ·have := h1.1
     unfold fE at this
     split at this
     ·assumption
     ·cases this
    ·cases hr : gQ o l s with
     | true => rfl
     | false => exact absurd (List.any_eq_true.2 ⟨s, hs, by simp [hr]⟩) h3
theorem wE {o : List UInt8} {l : List RSet} (h : ZoneOk o l) : iD o l = 0 := by
 obtain ⟨h1, h2, h3, h4, h5, h6⟩ := h
 have h7 : l.any (fun s => !gQ o l s) = false := by
  rw [List.any_eq_false]
  intro s hs
  simp [h6 s hs]
 unfold iD fE
 simp [h1, h2, h3, h4, h5, h7]
theorem qP {o : List UInt8} {l : List RSet} {s : RSet} (h : gQ o l s = true) : bP s.name o = true := by
 simp only [gQ, Bool.and_eq_true] at h
 exact h.1.1.1
theorem ZoneOk.may {o : List UInt8} {l : List RSet} (h : ZoneOk o l) {s : RSet} (hs : s ∈ l) : rW s = true := by
 obtain ⟨i, hi, rfl⟩ := List.getElem_of_mem hs
 exact oM h.chk hi
theorem ZoneOk.small {o : List UInt8} {l : List RSet} (h : ZoneOk o l) {s : RSet} (hs : s ∈ l) : X.fold s.name = s.name ∧ (aS s.name).isSome = true :=
 ⟨qM (h.may hs), (jM (qP (h.right s hs))).1⟩
theorem uK {l : List RSet} {n : List UInt8} {k : Int} {s : RSet} (h : jI l n k = some s) : s ∈ l ∧ s.name = fold n ∧ s.kind = k := by
 have h1 := List.mem_of_find?_eq_some h
 have h2 := List.find?_some h
 simp only [BR, Bool.and_eq_true, decide_eq_true_eq] at h2
 exact ⟨h1, h2⟩
theorem ZoneOk.cut {o : List UInt8} {l : List RSet} (h : ZoneOk o l) {n c : List UInt8} (hc : sA o l n = (c, true)) : bP n c = true ∧ c ≠ o ∧ sA o l c = (c, true) := by
 rw [wD h.chk, wB] at hc
 rw [wD h.chk, wB]
 cases hf : l.find? (dI o n) with
 | none => rw [hf] at hc; cases hc
 | some s =>
  rw [hf] at hc
  simp only [Prod.mk.injEq, and_true] at hc
  subst hc
  obtain ⟨h1, la, lb, h2, h3⟩ := List.find?_eq_some_iff_append.1 hf
  have hs : s ∈ l := by rw [h2]; simp
  have h1' := h1
  simp only [dI, Bool.and_eq_true, decide_eq_true_eq] at h1'
  refine ⟨h1'.2, h1'.1.2, ?_⟩
  have : l.find? (dI o s.name) = some s := by
   rw [List.find?_eq_some_iff_append]
   refine ⟨?_, la, lb, h2, fun t ht => ?_⟩
   ·simp only [dI, Bool.and_eq_true, decide_eq_true_eq]
    exact ⟨h1'.1, mZ (h.small hs).2⟩
   ·have hn := h3 t ht
    cases hq : dI o s.name t with
    | false => rfl
    | true =>
     simp only [dI, Bool.and_eq_true, decide_eq_true_eq] at hq
     have : dI o n t = true := by
      simp only [dI, Bool.and_eq_true, decide_eq_true_eq]
      exact ⟨hq.1, qO h1'.2 hq.2⟩
     rw [this] at hn
     exact hn
  rw [this]
set_option maxHeartbeats 3000000 in
theorem xV (u v : Value) (a b : List (List UInt8)) (w : World) (hu : Sl 1 w u (aI a)) (hv : Sl 1 w v (aI b)) : Calls Tryz.prog 110 #[u, v] w (bZ w (.bool (decide (a = b)))) := by
 have hal := hu.le
 have ha := bD a
 have hb := bD b
 go_enter Tryz.func110, Tryz.ntmps110
 (repeat' first | ((with_reducible refine aJ ?_); go_step) | ((with_reducible refine aG ?_); first | refine gS ?_ | (refine aK ?_ ?_ <;> intro hc)) | fail)
 ·have hne := ‹(!decide (((aI a).length : Int) = ((aI b).length : Int))) = true›
  go_ret
  refine ⟨?_, Ext.refl _⟩
  have : a ≠ b := by rintro rfl; simp at hne
  simp [this]
 ·have hne := ‹(!decide (((aI a).length : Int) = ((aI b).length : Int))) = false›
  have hlen : a.length = b.length := by simp at hne; omega
  go_loopw [5, 13] (fun _ i wr => ∃ k : Nat, k ≤ a.length ∧ i = .int .i64 k ∧ Ext w wr ∧ a.take k = b.take k) (fun _ i _ => a.length - (intOf i).toNat)
  case atStart => exact ⟨0, Nat.zero_le _, rfl, Ext.refl _, rfl⟩
  case round =>
   obtain ⟨k, hk, rfl, hx, hall⟩ := hrel
   by_cases hlt : k < a.length
   ·have hlt2 : k < b.length := by omega
    have h1 := (hu.ext hx).elem (gT hlt)
    have h2 := (hv.ext hx).elem (gT hlt2)
    have hu2 := hu.ext hx
    have hv2 := hv.ext hx
    refine_lift AR ?_; intro _ _ _ _ _ _
    refine cT (S := Ext wr) (by decide +kernel) ?_
    intro w2 x2 _
    refine tk 0 ?_; refine aA ?_; refine tk 1 ?_; refine aA ?_; refine tk 2 ?_; refine aA ?_; refine tk 3 ?_; refine aA ?_; refine tk 4 ?_; refine aA ?_; refine tk 5 ?_; refine aA ?_; refine tk 6 ?_; refine aA ?_; refine tk 7 ?_; refine aA ?_; refine tk 8 ?_; refine aA ?_
    refine cQ (by decide +kernel) ?_
    by_cases he : a[k] = b[k]
    ·have e1 : decide (a[k] = b[k]) = true := decide_eq_true he
     simp only [e1, Bool.not_true]
     refine_lift cU ?_
     exact ⟨⟨k + 1, by omega, by go_num, by exact jE, pG hall hlt hlt2 he⟩, by simp [intOf]; omega⟩
    ·have e1 : decide (a[k] = b[k]) = false := decide_eq_false he
     simp only [e1, Bool.not_false]
     refine_lift cU ?_
     go_ret
     refine ⟨?_, by exact jE⟩
     simp [vT hlt hlt2 he]
   ·have hk2 : k = a.length := by omega
    subst hk2
    refine_lift yS fun _ => ?_
    go_ret
    refine ⟨?_, by exact jE⟩
    rw [List.take_length, hlen, List.take_length] at hall
    simp [hall]
set_option maxHeartbeats 3000000 in
theorem lS (n t : List UInt8) (w : World) : Calls Tryz.prog 62 #[aE n, aE t] w (bZ w (.bool (bP n t))) := by
 go_enter Tryz.func62, Tryz.ntmps62
 refine_lift eU fun _ _ => ?_
 refine aR (enters_of Tryz.func109 rfl rfl) rfl rfl (AI n _) ?_
 intro r1 w1 x1 h1
 cases ha : bT n with
 | none =>
  rw [ha] at h1
  obtain ⟨s1, rfl⟩ := h1
  refine_lift eU fun _ _ => ?_
  refine aR (enters_of Tryz.func109 rfl rfl) rfl rfl (AI t _) ?_
  intro r2 w2 x2 h2
  obtain ⟨s2, b2, rfl⟩ : ∃ s b, r2 = .tuple #[s, .bool b] := by
   cases hb : bT t with
   | none => rw [hb] at h2; obtain ⟨s, rfl⟩ := h2; exact ⟨s, _, rfl⟩
   | some y => rw [hb] at h2; obtain ⟨s, rfl, _⟩ := h2; exact ⟨s, _, rfl⟩
  refine_lift cU ?_
  go_ret
  exact ⟨by simp [bP, ha], x1.trans x2⟩
 | some a =>
  rw [ha] at h1
  obtain ⟨s1, rfl, hs1, hl1⟩ := h1
  refine_lift eU fun _ _ => ?_
  refine aR (enters_of Tryz.func109 rfl rfl) rfl rfl (AI t _) ?_
  intro r2 w2 x2 h2
  cases hb : bT t with
  | none =>
   rw [hb] at h2
   obtain ⟨s2, rfl⟩ := h2
   refine_lift cU ?_
   go_ret
   exact ⟨by simp [bP, ha, hb], x1.trans x2⟩
  | some b =>
   rw [hb] at h2
   obtain ⟨s2, rfl, hs2, hl2⟩ := h2
   have hs1 := hs1.ext x2
   have tl1 := bD a
   have tl2 := bD b
   refine_lift CA (fun hc => ?_) (fun _ _ hc => ?_)
   ·have hle : b.length ≤ a.length := by omega
    have hcut := hs1.cut (m := 0) (n := (aI b).length) (Nat.zero_le _) (by omega)
    rw [List.drop_zero] at hcut
    have hcut : Sl 1 w2 (cB s1 1 0 (aI b).length) (aI (a.take b.length)) := by
     rw [tl2] at hcut ⊢
     simpa [aI, List.map_take] using hcut
    refine aB (enters_of Tryz.func110 rfl rfl) rfl rfl (xV _ _ _ _ _ hcut hs2) ?_; intro w3 x3; refine aA ?_
    refine_lift cU ?_
    go_ret
    exact ⟨by rw [gU ha hb]; rfl, (x1.trans x2).trans x3⟩
   ·go_ret
    refine ⟨?_, x1.trans x2⟩
    have hlt : a.length < b.length := by omega
    rw [gU ha hb, decide_eq_false (fun h => by have := lB h; omega)]
    rfl
def nP {α : Type} (p : α → Bool) (l : List α) : Int := match l.findIdx? p with
 | some i => (i : Int)
 | none => -1
theorem oP {α : Type} (p : α → Bool) (l : List α) : (∃ (k : Nat) (hk : k < l.length), nP p l = k ∧ p l[k] = true ∧ l.find? p = some l[k]) ∨ (nP p l = -1 ∧ l.any p = false ∧ l.find? p = none) := by
 unfold nP
 cases h : l.findIdx? p with
 | none =>
  rw [List.findIdx?_eq_none_iff] at h
  refine .inr ⟨rfl, ?_, ?_⟩
  ·rw [List.any_eq_false]; intro x hx; simp [h x hx]
  ·rw [List.find?_eq_none]; intro x hx; simp [h x hx]
 | some k =>
  rw [List.findIdx?_eq_some_iff_getElem] at h
  obtain ⟨hk, hp, hj⟩ := h
  refine .inl ⟨k, hk, rfl, hp, ?_⟩
  rw [List.find?_eq_some_iff_getElem]
  exact ⟨hp, k, hk, rfl, fun j hjk => by simpa using hj j hjk⟩
theorem wF {α : Type} {p : α → Bool} {l : List α} {k : Nat} (hk : k < l.length) (ha : (l.take k).any p = false) (hp : p l[k] = true) : nP p l = k := by
 have : l.findIdx? p = some k := by
  rw [List.findIdx?_eq_some_iff_getElem]
  refine ⟨hk, hp, fun j hj => ?_⟩
  rw [List.any_eq_false] at ha
  exact ha l[j] (by rw [List.mem_take_iff_getElem]; exact ⟨j, by omega, rfl⟩)
 rw [nP, this]
theorem wG {α : Type} {p : α → Bool} {l : List α} (ha : l.any p = false) : nP p l = -1 := by
 have : l.findIdx? p = none := by
  rw [List.findIdx?_eq_none_iff]
  intro x hx
  rw [List.any_eq_false] at ha
  simpa using ha x hx
 rw [nP, this]
theorem xX {α : Type} (p : α → Bool) (l : List α) : decide (0 ≤ nP p l) = l.any p := by
 rcases oP p l with ⟨k, hk, e, hp, _⟩ | ⟨e, h, _⟩
 ·rw [e, zT hk hp]; simp
 ·rw [e, h]; rfl
def SetFn (w : World) (f : FuncId) (caps : Array Value) (l : List RSet) (p : RSet → Bool) : Prop :=
 ∀ s ∈ l, ∀ x w', Ext w w' → Sl 1 w' x (aI s.data) → Calls Tryz.prog f ([Value.agg #[aE s.name, .int .i64 s.kind, .int .i64 s.ttl, x]].toArray ++ caps) w' (bZ w' (.bool (p s)))
theorem SetFn.ext {w w1 : World} {f : FuncId} {caps : Array Value} {l : List RSet} {p : RSet → Bool} (h : SetFn w f caps l p) (hx : Ext w w1) : SetFn w1 f caps l p :=
 fun s hs x w' hx' hd => h s hs x w' (hx.trans hx') hd
def Rule (w : World) (f : Value) (b : Bool) : Prop := ∃ (g : FuncId) (caps : Array Value), f = .func (.func g) #[] caps ∧ Enters Tryz.prog g ∧ ∀ w', Ext w w' → Calls Tryz.prog g (([] : List Value).toArray ++ caps) w' (bZ w' (.bool b))
theorem Rule.ext {w w' : World} {f : Value} {b : Bool} (h : Rule w f b) (hx : Ext w w') : Rule w' f b := by
 obtain ⟨g, caps, h1, h2, h3⟩ := h
 exact ⟨g, caps, h1, h2, fun w2 hx2 => h3 w2 (hx.trans hx2)⟩
def AY : RSet := ⟨[], 0, 0, []⟩
theorem zU {s : RSet} (h : rW s = true) {i : Nat} (hi : i < s.data.length) : bF ⟨s.name, s.kind, s.ttl, s.data[i]⟩ = 0 := by
 simp only [rW, Bool.and_eq_true, List.all_eq_true] at h
 have := h.2 i (by simpa using hi)
 simp only [yW, Bool.not_eq_true', Bool.or_eq_false_iff, decide_eq_false_iff_not, ne_eq, Decidable.not_not] at this
 have e : s.data.getD i [] = s.data[i] := by simp [hi]
 rw [e] at this
 exact this.1
theorem qQ {r : Rec} (h : bF r = 0) : r.data.length ≤ 4000 ∧ lL r.kind r.data = true := by
 unfold bF at h
 split at h
 ·omega
 ·split at h
  ·omega
  ·rename_i h2
   simp only [not_or, Bool.not_eq_false] at h2
   exact ⟨by omega, h2.2.2.2.2.2⟩
def zR : SoaR := ⟨[], [], 0, 0, 0, 0, 0⟩
def nA (o : List UInt8) (l : List RSet) : List UInt8 := ((jI l o 6).getD AY).data.getD 0 []
def eJ (o : List UInt8) (l : List RSet) : SoaR := if iD o l = 0 then cW (nA o l) else zR
theorem sC {d : List UInt8} (h : (bU d).isSome = true) : bU d = some (cW d) := by
 unfold bU at *
 simp only at *
 split at h
 ·rename_i h1; rw [if_pos h1]
 ·cases h
theorem ZoneOk.soaSet {o : List UInt8} {l : List RSet} (h : ZoneOk o l) : ∃ s, jI l o 6 = some s ∧ s ∈ l ∧ s.name = o ∧ s.kind = 6 ∧ s.data = [nA o l] ∧ bU (nA o l) = some (cW (nA o l)) ∧ (nA o l).length ≤ 4000 := by
 obtain ⟨s, hs⟩ := Option.isSome_iff_exists.1 h.soa
 obtain ⟨h1, h2, h3⟩ := uK hs
 have hr := h.right s h1
 have hm := h.may h1
 have hl : s.data.length = 1 := by
  simp only [gQ, Bool.and_eq_true, Bool.not_eq_true', h3] at hr
  have := hr.1.1.2
  simp only [decide_true, Bool.true_and, Bool.or_eq_false_iff, decide_eq_false_iff_not, ne_eq, Decidable.not_not] at this
  exact this.2
 have hd : s.data = [nA o l] := by
  have e : nA o l = s.data.getD 0 [] := by rw [nA, hs]; rfl
  rw [e]
  match s.data, hl with
  | [d], _ => rfl
 have hc := zU hm (i := 0) (by omega)
 obtain ⟨c1, c2⟩ := qQ hc
 have e0 : s.data[0]'(by omega) = nA o l := by simp [hd]
 simp only [e0, h3] at c1 c2
 refine ⟨s, hs, h1, by rw [h2, h.fold], h3, hd, sC ?_, c1⟩
 simpa [lL] using c2
def fQ (s : List UInt8) : List (List UInt8) → List (List UInt8)
 | [] => [s]
 | x :: l => if Op.bytesLess x s = true then x :: fQ s l else if x = s then x :: l else s :: x :: l
theorem oQ (s : List UInt8) : ∀ l : List (List UInt8), (fQ s l).length ≤ l.length + 1
 | [] => by simp [fQ]
 | x :: l => by
   rw [fQ]
   split
   ·have := oQ s l; simp; omega
   ·split <;> simp
def bQ (r : Rec) : RSet := ⟨fold r.name, r.kind, r.ttl, [r.data]⟩
def eR (r : Rec) : List RSet → List RSet
 | [] => [bQ r]
 | g :: gs => if mX g (bQ r) = true then g :: eR r gs else if mX (bQ r) g = true then bQ r :: g :: gs else ⟨fold r.name, r.kind, min r.ttl g.ttl, fQ r.data g.data⟩ :: gs
def bJ (l : List Rec) : List RSet := l.foldl (fun gs r => eR r gs) []
theorem lC {l : List Rec} {k : Nat} (h : k < l.length) : bJ (l.take (k + 1)) = eR l[k] (bJ (l.take k)) := by
 rw [bJ, List.take_add_one, List.getElem?_eq_getElem h, Option.toList_some, List.foldl_append]
 rfl
theorem qR (r : Rec) : ∀ gs : List RSet, (eR r gs).length ≤ gs.length + 1
 | [] => by simp [eR]
 | g :: gs => by
   have := qR r gs
   rw [eR]
   split
   ·simp; omega
   ·split <;> simp
theorem oR (r : Rec) (n : Nat) : ∀ gs : List RSet, (∀ s ∈ gs, s.data.length ≤ n) → ∀ s ∈ eR r gs, s.data.length ≤ n + 1
 | [], _, s, h => by
   have : s = bQ r := by simpa [eR] using h
   subst this; simp [bQ]
 | g :: gs, hn, s, h => by
   have hg := hn g (by simp)
   have hn' : ∀ s ∈ gs, s.data.length ≤ n := fun s hs => hn s (by simp [hs])
   rw [eR] at h
   split at h
   ·rcases List.mem_cons.1 h with rfl | h
    ·omega
    ·exact oR r n gs hn' s h
   ·split at h
    ·rcases List.mem_cons.1 h with rfl | h
     ·simp [bQ]
     ·have := hn s h; omega
    ·rcases List.mem_cons.1 h with rfl | h
     ·have := oQ r.data g.data
      show (fQ r.data g.data).length ≤ n + 1
      omega
     ·have := hn' s h; omega
theorem fF (l : List Rec) : ∀ k, k ≤ l.length → (bJ (l.take k)).length ≤ k ∧ ∀ s ∈ bJ (l.take k), s.data.length ≤ k
 | 0, _ => by simp [bJ]
 | k + 1, h => by
   obtain ⟨h1, h2⟩ := fF l k (by omega)
   rw [lC (show k < l.length by omega)]
   have := qR (l[k]'(by omega)) (bJ (l.take k))
   exact ⟨by omega, oR _ k _ h2⟩
def jN (l : List Rec) : Int := if l.all oE = false then 1 else if 200 < (bJ l).length then 4 else if (bJ l).any vY = true then 4 else 0
def RefR (B : Nat) (l : List Rec) (r : Value) (w' : World) : Prop := if jN l = 0 then ∃ v, r = .tuple #[v, .int .i64 0] ∧ SetsO B w' v (bJ l) else r = .tuple #[.slice none 0 0, .int .i64 (jN l)]
theorem oS : ∀ {gs : List RSet} {r : Rec} {s : RSet}, kU gs → s ∈ bS gs r → (s ∈ gs ∧ aN s r = false) ∨ (∃ t ∈ gs, aN t r = true ∧ s = dZ t r) ∨ ((∀ t ∈ gs, aN t r = false) ∧ s = ⟨fold r.name, r.kind, r.ttl, [r.data]⟩)
 | [], r, s, _, h => by
   right; right
   exact ⟨by simp, by simpa [bS] using h⟩
 | a :: l, r, s, hd, h => by
   obtain ⟨p1, p2⟩ := List.pairwise_cons.1 (dD.1 hd)
   by_cases hm : aN a r = true
   ·simp only [bS, hm, if_true, List.mem_cons] at h
    rcases h with h | h
    ·exact .inr (.inl ⟨a, by simp, hm, h⟩)
    ·refine .inl ⟨by simp [h], ?_⟩
     cases hs : aN s r with
     | false => rfl
     | true =>
      exfalso
      simp only [aN, Bool.and_eq_true, decide_eq_true_eq] at hs hm
      exact p1 s h ⟨by rw [hm.1, hs.1], by rw [hm.2, hs.2]⟩
   ·have hm' : aN a r = false := by simpa using hm
    simp only [bS, hm', Bool.false_eq_true, if_false, List.mem_cons] at h
    rcases h with rfl | h
    ·exact .inl ⟨by simp, hm'⟩
    ·rcases oS (dD.2 p2) h with ⟨h1, h2⟩ | ⟨t, h1, h2, h3⟩ | ⟨h1, h2⟩
     ·exact .inl ⟨by simp [h1], h2⟩
     ·exact .inr (.inl ⟨t, by simp [h1], h2, h3⟩)
     ·refine .inr (.inr ⟨?_, h2⟩)
      intro t ht
      rcases List.mem_cons.1 ht with rfl | ht
      ·exact hm'
      ·exact h1 t ht
structure Ch (L : List Rec) (s : RSet) : Prop where
 dat : ∀ d, d ∈ s.data ↔ ∃ r ∈ L, aN s r = true ∧ r.data = d
 ttl : ∃ r ∈ L, aN s r = true ∧ r.ttl = s.ttl
 low : ∀ r ∈ L, aN s r = true → s.ttl ≤ r.ttl
theorem Ch.miss {L : List Rec} {s : RSet} {r : Rec} (h : Ch L s) (hm : aN s r = false) : Ch (L ++ [r]) s where
 dat d := by
  rw [h.dat]
  constructor
  ·rintro ⟨q, h1, h2⟩; exact ⟨q, by simp [h1], h2⟩
  ·rintro ⟨q, h1, h2, h3⟩
   rcases List.mem_append.1 h1 with h1 | h1
   ·exact ⟨q, h1, h2, h3⟩
   ·obtain rfl := List.mem_singleton.1 h1
    rw [hm] at h2; cases h2
 ttl := let ⟨q, h1, h2⟩ := h.ttl; ⟨q, by simp [h1], h2⟩
 low q h1 h2 := by
  rcases List.mem_append.1 h1 with h1 | h1
  ·exact h.low q h1 h2
  ·obtain rfl := List.mem_singleton.1 h1
   rw [hm] at h2; cases h2
theorem Ch.bump {L : List Rec} {s : RSet} {r : Rec} (h : Ch L s) (hm : aN s r = true) : Ch (L ++ [r]) (X.dZ s r) where
 dat d := by
  show d ∈ s.data ++ [r.data] ↔ ∃ q ∈ L ++ [r], aN s q = true ∧ q.data = d
  rw [List.mem_append, h.dat, List.mem_singleton]
  constructor
  ·rintro (⟨q, h1, h2⟩ | rfl)
   ·exact ⟨q, by simp [h1], h2⟩
   ·exact ⟨r, by simp, hm, rfl⟩
  ·rintro ⟨q, h1, h2, h3⟩
   rcases List.mem_append.1 h1 with h1 | h1
   ·exact .inl ⟨q, h1, h2, h3⟩
   ·obtain rfl := List.mem_singleton.1 h1
    exact .inr h3.symm
 ttl := by
  show ∃ q ∈ L ++ [r], aN s q = true ∧ q.ttl = min s.ttl r.ttl
  obtain ⟨q, h1, h2, h3⟩ := h.ttl
  rcases Int.le_total s.ttl r.ttl with hl | hl
  ·exact ⟨q, by simp [h1], h2, by rw [h3]; omega⟩
  ·exact ⟨r, by simp, hm, by omega⟩
 low q h1 h2 := by
  show min s.ttl r.ttl ≤ q.ttl
  rcases List.mem_append.1 h1 with h1 | h1
  ·have := h.low q h1 h2
   omega
  ·obtain rfl := List.mem_singleton.1 h1
   omega
theorem Ch.new {L : List Rec} {r : Rec} (h : ∀ q ∈ L, aN ⟨fold r.name, r.kind, r.ttl, [r.data]⟩ q = false) : Ch (L ++ [r]) ⟨fold r.name, r.kind, r.ttl, [r.data]⟩ where
 dat d := by
  rw [List.mem_singleton]
  constructor
  ·rintro rfl; exact ⟨r, by simp, by simp [aN], rfl⟩
  ·rintro ⟨q, h1, h2, h3⟩
   rcases List.mem_append.1 h1 with h1 | h1
   ·rw [h q h1] at h2; cases h2
   ·obtain rfl := List.mem_singleton.1 h1
    exact h3.symm
 ttl := ⟨r, by simp, by simp [aN], rfl⟩
 low q h1 h2 := by
  rcases List.mem_append.1 h1 with h1 | h1
  ·rw [h q h1] at h2; cases h2
  ·obtain rfl := List.mem_singleton.1 h1
   exact Int.le_refl _
theorem oT (l : List Rec) : ∀ k, k ≤ l.length → ∀ s ∈ bG (l.take k), Ch (l.take k) s
 | 0, _, s, h => by simp [bG] at h
 | k + 1, hk, s, h => by
   have hlt : k < l.length := by omega
   have e : l.take (k + 1) = l.take k ++ [l[k]] := by simp
   rw [gP hlt] at h
   rw [e]
   have ih := oT l k (by omega)
   rcases oS (eH _) h with ⟨h1, h2⟩ | ⟨t, h1, h2, rfl⟩ | ⟨h1, rfl⟩
   ·exact (ih s h1).miss h2
   ·exact (ih t h1).bump h2
   ·refine Ch.new fun q hq => ?_
    obtain ⟨t, ht, hm, _⟩ := mW hq
    have := h1 t ht
    cases hx : aN ⟨fold l[k].name, l[k].kind, l[k].ttl, [l[k].data]⟩ q with
    | false => rfl
    | true =>
     exfalso
     simp only [aN, Bool.and_eq_true, decide_eq_true_eq] at hx hm
     have h5 : aN t l[k] = true := by
      simp only [aN, Bool.and_eq_true, decide_eq_true_eq]
      exact ⟨by rw [hm.1, hx.1], by rw [hm.2, hx.2]⟩
     rw [this] at h5; cases h5
theorem Ch.norm {L : List Rec} {s : RSet} (h : Ch L s) : Ch L (X.fP s) where
 dat d := by
  show d ∈ AV s.data ↔ ∃ r ∈ L, aN s r = true ∧ r.data = d
  rw [xT, h.dat]
 ttl := h.ttl
 low := h.low
theorem oU {l : List Rec} {s : RSet} (h : s ∈ cI l) : Ch l s ∧ s.data.Pairwise (· < ·) := by
 obtain ⟨u, hu, rfl⟩ := List.mem_map.1 h
 have := oT l l.length (Nat.le_refl _)
 rw [List.take_length] at this
 exact ⟨(this u hu).norm, rX _⟩
theorem Ch.uniq {L : List Rec} {s t : RSet} (h : Ch L s) (k : Ch L t) (hs : s.data.Pairwise (· < ·)) (ht : t.data.Pairwise (· < ·)) (hn : s.name = t.name) (hk : s.kind = t.kind) : s = t := by
 have hm : ∀ r, aN s r = aN t r := fun r => by rw [aN, aN, hn, hk]
 have hd : s.data = t.data := uD hs ht fun d => by
  rw [h.dat, k.dat]
  simp only [hm]
 have ha : s.ttl = t.ttl := by
  obtain ⟨q, h1, h2, h3⟩ := h.ttl
  obtain ⟨q', k1, k2, k3⟩ := k.ttl
  have e1 := k.low q h1 (by rw [← hm]; exact h2)
  have e2 := h.low q' k1 (by rw [hm]; exact k2)
  omega
 cases s; cases t
 simp_all
def gE (s t : RSet) : Int := cJ s.name t.name s.kind t.kind
theorem nB : TPO gE := eP.comap fun s : RSet => (s.name, s.kind)
def SO (gs : List RSet) : Prop := gs.Pairwise fun s t => gE s t < 0
def AZ (r : Rec) (t : RSet) : RSet := ⟨fold r.name, r.kind, min r.ttl t.ttl, fQ r.data t.data⟩
theorem gV (a b : RSet) : mX a b = decide (gE a b < 0) := uI a b
theorem cG {s : RSet} {r : Rec} : aN s r = true ↔ s.name = fold r.name ∧ s.kind = r.kind := by simp [aN]
theorem jO {s t u : RSet} (hn : s.name = t.name) (hk : s.kind = t.kind) : gE u s = gE u t ∧ gE s u = gE t u := by
 unfold gE; rw [hn, hk]; exact ⟨rfl, rfl⟩
theorem jP {s : RSet} {r : Rec} (h : gE s (bQ r) ≠ 0) : aN s r = false := by
 cases hm : aN s r with
 | false => rfl
 | true =>
  obtain ⟨h1, h2⟩ := cG.1 hm
  exact absurd (by rw [(jO (t := bQ r) h1 h2).2]; exact nB.refl _) h
theorem qS {r : Rec} (hr : Small (fold r.name)) : ∀ {gs : List RSet} {s : RSet}, SO gs → (∀ g ∈ gs, Small g.name) → s ∈ eR r gs →
 (s ∈ gs ∧ aN s r = false) ∨ (∃ t ∈ gs, aN t r = true ∧ s = AZ r t) ∨ ((∀ t ∈ gs, aN t r = false) ∧ s = bQ r)
 | [], s, _, _, h => by
   right; right
   exact ⟨by simp, by simpa [eR] using h⟩
 | g :: gs, s, hso, hsm, h => by
   obtain ⟨p1, p2⟩ := List.pairwise_cons.1 hso
   have hg := hsm g (by simp)
   rw [eR, gV, gV] at h
   by_cases h1 : gE g (bQ r) < 0
   ·rw [if_pos (decide_eq_true h1)] at h
    have m1 : aN g r = false := jP (by omega)
    rcases List.mem_cons.1 h with rfl | h
    ·exact .inl ⟨by simp, m1⟩
    ·rcases qS hr p2 (fun x hx => hsm x (by simp [hx])) h with ⟨a, b⟩ | ⟨t, a, b, c⟩ | ⟨a, b⟩
     ·exact .inl ⟨by simp [a], b⟩
     ·exact .inr (.inl ⟨t, by simp [a], b, c⟩)
     ·refine .inr (.inr ⟨fun t ht => ?_, b⟩)
      rcases List.mem_cons.1 ht with rfl | ht
      ·exact m1
      ·exact a t ht
   ·rw [if_neg (by simpa using h1)] at h
    by_cases h2 : gE (bQ r) g < 0
    ·rw [if_pos (decide_eq_true h2)] at h
     have m1 : aN g r = false := jP (by have := nB.anti g (bQ r); omega)
     have m2 : ∀ t ∈ gs, aN t r = false := fun t ht => jP (by
      have := nB.ltt h2 (p1 t ht)
      have := nB.anti t (bQ r); omega)
     rcases List.mem_cons.1 h with rfl | h
     ·refine .inr (.inr ⟨fun t ht => ?_, rfl⟩)
      rcases List.mem_cons.1 ht with rfl | ht
      ·exact m1
      ·exact m2 t ht
     ·rcases List.mem_cons.1 h with rfl | h
      ·exact .inl ⟨by simp, m1⟩
      ·exact .inl ⟨by simp [h], m2 s h⟩
    ·rw [if_neg (by simpa using h2)] at h
     have h0 : gE g (bQ r) = 0 := by have := nB.anti g (bQ r); omega
     obtain ⟨e1, e2⟩ := eZ hg hr h0
     have mg : aN g r = true := cG.2 ⟨e1, e2⟩
     rcases List.mem_cons.1 h with rfl | h
     ·exact .inr (.inl ⟨g, by simp, mg, rfl⟩)
     ·refine .inl ⟨by simp [h], jP ?_⟩
      have := p1 s h
      rw [(jO (t := bQ r) e1 e2).2] at this
      have := nB.anti s (bQ r); omega
theorem qT {r : Rec} : ∀ {gs : List RSet} {s : RSet}, s ∈ eR r gs → s ∈ gs ∨ (s.name = fold r.name ∧ s.kind = r.kind)
 | [], s, h => by
   right
   have : s = bQ r := by simpa [eR] using h
   subst this; exact ⟨rfl, rfl⟩
 | g :: gs, s, h => by
   rw [eR] at h
   split at h
   ·rcases List.mem_cons.1 h with rfl | h
    ·exact .inl (by simp)
    ·rcases qT h with h | h
     ·exact .inl (by simp [h])
     ·exact .inr h
   ·split at h
    ·rcases List.mem_cons.1 h with rfl | h
     ·exact .inr ⟨rfl, rfl⟩
     ·exact .inl h
    ·rcases List.mem_cons.1 h with rfl | h
     ·exact .inr ⟨rfl, rfl⟩
     ·exact .inl (by simp [h])
theorem tC {r : Rec} (hr : Small (fold r.name)) : ∀ {gs : List RSet}, SO gs → (∀ g ∈ gs, Small g.name) → SO (eR r gs)
 | [], _, _ => by simp [eR, SO]
 | g :: gs, hso, hsm => by
   obtain ⟨p1, p2⟩ := List.pairwise_cons.1 hso
   have hg := hsm g (by simp)
   rw [eR, gV, gV]
   by_cases h1 : gE g (bQ r) < 0
   ·rw [if_pos (decide_eq_true h1)]
    refine List.pairwise_cons.2 ⟨fun s hs => ?_, tC hr p2 fun x hx => hsm x (by simp [hx])⟩
    rcases qT hs with h | ⟨a, b⟩
    ·exact p1 s h
    ·rw [(jO (t := bQ r) a b).1]; exact h1
   ·rw [if_neg (by simpa using h1)]
    by_cases h2 : gE (bQ r) g < 0
    ·rw [if_pos (decide_eq_true h2)]
     refine List.pairwise_cons.2 ⟨fun s hs => ?_, hso⟩
     rcases List.mem_cons.1 hs with rfl | hs
     ·exact h2
     ·exact nB.ltt h2 (p1 s hs)
    ·rw [if_neg (by simpa using h2)]
     have h0 : gE g (bQ r) = 0 := by have := nB.anti g (bQ r); omega
     obtain ⟨e1, e2⟩ := eZ hg hr h0
     refine List.pairwise_cons.2 ⟨fun s hs => ?_, p2⟩
     have := p1 s hs
     rw [(jO (s := g) (t := ⟨fold r.name, r.kind, min r.ttl g.ttl, fQ r.data g.data⟩) e1 e2).2] at this
     exact this
theorem gF {s : List UInt8} : ∀ {l : List (List UInt8)}, l.Pairwise (· < ·) → (fQ s l).Pairwise (· < ·) ∧ ∀ x, x ∈ fQ s l ↔ x = s ∨ x ∈ l
 | [], _ => by simp [fQ]
 | y :: l, h => by
   obtain ⟨p1, p2⟩ := List.pairwise_cons.1 h
   obtain ⟨i1, i2⟩ := gF (s := s) p2
   rw [fQ]
   by_cases h1 : y < s
   ·rw [if_pos (sU.2 h1)]
    refine ⟨List.pairwise_cons.2 ⟨fun x hx => ?_, i1⟩, fun x => ?_⟩
    ·rcases (i2 x).1 hx with rfl | hx
     ·exact h1
     ·exact p1 x hx
    ·simp only [List.mem_cons, i2]; exact or_left_comm
   ·rw [if_neg (fun hb => h1 (sU.1 hb))]
    by_cases h2 : y = s
    ·rw [if_pos h2]
     subst h2
     exact ⟨h, fun x => by simp⟩
    ·rw [if_neg h2]
     have h3 : s < y := kX (List.not_lt.1 h1) (fun e => h2 e.symm)
     refine ⟨List.pairwise_cons.2 ⟨fun x hx => ?_, h⟩, fun x => by simp⟩
     rcases List.mem_cons.1 hx with rfl | hx
     ·exact h3
     ·exact List.lt_trans h3 (p1 x hx)
theorem oV {r : Rec} (hr : Small (fold r.name)) : ∀ {gs : List RSet}, (∀ g ∈ gs, Small g.name) → ∀ t ∈ gs, ∃ s ∈ eR r gs, s.name = t.name ∧ s.kind = t.kind
 | [], _, t, h => by simp at h
 | g :: gs, hsm, t, h => by
   have hg := hsm g (by simp)
   rw [eR, gV, gV]
   by_cases h1 : gE g (bQ r) < 0
   ·rw [if_pos (decide_eq_true h1)]
    rcases List.mem_cons.1 h with rfl | h
    ·exact ⟨t, by simp, rfl, rfl⟩
    ·obtain ⟨s, a, b⟩ := oV hr (fun x hx => hsm x (by simp [hx])) t h
     exact ⟨s, by simp [a], b⟩
   ·rw [if_neg (by simpa using h1)]
    by_cases h2 : gE (bQ r) g < 0
    ·rw [if_pos (decide_eq_true h2)]
     exact ⟨t, List.mem_cons_of_mem _ h, rfl, rfl⟩
    ·rw [if_neg (by simpa using h2)]
     have h0 : gE g (bQ r) = 0 := by have := nB.anti g (bQ r); omega
     obtain ⟨e1, e2⟩ := eZ hg hr h0
     rcases List.mem_cons.1 h with rfl | h
     ·exact ⟨_, List.mem_cons_self, e1.symm, e2.symm⟩
     ·exact ⟨t, by simp [h], rfl, rfl⟩
theorem qU (r : Rec) : ∀ gs : List RSet, ∃ s ∈ eR r gs, s.name = fold r.name ∧ s.kind = r.kind
 | [] => ⟨bQ r, by simp [eR], rfl, rfl⟩
 | g :: gs => by
   obtain ⟨s, a, b⟩ := qU r gs
   rw [eR]
   split
   ·exact ⟨s, by simp [a], b⟩
   ·split
    ·exact ⟨bQ r, by simp, rfl, rfl⟩
    ·exact ⟨_, List.mem_cons_self, rfl, rfl⟩
theorem Ch.newS {L : List Rec} {t : RSet} {r : Rec} (h : Ch L t) (hm : aN t r = true) (ht : t.data.Pairwise (· < ·)) : Ch (L ++ [r]) (X.AZ r t) := by
 have hb := h.bump hm
 obtain ⟨e1, e2⟩ := cG.1 hm
 have hk : ∀ q, aN (X.AZ r t) q = aN (X.dZ t r) q := fun q => by simp only [aN, X.AZ, X.dZ, e1, e2]; rfl
 refine ⟨fun d => ?_, ?_, fun q hq hmq => ?_⟩
 ·show d ∈ fQ r.data t.data ↔ _
  rw [(gF ht).2]
  have := hb.dat d
  simp only [hk]
  rw [← this]
  show _ ↔ d ∈ t.data ++ [r.data]
  simp [or_comm]
 ·obtain ⟨q, a, b, c⟩ := hb.ttl
  exact ⟨q, a, by rw [hk]; exact b, by rw [c]; show min t.ttl r.ttl = min r.ttl t.ttl; omega⟩
 ·have := hb.low q hq (by rw [← hk]; exact hmq)
  show min r.ttl t.ttl ≤ q.ttl
  have h2 : min t.ttl r.ttl ≤ q.ttl := this
  omega
theorem wH {r : Rec} (h : oE r = true) : Small (fold r.name) := by
 obtain ⟨ls, hl⟩ := Option.isSome_iff_exists.1 (eI (r := r) (n := []) (by simpa [oE] using h)).1
 exact ⟨r.name, ls, hl, rfl⟩
theorem nC {l : List Rec} (hok : l.all oE = true) : ∀ k, k ≤ l.length → SO (bJ (l.take k)) ∧ (∀ s ∈ bJ (l.take k), Ch (l.take k) s ∧ s.data.Pairwise (· < ·) ∧ Small s.name) ∧ ∀ q ∈ l.take k, ∃ s ∈ bJ (l.take k), aN s q = true
 | 0, _ => by simp [bJ, SO]
 | k + 1, h => by
   have hlt : k < l.length := by omega
   obtain ⟨i1, i2, i3⟩ := nC hok k (by omega)
   have hr := wH (List.all_eq_true.1 hok _ (List.getElem_mem hlt))
   have hsm : ∀ g ∈ bJ (l.take k), Small g.name := fun g hg => (i2 g hg).2.2
   have e : l.take (k + 1) = l.take k ++ [l[k]] := by simp
   rw [lC hlt, e]
   refine ⟨tC hr i1 hsm, fun s hs => ?_, fun q hq => ?_⟩
   ·rcases qS hr i1 hsm hs with ⟨a, b⟩ | ⟨t, a, b, rfl⟩ | ⟨a, rfl⟩
    ·exact ⟨(i2 s a).1.miss b, (i2 s a).2⟩
    ·exact ⟨(i2 t a).1.newS b (i2 t a).2.1, (gF (i2 t a).2.1).1, hr⟩
    ·refine ⟨Ch.new fun q hq => ?_, by simp [bQ], hr⟩
     obtain ⟨t, ht, hm⟩ := i3 q hq
     cases hx : aN ⟨fold l[k].name, l[k].kind, l[k].ttl, [l[k].data]⟩ q with
     | false => rfl
     | true =>
      exfalso
      obtain ⟨x1, x2⟩ := cG.1 hx
      obtain ⟨y1, y2⟩ := cG.1 hm
      have h5 : aN t l[k] = true := cG.2 ⟨y1.trans x1.symm, y2.trans x2.symm⟩
      rw [a t ht] at h5; cases h5
   ·rcases List.mem_append.1 hq with hq | hq
    ·obtain ⟨t, ht, hm⟩ := i3 q hq
     obtain ⟨s, a, b, c⟩ := oV hr hsm t ht
     obtain ⟨y1, y2⟩ := cG.1 hm
     exact ⟨s, a, cG.2 ⟨b.trans y1, c.trans y2⟩⟩
    ·obtain rfl := List.mem_singleton.1 hq
     obtain ⟨s, a, b, c⟩ := qU l[k] (bJ (l.take k))
     exact ⟨s, a, cG.2 ⟨b, c⟩⟩
theorem nD {l : List Rec} (hok : l.all oE = true) : SO (bJ l) ∧ (∀ s ∈ bJ l, Ch l s ∧ s.data.Pairwise (· < ·) ∧ Small s.name) ∧ ∀ q ∈ l, ∃ s ∈ bJ l, aN s q = true := by
 have := nC hok l.length (Nat.le_refl _)
 rwa [List.take_length] at this
theorem lD {l : List Rec} (hok : l.all oE = true) : (bJ l).Perm (cI l) := by
 obtain ⟨i1, i2, i3⟩ := nD hok
 have n1 : (cI l).Nodup := (jL _).imp fun h e => by subst e; exact h ⟨rfl, rfl⟩
 have n0 : (bJ l).Nodup := i1.imp fun h e => by subst e; have := nB.refl ‹RSet›; omega
 refine (List.perm_ext_iff_of_nodup n0 n1).2 fun s => ⟨fun hs => ?_, fun hs => ?_⟩
 ·obtain ⟨hc, hst, _⟩ := i2 s hs
  obtain ⟨q, h1, h2, _⟩ := hc.ttl
  obtain ⟨t, ht, hm, _⟩ := mW h1
  have hg : fP t ∈ cI l := List.mem_map_of_mem ht
  obtain ⟨hc', hst'⟩ := oU hg
  obtain ⟨x1, x2⟩ := cG.1 h2
  obtain ⟨y1, y2⟩ := cG.1 hm
  have e := hc.uniq hc' hst hst' (x1.trans y1.symm) (x2.trans y2.symm)
  rw [e]; exact hg
 ·obtain ⟨hc, hst⟩ := oU hs
  obtain ⟨q, h1, h2, _⟩ := hc.ttl
  obtain ⟨t, ht, hm⟩ := i3 q h1
  obtain ⟨hc', hst', _⟩ := i2 t ht
  obtain ⟨x1, x2⟩ := cG.1 h2
  obtain ⟨y1, y2⟩ := cG.1 hm
  have e := hc.uniq hc' hst hst' (x1.trans y1.symm) (x2.trans y2.symm)
  rw [e]; exact ht
theorem nQ {l : List Rec} (hok : l.all oE = true) : kH (bJ l) := by
 obtain ⟨i1, _, _⟩ := nD hok
 intro i j s t hij hi hj
 obtain ⟨a, rfl⟩ := List.getElem?_eq_some_iff.1 hi
 obtain ⟨b, rfl⟩ := List.getElem?_eq_some_iff.1 hj
 have h := List.pairwise_iff_getElem.1 i1 i j a b hij
 have := nB.anti (bJ l)[j] (bJ l)[i]
 show 0 ≤ gE (bJ l)[j] (bJ l)[i]
 omega
theorem xY {l : List Rec} (hok : l.all oE = true) {out : List RSet} (hp : out.Perm (cI l)) (hs : kH out) : out = bJ l :=
 rZ hok hp (lD hok) hs (nQ hok)
theorem yX (l : List Rec) : jN l = eA l := by
 unfold jN eA
 cases hok : l.all oE with
 | false => simp
 | true =>
  have hp := lD hok
  have hl := hp.length_eq
  have ha : (bJ l).any vY = (cI l).any vY := by
   cases h : (cI l).any vY with
   | true =>
    obtain ⟨s, h1, h2⟩ := List.any_eq_true.1 h
    exact List.any_eq_true.2 ⟨s, hp.mem_iff.2 h1, h2⟩
   | false =>
    cases h' : (bJ l).any vY with
    | false => rfl
    | true =>
     obtain ⟨s, h1, h2⟩ := List.any_eq_true.1 h'
     rw [List.any_eq_true.2 ⟨s, hp.mem_iff.1 h1, h2⟩] at h; cases h
  rw [ha, hl]
  simp only [Bool.true_eq_false, if_false]
  split <;> split <;> rfl
def tD : List Value := [aE [], .slice none 0 0]
def iE (o : List UInt8) (l : List Rec) : Int := if jN l = 0 then iD (fold o) (bJ l) else jN l
def jQ (o : List UInt8) (l : List Rec) : List UInt8 := if iE o l = 0 then fold o else []
def jR (o : List UInt8) (l : List Rec) : List RSet := if iE o l = 0 then bJ l else []
def LoadU (B : Nat) (o : List UInt8) (l : List Rec) (r : Value) (w' : World) : Prop :=
 ∃ v, r = .tuple #[.agg #[aE (jQ o l), v], .int .i64 (iE o l)] ∧ SetsO B w' v (jR o l)
theorem LoadU.bad {B : Nat} {o : List UInt8} {l : List Rec} {e : Int} {w' : World} (h : iE o l = e) (he : e ≠ 0) : LoadU B o l (.tuple #[.agg tD.toArray, .int .i64 e]) w' := by
 refine ⟨.slice none 0 0, ?_, ?_⟩
 ·rw [h, jQ, if_neg (by rw [h]; exact he)]; rfl
 ·rw [jR, if_neg (by rw [h]; exact he)]; exact SetsO.nil _ _
def wI (B : Nat) (l : List Rec) (r : Value) (w' : World) : Prop := ∃ v, r = .tuple #[v, .int .i64 (jN l)] ∧ (jN l = 0 → SetsO B w' v (bJ l))
theorem RefR.uni {B : Nat} {l : List Rec} {r : Value} {w' : World} (h : RefR B l r w') : wI B l r w' := by
 unfold RefR at h
 split at h
 ·rename_i h0
  obtain ⟨v, rfl, hv⟩ := h
  exact ⟨v, by rw [h0], fun _ => hv⟩
 ·rename_i h0
  exact ⟨_, h, fun h1 => absurd h1 h0⟩
theorem GroupO.uni {B : Nat} {l : List Rec} {r : Value} {w' : World} (h : GroupO B l r w') : wI B l r w' := by
 unfold GroupO at h
 rw [← yX] at h
 split at h
 ·rename_i h0
  obtain ⟨out, v, rfl, hp, hs, hv⟩ := h
  have hok : l.all oE = true := by
   cases hok : l.all oE with
   | true => rfl
   | false => rw [jN, if_pos hok] at h0; cases h0
  have e := xY hok hp hs
  exact ⟨v, by rw [h0], fun _ => by rw [← e]; exact hv⟩
 ·rename_i h0
  exact ⟨_, h, fun h1 => absurd h1 h0⟩
section
variable {P : Program} {ops : Array Oper} {Q : Exit → Act → World → Prop} {w : World} {rest : List Oper} {ts : List Value} {df : List Deferred} {ty : TypeId} {ps : String} {af : Array Edge} {g : Option (Nat × Bool)}
end
structure SetsW (B : Nat) (w : World) (css : List (List Value)) (l : List RSet) : Prop where
 len : css.length = l.length
 at' : ∀ (i : Nat) (s : RSet), l[i]? = some s → ∃ x, css[i]? = some [aE s.name, .int .i64 s.kind, .int .i64 s.ttl, x] ∧ Own B 1 9 w x (aI s.data)
theorem SetsW.sets {B : Nat} {w : World} {css : List (List Value)} {l : List RSet} (h : SetsW B w css l) : SetsC w css l :=
 ⟨h.len, fun i s hi => let ⟨x, a, b⟩ := h.at' i s hi; ⟨x, a, b.sl⟩⟩
theorem SetsW.ext {B : Nat} {w w' : World} {css : List (List Value)} {l : List RSet} (h : SetsW B w css l) (hx : Ext w w') : SetsW B w' css l :=
 ⟨h.len, fun i s hi => let ⟨x, a, b⟩ := h.at' i s hi; ⟨x, a, b.ext hx⟩⟩
theorem SetsW.mv {B B' k' e' : Nat} {w w' : World} {css : List (List Value)} {l : List RSet} {v : Value} {es : List (List Value)} (h : SetsW B w css l) (ho : Own B' k' e' w v es) (he : 9 ≠ e') (hm : Mv v.ownBlock w w') : SetsW B w' css l :=
 ⟨h.len, fun i s hi => let ⟨x, a, b⟩ := h.at' i s hi; ⟨x, a, b.mv hm (b.ne ho he)⟩⟩
theorem SetsW.put {B b t : Nat} {w w' : World} {css : List (List Value)} {l : List RSet} {cs : Array Value} {fz : Nat × Nat} {o : Obj} (h : SetsW B w css l) (hb : w.heap[b]? = some (.cells cs t fz)) (ht : t ≠ 9) (hp : Put w w' b o) : SetsW B w' css l :=
 ⟨h.len, fun i s hi => let ⟨x, a, c⟩ := h.at' i s hi; ⟨x, a, c.mv hp.mv (.inr (c.neBlock hb ht))⟩⟩
theorem SetsW.weaken {B C : Nat} {w : World} {css : List (List Value)} {l : List RSet} (h : SetsW B w css l) (hc : C ≤ B) : SetsW C w css l :=
 ⟨h.len, fun i s hi => let ⟨x, a, b⟩ := h.at' i s hi; ⟨x, a, b.weaken hc⟩⟩
theorem SetsW.append {B : Nat} {w : World} {l m : List RSet} {c d : List (List Value)} (h : SetsW B w c l) (k : SetsW B w d m) : SetsW B w (c ++ d) (l ++ m) := by
 refine ⟨by rw [List.length_append, List.length_append, h.len, k.len], fun i s hi => ?_⟩
 rw [List.getElem?_append] at hi ⊢
 rw [h.len]
 split at hi
 ·rw [if_pos ‹_›]; exact h.at' i s hi
 ·rw [if_neg ‹_›]; exact k.at' _ s hi
theorem SetsW.one {B : Nat} {w : World} {s : RSet} {x : Value} (h : Own B 1 9 w x (aI s.data)) : SetsW B w [[aE s.name, .int .i64 s.kind, .int .i64 s.ttl, x]] [s] :=
 ⟨rfl, fun i t hi => by
  match i, hi with
  | 0, hi => cases hi; exact ⟨x, rfl, h⟩⟩
theorem SetsW.nil (B : Nat) (w : World) : SetsW B w [] [] := ⟨rfl, by simp⟩
theorem SetsW.from' {B C : Nat} {w : World} {css : List (List Value)} {l : List RSet} (h : SetsW B w css l) (hc : C ≤ B) : FromC C css := by
 intro f hf u hu
 obtain ⟨i, hi, rfl⟩ := List.mem_iff_getElem.1 hf
 obtain ⟨x, h1, h2⟩ := h.at' i _ (List.getElem?_eq_getElem (by rw [← h.len]; exact hi))
 rw [List.getElem?_eq_getElem hi] at h1
 rw [Option.some.inj h1] at hu
 exact (FromC.one (h2.from' hc)) _ (List.mem_singleton.2 rfl) u hu
structure SetsV (B : Nat) (w : World) (v : Value) (l : List RSet) : Prop where
 out : ∃ css, Own B 4 59 w v css ∧ SetsW B w css l
theorem SetsV.ext {B : Nat} {w w' : World} {v : Value} {l : List RSet} (h : SetsV B w v l) (hx : Ext w w') : SetsV B w' v l := by
 obtain ⟨css, h1, h2⟩ := h
 exact ⟨css, h1.ext hx, h2.ext hx⟩
theorem SetsV.weaken {B C : Nat} {w : World} {v : Value} {l : List RSet} (h : SetsV B w v l) (hc : C ≤ B) : SetsV C w v l := by
 obtain ⟨css, h1, h2⟩ := h
 exact ⟨css, h1.weaken hc, h2.weaken hc⟩
theorem SetsV.put {B b t : Nat} {w w' : World} {v : Value} {l : List RSet} {cs : Array Value} {fz : Nat × Nat} {o : Obj} (h : SetsV B w v l) (hb : w.heap[b]? = some (.cells cs t fz)) (ht : t ≠ 9) (ht2 : t ≠ 59) (hp : Put w w' b o) : SetsV B w' v l := by
 obtain ⟨css, h1, h2⟩ := h
 exact ⟨css, h1.mv hp.mv (.inr (h1.neBlock hb ht2)), h2.put hb ht hp⟩
theorem SetsV.slf {B : Nat} {w : World} {v : Value} {l : List RSet} (h : SetsV B w v l) : ∃ a n c, v = .slice a n c := by
 obtain ⟨css, h1, h2⟩ := h
 exact h1.sl.slf
def yY (s : SoaR) (n : Int) : SoaR := { s with serial := n }
def xZ (o : List UInt8) (l : List RSet) (n : Int) : Int := if iD o l = 0 then (if (yY (eJ o l) n).ok = true then 0 else 1) else iD o l
def CH (o : List UInt8) (l : List RSet) (n : Int) : List UInt8 := (yY (eJ o l) n).data
def jS (d : List UInt8) (s : RSet) : RSet := if s.kind = 6 then ⟨s.name, s.kind, s.ttl, [d]⟩ else s
def BA (o : List UInt8) (l : List RSet) (n : Int) : List RSet := if xZ o l n = 0 then l.map (jS (CH o l n)) else []
def BB (o : List UInt8) (l : List RSet) (n : Int) : List UInt8 := if xZ o l n = 0 then o else []
def RenU (B : Nat) (o : List UInt8) (l : List RSet) (n : Int) (r : Value) (w' : World) : Prop :=
 ∃ v, r = .tuple #[.agg #[aE (BB o l n), v], .int .i64 (xZ o l n)] ∧ SetsO B w' v (BA o l n)
theorem RenU.bad {B : Nat} {o : List UInt8} {l : List RSet} {n e : Int} {w' : World} (h : xZ o l n = e) (he : e ≠ 0) : RenU B o l n (.tuple #[.agg tD.toArray, .int .i64 e]) w' := by
 refine ⟨.slice none 0 0, ?_, ?_⟩
 ·rw [h, BB, if_neg (by rw [h]; exact he)]; rfl
 ·rw [BA, if_neg (by rw [h]; exact he)]; exact SetsO.nil _ _
theorem ZoneOk.one6 {o : List UInt8} {l : List RSet} (h : ZoneOk o l) {s : RSet} (hs : s ∈ l) (h6 : s.kind = 6) : s.name = o ∧ s.data.length = 1 := by
 have hr := h.right s hs
 simp only [gQ, Bool.and_eq_true, Bool.not_eq_true', h6] at hr
 have := hr.1.1.2
 simp only [decide_true, Bool.true_and, Bool.or_eq_false_iff, decide_eq_false_iff_not, ne_eq, Decidable.not_not] at this
 exact this
theorem tE {d : List UInt8} {s : RSet} (h : ¬ s.kind = 6) : jS d s = s := by rw [jS, if_neg h]
theorem qV {d : List UInt8} {s : RSet} (h : s.kind = 6) : jS d s = ⟨s.name, s.kind, s.ttl, [d]⟩ := by rw [jS, if_pos h]
theorem SetsW.set {B : Nat} {w : World} {css : List (List Value)} {l : List RSet} (h : SetsW B w css l) {i : Nat} {s : RSet} {x : Value} (hx : Own B 1 9 w x (aI s.data)) : SetsW B w (css.set i [aE s.name, .int .i64 s.kind, .int .i64 s.ttl, x]) (l.set i s) := by
 refine ⟨by rw [List.length_set, List.length_set, h.len], fun j t hj => ?_⟩
 by_cases e : i = j
 ·subst e
  have hlt : i < l.length := by have := (List.getElem?_eq_some_iff.1 hj).1; simpa using this
  rw [List.getElem?_set_self hlt] at hj
  cases hj
  exact ⟨x, List.getElem?_set_self (by rw [h.len]; exact hlt), hx⟩
 ·rw [List.getElem?_set_ne e] at hj
  rw [List.getElem?_set_ne e]
  exact h.at' j t hj
structure SetsM (B : Nat) (w0 w : World) (css0 css : List (List Value)) (l : List RSet) (d : List UInt8) (k : Nat) : Prop where
 len : css.length = l.length
 new : ∀ (i : Nat) (s : RSet), l[i]? = some s → i < k → ∃ x, css[i]? = some [aE s.name, .int .i64 s.kind, .int .i64 s.ttl, x] ∧ Own B 1 9 w x (aI (jS d s).data)
 old : ∀ i, k ≤ i → css[i]? = css0[i]?
theorem SetsM.ext {B : Nat} {w0 w w' : World} {css0 css : List (List Value)} {l : List RSet} {d : List UInt8} {k : Nat} (h : SetsM B w0 w css0 css l d k) (hx : Ext w w') : SetsM B w0 w' css0 css l d k :=
 ⟨h.len, fun i s hi hk => let ⟨x, a, b⟩ := h.new i s hi hk; ⟨x, a, b.ext hx⟩, h.old⟩
theorem SetsM.mv {B : Nat} {w0 w w' : World} {css0 css : List (List Value)} {l : List RSet} {d : List UInt8} {k : Nat} {row : Option Nat} (h : SetsM B w0 w css0 css l d k) (hm : Mv row w w') (hne : ∀ x es, Own B 1 9 w x es → x.ownBlock = none ∨ x.ownBlock ≠ row) : SetsM B w0 w' css0 css l d k :=
 ⟨h.len, fun i s hi hk => let ⟨x, a, b⟩ := h.new i s hi hk; ⟨x, a, b.mv hm (hne x _ b)⟩, h.old⟩
theorem SetsM.step {B : Nat} {w0 w : World} {css0 css : List (List Value)} {l : List RSet} {d : List UInt8} {k : Nat} (h : SetsM B w0 w css0 css l d k) (hk : k < l.length) {y : Value} (hy : Own B 1 9 w y (aI (jS d l[k]).data)) :
 SetsM B w0 w css0 (css.set k [aE l[k].name, .int .i64 l[k].kind, .int .i64 l[k].ttl, y]) l d (k + 1) := by
 refine ⟨by rw [List.length_set, h.len], fun i s hi hik => ?_, fun i hi => ?_⟩
 ·by_cases e : k = i
  ·subst e
   rw [List.getElem?_eq_getElem hk] at hi
   cases hi
   exact ⟨y, List.getElem?_set_self (by rw [h.len]; exact hk), hy⟩
  ·obtain ⟨x, a, b⟩ := h.new i s hi (by omega)
   exact ⟨x, by rw [List.getElem?_set_ne e]; exact a, b⟩
 ·rw [List.getElem?_set_ne (by omega)]; exact h.old i (by omega)
theorem uL {d : List UInt8} {s : RSet} : (jS d s).name = s.name ∧ (jS d s).kind = s.kind ∧ (jS d s).ttl = s.ttl := by
 unfold jS; split <;> exact ⟨rfl, rfl, rfl⟩
theorem SetsM.done {B : Nat} {w0 w : World} {css0 css : List (List Value)} {l : List RSet} {d : List UInt8} (h : SetsM B w0 w css0 css l d l.length) : SetsW B w css (l.map (jS d)) := by
 refine ⟨by rw [List.length_map, h.len], fun i s hi => ?_⟩
 rw [List.getElem?_map] at hi
 cases hq : l[i]? with
 | none => rw [hq] at hi; cases hi
 | some t =>
  rw [hq] at hi
  cases hi
  obtain ⟨x, a, b⟩ := h.new i t hq (List.getElem?_eq_some_iff.1 hq).1
  obtain ⟨e1, e2, e3⟩ := uL (d := d) (s := t)
  exact ⟨x, by rw [e1, e2, e3]; exact a, b⟩
theorem wJ {d : List UInt8} {s : SoaR} (h : bU d = some s) : s.ok = true := by
 unfold bU at h
 simp only at h
 split at h
 ·rename_i hh; cases h; exact hh.2.2.2
 ·cases h
theorem ZoneOk.only {o : List UInt8} {l : List RSet} (h : ZoneOk o l) {s : RSet} (hs : s ∈ l) (h6 : s.kind = 6) : s.data = [nA o l] := by
 obtain ⟨t, ht, _, _, _, hd, _⟩ := h.soaSet
 obtain ⟨i, hi, rfl⟩ := List.mem_iff_getElem.1 hs
 have hf := uJ h.chk hi
 rw [h6, (h.one6 hs h6).1, ht] at hf
 rw [← Option.some.inj hf]
 exact hd
theorem ZoneOk.back {o d : List UInt8} {l : List RSet} (h : ZoneOk o l) : (l.map (jS d)).map (jS (nA o l)) = l := by
 rw [List.map_map]
 conv => rhs; rw [← List.map_id l]
 apply List.map_congr_left
 intro s hs
 simp only [Function.comp, id]
 by_cases h6 : s.kind = 6
 ·rw [qV (d := d) h6, qV (by exact h6)]
  have := h.only hs h6
  cases s
  simp only at this
  rw [this]
 ·rw [tE (d := d) h6, tE h6]
def BC (a b : List Rec) : List Rec := a.filter fun r => !decide (r ∈ b)
structure DeltaR where
 fr : Int
 to : Int
 gone : List Rec
 new : List Rec
 deriving DecidableEq, Inhabited
def BD : DeltaR := ⟨0, 0, [], []⟩
def yZ : List Rec → List Rec → Option (List Rec)
 | l, [] => some l
 | l, r :: g => if r ∈ l then yZ (l.erase r) g else none
def BE : List Rec → List Rec → Option (List Rec)
 | l, [] => some l
 | l, r :: g => if r ∈ l then none else BE (l ++ [r]) g
def tF (l : List Rec) (d : DeltaR) : Option (List Rec) := (yZ l d.gone).bind fun m => BE m d.new
def BF (o : List UInt8) (m : List Rec) (to : Int) : Int :=
 if iE o m = 0 then (if (eJ (jQ o m) (jR o m)).serial = to ∧ (fO (jR o m)).length = m.length ∧ BC m (fO (jR o m)) = [] then 0 else 2) else iE o m
def iT (o : List UInt8) (l : List RSet) (d : DeltaR) : Int :=
 if iD o l = 0 then (if (eJ o l).serial = d.fr then (match tF (fO l) d with
  | none => 5
  | some m => BF o m d.to) else 7) else iD o l
def sD (o : List UInt8) (l : List RSet) (d : DeltaR) : List RSet := if iT o l d = 0 then jR o ((tF (fO l) d).getD []) else []
def qW (o : List UInt8) (l : List RSet) (d : DeltaR) : List UInt8 := if iT o l d = 0 then jQ o ((tF (fO l) d).getD []) else []
theorem Ch.same {L M : List Rec} {s : RSet} (h : Ch L s) (hm : ∀ r, r ∈ L ↔ r ∈ M) : Ch M s where
 dat d := by
  rw [h.dat]
  constructor
  ·rintro ⟨r, h1, h2⟩; exact ⟨r, (hm r).1 h1, h2⟩
  ·rintro ⟨r, h1, h2⟩; exact ⟨r, (hm r).2 h1, h2⟩
 ttl := let ⟨r, h1, h2⟩ := h.ttl; ⟨r, (hm r).1 h1, h2⟩
 low r h1 h2 := h.low r ((hm r).2 h1) h2
set_option maxHeartbeats 3000000 in
theorem qX (v : Value) (l : List Rec) (w : World) (hv : Sl 4 w v (aH l)) (hl : l.length ≤ 1000000) : Calls Tryz.prog 94 #[v] w (vD w fun v' w' => Own w.heap.size 4 64 w' v' (aH l)) := by
 have hlen := aT l
 go_enter Tryz.func94, Tryz.ntmps94
 (repeat' first | ((with_reducible refine aJ ?_); go_step) | ((with_reducible refine aG ?_); first | refine gS ?_ | (refine aK ?_ ?_ <;> intro hc)) | fail)
 ·have hn := ‹sP v = true›
  go_ret
  have : aH l = [] := hv.isNil hn
  refine ⟨_, rfl, Ext.refl _, ?_⟩
  rw [this]
  exact Own.nil _ _ _ _
 ·refine mB (t := 23) (e := 64) (k := 4) (bytes := 48) (by decide +kernel) rfl ?_
  intro v2 w2 x2 s2 o2
  refine aA ?_
  (repeat' first | ((with_reducible refine aJ ?_); go_step) | ((with_reducible refine aG ?_); first | refine gS ?_ | (refine aK ?_ ?_ <;> intro hc)) | fail)
  refine dY (B := w.heap.size) (e := 64) rfl o2 rfl (hv.ext x2) (by intro f hf u hu; obtain ⟨r, _, rfl⟩ := List.mem_map.1 hf; simp only [Rec.cells, List.mem_cons, List.not_mem_nil, or_false] at hu; rcases hu with rfl | rfl | rfl | rfl <;> rfl) x2.size (by simp; omega) ?_
  intro v3 w3 o3 m3 _
  have x3 := o2.mvx m3 x2 (Nat.le_refl _)
  refine aA ?_
  (repeat' first | ((with_reducible refine aJ ?_); go_step) | ((with_reducible refine aG ?_); first | refine gS ?_ | (refine aK ?_ ?_ <;> intro hc)) | fail)
  go_ret
  exact ⟨_, rfl, x3, by simpa using o3⟩
def CI : List Value := [.int .i64 0, .int .i64 0, .slice none 0 0, .slice none 0 0]
def DelA (d : DeltaR) (r : Value) (w : World) : Prop := ∃ g n, r = .agg #[.int .i64 d.fr, .int .i64 d.to, g, n] ∧ Sl 4 w g (aH d.gone) ∧ Sl 4 w n (aH d.new)
def DelO (B : Nat) (d : DeltaR) (r : Value) (w : World) : Prop := ∃ g n, r = .agg #[.int .i64 d.fr, .int .i64 d.to, g, n] ∧ Own B 4 64 w g (aH d.gone) ∧ Own B 4 64 w n (aH d.new)
theorem DelO.a {B : Nat} {d : DeltaR} {r : Value} {w : World} (h : DelO B d r w) : DelA d r w := let ⟨g, n, e, a, b⟩ := h; ⟨g, n, e, a.sl, b.sl⟩
def DelU (B : Nat) (d : DeltaR) (e : Int) (r : Value) (w : World) : Prop := ∃ y, r = .tuple #[y, .int .i64 e] ∧ DelO B d y w
theorem DelU.bad {B : Nat} {d : DeltaR} {e : Int} {w : World} (h : d = BD) : DelU B d e (.tuple #[.agg CI.toArray, .int .i64 e]) w := by
 subst h
 exact ⟨_, rfl, _, _, rfl, Own.nil _ _ _ _, Own.nil _ _ _ _⟩
end Go.Proofs.X
