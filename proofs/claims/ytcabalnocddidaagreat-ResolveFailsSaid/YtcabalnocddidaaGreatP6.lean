/- Laws and walks that the proof of the statement is made of (part 6). -/
import Derived.Test.YtcabalnocddidaaGreatP5
set_option linter.unusedSimpArgs false
set_option linter.unusedVariables false
namespace Go.Proofs.X
open Go.RowKit
set_option maxRecDepth 100000
def fE (o : List UInt8) : Int := if (aS o).isSome then 0 else 1
def iF (o : List UInt8) (l : List RSet) : Int :=
 if fE o ≠ 0 ∨ fold o ≠ o ∨ gF l ≠ 0 then 1 else
 if (jM l o 6).isSome = false ∨ (jM l o 2).isSome = false then 2 else
 if l.any (fun s => !gV o l s) = true then 2 else 0
theorem TPO.ltt {α : Type} {c : α → α → Int} (h : TPO c) {x y z : α} (h1 : c x y < 0) (h2 : c y z < 0) : c x z < 0 := by
 have h3 := h.tr x y z (by omega) (by omega)
 rcases Int.lt_or_eq_of_le h3 with h4 | h4
 ·exact h4
 ·exfalso
  have h5 := (h.eqL h4 (z := y)).1 (by omega)
  have h6 := h.anti y z
  omega
theorem rC {l : List RSet} (h : gF l = 0) : ∀ i, i < l.length → pU l i = false := by
 unfold gF at h
 split at h
 ·omega
 ·split at h
  ·rename_i h1
   intro i hi
   rw [List.all_eq_true] at h1
   have := h1 i (by simpa using hi)
   simpa using this
  ·omega
theorem oY {l : List RSet} (h : gF l = 0) {i : Nat} (hi : i < l.length) : sK l[i] = true := by
 have := rC h i hi
 rw [pU, List.getElem?_eq_getElem hi] at this
 simp only [Bool.or_eq_false_iff, Bool.not_eq_false'] at this
 exact this.1
theorem wN {l : List RSet} (h : gF l = 0) {i : Nat} (hi : i + 1 < l.length) : cI l[i].name l[i + 1].name l[i].kind l[i + 1].kind < 0 := by
 have := rC h (i + 1) hi
 rw [pU, List.getElem?_eq_getElem hi] at this
 simp only [Bool.or_eq_false_iff, Bool.and_eq_false_iff, decide_eq_false_iff_not] at this
 have h2 := this.2.resolve_left (by omega)
 have e : l.getD (i + 1 - 1) default = l[i] := by simp [show i < l.length by omega]
 rw [e] at h2
 omega
theorem gH {l : List RSet} (h : gF l = 0) (i : Nat) : ∀ j (hj : i < j) (hl : j < l.length), cI l[i].name l[j].name l[i].kind l[j].kind < 0
 | 0, hj, _ => by omega
 | j + 1, hj, hl => by
   have h1 := wN h hl
   by_cases e : i = j
   ·subst e; exact h1
   ·have h2 := gH h i j (by omega) (by omega)
    exact eO.ltt (x := (l[i].name, l[i].kind)) (y := (l[j].name, l[j].kind)) (z := (l[j + 1].name, l[j + 1].kind)) h2 h1
theorem rD {s : RSet} (h : sK s = true) : fold s.name = s.name := by
 simp only [sK, Bool.and_eq_true, decide_eq_true_eq] at h
 exact h.1.1.1
theorem uU {l : List RSet} (h : gF l = 0) {i : Nat} (hi : i < l.length) : jM l l[i].name l[i].kind = some l[i] := by
 have hf := rD (oY h hi)
 refine yF hi ?_ (by simp [CD, hf])
 rw [List.find?_eq_none]
 intro x hx hh
 obtain ⟨j, hj, rfl⟩ := List.getElem_of_mem hx
 have hj' : j < i := by rw [List.length_take] at hj; omega
 rw [List.getElem_take] at hh
 simp only [CD, hf, Bool.and_eq_true, decide_eq_true_eq] at hh
 have h1 := gH h j i hj' hi
 rw [hh.1, hh.2] at h1
 have h2 := eO.refl (l[i].name, l[i].kind)
 simp only at h2
 omega
def dG (o n : List UInt8) (s : RSet) : Bool := decide (s.kind = 2) && decide (s.name ≠ o) && bO n s.name
def wO (o : List UInt8) (l : List RSet) (n : List UInt8) : List UInt8 × Bool := match l.find? (dG o n) with
 | some s => (s.name, true)
 | none => ([], false)
theorem nJ {o n : List UInt8} {b : List UInt8 × Bool} {s : RSet} (h : dG o n s = false) : eY o n b s = b := by
 unfold eY
 rw [if_neg]
 rintro ⟨h1, h2, h3, _⟩
 simp [dG, h1, h2, h3] at h
theorem rE {o n : List UInt8} {m : List UInt8} {s : RSet} (h : dG o n s = true) : eY o n (m, false) s = (s.name, true) := by
 simp only [dG, Bool.and_eq_true, decide_eq_true_eq] at h
 unfold eY
 rw [if_pos ⟨h.1.1, h.1.2, h.2, .inl rfl⟩]
theorem pV {o n : List UInt8} {m : List UInt8} {s : RSet} (h : dG o n s = true → nY m ≤ nY s.name) : eY o n (m, true) s = (m, true) := by
 cases hc : dG o n s with
 | false => exact nJ hc
 | true =>
  have := h hc
  unfold eY
  rw [if_neg]
  rintro ⟨_, _, _, h4⟩
  rcases h4 with h4 | h4
  ·cases h4
  ·simp only at h4; omega
theorem oZ {o n m : List UInt8} : ∀ {l : List RSet}, (∀ t ∈ l, dG o n t = true → nY m ≤ nY t.name) → l.foldl (eY o n) (m, true) = (m, true)
 | [], _ => rfl
 | t :: l, h => by
   rw [List.foldl_cons, pV (h t (by simp)), oZ fun u hu => h u (by simp [hu])]
theorem pA {o n : List UInt8} : ∀ {l : List RSet}, l.Pairwise (fun s t => dG o n s = true → dG o n t = true → nY s.name ≤ nY t.name) → sP o l n = wO o l n
 | [], _ => rfl
 | t :: l, h => by
   obtain ⟨h1, h2⟩ := List.pairwise_cons.1 h
   unfold sP wO
   rw [List.foldl_cons, List.find?_cons]
   cases hc : dG o n t with
   | true => simp only [rE hc]; exact oZ fun u hu => h1 u hu hc
   | false => simp only [nJ hc]; exact pA h2
theorem lH {n : List UInt8} {a : List (List UInt8)} (h : bS n = some a) : nY n = a.length := by
 rw [oV] at h
 cases hl : aS n with
 | none => rw [hl] at h; cases h
 | some ls =>
  rw [hl] at h
  cases h
  simp [nY, hl]
theorem dN {n t : List UInt8} (h : bO n t = true) : ∃ a b, bS n = some a ∧ bS t = some b ∧ a.take b.length = b := by
 unfold bO at h
 cases ha : bS n with
 | none => rw [ha] at h; cases h
 | some a =>
  cases hb : bS t with
  | none => rw [ha, hb] at h; cases h
  | some b =>
   rw [ha, hb] at h
   exact ⟨a, b, rfl, rfl, by simpa using h⟩
theorem gX {n t : List UInt8} {a b : List (List UInt8)} (ha : bS n = some a) (hb : bS t = some b) : bO n t = decide (a.take b.length = b) := by
 unfold bO; rw [ha, hb]
theorem lI {α : Type} {a b : List α} (h : a.take b.length = b) : b.length ≤ a.length := by
 have := congrArg List.length h
 rw [List.length_take] at this
 omega
theorem sQ {a b c : List (List UInt8)} (hb : a.take b.length = b) (hc : a.take c.length = c) (h : dJ b c ≤ 0) : b.length ≤ c.length := by
 have e : dJ b c = if b.length < c.length then -1 else if c.length < b.length then 1 else 0 := by
  rcases Nat.le_total b.length c.length with hl | hl
  ·refine rA (k := b.length) ?_ (Nat.le_refl _) hl (.inl rfl)
   rw [List.take_length, ← hc, List.take_take, Nat.min_eq_left hl, hb]
  ·refine rA (k := c.length) ?_ hl (Nat.le_refl _) (.inr rfl)
   rw [List.take_length, ← hb, List.take_take, Nat.min_eq_left hl, hc]
 rw [e] at h
 split at h
 ·omega
 ·split at h <;> omega
theorem wP {a b : List UInt8} {j k : Int} (h : cI a b j k < 0) : gB a b ≤ 0 := by
 unfold cI at h
 split at h <;> omega
theorem wQ {o : List UInt8} {l : List RSet} (h : gF l = 0) (n : List UInt8) : sP o l n = wO o l n := by
 refine pA ?_
 rw [List.pairwise_iff_getElem]
 intro i j hi hj hij h1 h2
 have hc := wP (gH h i j hij hj)
 simp only [dG, Bool.and_eq_true] at h1 h2
 obtain ⟨a, b, ha, hb, e1⟩ := dN h1.2
 obtain ⟨a', c, ha', hc', e2⟩ := dN h2.2
 rw [ha] at ha'
 cases ha'
 rw [lH hb, lH hc']
 refine sQ e1 e2 ?_
 unfold gB at hc
 rw [hb, hc'] at hc
 exact hc
theorem gW {n : List UInt8} : (bS n).isSome = (aS n).isSome := by
 rw [oV]; cases aS n <;> rfl
theorem nK {n : List UInt8} (h : (aS n).isSome = true) : bO n n = true := by
 rw [← gW] at h
 obtain ⟨a, ha⟩ := Option.isSome_iff_exists.1 h
 rw [gX ha ha]
 simp
theorem rF {a b c : List UInt8} (h : bO a b = true) (k : bO b c = true) : bO a c = true := by
 obtain ⟨x, y, hx, hy, e1⟩ := dN h
 obtain ⟨y', z, hy', hz, e2⟩ := dN k
 rw [hy] at hy'
 cases hy'
 have hl := lI e2
 rw [gX hx hz, decide_eq_true_eq]
 rw [← e1, List.take_take, Nat.min_eq_left hl] at e2
 exact e2
theorem jQ {a b : List UInt8} (h : bO a b = true) : (aS a).isSome = true ∧ (aS b).isSome = true := by
 obtain ⟨x, y, hx, hy, _⟩ := dN h
 rw [← gW, ← gW, hx, hy]
 exact ⟨rfl, rfl⟩
structure ZoneOk (o : List UInt8) (l : List RSet) : Prop where
 lab : (aS o).isSome = true
 fold : fold o = o
 chk : gF l = 0
 soa : (jM l o 6).isSome = true
 ns : (jM l o 2).isSome = true
 right : ∀ s ∈ l, gV o l s = true
theorem tO {o : List UInt8} {l : List RSet} (h : iF o l = 0) : ZoneOk o l := by
 unfold iF at h
 split at h
 ·cases h
 ·rename_i h1
  split at h
  ·cases h
  ·rename_i h2
   split at h
   ·cases h
   ·rename_i h3
    simp only [not_or, ne_eq, Decidable.not_not, Bool.not_eq_false] at h1 h2
    refine ⟨?_, h1.2.1, h1.2.2, h2.1, h2.2, fun s hs => ?_⟩
    ·have := h1.1
     unfold fE at this
     split at this
     ·assumption
     ·cases this
    ·cases hr : gV o l s with
     | true => rfl
     | false => exact absurd (List.any_eq_true.2 ⟨s, hs, by simp [hr]⟩) h3
theorem wR {o : List UInt8} {l : List RSet} (h : ZoneOk o l) : iF o l = 0 := by
 obtain ⟨h1, h2, h3, h4, h5, h6⟩ := h
 have h7 : l.any (fun s => !gV o l s) = false := by
  rw [List.any_eq_false]
  intro s hs
  simp [h6 s hs]
 unfold iF fE
 simp [h1, h2, h3, h4, h5, h7]
theorem rG {o : List UInt8} {l : List RSet} {s : RSet} (h : gV o l s = true) : bO s.name o = true := by
 simp only [gV, Bool.and_eq_true] at h
 exact h.1.1.1
theorem ZoneOk.may {o : List UInt8} {l : List RSet} (h : ZoneOk o l) {s : RSet} (hs : s ∈ l) : sK s = true := by
 obtain ⟨i, hi, rfl⟩ := List.getElem_of_mem hs
 exact oY h.chk hi
theorem ZoneOk.small {o : List UInt8} {l : List RSet} (h : ZoneOk o l) {s : RSet} (hs : s ∈ l) : X.fold s.name = s.name ∧ (aS s.name).isSome = true :=
 ⟨rD (h.may hs), (jQ (rG (h.right s hs))).1⟩
theorem uV {l : List RSet} {n : List UInt8} {k : Int} {s : RSet} (h : jM l n k = some s) : s ∈ l ∧ s.name = fold n ∧ s.kind = k := by
 have h1 := List.mem_of_find?_eq_some h
 have h2 := List.find?_some h
 simp only [CD, Bool.and_eq_true, decide_eq_true_eq] at h2
 exact ⟨h1, h2⟩
theorem ZoneOk.cut {o : List UInt8} {l : List RSet} (h : ZoneOk o l) {n c : List UInt8} (hc : sP o l n = (c, true)) : bO n c = true ∧ c ≠ o ∧ sP o l c = (c, true) := by
 rw [wQ h.chk, wO] at hc
 rw [wQ h.chk, wO]
 cases hf : l.find? (dG o n) with
 | none => rw [hf] at hc; cases hc
 | some s =>
  rw [hf] at hc
  simp only [Prod.mk.injEq, and_true] at hc
  subst hc
  obtain ⟨h1, la, lb, h2, h3⟩ := List.find?_eq_some_iff_append.1 hf
  have hs : s ∈ l := by rw [h2]; simp
  have h1' := h1
  simp only [dG, Bool.and_eq_true, decide_eq_true_eq] at h1'
  refine ⟨h1'.2, h1'.1.2, ?_⟩
  have : l.find? (dG o s.name) = some s := by
   rw [List.find?_eq_some_iff_append]
   refine ⟨?_, la, lb, h2, fun t ht => ?_⟩
   ·simp only [dG, Bool.and_eq_true, decide_eq_true_eq]
    exact ⟨h1'.1, nK (h.small hs).2⟩
   ·have hn := h3 t ht
    cases hq : dG o s.name t with
    | false => rfl
    | true =>
     simp only [dG, Bool.and_eq_true, decide_eq_true_eq] at hq
     have : dG o n t = true := by
      simp only [dG, Bool.and_eq_true, decide_eq_true_eq]
      exact ⟨hq.1, rF h1'.2 hq.2⟩
     rw [this] at hn
     exact hn
  rw [this]
set_option maxHeartbeats 3000000 in
theorem yJ (u v : Value) (a b : List (List UInt8)) (w : World) (hu : Sl 1 w u (aG a)) (hv : Sl 1 w v (aG b)) : Calls Tryz.prog 110 #[u, v] w (bV w (.bool (decide (a = b)))) := by
 have hal := hu.le
 have ha := aZ a
 have hb := aZ b
 go_enter Tryz.func110, Tryz.ntmps110
 (repeat' first | ((with_reducible refine aJ ?_); go_step) | ((with_reducible refine aH ?_); first | refine gN ?_ | (refine aK ?_ ?_ <;> intro hc)) | fail)
 ·have hne := ‹(!decide (((aG a).length : Int) = ((aG b).length : Int))) = true›
  go_ret
  refine ⟨?_, Ext.refl _⟩
  have : a ≠ b := by rintro rfl; simp at hne
  simp [this]
 ·have hne := ‹(!decide (((aG a).length : Int) = ((aG b).length : Int))) = false›
  have hlen : a.length = b.length := by simp at hne; omega
  go_loopw [5, 13] (fun _ i wr => ∃ k : Nat, k ≤ a.length ∧ i = .int .i64 k ∧ Ext w wr ∧ a.take k = b.take k) (fun _ i _ => a.length - (intOf i).toNat)
  case atStart => exact ⟨0, Nat.zero_le _, rfl, Ext.refl _, rfl⟩
  case round =>
   obtain ⟨k, hk, rfl, hx, hall⟩ := hrel
   by_cases hlt : k < a.length
   ·have hlt2 : k < b.length := by omega
    have h1 := (hu.ext hx).elem (fQ hlt)
    have h2 := (hv.ext hx).elem (fQ hlt2)
    have hu2 := hu.ext hx
    have hv2 := hv.ext hx
    refine_lift BE ?_; intro _ _ _ _ _ _
    refine cN (S := Ext wr) (by decide +kernel) ?_
    intro w2 x2 _
    refine tk 0 ?_; refine aA ?_; refine tk 1 ?_; refine aA ?_; refine tk 2 ?_; refine aA ?_; refine tk 3 ?_; refine aA ?_; refine tk 4 ?_; refine aA ?_; refine tk 5 ?_; refine aA ?_; refine tk 6 ?_; refine aA ?_; refine tk 7 ?_; refine aA ?_; refine tk 8 ?_; refine aA ?_
    refine cJ (by decide +kernel) ?_
    by_cases he : a[k] = b[k]
    ·have e1 : decide (a[k] = b[k]) = true := decide_eq_true he
     simp only [e1, Bool.not_true]
     refine_lift cH ?_
     exact ⟨⟨k + 1, by omega, by go_num, by exact fM, pT hall hlt hlt2 he⟩, by simp [intOf]; omega⟩
    ·have e1 : decide (a[k] = b[k]) = false := decide_eq_false he
     simp only [e1, Bool.not_false]
     refine_lift cH ?_
     go_ret
     refine ⟨?_, by exact fM⟩
     simp [wG hlt hlt2 he]
   ·have hk2 : k = a.length := by omega
    subst hk2
    refine_lift vQ fun _ => ?_
    go_ret
    refine ⟨?_, by exact fM⟩
    rw [List.take_length, hlen, List.take_length] at hall
    simp [hall]
set_option maxHeartbeats 3000000 in
theorem lZ (n t : List UInt8) (w : World) : Calls Tryz.prog 62 #[aE n, aE t] w (bV w (.bool (bO n t))) := by
 go_enter Tryz.func62, Tryz.ntmps62
 refine_lift eC fun _ _ => ?_
 refine aR (enters_of Tryz.func109 rfl rfl) rfl rfl (AW n _) ?_
 intro r1 w1 x1 h1
 cases ha : bS n with
 | none =>
  rw [ha] at h1
  obtain ⟨s1, rfl⟩ := h1
  refine_lift eC fun _ _ => ?_
  refine aR (enters_of Tryz.func109 rfl rfl) rfl rfl (AW t _) ?_
  intro r2 w2 x2 h2
  obtain ⟨s2, b2, rfl⟩ : ∃ s b, r2 = .tuple #[s, .bool b] := by
   cases hb : bS t with
   | none => rw [hb] at h2; obtain ⟨s, rfl⟩ := h2; exact ⟨s, _, rfl⟩
   | some y => rw [hb] at h2; obtain ⟨s, rfl, _⟩ := h2; exact ⟨s, _, rfl⟩
  refine_lift cH ?_
  go_ret
  exact ⟨by simp [bO, ha], x1.trans x2⟩
 | some a =>
  rw [ha] at h1
  obtain ⟨s1, rfl, hs1, hl1⟩ := h1
  refine_lift eC fun _ _ => ?_
  refine aR (enters_of Tryz.func109 rfl rfl) rfl rfl (AW t _) ?_
  intro r2 w2 x2 h2
  cases hb : bS t with
  | none =>
   rw [hb] at h2
   obtain ⟨s2, rfl⟩ := h2
   refine_lift cH ?_
   go_ret
   exact ⟨by simp [bO, ha, hb], x1.trans x2⟩
  | some b =>
   rw [hb] at h2
   obtain ⟨s2, rfl, hs2, hl2⟩ := h2
   have hs1 := hs1.ext x2
   have tl1 := aZ a
   have tl2 := aZ b
   refine_lift CL (fun hc => ?_) (fun _ _ hc => ?_)
   ·have hle : b.length ≤ a.length := by omega
    have hcut := hs1.cut (m := 0) (n := (aG b).length) (Nat.zero_le _) (by omega)
    rw [List.drop_zero] at hcut
    have hcut : Sl 1 w2 (cB s1 1 0 (aG b).length) (aG (a.take b.length)) := by
     rw [tl2] at hcut ⊢
     simpa [aG, List.map_take] using hcut
    refine aB (enters_of Tryz.func110 rfl rfl) rfl rfl (yJ _ _ _ _ _ hcut hs2) ?_; intro w3 x3; refine aA ?_
    refine_lift cH ?_
    go_ret
    exact ⟨by rw [gX ha hb]; rfl, (x1.trans x2).trans x3⟩
   ·go_ret
    refine ⟨?_, x1.trans x2⟩
    have hlt : a.length < b.length := by omega
    rw [gX ha hb, decide_eq_false (fun h => by have := lI h; omega)]
    rfl
def nZ {α : Type} (p : α → Bool) (l : List α) : Int := match l.findIdx? p with
 | some i => (i : Int)
 | none => -1
theorem pB {α : Type} (p : α → Bool) (l : List α) : (∃ (k : Nat) (hk : k < l.length), nZ p l = k ∧ p l[k] = true ∧ l.find? p = some l[k]) ∨ (nZ p l = -1 ∧ l.any p = false ∧ l.find? p = none) := by
 unfold nZ
 cases h : l.findIdx? p with
 | none =>
  rw [List.findIdx?_eq_none_iff] at h
  refine .inr ⟨rfl, ?_, ?_⟩
  ·rw [List.any_eq_false]; intro x hx; simp [h x hx]
  ·rw [List.find?_eq_none]; intro x hx; simp [h x hx]
 | some k =>
  rw [List.findIdx?_eq_some_iff_getElem] at h
  obtain ⟨hk, hp, hj⟩ := h
  refine .inl ⟨k, hk, rfl, hp, ?_⟩
  rw [List.find?_eq_some_iff_getElem]
  exact ⟨hp, k, hk, rfl, fun j hjk => by simpa using hj j hjk⟩
theorem wS {α : Type} {p : α → Bool} {l : List α} {k : Nat} (hk : k < l.length) (ha : (l.take k).any p = false) (hp : p l[k] = true) : nZ p l = k := by
 have : l.findIdx? p = some k := by
  rw [List.findIdx?_eq_some_iff_getElem]
  refine ⟨hk, hp, fun j hj => ?_⟩
  rw [List.any_eq_false] at ha
  exact ha l[j] (by rw [List.mem_take_iff_getElem]; exact ⟨j, by omega, rfl⟩)
 rw [nZ, this]
theorem wT {α : Type} {p : α → Bool} {l : List α} (ha : l.any p = false) : nZ p l = -1 := by
 have : l.findIdx? p = none := by
  rw [List.findIdx?_eq_none_iff]
  intro x hx
  rw [List.any_eq_false] at ha
  simpa using ha x hx
 rw [nZ, this]
theorem yK {α : Type} (p : α → Bool) (l : List α) : decide (0 ≤ nZ p l) = l.any p := by
 rcases pB p l with ⟨k, hk, e, hp, _⟩ | ⟨e, h, _⟩
 ·rw [e, AE hk hp]; simp
 ·rw [e, h]; rfl
def SetFn (w : World) (f : FuncId) (caps : Array Value) (l : List RSet) (p : RSet → Bool) : Prop :=
 ∀ s ∈ l, ∀ x w', Ext w w' → Sl 1 w' x (aG s.data) → Calls Tryz.prog f ([Value.agg #[aE s.name, .int .i64 s.kind, .int .i64 s.ttl, x]].toArray ++ caps) w' (bV w' (.bool (p s)))
theorem SetFn.ext {w w1 : World} {f : FuncId} {caps : Array Value} {l : List RSet} {p : RSet → Bool} (h : SetFn w f caps l p) (hx : Ext w w1) : SetFn w1 f caps l p :=
 fun s hs x w' hx' hd => h s hs x w' (hx.trans hx') hd
def Rule (w : World) (f : Value) (b : Bool) : Prop := ∃ (g : FuncId) (caps : Array Value), f = .func (.func g) #[] caps ∧ Enters Tryz.prog g ∧ ∀ w', Ext w w' → Calls Tryz.prog g (([] : List Value).toArray ++ caps) w' (bV w' (.bool b))
theorem Rule.ext {w w' : World} {f : Value} {b : Bool} (h : Rule w f b) (hx : Ext w w') : Rule w' f b := by
 obtain ⟨g, caps, h1, h2, h3⟩ := h
 exact ⟨g, caps, h1, h2, fun w2 hx2 => h3 w2 (hx.trans hx2)⟩
def BL : RSet := ⟨[], 0, 0, []⟩
theorem AF {s : RSet} (h : sK s = true) {i : Nat} (hi : i < s.data.length) : bE ⟨s.name, s.kind, s.ttl, s.data[i]⟩ = 0 := by
 simp only [sK, Bool.and_eq_true, List.all_eq_true] at h
 have := h.2 i (by simpa using hi)
 simp only [zF, Bool.not_eq_true', Bool.or_eq_false_iff, decide_eq_false_iff_not, ne_eq, Decidable.not_not] at this
 have e : s.data.getD i [] = s.data[i] := by simp [hi]
 rw [e] at this
 exact this.1
theorem rH {r : Rec} (h : bE r = 0) : r.data.length ≤ 4000 ∧ lS r.kind r.data = true := by
 unfold bE at h
 split at h
 ·omega
 ·split at h
  ·omega
  ·rename_i h2
   simp only [not_or, Bool.not_eq_false] at h2
   exact ⟨by omega, h2.2.2.2.2.2⟩
def zR : SoaR := ⟨[], [], 0, 0, 0, 0, 0⟩
def nL (o : List UInt8) (l : List RSet) : List UInt8 := ((jM l o 6).getD BL).data.getD 0 []
def eI (o : List UInt8) (l : List RSet) : SoaR := if iF o l = 0 then cW (nL o l) else zR
theorem sR {d : List UInt8} (h : (bU d).isSome = true) : bU d = some (cW d) := by
 unfold bU at *
 simp only at *
 split at h
 ·rename_i h1; rw [if_pos h1]
 ·cases h
theorem ZoneOk.soaSet {o : List UInt8} {l : List RSet} (h : ZoneOk o l) : ∃ s, jM l o 6 = some s ∧ s ∈ l ∧ s.name = o ∧ s.kind = 6 ∧ s.data = [nL o l] ∧ bU (nL o l) = some (cW (nL o l)) ∧ (nL o l).length ≤ 4000 := by
 obtain ⟨s, hs⟩ := Option.isSome_iff_exists.1 h.soa
 obtain ⟨h1, h2, h3⟩ := uV hs
 have hr := h.right s h1
 have hm := h.may h1
 have hl : s.data.length = 1 := by
  simp only [gV, Bool.and_eq_true, Bool.not_eq_true', h3] at hr
  have := hr.1.1.2
  simp only [decide_true, Bool.true_and, Bool.or_eq_false_iff, decide_eq_false_iff_not, ne_eq, Decidable.not_not] at this
  exact this.2
 have hd : s.data = [nL o l] := by
  have e : nL o l = s.data.getD 0 [] := by rw [nL, hs]; rfl
  rw [e]
  match s.data, hl with
  | [d], _ => rfl
 have hc := AF hm (i := 0) (by omega)
 obtain ⟨c1, c2⟩ := rH hc
 have e0 : s.data[0]'(by omega) = nL o l := by simp [hd]
 simp only [e0, h3] at c1 c2
 refine ⟨s, hs, h1, by rw [h2, h.fold], h3, hd, sR ?_, c1⟩
 simpa [lS] using c2
def fT (s : List UInt8) : List (List UInt8) → List (List UInt8)
 | [] => [s]
 | x :: l => if Op.bytesLess x s = true then x :: fT s l else if x = s then x :: l else s :: x :: l
theorem pC (s : List UInt8) : ∀ l : List (List UInt8), (fT s l).length ≤ l.length + 1
 | [] => by simp [fT]
 | x :: l => by
   rw [fT]
   split
   ·have := pC s l; simp; omega
   ·split <;> simp
def bP (r : Rec) : RSet := ⟨fold r.name, r.kind, r.ttl, [r.data]⟩
def eQ (r : Rec) : List RSet → List RSet
 | [] => [bP r]
 | g :: gs => if nI g (bP r) = true then g :: eQ r gs else if nI (bP r) g = true then bP r :: g :: gs else ⟨fold r.name, r.kind, min r.ttl g.ttl, fT r.data g.data⟩ :: gs
def bI (l : List Rec) : List RSet := l.foldl (fun gs r => eQ r gs) []
theorem lJ {l : List Rec} {k : Nat} (h : k < l.length) : bI (l.take (k + 1)) = eQ l[k] (bI (l.take k)) := by
 rw [bI, List.take_add_one, List.getElem?_eq_getElem h, Option.toList_some, List.foldl_append]
 rfl
theorem rI (r : Rec) : ∀ gs : List RSet, (eQ r gs).length ≤ gs.length + 1
 | [] => by simp [eQ]
 | g :: gs => by
   have := rI r gs
   rw [eQ]
   split
   ·simp; omega
   ·split <;> simp
theorem pD (r : Rec) (n : Nat) : ∀ gs : List RSet, (∀ s ∈ gs, s.data.length ≤ n) → ∀ s ∈ eQ r gs, s.data.length ≤ n + 1
 | [], _, s, h => by
   have : s = bP r := by simpa [eQ] using h
   subst this; simp [bP]
 | g :: gs, hn, s, h => by
   have hg := hn g (by simp)
   have hn' : ∀ s ∈ gs, s.data.length ≤ n := fun s hs => hn s (by simp [hs])
   rw [eQ] at h
   split at h
   ·rcases List.mem_cons.1 h with rfl | h
    ·omega
    ·exact pD r n gs hn' s h
   ·split at h
    ·rcases List.mem_cons.1 h with rfl | h
     ·simp [bP]
     ·have := hn s h; omega
    ·rcases List.mem_cons.1 h with rfl | h
     ·have := pC r.data g.data
      show (fT r.data g.data).length ≤ n + 1
      omega
     ·have := hn' s h; omega
theorem fF (l : List Rec) : ∀ k, k ≤ l.length → (bI (l.take k)).length ≤ k ∧ ∀ s ∈ bI (l.take k), s.data.length ≤ k
 | 0, _ => by simp [bI]
 | k + 1, h => by
   obtain ⟨h1, h2⟩ := fF l k (by omega)
   rw [lJ (show k < l.length by omega)]
   have := rI (l[k]'(by omega)) (bI (l.take k))
   exact ⟨by omega, pD _ k _ h2⟩
def jR (l : List Rec) : Int := if l.all oP = false then 1 else if 200 < (bI l).length then 4 else if (bI l).any wL = true then 4 else 0
def RefR (B : Nat) (l : List Rec) (r : Value) (w' : World) : Prop := if jR l = 0 then ∃ v, r = .tuple #[v, .int .i64 0] ∧ SetsO B w' v (bI l) else r = .tuple #[.slice none 0 0, .int .i64 (jR l)]
theorem pE : ∀ {gs : List RSet} {r : Rec} {s : RSet}, lB gs → s ∈ bQ gs r → (s ∈ gs ∧ aO s r = false) ∨ (∃ t ∈ gs, aO t r = true ∧ s = dZ t r) ∨ ((∀ t ∈ gs, aO t r = false) ∧ s = ⟨fold r.name, r.kind, r.ttl, [r.data]⟩)
 | [], r, s, _, h => by
   right; right
   exact ⟨by simp, by simpa [bQ] using h⟩
 | a :: l, r, s, hd, h => by
   obtain ⟨p1, p2⟩ := List.pairwise_cons.1 (dB.1 hd)
   by_cases hm : aO a r = true
   ·simp only [bQ, hm, if_true, List.mem_cons] at h
    rcases h with h | h
    ·exact .inr (.inl ⟨a, by simp, hm, h⟩)
    ·refine .inl ⟨by simp [h], ?_⟩
     cases hs : aO s r with
     | false => rfl
     | true =>
      exfalso
      simp only [aO, Bool.and_eq_true, decide_eq_true_eq] at hs hm
      exact p1 s h ⟨by rw [hm.1, hs.1], by rw [hm.2, hs.2]⟩
   ·have hm' : aO a r = false := by simpa using hm
    simp only [bQ, hm', Bool.false_eq_true, if_false, List.mem_cons] at h
    rcases h with rfl | h
    ·exact .inl ⟨by simp, hm'⟩
    ·rcases pE (dB.2 p2) h with ⟨h1, h2⟩ | ⟨t, h1, h2, h3⟩ | ⟨h1, h2⟩
     ·exact .inl ⟨by simp [h1], h2⟩
     ·exact .inr (.inl ⟨t, by simp [h1], h2, h3⟩)
     ·refine .inr (.inr ⟨?_, h2⟩)
      intro t ht
      rcases List.mem_cons.1 ht with rfl | ht
      ·exact hm'
      ·exact h1 t ht
structure Ch (L : List Rec) (s : RSet) : Prop where
 dat : ∀ d, d ∈ s.data ↔ ∃ r ∈ L, aO s r = true ∧ r.data = d
 ttl : ∃ r ∈ L, aO s r = true ∧ r.ttl = s.ttl
 low : ∀ r ∈ L, aO s r = true → s.ttl ≤ r.ttl
theorem Ch.miss {L : List Rec} {s : RSet} {r : Rec} (h : Ch L s) (hm : aO s r = false) : Ch (L ++ [r]) s where
 dat d := by
  rw [h.dat]
  constructor
  ·rintro ⟨q, h1, h2⟩; exact ⟨q, by simp [h1], h2⟩
  ·rintro ⟨q, h1, h2, h3⟩
   rcases List.mem_append.1 h1 with h1 | h1
   ·exact ⟨q, h1, h2, h3⟩
   ·obtain rfl := List.mem_singleton.1 h1
    rw [hm] at h2; cases h2
 ttl := let ⟨q, h1, h2⟩ := h.ttl; ⟨q, by simp [h1], h2⟩
 low q h1 h2 := by
  rcases List.mem_append.1 h1 with h1 | h1
  ·exact h.low q h1 h2
  ·obtain rfl := List.mem_singleton.1 h1
   rw [hm] at h2; cases h2
theorem Ch.bump {L : List Rec} {s : RSet} {r : Rec} (h : Ch L s) (hm : aO s r = true) : Ch (L ++ [r]) (X.dZ s r) where
 dat d := by
  show d ∈ s.data ++ [r.data] ↔ ∃ q ∈ L ++ [r], aO s q = true ∧ q.data = d
  rw [List.mem_append, h.dat, List.mem_singleton]
  constructor
  ·rintro (⟨q, h1, h2⟩ | rfl)
   ·exact ⟨q, by simp [h1], h2⟩
   ·exact ⟨r, by simp, hm, rfl⟩
  ·rintro ⟨q, h1, h2, h3⟩
   rcases List.mem_append.1 h1 with h1 | h1
   ·exact .inl ⟨q, h1, h2, h3⟩
   ·obtain rfl := List.mem_singleton.1 h1
    exact .inr h3.symm
 ttl := by
  show ∃ q ∈ L ++ [r], aO s q = true ∧ q.ttl = min s.ttl r.ttl
  obtain ⟨q, h1, h2, h3⟩ := h.ttl
  rcases Int.le_total s.ttl r.ttl with hl | hl
  ·exact ⟨q, by simp [h1], h2, by rw [h3]; omega⟩
  ·exact ⟨r, by simp, hm, by omega⟩
 low q h1 h2 := by
  show min s.ttl r.ttl ≤ q.ttl
  rcases List.mem_append.1 h1 with h1 | h1
  ·have := h.low q h1 h2
   omega
  ·obtain rfl := List.mem_singleton.1 h1
   omega
theorem Ch.new {L : List Rec} {r : Rec} (h : ∀ q ∈ L, aO ⟨fold r.name, r.kind, r.ttl, [r.data]⟩ q = false) : Ch (L ++ [r]) ⟨fold r.name, r.kind, r.ttl, [r.data]⟩ where
 dat d := by
  rw [List.mem_singleton]
  constructor
  ·rintro rfl; exact ⟨r, by simp, by simp [aO], rfl⟩
  ·rintro ⟨q, h1, h2, h3⟩
   rcases List.mem_append.1 h1 with h1 | h1
   ·rw [h q h1] at h2; cases h2
   ·obtain rfl := List.mem_singleton.1 h1
    exact h3.symm
 ttl := ⟨r, by simp, by simp [aO], rfl⟩
 low q h1 h2 := by
  rcases List.mem_append.1 h1 with h1 | h1
  ·rw [h q h1] at h2; cases h2
  ·obtain rfl := List.mem_singleton.1 h1
   exact Int.le_refl _
theorem pF (l : List Rec) : ∀ k, k ≤ l.length → ∀ s ∈ bG (l.take k), Ch (l.take k) s
 | 0, _, s, h => by simp [bG] at h
 | k + 1, hk, s, h => by
   have hlt : k < l.length := by omega
   have e : l.take (k + 1) = l.take k ++ [l[k]] := by simp
   rw [gU hlt] at h
   rw [e]
   have ih := pF l k (by omega)
   rcases pE (eG _) h with ⟨h1, h2⟩ | ⟨t, h1, h2, rfl⟩ | ⟨h1, rfl⟩
   ·exact (ih s h1).miss h2
   ·exact (ih t h1).bump h2
   ·refine Ch.new fun q hq => ?_
    obtain ⟨t, ht, hm, _⟩ := nH hq
    have := h1 t ht
    cases hx : aO ⟨fold l[k].name, l[k].kind, l[k].ttl, [l[k].data]⟩ q with
    | false => rfl
    | true =>
     exfalso
     simp only [aO, Bool.and_eq_true, decide_eq_true_eq] at hx hm
     have h5 : aO t l[k] = true := by
      simp only [aO, Bool.and_eq_true, decide_eq_true_eq]
      exact ⟨by rw [hm.1, hx.1], by rw [hm.2, hx.2]⟩
     rw [this] at h5; cases h5
theorem Ch.norm {L : List Rec} {s : RSet} (h : Ch L s) : Ch L (X.fS s) where
 dat d := by
  show d ∈ BI s.data ↔ ∃ r ∈ L, aO s r = true ∧ r.data = d
  rw [yG, h.dat]
 ttl := h.ttl
 low := h.low
theorem pG {l : List Rec} {s : RSet} (h : s ∈ cG l) : Ch l s ∧ s.data.Pairwise (· < ·) := by
 obtain ⟨u, hu, rfl⟩ := List.mem_map.1 h
 have := pF l l.length (Nat.le_refl _)
 rw [List.take_length] at this
 exact ⟨(this u hu).norm, sM _⟩
theorem Ch.uniq {L : List Rec} {s t : RSet} (h : Ch L s) (k : Ch L t) (hs : s.data.Pairwise (· < ·)) (ht : t.data.Pairwise (· < ·)) (hn : s.name = t.name) (hk : s.kind = t.kind) : s = t := by
 have hm : ∀ r, aO s r = aO t r := fun r => by rw [aO, aO, hn, hk]
 have hd : s.data = t.data := uP hs ht fun d => by
  rw [h.dat, k.dat]
  simp only [hm]
 have ha : s.ttl = t.ttl := by
  obtain ⟨q, h1, h2, h3⟩ := h.ttl
  obtain ⟨q', k1, k2, k3⟩ := k.ttl
  have e1 := k.low q h1 (by rw [← hm]; exact h2)
  have e2 := h.low q' k1 (by rw [hm]; exact k2)
  omega
 cases s; cases t
 simp_all
def gI (s t : RSet) : Int := cI s.name t.name s.kind t.kind
theorem nM : TPO gI := eO.comap fun s : RSet => (s.name, s.kind)
def SO (gs : List RSet) : Prop := gs.Pairwise fun s t => gI s t < 0
def BM (r : Rec) (t : RSet) : RSet := ⟨fold r.name, r.kind, min r.ttl t.ttl, fT r.data t.data⟩
theorem gY (a b : RSet) : nI a b = decide (gI a b < 0) := uT a b
theorem cF {s : RSet} {r : Rec} : aO s r = true ↔ s.name = fold r.name ∧ s.kind = r.kind := by simp [aO]
theorem jS {s t u : RSet} (hn : s.name = t.name) (hk : s.kind = t.kind) : gI u s = gI u t ∧ gI s u = gI t u := by
 unfold gI; rw [hn, hk]; exact ⟨rfl, rfl⟩
theorem jT {s : RSet} {r : Rec} (h : gI s (bP r) ≠ 0) : aO s r = false := by
 cases hm : aO s r with
 | false => rfl
 | true =>
  obtain ⟨h1, h2⟩ := cF.1 hm
  exact absurd (by rw [(jS (t := bP r) h1 h2).2]; exact nM.refl _) h
theorem rJ {r : Rec} (hr : Small (fold r.name)) : ∀ {gs : List RSet} {s : RSet}, SO gs → (∀ g ∈ gs, Small g.name) → s ∈ eQ r gs →
 (s ∈ gs ∧ aO s r = false) ∨ (∃ t ∈ gs, aO t r = true ∧ s = BM r t) ∨ ((∀ t ∈ gs, aO t r = false) ∧ s = bP r)
 | [], s, _, _, h => by
   right; right
   exact ⟨by simp, by simpa [eQ] using h⟩
 | g :: gs, s, hso, hsm, h => by
   obtain ⟨p1, p2⟩ := List.pairwise_cons.1 hso
   have hg := hsm g (by simp)
   rw [eQ, gY, gY] at h
   by_cases h1 : gI g (bP r) < 0
   ·rw [if_pos (decide_eq_true h1)] at h
    have m1 : aO g r = false := jT (by omega)
    rcases List.mem_cons.1 h with rfl | h
    ·exact .inl ⟨by simp, m1⟩
    ·rcases rJ hr p2 (fun x hx => hsm x (by simp [hx])) h with ⟨a, b⟩ | ⟨t, a, b, c⟩ | ⟨a, b⟩
     ·exact .inl ⟨by simp [a], b⟩
     ·exact .inr (.inl ⟨t, by simp [a], b, c⟩)
     ·refine .inr (.inr ⟨fun t ht => ?_, b⟩)
      rcases List.mem_cons.1 ht with rfl | ht
      ·exact m1
      ·exact a t ht
   ·rw [if_neg (by simpa using h1)] at h
    by_cases h2 : gI (bP r) g < 0
    ·rw [if_pos (decide_eq_true h2)] at h
     have m1 : aO g r = false := jT (by have := nM.anti g (bP r); omega)
     have m2 : ∀ t ∈ gs, aO t r = false := fun t ht => jT (by
      have := nM.ltt h2 (p1 t ht)
      have := nM.anti t (bP r); omega)
     rcases List.mem_cons.1 h with rfl | h
     ·refine .inr (.inr ⟨fun t ht => ?_, rfl⟩)
      rcases List.mem_cons.1 ht with rfl | ht
      ·exact m1
      ·exact m2 t ht
     ·rcases List.mem_cons.1 h with rfl | h
      ·exact .inl ⟨by simp, m1⟩
      ·exact .inl ⟨by simp [h], m2 s h⟩
    ·rw [if_neg (by simpa using h2)] at h
     have h0 : gI g (bP r) = 0 := by have := nM.anti g (bP r); omega
     obtain ⟨e1, e2⟩ := eX hg hr h0
     have mg : aO g r = true := cF.2 ⟨e1, e2⟩
     rcases List.mem_cons.1 h with rfl | h
     ·exact .inr (.inl ⟨g, by simp, mg, rfl⟩)
     ·refine .inl ⟨by simp [h], jT ?_⟩
      have := p1 s h
      rw [(jS (t := bP r) e1 e2).2] at this
      have := nM.anti s (bP r); omega
theorem rK {r : Rec} : ∀ {gs : List RSet} {s : RSet}, s ∈ eQ r gs → s ∈ gs ∨ (s.name = fold r.name ∧ s.kind = r.kind)
 | [], s, h => by
   right
   have : s = bP r := by simpa [eQ] using h
   subst this; exact ⟨rfl, rfl⟩
 | g :: gs, s, h => by
   rw [eQ] at h
   split at h
   ·rcases List.mem_cons.1 h with rfl | h
    ·exact .inl (by simp)
    ·rcases rK h with h | h
     ·exact .inl (by simp [h])
     ·exact .inr h
   ·split at h
    ·rcases List.mem_cons.1 h with rfl | h
     ·exact .inr ⟨rfl, rfl⟩
     ·exact .inl h
    ·rcases List.mem_cons.1 h with rfl | h
     ·exact .inr ⟨rfl, rfl⟩
     ·exact .inl (by simp [h])
theorem tP {r : Rec} (hr : Small (fold r.name)) : ∀ {gs : List RSet}, SO gs → (∀ g ∈ gs, Small g.name) → SO (eQ r gs)
 | [], _, _ => by simp [eQ, SO]
 | g :: gs, hso, hsm => by
   obtain ⟨p1, p2⟩ := List.pairwise_cons.1 hso
   have hg := hsm g (by simp)
   rw [eQ, gY, gY]
   by_cases h1 : gI g (bP r) < 0
   ·rw [if_pos (decide_eq_true h1)]
    refine List.pairwise_cons.2 ⟨fun s hs => ?_, tP hr p2 fun x hx => hsm x (by simp [hx])⟩
    rcases rK hs with h | ⟨a, b⟩
    ·exact p1 s h
    ·rw [(jS (t := bP r) a b).1]; exact h1
   ·rw [if_neg (by simpa using h1)]
    by_cases h2 : gI (bP r) g < 0
    ·rw [if_pos (decide_eq_true h2)]
     refine List.pairwise_cons.2 ⟨fun s hs => ?_, hso⟩
     rcases List.mem_cons.1 hs with rfl | hs
     ·exact h2
     ·exact nM.ltt h2 (p1 s hs)
    ·rw [if_neg (by simpa using h2)]
     have h0 : gI g (bP r) = 0 := by have := nM.anti g (bP r); omega
     obtain ⟨e1, e2⟩ := eX hg hr h0
     refine List.pairwise_cons.2 ⟨fun s hs => ?_, p2⟩
     have := p1 s hs
     rw [(jS (s := g) (t := ⟨fold r.name, r.kind, min r.ttl g.ttl, fT r.data g.data⟩) e1 e2).2] at this
     exact this
theorem gJ {s : List UInt8} : ∀ {l : List (List UInt8)}, l.Pairwise (· < ·) → (fT s l).Pairwise (· < ·) ∧ ∀ x, x ∈ fT s l ↔ x = s ∨ x ∈ l
 | [], _ => by simp [fT]
 | y :: l, h => by
   obtain ⟨p1, p2⟩ := List.pairwise_cons.1 h
   obtain ⟨i1, i2⟩ := gJ (s := s) p2
   rw [fT]
   by_cases h1 : y < s
   ·rw [if_pos (tK.2 h1)]
    refine ⟨List.pairwise_cons.2 ⟨fun x hx => ?_, i1⟩, fun x => ?_⟩
    ·rcases (i2 x).1 hx with rfl | hx
     ·exact h1
     ·exact p1 x hx
    ·simp only [List.mem_cons, i2]; exact or_left_comm
   ·rw [if_neg (fun hb => h1 (tK.1 hb))]
    by_cases h2 : y = s
    ·rw [if_pos h2]
     subst h2
     exact ⟨h, fun x => by simp⟩
    ·rw [if_neg h2]
     have h3 : s < y := lE (List.not_lt.1 h1) (fun e => h2 e.symm)
     refine ⟨List.pairwise_cons.2 ⟨fun x hx => ?_, h⟩, fun x => by simp⟩
     rcases List.mem_cons.1 hx with rfl | hx
     ·exact h3
     ·exact List.lt_trans h3 (p1 x hx)
theorem pH {r : Rec} (hr : Small (fold r.name)) : ∀ {gs : List RSet}, (∀ g ∈ gs, Small g.name) → ∀ t ∈ gs, ∃ s ∈ eQ r gs, s.name = t.name ∧ s.kind = t.kind
 | [], _, t, h => by simp at h
 | g :: gs, hsm, t, h => by
   have hg := hsm g (by simp)
   rw [eQ, gY, gY]
   by_cases h1 : gI g (bP r) < 0
   ·rw [if_pos (decide_eq_true h1)]
    rcases List.mem_cons.1 h with rfl | h
    ·exact ⟨t, by simp, rfl, rfl⟩
    ·obtain ⟨s, a, b⟩ := pH hr (fun x hx => hsm x (by simp [hx])) t h
     exact ⟨s, by simp [a], b⟩
   ·rw [if_neg (by simpa using h1)]
    by_cases h2 : gI (bP r) g < 0
    ·rw [if_pos (decide_eq_true h2)]
     exact ⟨t, List.mem_cons_of_mem _ h, rfl, rfl⟩
    ·rw [if_neg (by simpa using h2)]
     have h0 : gI g (bP r) = 0 := by have := nM.anti g (bP r); omega
     obtain ⟨e1, e2⟩ := eX hg hr h0
     rcases List.mem_cons.1 h with rfl | h
     ·exact ⟨_, List.mem_cons_self, e1.symm, e2.symm⟩
     ·exact ⟨t, by simp [h], rfl, rfl⟩
theorem rL (r : Rec) : ∀ gs : List RSet, ∃ s ∈ eQ r gs, s.name = fold r.name ∧ s.kind = r.kind
 | [] => ⟨bP r, by simp [eQ], rfl, rfl⟩
 | g :: gs => by
   obtain ⟨s, a, b⟩ := rL r gs
   rw [eQ]
   split
   ·exact ⟨s, by simp [a], b⟩
   ·split
    ·exact ⟨bP r, by simp, rfl, rfl⟩
    ·exact ⟨_, List.mem_cons_self, rfl, rfl⟩
theorem Ch.newS {L : List Rec} {t : RSet} {r : Rec} (h : Ch L t) (hm : aO t r = true) (ht : t.data.Pairwise (· < ·)) : Ch (L ++ [r]) (X.BM r t) := by
 have hb := h.bump hm
 obtain ⟨e1, e2⟩ := cF.1 hm
 have hk : ∀ q, aO (X.BM r t) q = aO (X.dZ t r) q := fun q => by simp only [aO, X.BM, X.dZ, e1, e2]; rfl
 refine ⟨fun d => ?_, ?_, fun q hq hmq => ?_⟩
 ·show d ∈ fT r.data t.data ↔ _
  rw [(gJ ht).2]
  have := hb.dat d
  simp only [hk]
  rw [← this]
  show _ ↔ d ∈ t.data ++ [r.data]
  simp [or_comm]
 ·obtain ⟨q, a, b, c⟩ := hb.ttl
  exact ⟨q, a, by rw [hk]; exact b, by rw [c]; show min t.ttl r.ttl = min r.ttl t.ttl; omega⟩
 ·have := hb.low q hq (by rw [← hk]; exact hmq)
  show min r.ttl t.ttl ≤ q.ttl
  have h2 : min t.ttl r.ttl ≤ q.ttl := this
  omega
theorem wU {r : Rec} (h : oP r = true) : Small (fold r.name) := by
 obtain ⟨ls, hl⟩ := Option.isSome_iff_exists.1 (eH (r := r) (n := []) (by simpa [oP] using h)).1
 exact ⟨r.name, ls, hl, rfl⟩
theorem nN {l : List Rec} (hok : l.all oP = true) : ∀ k, k ≤ l.length → SO (bI (l.take k)) ∧ (∀ s ∈ bI (l.take k), Ch (l.take k) s ∧ s.data.Pairwise (· < ·) ∧ Small s.name) ∧ ∀ q ∈ l.take k, ∃ s ∈ bI (l.take k), aO s q = true
 | 0, _ => by simp [bI, SO]
 | k + 1, h => by
   have hlt : k < l.length := by omega
   obtain ⟨i1, i2, i3⟩ := nN hok k (by omega)
   have hr := wU (List.all_eq_true.1 hok _ (List.getElem_mem hlt))
   have hsm : ∀ g ∈ bI (l.take k), Small g.name := fun g hg => (i2 g hg).2.2
   have e : l.take (k + 1) = l.take k ++ [l[k]] := by simp
   rw [lJ hlt, e]
   refine ⟨tP hr i1 hsm, fun s hs => ?_, fun q hq => ?_⟩
   ·rcases rJ hr i1 hsm hs with ⟨a, b⟩ | ⟨t, a, b, rfl⟩ | ⟨a, rfl⟩
    ·exact ⟨(i2 s a).1.miss b, (i2 s a).2⟩
    ·exact ⟨(i2 t a).1.newS b (i2 t a).2.1, (gJ (i2 t a).2.1).1, hr⟩
    ·refine ⟨Ch.new fun q hq => ?_, by simp [bP], hr⟩
     obtain ⟨t, ht, hm⟩ := i3 q hq
     cases hx : aO ⟨fold l[k].name, l[k].kind, l[k].ttl, [l[k].data]⟩ q with
     | false => rfl
     | true =>
      exfalso
      obtain ⟨x1, x2⟩ := cF.1 hx
      obtain ⟨y1, y2⟩ := cF.1 hm
      have h5 : aO t l[k] = true := cF.2 ⟨y1.trans x1.symm, y2.trans x2.symm⟩
      rw [a t ht] at h5; cases h5
   ·rcases List.mem_append.1 hq with hq | hq
    ·obtain ⟨t, ht, hm⟩ := i3 q hq
     obtain ⟨s, a, b, c⟩ := pH hr hsm t ht
     obtain ⟨y1, y2⟩ := cF.1 hm
     exact ⟨s, a, cF.2 ⟨b.trans y1, c.trans y2⟩⟩
    ·obtain rfl := List.mem_singleton.1 hq
     obtain ⟨s, a, b, c⟩ := rL l[k] (bI (l.take k))
     exact ⟨s, a, cF.2 ⟨b, c⟩⟩
theorem nO {l : List Rec} (hok : l.all oP = true) : SO (bI l) ∧ (∀ s ∈ bI l, Ch l s ∧ s.data.Pairwise (· < ·) ∧ Small s.name) ∧ ∀ q ∈ l, ∃ s ∈ bI l, aO s q = true := by
 have := nN hok l.length (Nat.le_refl _)
 rwa [List.take_length] at this
theorem lK {l : List Rec} (hok : l.all oP = true) : (bI l).Perm (cG l) := by
 obtain ⟨i1, i2, i3⟩ := nO hok
 have n1 : (cG l).Nodup := (jP _).imp fun h e => by subst e; exact h ⟨rfl, rfl⟩
 have n0 : (bI l).Nodup := i1.imp fun h e => by subst e; have := nM.refl ‹RSet›; omega
 refine (List.perm_ext_iff_of_nodup n0 n1).2 fun s => ⟨fun hs => ?_, fun hs => ?_⟩
 ·obtain ⟨hc, hst, _⟩ := i2 s hs
  obtain ⟨q, h1, h2, _⟩ := hc.ttl
  obtain ⟨t, ht, hm, _⟩ := nH h1
  have hg : fS t ∈ cG l := List.mem_map_of_mem ht
  obtain ⟨hc', hst'⟩ := pG hg
  obtain ⟨x1, x2⟩ := cF.1 h2
  obtain ⟨y1, y2⟩ := cF.1 hm
  have e := hc.uniq hc' hst hst' (x1.trans y1.symm) (x2.trans y2.symm)
  rw [e]; exact hg
 ·obtain ⟨hc, hst⟩ := pG hs
  obtain ⟨q, h1, h2, _⟩ := hc.ttl
  obtain ⟨t, ht, hm⟩ := i3 q h1
  obtain ⟨hc', hst', _⟩ := i2 t ht
  obtain ⟨x1, x2⟩ := cF.1 h2
  obtain ⟨y1, y2⟩ := cF.1 hm
  have e := hc.uniq hc' hst hst' (x1.trans y1.symm) (x2.trans y2.symm)
  rw [e]; exact ht
theorem oA {l : List Rec} (hok : l.all oP = true) : kN (bI l) := by
 obtain ⟨i1, _, _⟩ := nO hok
 intro i j s t hij hi hj
 obtain ⟨a, rfl⟩ := List.getElem?_eq_some_iff.1 hi
 obtain ⟨b, rfl⟩ := List.getElem?_eq_some_iff.1 hj
 have h := List.pairwise_iff_getElem.1 i1 i j a b hij
 have := nM.anti (bI l)[j] (bI l)[i]
 show 0 ≤ gI (bI l)[j] (bI l)[i]
 omega
theorem yL {l : List Rec} (hok : l.all oP = true) {out : List RSet} (hp : out.Perm (cG l)) (hs : kN out) : out = bI l :=
 sO hok hp (lK hok) hs (oA hok)
theorem zG (l : List Rec) : jR l = eA l := by
 unfold jR eA
 cases hok : l.all oP with
 | false => simp
 | true =>
  have hp := lK hok
  have hl := hp.length_eq
  have ha : (bI l).any wL = (cG l).any wL := by
   cases h : (cG l).any wL with
   | true =>
    obtain ⟨s, h1, h2⟩ := List.any_eq_true.1 h
    exact List.any_eq_true.2 ⟨s, hp.mem_iff.2 h1, h2⟩
   | false =>
    cases h' : (bI l).any wL with
    | false => rfl
    | true =>
     obtain ⟨s, h1, h2⟩ := List.any_eq_true.1 h'
     rw [List.any_eq_true.2 ⟨s, hp.mem_iff.1 h1, h2⟩] at h; cases h
  rw [ha, hl]
  simp only [Bool.true_eq_false, if_false]
  split <;> split <;> rfl
def tQ : List Value := [aE [], .slice none 0 0]
def iG (o : List UInt8) (l : List Rec) : Int := if jR l = 0 then iF (fold o) (bI l) else jR l
def jU (o : List UInt8) (l : List Rec) : List UInt8 := if iG o l = 0 then fold o else []
def jV (o : List UInt8) (l : List Rec) : List RSet := if iG o l = 0 then bI l else []
def LoadU (B : Nat) (o : List UInt8) (l : List Rec) (r : Value) (w' : World) : Prop :=
 ∃ v, r = .tuple #[.agg #[aE (jU o l), v], .int .i64 (iG o l)] ∧ SetsO B w' v (jV o l)
theorem LoadU.bad {B : Nat} {o : List UInt8} {l : List Rec} {e : Int} {w' : World} (h : iG o l = e) (he : e ≠ 0) : LoadU B o l (.tuple #[.agg tQ.toArray, .int .i64 e]) w' := by
 refine ⟨.slice none 0 0, ?_, ?_⟩
 ·rw [h, jU, if_neg (by rw [h]; exact he)]; rfl
 ·rw [jV, if_neg (by rw [h]; exact he)]; exact SetsO.nil _ _
def wV (B : Nat) (l : List Rec) (r : Value) (w' : World) : Prop := ∃ v, r = .tuple #[v, .int .i64 (jR l)] ∧ (jR l = 0 → SetsO B w' v (bI l))
theorem RefR.uni {B : Nat} {l : List Rec} {r : Value} {w' : World} (h : RefR B l r w') : wV B l r w' := by
 unfold RefR at h
 split at h
 ·rename_i h0
  obtain ⟨v, rfl, hv⟩ := h
  exact ⟨v, by rw [h0], fun _ => hv⟩
 ·rename_i h0
  exact ⟨_, h, fun h1 => absurd h1 h0⟩
theorem GroupO.uni {B : Nat} {l : List Rec} {r : Value} {w' : World} (h : GroupO B l r w') : wV B l r w' := by
 unfold GroupO at h
 rw [← zG] at h
 split at h
 ·rename_i h0
  obtain ⟨out, v, rfl, hp, hs, hv⟩ := h
  have hok : l.all oP = true := by
   cases hok : l.all oP with
   | true => rfl
   | false => rw [jR, if_pos hok] at h0; cases h0
  have e := yL hok hp hs
  exact ⟨v, by rw [h0], fun _ => by rw [← e]; exact hv⟩
 ·rename_i h0
  exact ⟨_, h, fun h1 => absurd h1 h0⟩
section
variable {P : Program} {ops : Array Oper} {Q : Exit → Act → World → Prop} {w : World} {rest : List Oper} {ts : List Value} {df : List Deferred} {ty : TypeId} {ps : String} {af : Array Edge} {g : Option (Nat × Bool)}
end
structure SetsW (B : Nat) (w : World) (css : List (List Value)) (l : List RSet) : Prop where
 len : css.length = l.length
 at' : ∀ (i : Nat) (s : RSet), l[i]? = some s → ∃ x, css[i]? = some [aE s.name, .int .i64 s.kind, .int .i64 s.ttl, x] ∧ Own B 1 9 w x (aG s.data)
theorem SetsW.sets {B : Nat} {w : World} {css : List (List Value)} {l : List RSet} (h : SetsW B w css l) : SetsC w css l :=
 ⟨h.len, fun i s hi => let ⟨x, a, b⟩ := h.at' i s hi; ⟨x, a, b.sl⟩⟩
theorem SetsW.ext {B : Nat} {w w' : World} {css : List (List Value)} {l : List RSet} (h : SetsW B w css l) (hx : Ext w w') : SetsW B w' css l :=
 ⟨h.len, fun i s hi => let ⟨x, a, b⟩ := h.at' i s hi; ⟨x, a, b.ext hx⟩⟩
theorem SetsW.mv {B B' k' e' : Nat} {w w' : World} {css : List (List Value)} {l : List RSet} {v : Value} {es : List (List Value)} (h : SetsW B w css l) (ho : Own B' k' e' w v es) (he : 9 ≠ e') (hm : Mv v.ownBlock w w') : SetsW B w' css l :=
 ⟨h.len, fun i s hi => let ⟨x, a, b⟩ := h.at' i s hi; ⟨x, a, b.mv hm (b.ne ho he)⟩⟩
theorem SetsW.put {B b t : Nat} {w w' : World} {css : List (List Value)} {l : List RSet} {cs : Array Value} {fz : Nat × Nat} {o : Obj} (h : SetsW B w css l) (hb : w.heap[b]? = some (.cells cs t fz)) (ht : t ≠ 9) (hp : Put w w' b o) : SetsW B w' css l :=
 ⟨h.len, fun i s hi => let ⟨x, a, c⟩ := h.at' i s hi; ⟨x, a, c.mv hp.mv (.inr (c.neBlock hb ht))⟩⟩
theorem SetsW.weaken {B C : Nat} {w : World} {css : List (List Value)} {l : List RSet} (h : SetsW B w css l) (hc : C ≤ B) : SetsW C w css l :=
 ⟨h.len, fun i s hi => let ⟨x, a, b⟩ := h.at' i s hi; ⟨x, a, b.weaken hc⟩⟩
theorem SetsW.append {B : Nat} {w : World} {l m : List RSet} {c d : List (List Value)} (h : SetsW B w c l) (k : SetsW B w d m) : SetsW B w (c ++ d) (l ++ m) := by
 refine ⟨by rw [List.length_append, List.length_append, h.len, k.len], fun i s hi => ?_⟩
 rw [List.getElem?_append] at hi ⊢
 rw [h.len]
 split at hi
 ·rw [if_pos ‹_›]; exact h.at' i s hi
 ·rw [if_neg ‹_›]; exact k.at' _ s hi
theorem SetsW.one {B : Nat} {w : World} {s : RSet} {x : Value} (h : Own B 1 9 w x (aG s.data)) : SetsW B w [[aE s.name, .int .i64 s.kind, .int .i64 s.ttl, x]] [s] :=
 ⟨rfl, fun i t hi => by
  match i, hi with
  | 0, hi => cases hi; exact ⟨x, rfl, h⟩⟩
theorem SetsW.nil (B : Nat) (w : World) : SetsW B w [] [] := ⟨rfl, by simp⟩
theorem SetsW.from' {B C : Nat} {w : World} {css : List (List Value)} {l : List RSet} (h : SetsW B w css l) (hc : C ≤ B) : FromC C css := by
 intro f hf u hu
 obtain ⟨i, hi, rfl⟩ := List.mem_iff_getElem.1 hf
 obtain ⟨x, h1, h2⟩ := h.at' i _ (List.getElem?_eq_getElem (by rw [← h.len]; exact hi))
 rw [List.getElem?_eq_getElem hi] at h1
 rw [Option.some.inj h1] at hu
 exact (FromC.one (h2.from' hc)) _ (List.mem_singleton.2 rfl) u hu
structure SetsV (B : Nat) (w : World) (v : Value) (l : List RSet) : Prop where
 out : ∃ css, Own B 4 59 w v css ∧ SetsW B w css l
theorem SetsV.ext {B : Nat} {w w' : World} {v : Value} {l : List RSet} (h : SetsV B w v l) (hx : Ext w w') : SetsV B w' v l := by
 obtain ⟨css, h1, h2⟩ := h
 exact ⟨css, h1.ext hx, h2.ext hx⟩
theorem SetsV.weaken {B C : Nat} {w : World} {v : Value} {l : List RSet} (h : SetsV B w v l) (hc : C ≤ B) : SetsV C w v l := by
 obtain ⟨css, h1, h2⟩ := h
 exact ⟨css, h1.weaken hc, h2.weaken hc⟩
theorem SetsV.put {B b t : Nat} {w w' : World} {v : Value} {l : List RSet} {cs : Array Value} {fz : Nat × Nat} {o : Obj} (h : SetsV B w v l) (hb : w.heap[b]? = some (.cells cs t fz)) (ht : t ≠ 9) (ht2 : t ≠ 59) (hp : Put w w' b o) : SetsV B w' v l := by
 obtain ⟨css, h1, h2⟩ := h
 exact ⟨css, h1.mv hp.mv (.inr (h1.neBlock hb ht2)), h2.put hb ht hp⟩
theorem SetsV.slf {B : Nat} {w : World} {v : Value} {l : List RSet} (h : SetsV B w v l) : ∃ a n c, v = .slice a n c := by
 obtain ⟨css, h1, h2⟩ := h
 exact h1.sl.slf
def zH (s : SoaR) (n : Int) : SoaR := { s with serial := n }
def yM (o : List UInt8) (l : List RSet) (n : Int) : Int := if iF o l = 0 then (if (zH (eI o l) n).ok = true then 0 else 1) else iF o l
def CS (o : List UInt8) (l : List RSet) (n : Int) : List UInt8 := (zH (eI o l) n).data
def jW (d : List UInt8) (s : RSet) : RSet := if s.kind = 6 then ⟨s.name, s.kind, s.ttl, [d]⟩ else s
def BN (o : List UInt8) (l : List RSet) (n : Int) : List RSet := if yM o l n = 0 then l.map (jW (CS o l n)) else []
def BO (o : List UInt8) (l : List RSet) (n : Int) : List UInt8 := if yM o l n = 0 then o else []
def RenU (B : Nat) (o : List UInt8) (l : List RSet) (n : Int) (r : Value) (w' : World) : Prop :=
 ∃ v, r = .tuple #[.agg #[aE (BO o l n), v], .int .i64 (yM o l n)] ∧ SetsO B w' v (BN o l n)
theorem RenU.bad {B : Nat} {o : List UInt8} {l : List RSet} {n e : Int} {w' : World} (h : yM o l n = e) (he : e ≠ 0) : RenU B o l n (.tuple #[.agg tQ.toArray, .int .i64 e]) w' := by
 refine ⟨.slice none 0 0, ?_, ?_⟩
 ·rw [h, BO, if_neg (by rw [h]; exact he)]; rfl
 ·rw [BN, if_neg (by rw [h]; exact he)]; exact SetsO.nil _ _
theorem ZoneOk.one6 {o : List UInt8} {l : List RSet} (h : ZoneOk o l) {s : RSet} (hs : s ∈ l) (h6 : s.kind = 6) : s.name = o ∧ s.data.length = 1 := by
 have hr := h.right s hs
 simp only [gV, Bool.and_eq_true, Bool.not_eq_true', h6] at hr
 have := hr.1.1.2
 simp only [decide_true, Bool.true_and, Bool.or_eq_false_iff, decide_eq_false_iff_not, ne_eq, Decidable.not_not] at this
 exact this
theorem tR {d : List UInt8} {s : RSet} (h : ¬ s.kind = 6) : jW d s = s := by rw [jW, if_neg h]
theorem rM {d : List UInt8} {s : RSet} (h : s.kind = 6) : jW d s = ⟨s.name, s.kind, s.ttl, [d]⟩ := by rw [jW, if_pos h]
theorem SetsW.set {B : Nat} {w : World} {css : List (List Value)} {l : List RSet} (h : SetsW B w css l) {i : Nat} {s : RSet} {x : Value} (hx : Own B 1 9 w x (aG s.data)) : SetsW B w (css.set i [aE s.name, .int .i64 s.kind, .int .i64 s.ttl, x]) (l.set i s) := by
 refine ⟨by rw [List.length_set, List.length_set, h.len], fun j t hj => ?_⟩
 by_cases e : i = j
 ·subst e
  have hlt : i < l.length := by have := (List.getElem?_eq_some_iff.1 hj).1; simpa using this
  rw [List.getElem?_set_self hlt] at hj
  cases hj
  exact ⟨x, List.getElem?_set_self (by rw [h.len]; exact hlt), hx⟩
 ·rw [List.getElem?_set_ne e] at hj
  rw [List.getElem?_set_ne e]
  exact h.at' j t hj
structure SetsM (B : Nat) (w0 w : World) (css0 css : List (List Value)) (l : List RSet) (d : List UInt8) (k : Nat) : Prop where
 len : css.length = l.length
 new : ∀ (i : Nat) (s : RSet), l[i]? = some s → i < k → ∃ x, css[i]? = some [aE s.name, .int .i64 s.kind, .int .i64 s.ttl, x] ∧ Own B 1 9 w x (aG (jW d s).data)
 old : ∀ i, k ≤ i → css[i]? = css0[i]?
theorem SetsM.ext {B : Nat} {w0 w w' : World} {css0 css : List (List Value)} {l : List RSet} {d : List UInt8} {k : Nat} (h : SetsM B w0 w css0 css l d k) (hx : Ext w w') : SetsM B w0 w' css0 css l d k :=
 ⟨h.len, fun i s hi hk => let ⟨x, a, b⟩ := h.new i s hi hk; ⟨x, a, b.ext hx⟩, h.old⟩
theorem SetsM.mv {B : Nat} {w0 w w' : World} {css0 css : List (List Value)} {l : List RSet} {d : List UInt8} {k : Nat} {row : Option Nat} (h : SetsM B w0 w css0 css l d k) (hm : Mv row w w') (hne : ∀ x es, Own B 1 9 w x es → x.ownBlock = none ∨ x.ownBlock ≠ row) : SetsM B w0 w' css0 css l d k :=
 ⟨h.len, fun i s hi hk => let ⟨x, a, b⟩ := h.new i s hi hk; ⟨x, a, b.mv hm (hne x _ b)⟩, h.old⟩
theorem SetsM.step {B : Nat} {w0 w : World} {css0 css : List (List Value)} {l : List RSet} {d : List UInt8} {k : Nat} (h : SetsM B w0 w css0 css l d k) (hk : k < l.length) {y : Value} (hy : Own B 1 9 w y (aG (jW d l[k]).data)) :
 SetsM B w0 w css0 (css.set k [aE l[k].name, .int .i64 l[k].kind, .int .i64 l[k].ttl, y]) l d (k + 1) := by
 refine ⟨by rw [List.length_set, h.len], fun i s hi hik => ?_, fun i hi => ?_⟩
 ·by_cases e : k = i
  ·subst e
   rw [List.getElem?_eq_getElem hk] at hi
   cases hi
   exact ⟨y, List.getElem?_set_self (by rw [h.len]; exact hk), hy⟩
  ·obtain ⟨x, a, b⟩ := h.new i s hi (by omega)
   exact ⟨x, by rw [List.getElem?_set_ne e]; exact a, b⟩
 ·rw [List.getElem?_set_ne (by omega)]; exact h.old i (by omega)
theorem uW {d : List UInt8} {s : RSet} : (jW d s).name = s.name ∧ (jW d s).kind = s.kind ∧ (jW d s).ttl = s.ttl := by
 unfold jW; split <;> exact ⟨rfl, rfl, rfl⟩
theorem SetsM.done {B : Nat} {w0 w : World} {css0 css : List (List Value)} {l : List RSet} {d : List UInt8} (h : SetsM B w0 w css0 css l d l.length) : SetsW B w css (l.map (jW d)) := by
 refine ⟨by rw [List.length_map, h.len], fun i s hi => ?_⟩
 rw [List.getElem?_map] at hi
 cases hq : l[i]? with
 | none => rw [hq] at hi; cases hi
 | some t =>
  rw [hq] at hi
  cases hi
  obtain ⟨x, a, b⟩ := h.new i t hq (List.getElem?_eq_some_iff.1 hq).1
  obtain ⟨e1, e2, e3⟩ := uW (d := d) (s := t)
  exact ⟨x, by rw [e1, e2, e3]; exact a, b⟩
theorem wW {d : List UInt8} {s : SoaR} (h : bU d = some s) : s.ok = true := by
 unfold bU at h
 simp only at h
 split at h
 ·rename_i hh; cases h; exact hh.2.2.2
 ·cases h
theorem ZoneOk.only {o : List UInt8} {l : List RSet} (h : ZoneOk o l) {s : RSet} (hs : s ∈ l) (h6 : s.kind = 6) : s.data = [nL o l] := by
 obtain ⟨t, ht, _, _, _, hd, _⟩ := h.soaSet
 obtain ⟨i, hi, rfl⟩ := List.mem_iff_getElem.1 hs
 have hf := uU h.chk hi
 rw [h6, (h.one6 hs h6).1, ht] at hf
 rw [← Option.some.inj hf]
 exact hd
theorem ZoneOk.back {o d : List UInt8} {l : List RSet} (h : ZoneOk o l) : (l.map (jW d)).map (jW (nL o l)) = l := by
 rw [List.map_map]
 conv => rhs; rw [← List.map_id l]
 apply List.map_congr_left
 intro s hs
 simp only [Function.comp, id]
 by_cases h6 : s.kind = 6
 ·rw [rM (d := d) h6, rM (by exact h6)]
  have := h.only hs h6
  cases s
  simp only at this
  rw [this]
 ·rw [tR (d := d) h6, tR h6]
def BP (a b : List Rec) : List Rec := a.filter fun r => !decide (r ∈ b)
structure DeltaR where
 fr : Int
 to : Int
 gone : List Rec
 new : List Rec
 deriving DecidableEq, Inhabited
def BQ : DeltaR := ⟨0, 0, [], []⟩
def zI : List Rec → List Rec → Option (List Rec)
 | l, [] => some l
 | l, r :: g => if r ∈ l then zI (l.erase r) g else none
def BR : List Rec → List Rec → Option (List Rec)
 | l, [] => some l
 | l, r :: g => if r ∈ l then none else BR (l ++ [r]) g
def tS (l : List Rec) (d : DeltaR) : Option (List Rec) := (zI l d.gone).bind fun m => BR m d.new
def BS (o : List UInt8) (m : List Rec) (to : Int) : Int :=
 if iG o m = 0 then (if (eI (jU o m) (jV o m)).serial = to ∧ (fR (jV o m)).length = m.length ∧ BP m (fR (jV o m)) = [] then 0 else 2) else iG o m
def iY (o : List UInt8) (l : List RSet) (d : DeltaR) : Int :=
 if iF o l = 0 then (if (eI o l).serial = d.fr then (match tS (fR l) d with
  | none => 5
  | some m => BS o m d.to) else 7) else iF o l
def sS (o : List UInt8) (l : List RSet) (d : DeltaR) : List RSet := if iY o l d = 0 then jV o ((tS (fR l) d).getD []) else []
def rN (o : List UInt8) (l : List RSet) (d : DeltaR) : List UInt8 := if iY o l d = 0 then jU o ((tS (fR l) d).getD []) else []
theorem Ch.same {L M : List Rec} {s : RSet} (h : Ch L s) (hm : ∀ r, r ∈ L ↔ r ∈ M) : Ch M s where
 dat d := by
  rw [h.dat]
  constructor
  ·rintro ⟨r, h1, h2⟩; exact ⟨r, (hm r).1 h1, h2⟩
  ·rintro ⟨r, h1, h2⟩; exact ⟨r, (hm r).2 h1, h2⟩
 ttl := let ⟨r, h1, h2⟩ := h.ttl; ⟨r, (hm r).1 h1, h2⟩
 low r h1 h2 := h.low r ((hm r).2 h1) h2
set_option maxHeartbeats 3000000 in
theorem rO (v : Value) (l : List Rec) (w : World) (hv : Sl 4 w v (aI l)) (hl : l.length ≤ 1000000) : Calls Tryz.prog 94 #[v] w (tY w fun v' w' => Own w.heap.size 4 64 w' v' (aI l)) := by
 have hlen := aT l
 go_enter Tryz.func94, Tryz.ntmps94
 (repeat' first | ((with_reducible refine aJ ?_); go_step) | ((with_reducible refine aH ?_); first | refine gN ?_ | (refine aK ?_ ?_ <;> intro hc)) | fail)
 ·have hn := ‹tF v = true›
  go_ret
  have : aI l = [] := hv.isNil hn
  refine ⟨_, rfl, Ext.refl _, ?_⟩
  rw [this]
  exact Own.nil _ _ _ _
 ·refine mL (t := 23) (e := 64) (k := 4) (bytes := 48) (by decide +kernel) rfl ?_
  intro v2 w2 x2 s2 o2
  refine aA ?_
  (repeat' first | ((with_reducible refine aJ ?_); go_step) | ((with_reducible refine aH ?_); first | refine gN ?_ | (refine aK ?_ ?_ <;> intro hc)) | fail)
  refine dY (B := w.heap.size) (e := 64) rfl o2 rfl (hv.ext x2) (by intro f hf u hu; obtain ⟨r, _, rfl⟩ := List.mem_map.1 hf; simp only [Rec.cells, List.mem_cons, List.not_mem_nil, or_false] at hu; rcases hu with rfl | rfl | rfl | rfl <;> rfl) x2.size (by simp; omega) ?_
  intro v3 w3 o3 m3 _
  have x3 := o2.mvx m3 x2 (Nat.le_refl _)
  refine aA ?_
  (repeat' first | ((with_reducible refine aJ ?_); go_step) | ((with_reducible refine aH ?_); first | refine gN ?_ | (refine aK ?_ ?_ <;> intro hc)) | fail)
  go_ret
  exact ⟨_, rfl, x3, by simpa using o3⟩
def CT : List Value := [.int .i64 0, .int .i64 0, .slice none 0 0, .slice none 0 0]
def DelA (d : DeltaR) (r : Value) (w : World) : Prop := ∃ g n, r = .agg #[.int .i64 d.fr, .int .i64 d.to, g, n] ∧ Sl 4 w g (aI d.gone) ∧ Sl 4 w n (aI d.new)
def DelO (B : Nat) (d : DeltaR) (r : Value) (w : World) : Prop := ∃ g n, r = .agg #[.int .i64 d.fr, .int .i64 d.to, g, n] ∧ Own B 4 64 w g (aI d.gone) ∧ Own B 4 64 w n (aI d.new)
theorem DelO.a {B : Nat} {d : DeltaR} {r : Value} {w : World} (h : DelO B d r w) : DelA d r w := let ⟨g, n, e, a, b⟩ := h; ⟨g, n, e, a.sl, b.sl⟩
def DelU (B : Nat) (d : DeltaR) (e : Int) (r : Value) (w : World) : Prop := ∃ y, r = .tuple #[y, .int .i64 e] ∧ DelO B d y w
theorem DelU.bad {B : Nat} {d : DeltaR} {e : Int} {w : World} (h : d = BQ) : DelU B d e (.tuple #[.agg CT.toArray, .int .i64 e]) w := by
 subst h
 exact ⟨_, rfl, _, _, rfl, Own.nil _ _ _ _, Own.nil _ _ _ _⟩
end Go.Proofs.X
