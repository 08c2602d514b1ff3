/- A part of the proof of a statement on sets of records: what some functions of the program do, walked step by step. -/
import Derived.Test.YtmemlckaklckpaaT32
set_option linter.unusedSimpArgs false
set_option linter.unusedVariables false
namespace Go.Proofs.X
open Go.RowKit
set_option maxRecDepth 100000
/-! ### plain laws -/
theorem mem_upTo (d : Array (List UInt8)) (x : List UInt8) : ∀ m, x ∈ Lib.compactUpTo d m ↔ ∃ j, j < m ∧ d[j]! = x
  | 0 => by simp [Lib.compactUpTo]
  | m + 1 => by
    have ih := mem_upTo d x m
    rw [Lib.compactUpTo_succ, List.mem_append, ih]
    constructor
    · rintro (⟨j, h1, h2⟩ | h)
      · exact ⟨j, by omega, h2⟩
      · split at h
        · exact ⟨m, by omega, (List.mem_singleton.1 h).symm⟩
        · cases h
    · rintro ⟨j, h1, h2⟩
      by_cases hj : j < m
      · exact .inl ⟨j, hj, h2⟩
      · have : j = m := by omega
        subst this
        by_cases hk : Lib.keeps d j = true
        · right; rw [if_pos hk]; simp [h2]
        · left
          simp only [Lib.keeps, decide_eq_true_eq, not_or, ne_eq, Classical.not_not] at hk
          exact ⟨j - 1, by omega, by rw [← hk.2]; exact h2⟩
theorem lt_of_le_ne {a b : List UInt8} (h : a ≤ b) (hn : a ≠ b) : a < b := by
  rcases Std.lt_trichotomy a b with h1 | h1 | h1
  · exact h1
  · exact absurd h1 hn
  · exact absurd h (List.not_le.2 h1)
theorem strict_upTo (d : Array (List UInt8)) (hd : ∀ i j, i < j → j < d.size → d[i]! ≤ d[j]!) : ∀ m, m ≤ d.size → (Lib.compactUpTo d m).Pairwise (· < ·)
  | 0, _ => by simp [Lib.compactUpTo]
  | m + 1, hm => by
    have ih := strict_upTo d hd m (by omega)
    rw [Lib.compactUpTo_succ, List.pairwise_append]
    refine ⟨ih, by split <;> simp, fun x hx y hy => ?_⟩
    split at hy
    · rename_i hk
      have hy := List.mem_singleton.1 hy
      subst hy
      obtain ⟨j, hj, rfl⟩ := (mem_upTo d x m).1 hx
      simp only [Lib.keeps, decide_eq_true_eq] at hk
      have hne : d[m]! ≠ d[m - 1]! := hk.resolve_left (by omega)
      have h1 : d[j]! ≤ d[m - 1]! := by
        by_cases e : j = m - 1
        · rw [e]; exact List.le_refl _
        · exact hd j (m - 1) (by omega) (by omega)
      have h2 := lt_of_le_ne (hd (m - 1) m (by omega) (by omega)) (Ne.symm hne)
      exact Std.lt_of_le_of_lt h1 h2
    · cases hy
def nub (l : List (List UInt8)) : List (List UInt8) := Lib.compact (l.mergeSort fun x y => decide (x ≤ y))
theorem mem_nub {l : List (List UInt8)} {x : List UInt8} : x ∈ nub l ↔ x ∈ l := by
  unfold nub Lib.compact
  rw [mem_upTo]
  rw [← List.mem_mergeSort (le := fun x y : List UInt8 => decide (x ≤ y)) (l := l)]
  generalize l.mergeSort (fun x y => decide (x ≤ y)) = s
  constructor
  · rintro ⟨j, hj, h⟩
    rw [getElem!_pos s.toArray j (by simpa using hj)] at h
    rw [← h]
    simp
  · intro h
    obtain ⟨j, hj⟩ := List.mem_iff_getElem?.1 h
    obtain ⟨hj1, hj2⟩ := List.getElem?_eq_some_iff.1 hj
    exact ⟨j, hj1, by rw [getElem!_pos s.toArray j (by simpa using hj1)]; simpa using hj2⟩
theorem strict_nub (l : List (List UInt8)) : (nub l).Pairwise (· < ·) := by
  unfold nub Lib.compact
  have hs := List.pairwise_mergeSort (le := fun x y : List UInt8 => decide (x ≤ y)) (fun a b c h1 h2 => by simp at *; exact Std.le_trans h1 h2) (fun a b => by simp; exact Std.le_total) l
  generalize l.mergeSort (fun x y => decide (x ≤ y)) = s at hs ⊢
  refine strict_upTo _ (fun i j hij hj => ?_) _ (by simp)
  have hj' : j < s.length := by simpa using hj
  rw [getElem!_pos s.toArray j hj, getElem!_pos s.toArray i (by simp; omega)]
  have := List.pairwise_iff_getElem.1 hs i j (by omega) hj' hij
  simpa using this
theorem strict_eq : ∀ {a b : List (List UInt8)}, a.Pairwise (· < ·) → b.Pairwise (· < ·) → (∀ x, x ∈ a ↔ x ∈ b) → a = b := by
  intro a b ha hb h
  have na : a.Nodup := ha.imp (fun h e => by subst e; exact Std.lt_irrefl h)
  have nb : b.Nodup := hb.imp (fun h e => by subst e; exact Std.lt_irrefl h)
  have hp : a.Perm b := (List.perm_ext_iff_of_nodup na nb).2 h
  exact hp.eq_of_pairwise (le := (· < ·)) (fun x y _ _ h1 h2 => absurd (Std.lt_trans h1 h2) (Std.lt_irrefl)) ha hb
theorem nub_congr {a b : List (List UInt8)} (h : ∀ x, x ∈ a ↔ x ∈ b) : nub a = nub b :=
  strict_eq (strict_nub a) (strict_nub b) fun x => by rw [mem_nub, mem_nub, h]
theorem norm_eq (s : RSet) : norm s = ⟨s.name, s.kind, s.ttl, nub s.data⟩ := rfl
/-! covered -/
def Cov (gs : List RSet) (r : Rec) : Prop := ∃ s ∈ gs, match1 s r = true ∧ s.ttl ≤ r.ttl ∧ r.data ∈ s.data
theorem match1_bump {s : RSet} {r q : Rec} : match1 (bump s r) q = match1 s q := rfl
theorem addTo_cov_new : ∀ {gs : List RSet} {r : Rec}, Cov (addTo gs r) r
  | [], r => ⟨⟨fold r.name, r.kind, r.ttl, [r.data]⟩, by simp [addTo], by simp [match1], Int.le_refl _, by simp⟩
  | a :: l, r => by
    by_cases h : match1 a r = true
    · exact ⟨bump a r, by simp [addTo, h], by rw [match1_bump]; exact h, Int.min_le_right _ _, by simp [bump]⟩
    · obtain ⟨s, h1, h2⟩ := addTo_cov_new (gs := l) (r := r)
      exact ⟨s, by simp [addTo, h, h1], h2⟩
theorem addTo_cov : ∀ {gs : List RSet} {r q : Rec}, Cov gs q → Cov (addTo gs r) q
  | [], r, q, ⟨s, h, _⟩ => by simp at h
  | a :: l, r, q, ⟨s, h1, h2, h3, h4⟩ => by
    by_cases h : match1 a r = true
    · rcases List.mem_cons.1 h1 with rfl | h1
      · exact ⟨bump s r, by simp [addTo, h], by rw [match1_bump]; exact h2, Int.le_trans (Int.min_le_left _ _) h3, by simp [bump, h4]⟩
      · exact ⟨s, by simp [addTo, h, h1], h2, h3, h4⟩
    · rcases List.mem_cons.1 h1 with rfl | h1
      · exact ⟨s, by simp [addTo, h], h2, h3, h4⟩
      · obtain ⟨t, g1, g2⟩ := addTo_cov (gs := l) (r := r) ⟨s, h1, h2, h3, h4⟩
        exact ⟨t, by simp [addTo, h, g1], g2⟩
theorem gather_cov_aux (l : List Rec) : ∀ gs, (∀ q, Cov gs q → Cov (l.foldl addTo gs) q) ∧ ∀ q ∈ l, Cov (l.foldl addTo gs) q := by
  induction l with
  | nil => intro gs; exact ⟨fun _ h => h, by simp⟩
  | cons r l ih =>
    intro gs
    obtain ⟨h1, h2⟩ := ih (addTo gs r)
    refine ⟨fun q h => h1 q (addTo_cov h), fun q hq => ?_⟩
    rcases List.mem_cons.1 hq with rfl | hq
    · exact h1 q addTo_cov_new
    · exact h2 q hq
theorem gather_cov {l : List Rec} {q : Rec} (h : q ∈ l) : Cov (gather l) q := (gather_cov_aux l []).2 q h
theorem norm_bump {s : RSet} {r : Rec} (h1 : s.ttl ≤ r.ttl) (h2 : r.data ∈ s.data) : norm (bump s r) = norm s := by
  rw [norm_eq, norm_eq]
  simp only [bump, RSet.mk.injEq, true_and]
  refine ⟨by rw [Int.min_def, if_pos h1], nub_congr fun x => ?_⟩
  simp only [List.mem_append, List.mem_singleton]
  constructor
  · rintro (h | rfl)
    · exact h
    · exact h2
  · exact .inl
theorem addTo_old : ∀ {gs : List RSet} {r : Rec}, Apart gs → Cov gs r → (addTo gs r).map norm = gs.map norm
  | [], r, _, ⟨s, h, _⟩ => by simp at h
  | a :: l, r, hd, ⟨s, h1, h2, h3, h4⟩ => by
    have hd' := apart_pw.1 hd
    obtain ⟨p1, p2⟩ := List.pairwise_cons.1 hd'
    by_cases h : match1 a r = true
    · have hs : s = a := by
        rcases List.mem_cons.1 h1 with rfl | h1
        · rfl
        · exfalso
          simp only [match1, Bool.and_eq_true, decide_eq_true_eq] at h h2
          exact p1 s h1 ⟨by rw [h.1, h2.1], by rw [h.2, h2.2]⟩
      subst hs
      simp [addTo, h, norm_bump h3 h4]
    · have h1' : s ∈ l := by
        rcases List.mem_cons.1 h1 with rfl | h1
        · exact absurd h2 h
        · exact h1
      have := addTo_old (gs := l) (r := r) (apart_pw.2 p2) ⟨s, h1', h2, h3, h4⟩
      simp [addTo, h, this]
theorem foldl_old : ∀ (l : List Rec) (gs : List RSet), Apart gs → (∀ q ∈ l, Cov gs q) → (l.foldl addTo gs).map norm = gs.map norm
  | [], gs, _, _ => rfl
  | r :: l, gs, hd, hc => by
    rw [List.foldl_cons, foldl_old l _ (addTo_apart hd) (fun q hq => addTo_cov (hc q (by simp [hq])))]
    exact addTo_old hd (hc r (by simp))
theorem groups_twice (l : List Rec) : groups (l ++ l) = groups l := by
  unfold groups
  have : gather (l ++ l) = l.foldl addTo (gather l) := by unfold gather; rw [List.foldl_append]
  rw [this]
  exact foldl_old l _ (gather_apart l) fun q hq => gather_cov hq
theorem groupE_twice (l : List Rec) : groupE (l ++ l) = groupE l := by
  unfold groupE
  rw [groups_twice, List.all_append, Bool.and_self]
/-! names -/
theorem parse_enc : ∀ {ls : List (List UInt8)}, ls.all fitL = true → parse (enc ls) = some ls
  | [], _ => rfl
  | x :: ls, h => by
    simp only [List.all_cons, Bool.and_eq_true] at h
    obtain ⟨hx, hl⟩ := h
    have e : enc (x :: ls) = UInt8.ofNat x.length :: (x ++ enc ls) := by simp [enc]
    simp only [fitL, Bool.and_eq_true, decide_eq_true_eq] at hx
    have hn : (UInt8.ofNat x.length).toNat = x.length := by rw [UInt8.toNat_ofNat']; exact Nat.mod_eq_of_lt (by omega)
    rw [e, parse_cons, hn, if_neg (by rw [List.length_append]; omega), List.drop_left, List.take_left, parse_enc hl]
    rfl
theorem labels_enc {ls : List (List UInt8)} (h : ls.all fitL = true) (hl : (enc ls).length ≤ 254) : labels (enc ls) = some ls := by
  rw [labels, if_neg (by omega), parse_enc h]
theorem lowB_idem (b : UInt8) : lowB (lowB b) = lowB b := by
  unfold lowB
  by_cases h : 65 ≤ b.toNat ∧ b.toNat ≤ 90
  · rw [if_pos h, if_neg]
    have : (b + 32).toNat = b.toNat + 32 := by rw [UInt8.toNat_add]; have : (32 : UInt8).toNat = 32 := rfl; rw [this]; omega
    omega
  · rw [if_neg h, if_neg h]
theorem low_idem (l : List UInt8) : low (low l) = low l := by simp [low, lowB_idem]
theorem fit_low {ls : List (List UInt8)} (h : ls.all fitL = true) : (ls.map low).all fitL = true := by
  simp only [List.all_map, List.all_eq_true] at *
  intro x hx
  have := h x hx
  simpa [fitL, low_length] using this
theorem fold_valid {n : List UInt8} {ls : List (List UInt8)} (h : labels n = some ls) : fold n = enc (ls.map low) ∧ labels (fold n) = some (ls.map low) ∧ fold (fold n) = fold n := by
  obtain ⟨h1, h2, h3⟩ := labels_fit h
  have hf := fit_low h1
  have hl : (enc (ls.map low)).length ≤ 254 := by rw [enc_low_length, h2]; exact h3
  have e1 : fold n = enc (ls.map low) := by
    unfold fold
    rw [h]
    simp only [join]
    rw [if_pos ⟨hf, hl⟩]
    rfl
  have e2 : labels (fold n) = some (ls.map low) := by rw [e1]; exact labels_enc hf hl
  refine ⟨e1, e2, ?_⟩
  have hmm : (ls.map low).map low = ls.map low := by simp [List.map_map, Function.comp_def, low_idem]
  show (match labels (fold n) with | none => fold n | some ls => (join (ls.map low)).getD []) = fold n
  rw [e2]
  simp only [hmm, join]
  rw [if_pos ⟨hf, hl⟩, e1]
  rfl
/-- a name that is small -/
def Small (n : List UInt8) : Prop := ∃ m ls, labels m = some ls ∧ n = fold m
theorem Small.turned {n : List UInt8} (h : Small n) : ∃ ls, turned n = some ls.reverse ∧ n = enc ls := by
  obtain ⟨m, ls, h1, rfl⟩ := h
  obtain ⟨e1, e2, e3⟩ := fold_valid h1
  exact ⟨ls.map low, by rw [X.turned, e3, e2]; rfl, e1⟩
theorem cmpB_zero {a b : List UInt8} (h : cmpB a b = 0) : a = b := by
  rw [cmpB_val] at h
  split at h
  · omega
  · split at h
    · assumption
    · omega
theorem cmpL_zero : ∀ {a b : List (List UInt8)}, cmpL a b = 0 → a = b
  | [], [], _ => rfl
  | [], _ :: _, h => by simp [cmpL] at h
  | _ :: _, [], h => by simp [cmpL] at h
  | x :: xs, y :: ys, h => by
    simp only [cmpL] at h
    split at h
    · rename_i hn; exact absurd h hn
    · rename_i hn
      have hz : cmpB x y = 0 := by omega
      rw [cmpB_zero hz, cmpL_zero h]
theorem cmpN_zero {a b : List UInt8} (ha : Small a) (hb : Small b) (h : cmpN a b = 0) : a = b := by
  obtain ⟨x, hx, rfl⟩ := ha.turned
  obtain ⟨y, hy, rfl⟩ := hb.turned
  unfold cmpN at h
  rw [hx, hy] at h
  have := cmpL_zero h
  rw [List.reverse_inj.1 this]
theorem cmpSet_zero {a b : List UInt8} {j k : Int} (ha : Small a) (hb : Small b) (h : cmpSet a b j k = 0) : a = b ∧ j = k := by
  unfold cmpSet at h
  split at h
  · rename_i hn; exact absurd h hn
  · rename_i hn
    refine ⟨cmpN_zero ha hb (by omega), ?_⟩
    unfold cmpI at h
    split at h
    · omega
    · split at h <;> omega
theorem groups_small {l : List Rec} (h : l.all okR = true) {s : RSet} (hs : s ∈ groups l) : Small s.name := by
  obtain ⟨t, ht, rfl⟩ := List.mem_map.1 hs
  obtain ⟨r, hr, e1, _⟩ := gather_ok ht
  have hrc : checkR r = 0 := by simpa [okR] using List.all_eq_true.1 h r hr
  obtain ⟨hlab, _⟩ := ready_labels (n := []) hrc
  obtain ⟨ls, hls⟩ := Option.isSome_iff_exists.1 hlab
  exact ⟨r.name, ls, hls, e1⟩
theorem groups_apart (l : List Rec) : (groups l).Pairwise fun s t => ¬ (s.name = t.name ∧ s.kind = t.kind) := List.pairwise_map.2 (apart_pw.1 (gather_apart l))
def leS (s t : RSet) : Prop := 0 ≤ cmpSet t.name s.name t.kind s.kind
theorem sorted_pw {l : List RSet} (h : Sorted l) : l.Pairwise leS := by
  rw [List.pairwise_iff_getElem]
  intro i j hi hj hij
  exact h i j _ _ hij (List.getElem?_eq_getElem hi) (List.getElem?_eq_getElem hj)
/-- there is one order -/
theorem sorted_one {l : List Rec} (hok : l.all okR = true) {a b : List RSet} (ha : a.Perm (groups l)) (hb : b.Perm (groups l)) (sa : Sorted a) (sb : Sorted b) : a = b := by
  have key : ∀ s t, s ∈ a → t ∈ b → leS s t → leS t s → s = t := by
    intro s t hs ht h1 h2
    have hs' := ha.mem_iff.1 hs
    have ht' := hb.mem_iff.1 ht
    have an : cmpSet t.name s.name t.kind s.kind = - cmpSet s.name t.name s.kind t.kind := tpo_cmpSet.anti (s.name, s.kind) (t.name, t.kind)
    have h1' : 0 ≤ cmpSet t.name s.name t.kind s.kind := h1
    have h2' : 0 ≤ cmpSet s.name t.name s.kind t.kind := h2
    clear h1 h2
    have hz : cmpSet s.name t.name s.kind t.kind = 0 := by
      generalize cmpSet s.name t.name s.kind t.kind = p at *
      generalize cmpSet t.name s.name t.kind s.kind = q at *
      omega
    obtain ⟨e1, e2⟩ := cmpSet_zero (groups_small hok hs') (groups_small hok ht') hz
    by_cases e : s = t
    · exact e
    · exfalso
      obtain ⟨i, hi⟩ := List.mem_iff_getElem?.1 hs'
      obtain ⟨j, hj⟩ := List.mem_iff_getElem?.1 ht'
      have hij : i ≠ j := by
        rintro rfl
        rw [hi] at hj
        exact e (Option.some.inj hj)
      exact apart_pw.2 (groups_apart l) i j s t hi hj hij ⟨e1, e2⟩
  exact List.Perm.eq_of_pairwise key (sorted_pw sa) (sorted_pw sb) (ha.trans hb.symm)

end Go.Proofs.X
