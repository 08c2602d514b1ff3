/- A part of the proof of a statement on sets of records: what some functions of the program do, walked step by step. -/
import Derived.Test.YtmemlckaklckpaaTA
set_option linter.unusedSimpArgs false
set_option linter.unusedVariables false
namespace Go.Proofs.X
open Go.RowKit
set_option maxRecDepth 100000
/-! ### plain laws: what is grouped, grouped again -/
theorem mem_addTo : ∀ {gs : List RSet} {r : Rec} {s : RSet}, Apart gs → s ∈ addTo gs r → (s ∈ gs ∧ match1 s r = false) ∨ (∃ t ∈ gs, match1 t r = true ∧ s = bump t r) ∨ ((∀ t ∈ gs, match1 t r = false) ∧ s = ⟨fold r.name, r.kind, r.ttl, [r.data]⟩)
  | [], r, s, _, h => by
    right; right
    exact ⟨by simp, by simpa [addTo] using h⟩
  | a :: l, r, s, hd, h => by
    obtain ⟨p1, p2⟩ := List.pairwise_cons.1 (apart_pw.1 hd)
    by_cases hm : match1 a r = true
    · simp only [addTo, hm, if_true, List.mem_cons] at h
      rcases h with h | h
      · exact .inr (.inl ⟨a, by simp, hm, h⟩)
      · refine .inl ⟨by simp [h], ?_⟩
        cases hs : match1 s r with
        | false => rfl
        | true =>
          exfalso
          simp only [match1, Bool.and_eq_true, decide_eq_true_eq] at hs hm
          exact p1 s h ⟨by rw [hm.1, hs.1], by rw [hm.2, hs.2]⟩
    · have hm' : match1 a r = false := by simpa using hm
      simp only [addTo, hm', Bool.false_eq_true, if_false, List.mem_cons] at h
      rcases h with rfl | h
      · exact .inl ⟨by simp, hm'⟩
      · rcases mem_addTo (apart_pw.2 p2) h with ⟨h1, h2⟩ | ⟨t, h1, h2, h3⟩ | ⟨h1, h2⟩
        · exact .inl ⟨by simp [h1], h2⟩
        · exact .inr (.inl ⟨t, by simp [h1], h2, h3⟩)
        · refine .inr (.inr ⟨?_, h2⟩)
          intro t ht
          rcases List.mem_cons.1 ht with rfl | ht
          · exact hm'
          · exact h1 t ht
/-- what a set is, of the records at hand -/
structure Ch (L : List Rec) (s : RSet) : Prop where
  dat : ∀ d, d ∈ s.data ↔ ∃ r ∈ L, match1 s r = true ∧ r.data = d
  ttl : ∃ r ∈ L, match1 s r = true ∧ r.ttl = s.ttl
  low : ∀ r ∈ L, match1 s r = true → s.ttl ≤ r.ttl
theorem Ch.miss {L : List Rec} {s : RSet} {r : Rec} (h : Ch L s) (hm : match1 s r = false) : Ch (L ++ [r]) s where
  dat d := by
    rw [h.dat]
    constructor
    · rintro ⟨q, h1, h2⟩; exact ⟨q, by simp [h1], h2⟩
    · rintro ⟨q, h1, h2, h3⟩
      rcases List.mem_append.1 h1 with h1 | h1
      · exact ⟨q, h1, h2, h3⟩
      · obtain rfl := List.mem_singleton.1 h1
        rw [hm] at h2; cases h2
  ttl := let ⟨q, h1, h2⟩ := h.ttl; ⟨q, by simp [h1], h2⟩
  low q h1 h2 := by
    rcases List.mem_append.1 h1 with h1 | h1
    · exact h.low q h1 h2
    · obtain rfl := List.mem_singleton.1 h1
      rw [hm] at h2; cases h2
theorem Ch.bump {L : List Rec} {s : RSet} {r : Rec} (h : Ch L s) (hm : match1 s r = true) : Ch (L ++ [r]) (X.bump s r) where
  dat d := by
    show d ∈ s.data ++ [r.data] ↔ ∃ q ∈ L ++ [r], match1 s q = true ∧ q.data = d
    rw [List.mem_append, h.dat, List.mem_singleton]
    constructor
    · rintro (⟨q, h1, h2⟩ | rfl)
      · exact ⟨q, by simp [h1], h2⟩
      · exact ⟨r, by simp, hm, rfl⟩
    · rintro ⟨q, h1, h2, h3⟩
      rcases List.mem_append.1 h1 with h1 | h1
      · exact .inl ⟨q, h1, h2, h3⟩
      · obtain rfl := List.mem_singleton.1 h1
        exact .inr h3.symm
  ttl := by
    show ∃ q ∈ L ++ [r], match1 s q = true ∧ q.ttl = min s.ttl r.ttl
    obtain ⟨q, h1, h2, h3⟩ := h.ttl
    rcases Int.le_total s.ttl r.ttl with hl | hl
    · exact ⟨q, by simp [h1], h2, by rw [h3]; omega⟩
    · exact ⟨r, by simp, hm, by omega⟩
  low q h1 h2 := by
    show min s.ttl r.ttl ≤ q.ttl
    rcases List.mem_append.1 h1 with h1 | h1
    · have := h.low q h1 h2
      omega
    · obtain rfl := List.mem_singleton.1 h1
      omega
theorem Ch.new {L : List Rec} {r : Rec} (h : ∀ q ∈ L, match1 ⟨fold r.name, r.kind, r.ttl, [r.data]⟩ q = false) : Ch (L ++ [r]) ⟨fold r.name, r.kind, r.ttl, [r.data]⟩ where
  dat d := by
    rw [List.mem_singleton]
    constructor
    · rintro rfl; exact ⟨r, by simp, by simp [match1], rfl⟩
    · rintro ⟨q, h1, h2, h3⟩
      rcases List.mem_append.1 h1 with h1 | h1
      · rw [h q h1] at h2; cases h2
      · obtain rfl := List.mem_singleton.1 h1
        exact h3.symm
  ttl := ⟨r, by simp, by simp [match1], rfl⟩
  low q h1 h2 := by
    rcases List.mem_append.1 h1 with h1 | h1
    · rw [h q h1] at h2; cases h2
    · obtain rfl := List.mem_singleton.1 h1
      exact Int.le_refl _
theorem gather_ch (l : List Rec) : ∀ k, k ≤ l.length → ∀ s ∈ gather (l.take k), Ch (l.take k) s
  | 0, _, s, h => by simp [gather] at h
  | k + 1, hk, s, h => by
    have hlt : k < l.length := by omega
    have e : l.take (k + 1) = l.take k ++ [l[k]] := by simp
    rw [gather_snoc hlt] at h
    rw [e]
    have ih := gather_ch l k (by omega)
    rcases mem_addTo (gather_apart _) h with ⟨h1, h2⟩ | ⟨t, h1, h2, rfl⟩ | ⟨h1, rfl⟩
    · exact (ih s h1).miss h2
    · exact (ih t h1).bump h2
    · refine Ch.new fun q hq => ?_
      obtain ⟨t, ht, hm, _⟩ := gather_cov hq
      have := h1 t ht
      cases hx : match1 ⟨fold l[k].name, l[k].kind, l[k].ttl, [l[k].data]⟩ q with
      | false => rfl
      | true =>
        exfalso
        simp only [match1, Bool.and_eq_true, decide_eq_true_eq] at hx hm
        have h5 : match1 t l[k] = true := by
          simp only [match1, Bool.and_eq_true, decide_eq_true_eq]
          exact ⟨by rw [hm.1, hx.1], by rw [hm.2, hx.2]⟩
        rw [this] at h5; cases h5
theorem Ch.norm {L : List Rec} {s : RSet} (h : Ch L s) : Ch L (X.norm s) where
  dat d := by
    show d ∈ nub s.data ↔ ∃ r ∈ L, match1 s r = true ∧ r.data = d
    rw [mem_nub, h.dat]
  ttl := h.ttl
  low := h.low
theorem groups_ch {l : List Rec} {s : RSet} (h : s ∈ groups l) : Ch l s ∧ s.data.Pairwise (· < ·) := by
  obtain ⟨u, hu, rfl⟩ := List.mem_map.1 h
  have := gather_ch l l.length (Nat.le_refl _)
  rw [List.take_length] at this
  exact ⟨(this u hu).norm, strict_nub _⟩
theorem Ch.uniq {L : List Rec} {s t : RSet} (h : Ch L s) (k : Ch L t) (hs : s.data.Pairwise (· < ·)) (ht : t.data.Pairwise (· < ·)) (hn : s.name = t.name) (hk : s.kind = t.kind) : s = t := by
  have hm : ∀ r, match1 s r = match1 t r := fun r => by rw [match1, match1, hn, hk]
  have hd : s.data = t.data := strict_eq hs ht fun d => by
    rw [h.dat, k.dat]
    simp only [hm]
  have ha : s.ttl = t.ttl := by
    obtain ⟨q, h1, h2, h3⟩ := h.ttl
    obtain ⟨q', k1, k2, k3⟩ := k.ttl
    have e1 := k.low q h1 (by rw [← hm]; exact h2)
    have e2 := h.low q' k1 (by rw [hm]; exact k2)
    omega
  cases s; cases t
  simp_all

end Go.Proofs.X
