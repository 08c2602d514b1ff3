/- A part of the proof of a statement on sets of records: what some functions of the program do, walked step by step. -/
import Derived.Test.YtmemlckaklckpaaXOpen
import Derived.Deep.Slices
import Derived.Deep.Strs
set_option linter.unusedVariables false
set_option linter.unusedSimpArgs false
namespace Go.Proofs.X
open Go.RowKit Go.Deep
/-! ### what came in, read -/
section
variable {H : Type} {enc : TypeId × Value → H} {P : Program} {w : World} {base : Nat} {spare : Nat → Bool} {held : Bool}
theorem trod_str {t : TypeId} {fuel : Nat} {c : Value} {x : DataW H × List MemPlace} (ht : P.underlying t = some .string) (h : DataW.trod enc P w base spare held fuel t [c] = some x) : ∃ s : List UInt8, c = str s ∧ s.length ≤ maxLen := by
  obtain ⟨s, h1, _, h3⟩ := DataW.trod_string ht h
  refine ⟨s.data.toList, ?_, by rw [Array.length_toList]; exact h3⟩
  simp only [List.cons.injEq, and_true] at h1
  rw [h1, str, Array.toArray_toList]
theorem trod_num {t : TypeId} {k : IntKind} {fuel : Nat} {c : Value} {x : DataW H × List MemPlace} (ht : P.underlying t = some (.int k)) (h : DataW.trod enc P w base spare held fuel t [c] = some x) : ∃ n : Int, c = .int k n ∧ (Lit.int k n).wf = true := by
  obtain ⟨n, h1, _, h3⟩ := DataW.trod_int ht h
  exact ⟨n, by simpa using h1, h3⟩
/-- a slice of structs of n one-cell fields: its elements' cells -/
theorem open_rows {t e : TypeId} {k fuel : Nat} {v : Value} {x : DataW H × List MemPlace} (ht : P.underlying t = some (.slice e)) (hc : P.cellsOf e = k) (hk : 0 < k) (h : DataW.trod enc P w base spare held fuel t [v] = some x) :
    ∃ es : List (List Value), Sl k w v es ∧ ∀ c ∈ es, ∃ n y, DataW.trod enc P w base spare held n e c = some y := by
  rcases open_slice ht h with ⟨h0, _⟩ | ⟨a, len, cap, m, n, D, Pl, h0, hb, hl, hm, hmm, _, hx⟩
  · simp only [List.cons.injEq, and_true] at h0
    subst h0
    exact ⟨[], Sl.nil _ _, by simp⟩
  · simp only [List.cons.injEq, and_true] at h0
    subst h0
    have hlm : len ≤ m := by rw [hmm]; split <;> omega
    obtain ⟨f, hf⟩ := choose_lt (α := List Value) (p := fun i cs => w.cells? base (a.add (i * P.cellsOf e)) (P.cellsOf e) = some cs ∧ DataW.trod enc P w base spare held n e cs = some (D i, Pl i)) (n := len) (fun i hi => hx i (by omega))
    have hfl : ∀ i, i < len → (f i).length = k := fun i hi => by
      obtain ⟨_, h2, _⟩ := World.cells?_some (hf i hi).1
      rw [h2, hc]
    have hcell : ∀ i, i < len → ∀ j u, (f i)[j]? = some u → w.cell? ((a.add (i * k)).add j) = some u := fun i hi j u hu => by
      obtain ⟨_, h2, h3⟩ := World.cells?_some (hf i hi).1
      have hj := (List.getElem?_eq_some_iff.1 hu).1
      have := h3 j (by rw [← h2]; exact hj)
      rw [hc] at this
      rw [this, hu]
    refine ⟨(List.range len).map f, ⟨some a, cap, by simp, by simpa using hl, by simpa [maxLen] using hm, ?_, (fun h => by cases h), ?_⟩, ?_⟩
    · intro x hx
      obtain ⟨i, hi, rfl⟩ := List.mem_map.1 hx
      exact hfl i (List.mem_range.1 hi)
    · intro hne
      have hlen : 0 < len := by
        rcases Nat.eq_zero_or_pos len with h | h
        · subst h; simp at hne
        · exact h
      obtain ⟨b, o, sp⟩ := a
      have h0 := hcell 0 hlen 0 ((f 0)[0]'(by rw [hfl 0 hlen]; exact hk)) (List.getElem?_eq_getElem _)
      have hsp : sp = none := by
        have := World.cell?_spot h0
        simpa [Addr.add] using this
      subst hsp
      refine ⟨b, o, rfl, fun i e j x hi hj => ?_⟩
      rw [List.getElem?_map] at hi
      have hil : i < len := by
        rcases Nat.lt_or_ge i len with h | h
        · exact h
        · rw [List.getElem?_eq_none (by simpa using h)] at hi; cases hi
      rw [List.getElem?_range hil] at hi
      cases hi
      have := hcell i hil j x hj
      rw [add_none, add_none] at this
      exact this
    · intro c hc
      obtain ⟨i, hi, rfl⟩ := List.mem_map.1 hc
      exact ⟨n, _, (hf i (List.mem_range.1 hi)).2⟩
/-- each of a list is one's image -/
theorem all_map {α β : Type} {f : α → β} : ∀ {l : List β}, (∀ x ∈ l, ∃ y, x = f y) → ∃ m : List α, l = m.map f
  | [], _ => ⟨[], rfl⟩
  | x :: l, h => by
    obtain ⟨y, rfl⟩ := h x (by simp)
    obtain ⟨m, rfl⟩ := all_map (l := l) (fun z hz => h z (by simp [hz]))
    exact ⟨y :: m, rfl⟩
end
end Go.Proofs.X
