/- A part of the proof of a statement on sets of records: what some functions of the program do, walked step by step. -/
import Derived.Test.YtmemlckaklckpaaT34
set_option linter.unusedSimpArgs false
set_option linter.unusedVariables false
namespace Go.Proofs.X
open Go.RowKit
set_option maxRecDepth 100000
/-! ### plain laws: what may be is found -/
theorem TPO.ltt {α : Type} {c : α → α → Int} (h : TPO c) {x y z : α} (h1 : c x y < 0) (h2 : c y z < 0) : c x z < 0 := by
  have h3 := h.tr x y z (by omega) (by omega)
  rcases Int.lt_or_eq_of_le h3 with h4 | h4
  · exact h4
  · exfalso
    have h5 := (h.eqL h4 (z := y)).1 (by omega)
    have h6 := h.anti y z
    omega
theorem check_ok {l : List RSet} (h : checkS l = 0) : ∀ i, i < l.length → badSet l i = false := by
  unfold checkS at h
  split at h
  · omega
  · split at h
    · rename_i h1
      intro i hi
      rw [List.all_eq_true] at h1
      have := h1 i (by simpa using hi)
      simpa using this
    · omega
theorem check_may {l : List RSet} (h : checkS l = 0) {i : Nat} (hi : i < l.length) : mayS l[i] = true := by
  have := check_ok h i hi
  rw [badSet, List.getElem?_eq_getElem hi] at this
  simp only [Bool.or_eq_false_iff, Bool.not_eq_false'] at this
  exact this.1
theorem check_lt {l : List RSet} (h : checkS l = 0) {i : Nat} (hi : i + 1 < l.length) : cmpSet l[i].name l[i + 1].name l[i].kind l[i + 1].kind < 0 := by
  have := check_ok h (i + 1) hi
  rw [badSet, List.getElem?_eq_getElem hi] at this
  simp only [Bool.or_eq_false_iff, Bool.and_eq_false_iff, decide_eq_false_iff_not] at this
  have h2 := this.2.resolve_left (by omega)
  have e : l.getD (i + 1 - 1) default = l[i] := by simp [show i < l.length by omega]
  rw [e] at h2
  omega
theorem check_sorted {l : List RSet} (h : checkS l = 0) (i : Nat) : ∀ j (hj : i < j) (hl : j < l.length), cmpSet l[i].name l[j].name l[i].kind l[j].kind < 0
  | 0, hj, _ => by omega
  | j + 1, hj, hl => by
    have h1 := check_lt h hl
    by_cases e : i = j
    · subst e; exact h1
    · have h2 := check_sorted h i j (by omega) (by omega)
      exact tpo_cmpSet.ltt (x := (l[i].name, l[i].kind)) (y := (l[j].name, l[j].kind)) (z := (l[j + 1].name, l[j + 1].kind)) h2 h1
theorem may_fold {s : RSet} (h : mayS s = true) : fold s.name = s.name := by
  simp only [mayS, Bool.and_eq_true, decide_eq_true_eq] at h
  exact h.1.1.1
theorem found_all {l : List RSet} (h : checkS l = 0) {i : Nat} (hi : i < l.length) : findS l l[i].name l[i].kind = some l[i] := by
  have hf := may_fold (check_may h hi)
  refine find_at hi ?_ (by simp [hit, hf])
  rw [List.find?_eq_none]
  intro x hx hh
  obtain ⟨j, hj, rfl⟩ := List.getElem_of_mem hx
  have hj' : j < i := by rw [List.length_take] at hj; omega
  rw [List.getElem_take] at hh
  simp only [hit, hf, Bool.and_eq_true, decide_eq_true_eq] at hh
  have h1 := check_sorted h j i hj' hi
  rw [hh.1, hh.2] at h1
  have h2 := tpo_cmpSet.refl (l[i].name, l[i].kind)
  simp only at h2
  omega
theorem find_kind {l : List RSet} {n : List UInt8} {k : Int} {s : RSet} (h : findS l n k = some s) : s.kind = k := by
  have := List.find?_some h
  simp only [hit, Bool.and_eq_true, decide_eq_true_eq] at this
  exact this.2
theorem meet3 {α β : Type} {F : α → β → World → Prop} {G : α → β → World → Prop} {goal : Prop} (h1 : (∀ x y w', F x y w' → G x y w') → goal) (h2 : ∀ x y w', F x y w' → G x y w') : goal := h1 h2

end Go.Proofs.X
