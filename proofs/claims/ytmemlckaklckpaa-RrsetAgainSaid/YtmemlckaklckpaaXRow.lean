/- A part of the proof of a statement on sets of records: what some functions of the program do, walked step by step. -/
import Derived.Test.YtmemlckaklckpaaXEl
import Derived.Sort.Row
import Derived.Sort.EncStr
import Derived.Sort.Grow
set_option linter.unusedVariables false
set_option linter.unusedSimpArgs false
namespace Go.Proofs.X
open Go.RowKit
/-! ### rows that the library's contracts speak of -/
theorem flat1 {α : Type} (f : α → Value) : ∀ l : List α, (l.map fun x => [f x]).flatten = l.map f
  | [] => rfl
  | x :: l => by simp [flat1 f l]
theorem Own.holds {α : Type} [Inhabited α] {enc : α → Value} {B e g cap : Nat} {w : World} {xs : List α} (h : Own B 1 e w (.slice (some ⟨g, 0, none⟩) xs.length cap) (xs.map fun x => [enc x])) : Sort.Holds enc w g 0 xs.toArray := by
  rcases h.row.2 with ⟨h0, _⟩ | ⟨g', cap', cur, fz, hv, hb, hg, hfz, hnc, hcm, hcs, htake⟩
  · cases h0
  · simp only [Value.slice.injEq, Option.some.injEq, Addr.mk.injEq, and_true, true_and] at hv
    obtain ⟨rfl, _, rfl⟩ := hv
    rw [flat1] at htake
    simp only [List.length_map, Nat.mul_one] at htake hcs hnc
    intro j hj
    have hj' : j < xs.length := by simpa using hj
    have hjc : j < cur.size := by omega
    constructor
    · rw [Nat.zero_add, cell_of_row w g j cur e fz hg]
      have := congrArg (·[j]?) htake
      simp only [List.getElem?_take, if_pos hj', List.getElem?_map, List.getElem?_eq_getElem hj', Option.map_some] at this
      rw [← Array.getElem?_toList, this]
      simp [hj']
    · rw [Nat.zero_add]; exact not_frozen hg hfz hjc
theorem Own.putRow {α : Type} [Inhabited α] {enc : α → Value} {B e g cap : Nat} {w : World} {xs ys : List α} (h : Own B 1 e w (.slice (some ⟨g, 0, none⟩) xs.length cap) (xs.map fun x => [enc x])) (hl : ys.length = xs.length) (n : Nat) (os : Array Obj) :
    Own B 1 e (Sort.grow (Sort.putRow enc (Sort.ahead w n) g 0 ys.toArray) os) (.slice (some ⟨g, 0, none⟩) xs.length cap) (ys.map fun x => [enc x]) ∧ Mv (some g) w (Sort.grow (Sort.putRow enc (Sort.ahead w n) g 0 ys.toArray) os) := by
  rcases h.row.2 with ⟨h0, _⟩ | ⟨g', cap', cur, fz, hv, hb, hg, hfz, hnc, hcm, hcs, htake⟩
  · cases h0
  · simp only [Value.slice.injEq, Option.some.injEq, Addr.mk.injEq, and_true, true_and] at hv
    obtain ⟨rfl, _, rfl⟩ := hv
    simp only [List.length_map, Nat.mul_one] at htake hcs hnc
    have hgs : g < w.heap.size := (Array.getElem?_eq_some_iff.1 hg).1
    have hg2 : (Sort.grow (Sort.putRow enc (Sort.ahead w n) g 0 ys.toArray) os).heap[g]? = some (.cells (Sort.putCells enc 0 ys.toArray cur) e fz) := by
      simp only [Sort.grow, Sort.putRow, Sort.mapBlock, Sort.ahead]
      rw [Array.getElem?_append_left (by simpa using hgs), Array.getElem?_modify, if_pos rfl, hg]
      rfl
    have hsz : (Sort.putCells enc 0 ys.toArray cur).size = cur.size := by simp [Sort.putCells]
    refine ⟨⟨⟨by rw [flat1]; simp, .inr ⟨g, cap, _, fz, by simp [hl], hb, hg2, by rw [hsz]; exact hfz, by simpa [hl] using hnc, hcm, by rw [hsz]; simpa using hcs, ?_⟩⟩, by simp⟩, ⟨rfl, rfl, rfl, ?_, ?_, Nat.le_add_right _ _⟩⟩
    · rw [flat1]
      apply List.ext_getElem?
      intro j
      simp only [List.length_map, Nat.mul_one, List.getElem?_take, List.getElem?_map]
      by_cases hj : j < ys.length
      · rw [if_pos hj, List.getElem?_eq_getElem hj]
        simp only [Sort.putCells, Array.toList_mapIdx, List.getElem?_mapIdx]
        have hjc : j < cur.toList.length := by simp; omega
        rw [List.getElem?_eq_getElem hjc]
        simp [hj]
      · rw [if_neg hj, List.getElem?_eq_none (by omega)]; rfl
    · simp only [Sort.grow, Sort.putRow, Sort.mapBlock, Sort.ahead, Array.size_append, Array.size_modify]; omega
    · intro k hk hne
      simp only [Sort.grow, Sort.putRow, Sort.mapBlock, Sort.ahead]
      rw [Array.getElem?_append_left (by simpa using hk), Array.getElem?_modify, if_neg (fun e => hne (by rw [e]))]
/-- a shorter slice of the same row -/
theorem Own.short {B k e g n cap : Nat} {w : World} {es : List (List Value)} (h : Own B k e w (.slice (some ⟨g, 0, none⟩) n cap) es) {m : Nat} (hm : m ≤ es.length) : Own B k e w (.slice (some ⟨g, 0, none⟩) m cap) (es.take m) := by
  rcases h.row.2 with ⟨h0, _⟩ | ⟨g', cap', cur, fz, hv, hb, hg, hfz, hnc, hcm, hcs, htake⟩
  · cases h0
  · simp only [Value.slice.injEq, Option.some.injEq, Addr.mk.injEq, and_true, true_and] at hv
    obtain ⟨rfl, _, rfl⟩ := hv
    have hall : ∀ x ∈ es.take m, x.length = k := fun x hx => h.each x (List.mem_of_mem_take hx)
    have hlen : (es.take m).length = m := by simp; omega
    refine ⟨⟨by rw [length_flatten_of hall], .inr ⟨g, cap, cur, fz, by rw [hlen], hb, hg, hfz, by rw [hlen]; omega, hcm, hcs, ?_⟩⟩, hall⟩
    rw [hlen]
    have h1 : es.flatten = (es.take m).flatten ++ (es.drop m).flatten := by rw [← List.flatten_append, List.take_append_drop]
    have h2 : (es.take m).flatten.length = m * k := by rw [length_flatten_of hall, hlen]
    have h3 : m * k ≤ es.length * k := Nat.mul_le_mul_right k hm
    have : cur.toList.take (m * k) = (cur.toList.take (es.length * k)).take (m * k) := by rw [List.take_take, Nat.min_eq_left h3]
    rw [this, htake, h1, ← h2, List.take_left]
theorem Own.form {B k e : Nat} {w : World} {v : Value} {es : List (List Value)} (h : Own B k e w v es) : (v = .slice none 0 0 ∧ es = []) ∨ ∃ g cap, v = .slice (some ⟨g, 0, none⟩) es.length cap ∧ g < w.heap.size ∧ B ≤ g ∧ es.length ≤ cap ∧ es.length ≤ 9223372036854775807 := by
  rcases h.row.2 with ⟨h0, h1⟩ | ⟨g, cap, cur, fz, hv, hb, hg, hfz, hnc, hcm, _⟩
  · exact .inl ⟨h0, List.eq_nil_of_length_eq_zero h1⟩
  · exact .inr ⟨g, cap, hv, (Array.getElem?_eq_some_iff.1 hg).1, hb, hnc, by unfold maxLen at hcm; omega⟩
end Go.Proofs.X
