/- A part of the proof of a statement on sets of records: what some functions of the program do, walked step by step. -/
import Derived.Test.YtmemlckaklckpaaXFld
import Derived.Shelf.SlSortCmp.WholeK
import Derived.Sort.Walk0
set_option linter.unusedVariables false
set_option linter.unusedSimpArgs false
namespace Go.Proofs.X
open Go.RowKit
/-! ### rows of elements of k cells that the library sorts -/
theorem flatK_toList {α : Type} [Inhabited α] (enc : α → List Value) (k : Nat) (hk : ∀ x, (enc x).length = k) (l : List α) : (Sort.flatK enc k l.toArray).toList = (l.map enc).flatten := by
  have hall : ∀ x ∈ l.map enc, x.length = k := by
    intro x hx
    obtain ⟨y, _, rfl⟩ := List.mem_map.1 hx
    exact hk y
  have hfl := length_flatten_of hall
  have h : Sort.flatK enc k l.toArray = ((l.map enc).flatten).toArray := by
    refine Sort.ext_get! (by simp [hfl]) fun t ht => ?_
    have ht' : t < l.length * k := by simpa using ht
    rw [Sort.get_flatK _ _ _ t (by simpa using ht')]
    have k0 : 0 < k := by
      rcases Nat.eq_zero_or_pos k with h | h
      · subst h; simp at ht'
      · exact h
    have hd : t / k < l.length := Nat.div_lt_of_lt_mul (by rw [Nat.mul_comm]; exact ht')
    have hm : t % k < k := Nat.mod_lt _ k0
    have e1 : l.toArray[t / k]! = l[t / k] := by rw [getElem!_pos _ _ (by simpa using hd)]; simp
    rw [e1]
    have h1 := flatten_at hall (i := t / k) (j := t % k) (e := enc l[t / k]) (x := (enc l[t / k])[t % k]'(by rw [hk]; exact hm)) (by simp [hd]) (List.getElem?_eq_getElem (by rw [hk]; exact hm))
    rw [show t / k * k + t % k = t by rw [Nat.mul_comm]; exact Nat.div_add_mod t k] at h1
    have h2 : t < (l.map enc).flatten.length := (List.getElem?_eq_some_iff.1 h1).1
    rw [getElem!_pos _ t (by simpa using h2)]
    have h3 := (List.getElem?_eq_some_iff.1 h1).2
    simp only [List.getElem_toArray]
    rw [h3, getElem!_pos _ _ (by rw [hk]; exact hm)]
  rw [h]
theorem Own.holdsF {B k e g cap n : Nat} {w : World} {es : List (List Value)} (h : Own B k e w (.slice (some ⟨g, 0, none⟩) n cap) es) : Sort.Holds id w g 0 es.flatten.toArray := by
  rcases h.row.2 with ⟨h0, _⟩ | ⟨g', cap', cur, fz, hv, hb, hg, hfz, hnc, hcm, hcs, htake⟩
  · cases h0
  · simp only [Value.slice.injEq, Option.some.injEq, Addr.mk.injEq, and_true, true_and] at hv
    obtain ⟨rfl, _, rfl⟩ := hv
    have hlen := length_flatten_of h.each
    have hck : es.length * k ≤ cap * k := Nat.mul_le_mul_right k hnc
    intro j hj
    have hj' : j < es.flatten.length := by simpa using hj
    have hjc : j < cur.size := by omega
    constructor
    · rw [Nat.zero_add, cell_of_row w g j cur e fz hg]
      have := congrArg (·[j]?) htake
      simp only [List.getElem?_take, if_pos (show j < es.length * k by omega), List.getElem?_eq_getElem hj'] at this
      rw [← Array.getElem?_toList, this]
      rw [getElem!_pos _ j hj]
      simp
    · rw [Nat.zero_add]; exact not_frozen hg hfz hjc
theorem Own.putRowF {B k e g cap : Nat} {w : World} {es fs : List (List Value)} (h : Own B k e w (.slice (some ⟨g, 0, none⟩) es.length cap) es) (hl : fs.length = es.length) (hf : ∀ x ∈ fs, x.length = k) (n : Nat) (os : Array Obj) :
    Own B k e (Sort.grow (Sort.putRow id (Sort.ahead w n) g 0 fs.flatten.toArray) os) (.slice (some ⟨g, 0, none⟩) es.length cap) fs ∧ Mv (some g) w (Sort.grow (Sort.putRow id (Sort.ahead w n) g 0 fs.flatten.toArray) os) := by
  rcases h.row.2 with ⟨h0, _⟩ | ⟨g', cap', cur, fz, hv, hb, hg, hfz, hnc, hcm, hcs, htake⟩
  · cases h0
  · simp only [Value.slice.injEq, Option.some.injEq, Addr.mk.injEq, and_true, true_and] at hv
    obtain ⟨rfl, rfl⟩ := hv
    have hgs : g < w.heap.size := (Array.getElem?_eq_some_iff.1 hg).1
    have hg2 : (Sort.grow (Sort.putRow id (Sort.ahead w n) g 0 fs.flatten.toArray) os).heap[g]? = some (.cells (Sort.putCells id 0 fs.flatten.toArray cur) e fz) := by
      simp only [Sort.grow, Sort.putRow, Sort.mapBlock, Sort.ahead]
      rw [Array.getElem?_append_left (by simpa using hgs), Array.getElem?_modify, if_pos rfl, hg]
      rfl
    have hsz : (Sort.putCells id 0 fs.flatten.toArray cur).size = cur.size := by simp [Sort.putCells]
    have hlen := length_flatten_of hf
    have hck : es.length * k ≤ cap * k := Nat.mul_le_mul_right k hnc
    refine ⟨⟨⟨hlen, .inr ⟨g, cap, _, fz, by rw [hl], hb, hg2, by rw [hsz]; exact hfz, by omega, hcm, by rw [hsz]; exact hcs, ?_⟩⟩, hf⟩, ⟨rfl, rfl, rfl, ?_, ?_, Nat.le_add_right _ _⟩⟩
    · apply List.ext_getElem?
      intro j
      simp only [List.getElem?_take]
      by_cases hj : j < fs.length * k
      · have hpk : fs.length * k = es.length * k := by rw [hl]
        have hjf : j < fs.flatten.length := by omega
        have hjc : j < cur.toList.length := by rw [Array.length_toList]; omega
        rw [if_pos hj, List.getElem?_eq_getElem hjf]
        simp only [Sort.putCells, Array.toList_mapIdx, List.getElem?_mapIdx]
        rw [List.getElem?_eq_getElem hjc, Option.map_some]
        have hc : (0 ≤ j ∧ j < 0 + fs.flatten.toArray.size) := by constructor; omega; simp only [List.size_toArray]; omega
        rw [if_pos hc]
        simp only [Nat.sub_zero, id]
        rw [getElem!_pos _ j (by simpa only [List.size_toArray] using hjf), List.getElem_toArray]
      · rw [if_neg hj, List.getElem?_eq_none (by omega)]
    · simp only [Sort.grow, Sort.putRow, Sort.mapBlock, Sort.ahead, Array.size_append, Array.size_modify]; omega
    · intro k hk hne
      simp only [Sort.grow, Sort.putRow, Sort.mapBlock, Sort.ahead]
      rw [Array.getElem?_append_left (by simpa using hk), Array.getElem?_modify, if_neg (fun e => hne (by rw [e]))]
end Go.Proofs.X
