/- A part of the proof of a statement on sets of records: what some functions of the program do, walked step by step. -/
import Derived.Test.YtmemlckaklckpaaProg
import Derived.Test.YtmemlckaklckpaaT32
set_option linter.unusedSimpArgs false
set_option linter.unusedVariables false
namespace Go.Proofs.X
open Go.RowKit
set_option maxRecDepth 100000
/-! ### lodestarlaw07.live -/
def liveL : List Rec := [⟨[1, 65], 1, 7, [50, 50, 50, 50]⟩, ⟨[1, 97], 1, 5, [49, 49, 49, 49]⟩, ⟨[], 16, 0, [0]⟩]
def liveA : RSet := ⟨[1, 97], 1, 5, [[49, 49, 49, 49], [50, 50, 50, 50]]⟩
def liveR : RSet := ⟨[], 16, 0, [[0]]⟩
theorem live_gather : gather liveL = [⟨[1, 97], 1, 5, [[50, 50, 50, 50], [49, 49, 49, 49]]⟩, liveR] := by decide +kernel
theorem live_groups : groups liveL = [liveA, liveR] := by
  rw [groups, live_gather]
  simp only [List.map_cons, List.map_nil]
  have h1 : norm ⟨[1, 97], 1, 5, [[50, 50, 50, 50], [49, 49, 49, 49]]⟩ = liveA := by
    unfold norm liveA
    simp only [RSet.mk.injEq, true_and]
    have : List.mergeSort [[50, 50, 50, 50], [49, 49, 49, 49]] (fun x y : List UInt8 => decide (x ≤ y)) = [[49, 49, 49, 49], [50, 50, 50, 50]] := by
      simp [List.mergeSort, List.MergeSort.Internal.splitInTwo, List.merge]
      decide +kernel
    rw [this]
    decide +kernel
  have h2 : norm liveR = liveR := by
    unfold norm liveR
    simp [List.mergeSort]
    decide +kernel
  rw [h1, h2]
theorem live_E : groupE liveL = 0 := by
  have h1 : liveL.all okR = true := by decide +kernel
  rw [groupE, live_groups, if_neg (by rw [h1]; simp), if_neg (by decide +kernel), if_neg (by decide +kernel)]
theorem perm_two {α : Type} {a b : α} {l : List α} (h : l.Perm [a, b]) : l = [a, b] ∨ l = [b, a] := by
  have hl := h.length_eq
  match l, hl with
  | [x, y], _ =>
    have hx : x ∈ [a, b] := h.mem_iff.1 (by simp)
    simp only [List.mem_cons, List.not_mem_nil, or_false] at hx
    rcases hx with rfl | rfl
    · have := (List.perm_cons x).1 h
      have hy := List.perm_singleton.1 this
      simp only [List.cons.injEq, and_true] at hy
      left; rw [hy]
    · have h2 : [x, y].Perm [x, a] := h.trans (List.Perm.swap _ _ _)
      have := (List.perm_cons x).1 h2
      have hy := List.perm_singleton.1 this
      simp only [List.cons.injEq, and_true] at hy
      right; rw [hy]
theorem live_out {out : List RSet} (h : out.Perm (groups liveL)) (hs : Sorted out) : out = [liveR, liveA] := by
  rw [live_groups] at h
  rcases perm_two h with rfl | rfl
  · exfalso
    have := hs 0 1 liveA liveR (by omega) rfl rfl
    revert this
    decide +kernel
  · rfl
theorem live_check : checkS [liveR, liveA] = 0 := by decide +kernel
theorem live_check0 : checkS [⟨[], 0, 0, []⟩] = 1 := by decide +kernel
theorem live_find : findS [liveR, liveA] [1, 65] 1 = some liveA := by decide +kernel
theorem live_E0 : groupE [⟨[], 0, 0, []⟩] = 1 := by decide +kernel
theorem live_recs : (recordsS [liveR, liveA]).length = 3 := by decide +kernel

end Go.Proofs.X
