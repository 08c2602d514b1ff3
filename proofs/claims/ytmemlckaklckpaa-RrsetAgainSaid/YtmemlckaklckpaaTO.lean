/- A part of the proof of a statement on sets of records: what some functions of the program do, walked step by step. -/
import Derived.Test.YtmemlckaklckpaaRows
import Derived.Test.YtmemlckaklckpaaT34
import Derived.Test.YtmemlckaklckpaaXRead
import Derived.WalkKit
import Derived.ProofKit
import Derived.OpenShut
import Derived.ShutString
import Derived.ChangeOld
import Derived.Below
set_option linter.unusedSimpArgs false
set_option linter.unusedVariables false
namespace Go.Proofs.X
open Go.RowKit
set_option maxRecDepth 100000
open Go.ChangeShapes Go.WideShapes Go.ChangeAt Go.RowKit
theorem own : ownKnob Try.prog.godebug = none := by kernel_rfl
theorem laidOut : laidOutB Try.prog = true := by kernel_rfl
/-- a slice of records that came in -/
theorem open_recs {H : Type} {enc : TypeId × Value → H} {w : World} {base : Nat} {spare : Nat → Bool} {held : Bool} {fuel : Nat} {v : Value} {x : DataW H × List MemPlace} (h : DataW.trod enc Try.prog w base spare held fuel 22 [v] = some x) : ∃ l : List Rec, Sl 4 w v (rcells l) := by
  obtain ⟨es, hs, he⟩ := open_rows Try.underlying22 (show Try.prog.cellsOf 32 = 4 by kernel_rfl) (by omega) h
  obtain ⟨l, rfl⟩ : ∃ l : List Rec, es = l.map Rec.cells := by
    refine all_map fun c hc => ?_
    obtain ⟨n, y, hy⟩ := he c hc
    obtain ⟨xs, n', _, _, hl, hxl, hf⟩ := DataW.trod_struct Try.underlying32 hy
    have c30 : Try.prog.cellsOf 30 = 1 := by kernel_rfl
    have c3 : Try.prog.cellsOf 3 = 1 := by kernel_rfl
    have c9 : Try.prog.cellsOf 9 = 1 := by kernel_rfl
    have c32 : Try.prog.cellsOf 32 = 4 := by kernel_rfl
    rw [c32] at hl
    match c, hl, xs, hxl with
    | [a, b, d, e], _, [y0, y1, y2, y3], _ =>
      have g0 := hf 0 _ rfl
      have g1 := hf 1 _ rfl
      have g2 := hf 2 _ rfl
      have g3 := hf 3 _ rfl
      simp [c30, c3, c9] at g0 g1 g2 g3
      obtain ⟨s0, rfl, _⟩ := trod_str Try.underlying30 g0
      obtain ⟨n1, rfl, _⟩ := trod_num Try.underlying3 g1
      obtain ⟨n2, rfl, _⟩ := trod_num Try.underlying3 g2
      obtain ⟨s3, rfl, _⟩ := trod_str Try.underlying9 g3
      exact ⟨⟨s0, n1, n2, s3⟩, rfl⟩
  exact ⟨l, hs⟩

end Go.Proofs.X
