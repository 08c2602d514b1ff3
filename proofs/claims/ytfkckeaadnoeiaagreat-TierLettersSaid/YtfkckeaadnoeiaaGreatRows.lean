/-
  No cell of these rows narrows 'for every input' (looked for: loops, veiled, ifaces, maps, wideKeys, modest, calm, conditions, laid).
  DERIVED. THE GIVEN ROWS OF THIS SEAT. 4 by the template 'for every input the law returns true; each argument reads behind the call as it read before'; 0 by the template 'total and deterministic' (their statements: YtfkckeaadnoeiaaGreatTotals.lean).
  GIVEN WITH THE SEED: the statements are not yours to turn. If you find one false, say at which input.
  Laid BY PROGRAM, IN A SANDBOX (cutbox-rows.mjs): the forced cells as the released guide's own fill.sh prints them over the translation 38424b221b54c21f… (all of the seat's roots in one cut). By AI agents, Wed Nov 11 2026. No macro, syntax, notation, axiom, sorry.
-/
import Derived.Test.YtfkckeaadnoeiaaGreatChecked
import GoSem.Claim
import GoSem.ClaimJoined
import GoSem.ClaimMapViews
import Derived.JoinedTies
import Derived.KernelRfl
namespace Go.Proofs.YtfkckeaadnoeiaaGreat
/- THE CELL 'sum', in the pinned program and in every row, IS THE sha256 OF THE DUMP (.gsa) THAT YtfkckeaadnoeiaaGreatProg.lean LOADS. Nothing in Lean hashes anything: it is a label: what it is worth is what the hold of that sum in a sandbox is worth. -/
noncomputable def Tryz.pinned : Pinned := { name := "ytfkckeaadnoeiaagreat", sum := "38424b221b54c21fe0da382ac4cd85cf559c3ece9550356e0205b227409ce10c", checked := Tryz.checked }
namespace Rows
def none {H : Type} : Left H := { results := [], args := [] }

/-- 'lodestarlaw24.TierLetters': WHATEVER THE INPUT: true; the input reads as it did. -/
def tierLettersSpec : ChangeSpec := { name := "tierLetters", fn := fun _ => fun
  | [d1, d2] => { results := [.lit (.bool true)], args := [d1, d2] }
  | _ => none }
def tierLettersRow : OpenClaim := { program := "ytfkckeaadnoeiaagreat", sum := "38424b221b54c21fe0da382ac4cd85cf559c3ece9550356e0205b227409ce10c", func := "lodestar/lodestarlaw24.TierLetters", spec := "tierLetters", inPlace := ["internal/abi.NoEscape"], unfollowed := true, recurses := true, plainKeys := false, apart := false }
def TierLettersSaid : Prop := tierLettersRow.holds Tryz.pinned (OpenSpec.ofChange tierLettersSpec)

/-- ITS FALSE NEIGHBOUR: 'it returns false'. Refute it at one input. -/
def tierLettersWrong : ChangeSpec := { name := "tierLetters", fn := fun _ => fun
  | [d1, d2] => { results := [.lit (.bool false)], args := [d1, d2] }
  | _ => none }
def TierLettersWrongFalsely : Prop := tierLettersRow.holds Tryz.pinned (OpenSpec.ofChange tierLettersWrong)

/-- 'lodestarlaw24.TierStraight': WHATEVER THE INPUT: true; the input reads as it did. -/
def tierStraightSpec : ChangeSpec := { name := "tierStraight", fn := fun _ => fun
  | [d1, d2] => { results := [.lit (.bool true)], args := [d1, d2] }
  | _ => none }
def tierStraightRow : OpenClaim := { program := "ytfkckeaadnoeiaagreat", sum := "38424b221b54c21fe0da382ac4cd85cf559c3ece9550356e0205b227409ce10c", func := "lodestar/lodestarlaw24.TierStraight", spec := "tierStraight", inPlace := ["internal/abi.NoEscape"], unfollowed := true, recurses := true, plainKeys := false, apart := false }
def TierStraightSaid : Prop := tierStraightRow.holds Tryz.pinned (OpenSpec.ofChange tierStraightSpec)

/-- ITS FALSE NEIGHBOUR: 'it returns false'. Refute it at one input. -/
def tierStraightWrong : ChangeSpec := { name := "tierStraight", fn := fun _ => fun
  | [d1, d2] => { results := [.lit (.bool false)], args := [d1, d2] }
  | _ => none }
def TierStraightWrongFalsely : Prop := tierStraightRow.holds Tryz.pinned (OpenSpec.ofChange tierStraightWrong)

/-- 'lodestarlaw24.TierNil': WHATEVER THE INPUT: true; the input reads as it did. -/
def tierNilSpec : ChangeSpec := { name := "tierNil", fn := fun _ => fun
  | [d] => { results := [.lit (.bool true)], args := [d] }
  | _ => none }
def tierNilRow : OpenClaim := { program := "ytfkckeaadnoeiaagreat", sum := "38424b221b54c21fe0da382ac4cd85cf559c3ece9550356e0205b227409ce10c", func := "lodestar/lodestarlaw24.TierNil", spec := "tierNil", inPlace := ["internal/abi.NoEscape"], unfollowed := true, recurses := true, plainKeys := false, apart := false }
def TierNilSaid : Prop := tierNilRow.holds Tryz.pinned (OpenSpec.ofChange tierNilSpec)

/-- ITS FALSE NEIGHBOUR: 'it returns false'. Refute it at one input. -/
def tierNilWrong : ChangeSpec := { name := "tierNil", fn := fun _ => fun
  | [d] => { results := [.lit (.bool false)], args := [d] }
  | _ => none }
def TierNilWrongFalsely : Prop := tierNilRow.holds Tryz.pinned (OpenSpec.ofChange tierNilWrong)

/-- 'lodestarlaw24.TierIdle': WHATEVER THE INPUT: true; the input reads as it did. -/
def tierIdleSpec : ChangeSpec := { name := "tierIdle", fn := fun _ => fun
  | [d] => { results := [.lit (.bool true)], args := [d] }
  | _ => none }
def tierIdleRow : OpenClaim := { program := "ytfkckeaadnoeiaagreat", sum := "38424b221b54c21fe0da382ac4cd85cf559c3ece9550356e0205b227409ce10c", func := "lodestar/lodestarlaw24.TierIdle", spec := "tierIdle", inPlace := ["internal/abi.NoEscape"], unfollowed := true, recurses := true, plainKeys := false, apart := false }
def TierIdleSaid : Prop := tierIdleRow.holds Tryz.pinned (OpenSpec.ofChange tierIdleSpec)

/-- ITS FALSE NEIGHBOUR: 'it returns false'. Refute it at one input. -/
def tierIdleWrong : ChangeSpec := { name := "tierIdle", fn := fun _ => fun
  | [d] => { results := [.lit (.bool false)], args := [d] }
  | _ => none }
def TierIdleWrongFalsely : Prop := tierIdleRow.holds Tryz.pinned (OpenSpec.ofChange tierIdleWrong)

/- THE SECOND FORM. 'bulk': how many values and letters a reading holds, each counted each time it is reached (what is shared counts as often as it is met; a slice's spare places count too). A statement '..UptoSaid' is the law's where the arguments, and the package variables that the reading takes, are together of bulk at most 1048576: NARROWER than '..Said'. Prove '..Said' where nothing that the law and all that it calls make is longer than what came in: it says more and counts as full. Else prove '..UptoSaid'. A law counts once. -/
mutual
def uptoBulk {H : Type} : DataW H → Nat
  | .lit (.string bytes) => bytes.length + 1
  | .lit _ => 1
  | .nil => 1
  | .ptr d => uptoBulk d + 1
  | .slice elems spare => uptoBulkAll elems + uptoBulkAll spare + 1
  | .agg parts => uptoBulkAll parts + 1
  | .iface _ d => uptoBulk d + 1
  | .map entries => uptoBulkEntries entries + 1
  | .held _ => 1
def uptoBulkAll {H : Type} : List (DataW H) → Nat
  | [] => 0
  | d :: r => uptoBulk d + uptoBulkAll r
def uptoBulkEntries {H : Type} : List (Lit × DataW H) → Nat
  | [] => 0
  | x :: r => uptoBulkEntry x + uptoBulkEntries r
def uptoBulkEntry {H : Type} : Lit × DataW H → Nat
  | (.string bytes, d) => bytes.length + uptoBulk d + 1
  | (_, d) => uptoBulk d + 1
 end
def uptoSmall : (H : Type) → List (DataW H) → Bool := fun _ ds => decide (uptoBulkAll ds ≤ 1048576)
def OpenSpec.upto (s : _root_.Go.ChangeSpec) : _root_.Go.OpenSpec := { _root_.Go.OpenSpec.ofChange s with cond := some uptoSmall }

/-- 'lodestarlaw24.TierLetters', WHERE WHAT IT READS IS OF BULK AT MOST 1048576: true; the input reads as it did. -/
def tierLettersUptoRow : OpenClaim := { program := "ytfkckeaadnoeiaagreat", sum := "38424b221b54c21fe0da382ac4cd85cf559c3ece9550356e0205b227409ce10c", func := "lodestar/lodestarlaw24.TierLetters", spec := "tierLetters", inPlace := ["internal/abi.NoEscape"], unfollowed := true, recurses := true, plainKeys := false, apart := false, narrowed := true }
def TierLettersUptoSaid : Prop := tierLettersUptoRow.holds Tryz.pinned (OpenSpec.upto tierLettersSpec)

/-- 'lodestarlaw24.TierStraight', WHERE WHAT IT READS IS OF BULK AT MOST 1048576: true; the input reads as it did. -/
def tierStraightUptoRow : OpenClaim := { program := "ytfkckeaadnoeiaagreat", sum := "38424b221b54c21fe0da382ac4cd85cf559c3ece9550356e0205b227409ce10c", func := "lodestar/lodestarlaw24.TierStraight", spec := "tierStraight", inPlace := ["internal/abi.NoEscape"], unfollowed := true, recurses := true, plainKeys := false, apart := false, narrowed := true }
def TierStraightUptoSaid : Prop := tierStraightUptoRow.holds Tryz.pinned (OpenSpec.upto tierStraightSpec)

/-- 'lodestarlaw24.TierNil', WHERE WHAT IT READS IS OF BULK AT MOST 1048576: true; the input reads as it did. -/
def tierNilUptoRow : OpenClaim := { program := "ytfkckeaadnoeiaagreat", sum := "38424b221b54c21fe0da382ac4cd85cf559c3ece9550356e0205b227409ce10c", func := "lodestar/lodestarlaw24.TierNil", spec := "tierNil", inPlace := ["internal/abi.NoEscape"], unfollowed := true, recurses := true, plainKeys := false, apart := false, narrowed := true }
def TierNilUptoSaid : Prop := tierNilUptoRow.holds Tryz.pinned (OpenSpec.upto tierNilSpec)

/-- 'lodestarlaw24.TierIdle', WHERE WHAT IT READS IS OF BULK AT MOST 1048576: true; the input reads as it did. -/
def tierIdleUptoRow : OpenClaim := { program := "ytfkckeaadnoeiaagreat", sum := "38424b221b54c21fe0da382ac4cd85cf559c3ece9550356e0205b227409ce10c", func := "lodestar/lodestarlaw24.TierIdle", spec := "tierIdle", inPlace := ["internal/abi.NoEscape"], unfollowed := true, recurses := true, plainKeys := false, apart := false, narrowed := true }
def TierIdleUptoSaid : Prop := tierIdleUptoRow.holds Tryz.pinned (OpenSpec.upto tierIdleSpec)

end Rows
end Go.Proofs.YtfkckeaadnoeiaaGreat
