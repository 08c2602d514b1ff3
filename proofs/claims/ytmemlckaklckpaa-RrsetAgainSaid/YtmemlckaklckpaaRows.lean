/-
  No cell of these rows narrows 'for every input' (looked for: loops, veiled, ifaces, maps, wideKeys, modest, calm, conditions, laid).
  DERIVED. THE GIVEN ROWS OF THIS SEAT. 4 by the template 'for every input the law returns true; each argument reads behind the call as it read before'; 0 by the template 'total and deterministic' (their statements: YtmemlckaklckpaaTotals.lean).
  GIVEN WITH THE SEED: the statements are not yours to turn. If you find one false, say at which input.
  Laid BY PROGRAM, IN A SANDBOX (cutbox-rows.mjs): the forced cells as the released guide's own fill.sh prints them over the translation 0c186363c048eee8… (all of the seat's roots in one cut). By AI agents, Wed Nov 11 2026. No macro, syntax, notation, axiom, sorry.
-/
import Derived.Test.YtmemlckaklckpaaChecked
import GoSem.Claim
import GoSem.ClaimJoined
import GoSem.ClaimMapViews
import Derived.JoinedTies
import Derived.KernelRfl
namespace Go.Proofs.Ytmemlckaklckpaa
/- THE CELL 'sum', in the pinned program and in every row, IS THE sha256 OF THE DUMP (.gsa) THAT YtmemlckaklckpaaProg.lean LOADS. Nothing in Lean hashes anything: it is a label: what it is worth is what the hold of that sum in a sandbox is worth. -/
noncomputable def Try.pinned : Pinned := { name := "ytmemlckaklckpaa", sum := "0c186363c048eee89c6e8f9c2ec5dd30f62048d9ab74b04fb1fd62be42e3d0d5", checked := Try.checked }
namespace Rows
def none {H : Type} : Left H := { results := [], args := [] }

/-- 'lodestarlaw07.RrsetAgain': WHATEVER THE INPUT: true; the input reads as it did. -/
def rrsetAgainSpec : ChangeSpec := { name := "rrsetAgain", fn := fun _ => fun
  | [d] => { results := [.lit (.bool true)], args := [d] }
  | _ => none }
def rrsetAgainRow : OpenClaim := { program := "ytmemlckaklckpaa", sum := "0c186363c048eee89c6e8f9c2ec5dd30f62048d9ab74b04fb1fd62be42e3d0d5", func := "lodestar/lodestarlaw07.RrsetAgain", spec := "rrsetAgain", inPlace := ["internal/abi.NoEscape"], unfollowed := true, recurses := true, plainKeys := false, apart := false }
def RrsetAgainSaid : Prop := rrsetAgainRow.holds Try.pinned (OpenSpec.ofChange rrsetAgainSpec)

/-- ITS FALSE NEIGHBOUR: 'it returns false'. Refute it at one input. -/
def rrsetAgainWrong : ChangeSpec := { name := "rrsetAgain", fn := fun _ => fun
  | [d] => { results := [.lit (.bool false)], args := [d] }
  | _ => none }
def RrsetAgainWrongFalsely : Prop := rrsetAgainRow.holds Try.pinned (OpenSpec.ofChange rrsetAgainWrong)

/-- 'lodestarlaw07.RrsetAll': WHATEVER THE INPUT: true; the input reads as it did. -/
def rrsetAllSpec : ChangeSpec := { name := "rrsetAll", fn := fun _ => fun
  | [d] => { results := [.lit (.bool true)], args := [d] }
  | _ => none }
def rrsetAllRow : OpenClaim := { program := "ytmemlckaklckpaa", sum := "0c186363c048eee89c6e8f9c2ec5dd30f62048d9ab74b04fb1fd62be42e3d0d5", func := "lodestar/lodestarlaw07.RrsetAll", spec := "rrsetAll", inPlace := ["internal/abi.NoEscape"], unfollowed := true, recurses := true, plainKeys := false, apart := false }
def RrsetAllSaid : Prop := rrsetAllRow.holds Try.pinned (OpenSpec.ofChange rrsetAllSpec)

/-- ITS FALSE NEIGHBOUR: 'it returns false'. Refute it at one input. -/
def rrsetAllWrong : ChangeSpec := { name := "rrsetAll", fn := fun _ => fun
  | [d] => { results := [.lit (.bool false)], args := [d] }
  | _ => none }
def RrsetAllWrongFalsely : Prop := rrsetAllRow.holds Try.pinned (OpenSpec.ofChange rrsetAllWrong)

/-- 'lodestarlaw07.RrsetTwice': WHATEVER THE INPUT: true; the input reads as it did. -/
def rrsetTwiceSpec : ChangeSpec := { name := "rrsetTwice", fn := fun _ => fun
  | [d] => { results := [.lit (.bool true)], args := [d] }
  | _ => none }
def rrsetTwiceRow : OpenClaim := { program := "ytmemlckaklckpaa", sum := "0c186363c048eee89c6e8f9c2ec5dd30f62048d9ab74b04fb1fd62be42e3d0d5", func := "lodestar/lodestarlaw07.RrsetTwice", spec := "rrsetTwice", inPlace := ["internal/abi.NoEscape"], unfollowed := true, recurses := true, plainKeys := false, apart := false }
def RrsetTwiceSaid : Prop := rrsetTwiceRow.holds Try.pinned (OpenSpec.ofChange rrsetTwiceSpec)

/-- ITS FALSE NEIGHBOUR: 'it returns false'. Refute it at one input. -/
def rrsetTwiceWrong : ChangeSpec := { name := "rrsetTwice", fn := fun _ => fun
  | [d] => { results := [.lit (.bool false)], args := [d] }
  | _ => none }
def RrsetTwiceWrongFalsely : Prop := rrsetTwiceRow.holds Try.pinned (OpenSpec.ofChange rrsetTwiceWrong)

/-- 'lodestarlaw07.RrsetFound': WHATEVER THE INPUT: true; the input reads as it did. -/
def rrsetFoundSpec : ChangeSpec := { name := "rrsetFound", fn := fun _ => fun
  | [d1, d2, d3] => { results := [.lit (.bool true)], args := [d1, d2, d3] }
  | _ => none }
def rrsetFoundRow : OpenClaim := { program := "ytmemlckaklckpaa", sum := "0c186363c048eee89c6e8f9c2ec5dd30f62048d9ab74b04fb1fd62be42e3d0d5", func := "lodestar/lodestarlaw07.RrsetFound", spec := "rrsetFound", inPlace := ["internal/abi.NoEscape"], unfollowed := true, recurses := true, plainKeys := false, apart := false }
def RrsetFoundSaid : Prop := rrsetFoundRow.holds Try.pinned (OpenSpec.ofChange rrsetFoundSpec)

/-- ITS FALSE NEIGHBOUR: 'it returns false'. Refute it at one input. -/
def rrsetFoundWrong : ChangeSpec := { name := "rrsetFound", fn := fun _ => fun
  | [d1, d2, d3] => { results := [.lit (.bool false)], args := [d1, d2, d3] }
  | _ => none }
def RrsetFoundWrongFalsely : Prop := rrsetFoundRow.holds Try.pinned (OpenSpec.ofChange rrsetFoundWrong)

/- THE SECOND FORM. 'bulk': how many values and letters a reading holds, each counted each time it is reached (what is shared counts as often as it is met; a slice's spare places count too). A statement '..UptoSaid' is the law's where the arguments, and the package variables that the reading takes, are together of bulk at most 1048576: NARROWER than '..Said'. Prove '..Said' where nothing that the law and all that it calls make is longer than what came in: it says more and counts as full. Else prove '..UptoSaid'. A law counts once. -/
mutual
def uptoBulk {H : Type} : DataW H → Nat
  | .lit (.string bytes) => bytes.length + 1
  | .lit _ => 1
  | .nil => 1
  | .ptr d => uptoBulk d + 1
  | .slice elems spare => uptoBulkAll elems + uptoBulkAll spare + 1
  | .agg parts => uptoBulkAll parts + 1
  | .iface _ d => uptoBulk d + 1
  | .map entries => uptoBulkEntries entries + 1
  | .held _ => 1
def uptoBulkAll {H : Type} : List (DataW H) → Nat
  | [] => 0
  | d :: r => uptoBulk d + uptoBulkAll r
def uptoBulkEntries {H : Type} : List (Lit × DataW H) → Nat
  | [] => 0
  | x :: r => uptoBulkEntry x + uptoBulkEntries r
def uptoBulkEntry {H : Type} : Lit × DataW H → Nat
  | (.string bytes, d) => bytes.length + uptoBulk d + 1
  | (_, d) => uptoBulk d + 1
 end
def uptoSmall : (H : Type) → List (DataW H) → Bool := fun _ ds => decide (uptoBulkAll ds ≤ 1048576)
def OpenSpec.upto (s : _root_.Go.ChangeSpec) : _root_.Go.OpenSpec := { _root_.Go.OpenSpec.ofChange s with cond := some uptoSmall }

/-- 'lodestarlaw07.RrsetAgain', WHERE WHAT IT READS IS OF BULK AT MOST 1048576: true; the input reads as it did. -/
def rrsetAgainUptoRow : OpenClaim := { program := "ytmemlckaklckpaa", sum := "0c186363c048eee89c6e8f9c2ec5dd30f62048d9ab74b04fb1fd62be42e3d0d5", func := "lodestar/lodestarlaw07.RrsetAgain", spec := "rrsetAgain", inPlace := ["internal/abi.NoEscape"], unfollowed := true, recurses := true, plainKeys := false, apart := false, narrowed := true }
def RrsetAgainUptoSaid : Prop := rrsetAgainUptoRow.holds Try.pinned (OpenSpec.upto rrsetAgainSpec)

/-- 'lodestarlaw07.RrsetAll', WHERE WHAT IT READS IS OF BULK AT MOST 1048576: true; the input reads as it did. -/
def rrsetAllUptoRow : OpenClaim := { program := "ytmemlckaklckpaa", sum := "0c186363c048eee89c6e8f9c2ec5dd30f62048d9ab74b04fb1fd62be42e3d0d5", func := "lodestar/lodestarlaw07.RrsetAll", spec := "rrsetAll", inPlace := ["internal/abi.NoEscape"], unfollowed := true, recurses := true, plainKeys := false, apart := false, narrowed := true }
def RrsetAllUptoSaid : Prop := rrsetAllUptoRow.holds Try.pinned (OpenSpec.upto rrsetAllSpec)

/-- 'lodestarlaw07.RrsetTwice', WHERE WHAT IT READS IS OF BULK AT MOST 1048576: true; the input reads as it did. -/
def rrsetTwiceUptoRow : OpenClaim := { program := "ytmemlckaklckpaa", sum := "0c186363c048eee89c6e8f9c2ec5dd30f62048d9ab74b04fb1fd62be42e3d0d5", func := "lodestar/lodestarlaw07.RrsetTwice", spec := "rrsetTwice", inPlace := ["internal/abi.NoEscape"], unfollowed := true, recurses := true, plainKeys := false, apart := false, narrowed := true }
def RrsetTwiceUptoSaid : Prop := rrsetTwiceUptoRow.holds Try.pinned (OpenSpec.upto rrsetTwiceSpec)

/-- 'lodestarlaw07.RrsetFound', WHERE WHAT IT READS IS OF BULK AT MOST 1048576: true; the input reads as it did. -/
def rrsetFoundUptoRow : OpenClaim := { program := "ytmemlckaklckpaa", sum := "0c186363c048eee89c6e8f9c2ec5dd30f62048d9ab74b04fb1fd62be42e3d0d5", func := "lodestar/lodestarlaw07.RrsetFound", spec := "rrsetFound", inPlace := ["internal/abi.NoEscape"], unfollowed := true, recurses := true, plainKeys := false, apart := false, narrowed := true }
def RrsetFoundUptoSaid : Prop := rrsetFoundUptoRow.holds Try.pinned (OpenSpec.upto rrsetFoundSpec)

end Rows
end Go.Proofs.Ytmemlckaklckpaa
