/-
  No cell of these rows narrows 'for every input' (looked for: loops, veiled, ifaces, maps, wideKeys, modest, calm, conditions, laid).
  DERIVED. THE GIVEN ROWS OF THIS SEAT. 16 by the template 'for every input the law returns true; each argument reads behind the call as it read before'; 0 by the template 'total and deterministic' (their statements: YtoajkilickakiaaGreatTotals.lean).
  GIVEN WITH THE SEED: the statements are not yours to turn. If you find one false, say at which input.
  Laid BY PROGRAM, IN A SANDBOX (cutbox-rows.mjs): the forced cells as the released guide's own fill.sh prints them over the translation fef75b2a5488f2d9… (all of the seat's roots in one cut). By AI agents, Wed Nov 11 2026. No macro, syntax, notation, axiom, sorry.
-/
import Derived.Test.YtoajkilickakiaaGreatChecked
import GoSem.Claim
import GoSem.ClaimJoined
import GoSem.ClaimMapViews
import Derived.JoinedTies
import Derived.KernelRfl
namespace Go.Proofs.YtoajkilickakiaaGreat
/- THE CELL 'sum', in the pinned program and in every row, IS THE sha256 OF THE DUMP (.gsa) THAT YtoajkilickakiaaGreatProg.lean LOADS. Nothing in Lean hashes anything: it is a label: what it is worth is what the hold of that sum in a sandbox is worth. -/
noncomputable def Tryz.pinned : Pinned := { name := "ytoajkilickakiaagreat", sum := "fef75b2a5488f2d98a3981c5e41d484e332c263af21dd857aeb1a3e337698d48", checked := Tryz.checked }
namespace Rows
def none {H : Type} : Left H := { results := [], args := [] }

/-- 'lodestarlaw10.DiffMakes': WHATEVER THE INPUT: true; the input reads as it did. -/
def diffMakesSpec : ChangeSpec := { name := "diffMakes", fn := fun _ => fun
  | [d1, d2] => { results := [.lit (.bool true)], args := [d1, d2] }
  | _ => none }
def diffMakesRow : OpenClaim := { program := "ytoajkilickakiaagreat", sum := "fef75b2a5488f2d98a3981c5e41d484e332c263af21dd857aeb1a3e337698d48", func := "lodestar/lodestarlaw10.DiffMakes", spec := "diffMakes", inPlace := ["internal/abi.NoEscape"], unfollowed := true, recurses := true, plainKeys := false, apart := false }
def DiffMakesSaid : Prop := diffMakesRow.holds Tryz.pinned (OpenSpec.ofChange diffMakesSpec)

/-- ITS FALSE NEIGHBOUR: 'it returns false'. Refute it at one input. -/
def diffMakesWrong : ChangeSpec := { name := "diffMakes", fn := fun _ => fun
  | [d1, d2] => { results := [.lit (.bool false)], args := [d1, d2] }
  | _ => none }
def DiffMakesWrongFalsely : Prop := diffMakesRow.holds Tryz.pinned (OpenSpec.ofChange diffMakesWrong)

/-- 'lodestarlaw10.DiffApplies': WHATEVER THE INPUT: true; the input reads as it did. -/
def diffAppliesSpec : ChangeSpec := { name := "diffApplies", fn := fun _ => fun
  | [d1, d2] => { results := [.lit (.bool true)], args := [d1, d2] }
  | _ => none }
def diffAppliesRow : OpenClaim := { program := "ytoajkilickakiaagreat", sum := "fef75b2a5488f2d98a3981c5e41d484e332c263af21dd857aeb1a3e337698d48", func := "lodestar/lodestarlaw10.DiffApplies", spec := "diffApplies", inPlace := ["internal/abi.NoEscape"], unfollowed := true, recurses := true, plainKeys := false, apart := false }
def DiffAppliesSaid : Prop := diffAppliesRow.holds Tryz.pinned (OpenSpec.ofChange diffAppliesSpec)

/-- ITS FALSE NEIGHBOUR: 'it returns false'. Refute it at one input. -/
def diffAppliesWrong : ChangeSpec := { name := "diffApplies", fn := fun _ => fun
  | [d1, d2] => { results := [.lit (.bool false)], args := [d1, d2] }
  | _ => none }
def DiffAppliesWrongFalsely : Prop := diffAppliesRow.holds Tryz.pinned (OpenSpec.ofChange diffAppliesWrong)

/-- 'lodestarlaw10.DiffTurns': WHATEVER THE INPUT: true; the input reads as it did. -/
def diffTurnsSpec : ChangeSpec := { name := "diffTurns", fn := fun _ => fun
  | [d1, d2] => { results := [.lit (.bool true)], args := [d1, d2] }
  | _ => none }
def diffTurnsRow : OpenClaim := { program := "ytoajkilickakiaagreat", sum := "fef75b2a5488f2d98a3981c5e41d484e332c263af21dd857aeb1a3e337698d48", func := "lodestar/lodestarlaw10.DiffTurns", spec := "diffTurns", inPlace := ["internal/abi.NoEscape"], unfollowed := true, recurses := true, plainKeys := false, apart := false }
def DiffTurnsSaid : Prop := diffTurnsRow.holds Tryz.pinned (OpenSpec.ofChange diffTurnsSpec)

/-- ITS FALSE NEIGHBOUR: 'it returns false'. Refute it at one input. -/
def diffTurnsWrong : ChangeSpec := { name := "diffTurns", fn := fun _ => fun
  | [d1, d2] => { results := [.lit (.bool false)], args := [d1, d2] }
  | _ => none }
def DiffTurnsWrongFalsely : Prop := diffTurnsRow.holds Tryz.pinned (OpenSpec.ofChange diffTurnsWrong)

/-- 'lodestarlaw10.DiffBack': WHATEVER THE INPUT: true; the input reads as it did. -/
def diffBackSpec : ChangeSpec := { name := "diffBack", fn := fun _ => fun
  | [d1, d2] => { results := [.lit (.bool true)], args := [d1, d2] }
  | _ => none }
def diffBackRow : OpenClaim := { program := "ytoajkilickakiaagreat", sum := "fef75b2a5488f2d98a3981c5e41d484e332c263af21dd857aeb1a3e337698d48", func := "lodestar/lodestarlaw10.DiffBack", spec := "diffBack", inPlace := ["internal/abi.NoEscape"], unfollowed := true, recurses := true, plainKeys := false, apart := false }
def DiffBackSaid : Prop := diffBackRow.holds Tryz.pinned (OpenSpec.ofChange diffBackSpec)

/-- ITS FALSE NEIGHBOUR: 'it returns false'. Refute it at one input. -/
def diffBackWrong : ChangeSpec := { name := "diffBack", fn := fun _ => fun
  | [d1, d2] => { results := [.lit (.bool false)], args := [d1, d2] }
  | _ => none }
def DiffBackWrongFalsely : Prop := diffBackRow.holds Tryz.pinned (OpenSpec.ofChange diffBackWrong)

/-- 'lodestarlaw10.DiffTwo': WHATEVER THE INPUT: true; the input reads as it did. -/
def diffTwoSpec : ChangeSpec := { name := "diffTwo", fn := fun _ => fun
  | [d1, d2, d3] => { results := [.lit (.bool true)], args := [d1, d2, d3] }
  | _ => none }
def diffTwoRow : OpenClaim := { program := "ytoajkilickakiaagreat", sum := "fef75b2a5488f2d98a3981c5e41d484e332c263af21dd857aeb1a3e337698d48", func := "lodestar/lodestarlaw10.DiffTwo", spec := "diffTwo", inPlace := ["internal/abi.NoEscape"], unfollowed := true, recurses := true, plainKeys := false, apart := false }
def DiffTwoSaid : Prop := diffTwoRow.holds Tryz.pinned (OpenSpec.ofChange diffTwoSpec)

/-- ITS FALSE NEIGHBOUR: 'it returns false'. Refute it at one input. -/
def diffTwoWrong : ChangeSpec := { name := "diffTwo", fn := fun _ => fun
  | [d1, d2, d3] => { results := [.lit (.bool false)], args := [d1, d2, d3] }
  | _ => none }
def DiffTwoWrongFalsely : Prop := diffTwoRow.holds Tryz.pinned (OpenSpec.ofChange diffTwoWrong)

/-- 'lodestarlaw10.DiffSelf': WHATEVER THE INPUT: true; the input reads as it did. -/
def diffSelfSpec : ChangeSpec := { name := "diffSelf", fn := fun _ => fun
  | [d1, d2] => { results := [.lit (.bool true)], args := [d1, d2] }
  | _ => none }
def diffSelfRow : OpenClaim := { program := "ytoajkilickakiaagreat", sum := "fef75b2a5488f2d98a3981c5e41d484e332c263af21dd857aeb1a3e337698d48", func := "lodestar/lodestarlaw10.DiffSelf", spec := "diffSelf", inPlace := ["internal/abi.NoEscape"], unfollowed := true, recurses := true, plainKeys := false, apart := false }
def DiffSelfSaid : Prop := diffSelfRow.holds Tryz.pinned (OpenSpec.ofChange diffSelfSpec)

/-- ITS FALSE NEIGHBOUR: 'it returns false'. Refute it at one input. -/
def diffSelfWrong : ChangeSpec := { name := "diffSelf", fn := fun _ => fun
  | [d1, d2] => { results := [.lit (.bool false)], args := [d1, d2] }
  | _ => none }
def DiffSelfWrongFalsely : Prop := diffSelfRow.holds Tryz.pinned (OpenSpec.ofChange diffSelfWrong)

/-- 'lodestarlaw10.DiffNone': WHATEVER THE INPUT: true; the input reads as it did. -/
def diffNoneSpec : ChangeSpec := { name := "diffNone", fn := fun _ => fun
  | [d1, d2] => { results := [.lit (.bool true)], args := [d1, d2] }
  | _ => none }
def diffNoneRow : OpenClaim := { program := "ytoajkilickakiaagreat", sum := "fef75b2a5488f2d98a3981c5e41d484e332c263af21dd857aeb1a3e337698d48", func := "lodestar/lodestarlaw10.DiffNone", spec := "diffNone", inPlace := ["internal/abi.NoEscape"], unfollowed := true, recurses := true, plainKeys := false, apart := false }
def DiffNoneSaid : Prop := diffNoneRow.holds Tryz.pinned (OpenSpec.ofChange diffNoneSpec)

/-- ITS FALSE NEIGHBOUR: 'it returns false'. Refute it at one input. -/
def diffNoneWrong : ChangeSpec := { name := "diffNone", fn := fun _ => fun
  | [d1, d2] => { results := [.lit (.bool false)], args := [d1, d2] }
  | _ => none }
def DiffNoneWrongFalsely : Prop := diffNoneRow.holds Tryz.pinned (OpenSpec.ofChange diffNoneWrong)

/-- 'lodestarlaw09.LookupSets': WHATEVER THE INPUT: true; the input reads as it did. -/
def lookupSetsSpec : ChangeSpec := { name := "lookupSets", fn := fun _ => fun
  | [d1, d2] => { results := [.lit (.bool true)], args := [d1, d2] }
  | _ => none }
def lookupSetsRow : OpenClaim := { program := "ytoajkilickakiaagreat", sum := "fef75b2a5488f2d98a3981c5e41d484e332c263af21dd857aeb1a3e337698d48", func := "lodestar/lodestarlaw09.LookupSets", spec := "lookupSets", inPlace := ["internal/abi.NoEscape"], unfollowed := true, recurses := true, plainKeys := false, apart := false }
def LookupSetsSaid : Prop := lookupSetsRow.holds Tryz.pinned (OpenSpec.ofChange lookupSetsSpec)

/-- ITS FALSE NEIGHBOUR: 'it returns false'. Refute it at one input. -/
def lookupSetsWrong : ChangeSpec := { name := "lookupSets", fn := fun _ => fun
  | [d1, d2] => { results := [.lit (.bool false)], args := [d1, d2] }
  | _ => none }
def LookupSetsWrongFalsely : Prop := lookupSetsRow.holds Tryz.pinned (OpenSpec.ofChange lookupSetsWrong)

/-- 'lodestarlaw09.LookupLetters': WHATEVER THE INPUT: true; the input reads as it did. -/
def lookupLettersSpec : ChangeSpec := { name := "lookupLetters", fn := fun _ => fun
  | [d1, d2] => { results := [.lit (.bool true)], args := [d1, d2] }
  | _ => none }
def lookupLettersRow : OpenClaim := { program := "ytoajkilickakiaagreat", sum := "fef75b2a5488f2d98a3981c5e41d484e332c263af21dd857aeb1a3e337698d48", func := "lodestar/lodestarlaw09.LookupLetters", spec := "lookupLetters", inPlace := ["internal/abi.NoEscape"], unfollowed := true, recurses := true, plainKeys := false, apart := false }
def LookupLettersSaid : Prop := lookupLettersRow.holds Tryz.pinned (OpenSpec.ofChange lookupLettersSpec)

/-- ITS FALSE NEIGHBOUR: 'it returns false'. Refute it at one input. -/
def lookupLettersWrong : ChangeSpec := { name := "lookupLetters", fn := fun _ => fun
  | [d1, d2] => { results := [.lit (.bool false)], args := [d1, d2] }
  | _ => none }
def LookupLettersWrongFalsely : Prop := lookupLettersRow.holds Tryz.pinned (OpenSpec.ofChange lookupLettersWrong)

/-- 'lodestarlaw09.LookupKinds': WHATEVER THE INPUT: true; the input reads as it did. -/
def lookupKindsSpec : ChangeSpec := { name := "lookupKinds", fn := fun _ => fun
  | [d1, d2] => { results := [.lit (.bool true)], args := [d1, d2] }
  | _ => none }
def lookupKindsRow : OpenClaim := { program := "ytoajkilickakiaagreat", sum := "fef75b2a5488f2d98a3981c5e41d484e332c263af21dd857aeb1a3e337698d48", func := "lodestar/lodestarlaw09.LookupKinds", spec := "lookupKinds", inPlace := ["internal/abi.NoEscape"], unfollowed := true, recurses := true, plainKeys := false, apart := false }
def LookupKindsSaid : Prop := lookupKindsRow.holds Tryz.pinned (OpenSpec.ofChange lookupKindsSpec)

/-- ITS FALSE NEIGHBOUR: 'it returns false'. Refute it at one input. -/
def lookupKindsWrong : ChangeSpec := { name := "lookupKinds", fn := fun _ => fun
  | [d1, d2] => { results := [.lit (.bool false)], args := [d1, d2] }
  | _ => none }
def LookupKindsWrongFalsely : Prop := lookupKindsRow.holds Tryz.pinned (OpenSpec.ofChange lookupKindsWrong)

/-- 'lodestarlaw09.LookupIn': WHATEVER THE INPUT: true; the input reads as it did. -/
def lookupInSpec : ChangeSpec := { name := "lookupIn", fn := fun _ => fun
  | [d1, d2] => { results := [.lit (.bool true)], args := [d1, d2] }
  | _ => none }
def lookupInRow : OpenClaim := { program := "ytoajkilickakiaagreat", sum := "fef75b2a5488f2d98a3981c5e41d484e332c263af21dd857aeb1a3e337698d48", func := "lodestar/lodestarlaw09.LookupIn", spec := "lookupIn", inPlace := ["internal/abi.NoEscape"], unfollowed := true, recurses := true, plainKeys := false, apart := false }
def LookupInSaid : Prop := lookupInRow.holds Tryz.pinned (OpenSpec.ofChange lookupInSpec)

/-- ITS FALSE NEIGHBOUR: 'it returns false'. Refute it at one input. -/
def lookupInWrong : ChangeSpec := { name := "lookupIn", fn := fun _ => fun
  | [d1, d2] => { results := [.lit (.bool false)], args := [d1, d2] }
  | _ => none }
def LookupInWrongFalsely : Prop := lookupInRow.holds Tryz.pinned (OpenSpec.ofChange lookupInWrong)

/-- 'lodestarlaw09.LookupDenies': WHATEVER THE INPUT: true; the input reads as it did. -/
def lookupDeniesSpec : ChangeSpec := { name := "lookupDenies", fn := fun _ => fun
  | [d1, d2] => { results := [.lit (.bool true)], args := [d1, d2] }
  | _ => none }
def lookupDeniesRow : OpenClaim := { program := "ytoajkilickakiaagreat", sum := "fef75b2a5488f2d98a3981c5e41d484e332c263af21dd857aeb1a3e337698d48", func := "lodestar/lodestarlaw09.LookupDenies", spec := "lookupDenies", inPlace := ["internal/abi.NoEscape"], unfollowed := true, recurses := true, plainKeys := false, apart := false }
def LookupDeniesSaid : Prop := lookupDeniesRow.holds Tryz.pinned (OpenSpec.ofChange lookupDeniesSpec)

/-- ITS FALSE NEIGHBOUR: 'it returns false'. Refute it at one input. -/
def lookupDeniesWrong : ChangeSpec := { name := "lookupDenies", fn := fun _ => fun
  | [d1, d2] => { results := [.lit (.bool false)], args := [d1, d2] }
  | _ => none }
def LookupDeniesWrongFalsely : Prop := lookupDeniesRow.holds Tryz.pinned (OpenSpec.ofChange lookupDeniesWrong)

/-- 'lodestarlaw11.JournalScripts': WHATEVER THE INPUT: true; the input reads as it did. -/
def journalScriptsSpec : ChangeSpec := { name := "journalScripts", fn := fun _ => fun
  | [d] => { results := [.lit (.bool true)], args := [d] }
  | _ => none }
def journalScriptsRow : OpenClaim := { program := "ytoajkilickakiaagreat", sum := "fef75b2a5488f2d98a3981c5e41d484e332c263af21dd857aeb1a3e337698d48", func := "lodestar/lodestarlaw11.JournalScripts", spec := "journalScripts", inPlace := ["internal/abi.NoEscape"], unfollowed := true, recurses := true, plainKeys := false, apart := false }
def JournalScriptsSaid : Prop := journalScriptsRow.holds Tryz.pinned (OpenSpec.ofChange journalScriptsSpec)

/-- ITS FALSE NEIGHBOUR: 'it returns false'. Refute it at one input. -/
def journalScriptsWrong : ChangeSpec := { name := "journalScripts", fn := fun _ => fun
  | [d] => { results := [.lit (.bool false)], args := [d] }
  | _ => none }
def JournalScriptsWrongFalsely : Prop := journalScriptsRow.holds Tryz.pinned (OpenSpec.ofChange journalScriptsWrong)

/-- 'lodestarlaw11.JournalNil': WHATEVER THE INPUT: true; the input reads as it did. -/
def journalNilSpec : ChangeSpec := { name := "journalNil", fn := fun _ => fun
  | [d1, d2] => { results := [.lit (.bool true)], args := [d1, d2] }
  | _ => none }
def journalNilRow : OpenClaim := { program := "ytoajkilickakiaagreat", sum := "fef75b2a5488f2d98a3981c5e41d484e332c263af21dd857aeb1a3e337698d48", func := "lodestar/lodestarlaw11.JournalNil", spec := "journalNil", inPlace := ["internal/abi.NoEscape"], unfollowed := true, recurses := true, plainKeys := false, apart := false }
def JournalNilSaid : Prop := journalNilRow.holds Tryz.pinned (OpenSpec.ofChange journalNilSpec)

/-- ITS FALSE NEIGHBOUR: 'it returns false'. Refute it at one input. -/
def journalNilWrong : ChangeSpec := { name := "journalNil", fn := fun _ => fun
  | [d1, d2] => { results := [.lit (.bool false)], args := [d1, d2] }
  | _ => none }
def JournalNilWrongFalsely : Prop := journalNilRow.holds Tryz.pinned (OpenSpec.ofChange journalNilWrong)

/-- 'lodestarlaw11.JournalBound': WHATEVER THE INPUT: true; the input reads as it did. -/
def journalBoundSpec : ChangeSpec := { name := "journalBound", fn := fun _ => fun
  | [d1, d2, d3] => { results := [.lit (.bool true)], args := [d1, d2, d3] }
  | _ => none }
def journalBoundRow : OpenClaim := { program := "ytoajkilickakiaagreat", sum := "fef75b2a5488f2d98a3981c5e41d484e332c263af21dd857aeb1a3e337698d48", func := "lodestar/lodestarlaw11.JournalBound", spec := "journalBound", inPlace := ["internal/abi.NoEscape"], unfollowed := true, recurses := true, plainKeys := false, apart := false }
def JournalBoundSaid : Prop := journalBoundRow.holds Tryz.pinned (OpenSpec.ofChange journalBoundSpec)

/-- ITS FALSE NEIGHBOUR: 'it returns false'. Refute it at one input. -/
def journalBoundWrong : ChangeSpec := { name := "journalBound", fn := fun _ => fun
  | [d1, d2, d3] => { results := [.lit (.bool false)], args := [d1, d2, d3] }
  | _ => none }
def JournalBoundWrongFalsely : Prop := journalBoundRow.holds Tryz.pinned (OpenSpec.ofChange journalBoundWrong)

/-- 'lodestarlaw11.JournalMakes': WHATEVER THE INPUT: true; the input reads as it did. -/
def journalMakesSpec : ChangeSpec := { name := "journalMakes", fn := fun _ => fun
  | [d1, d2, d3] => { results := [.lit (.bool true)], args := [d1, d2, d3] }
  | _ => none }
def journalMakesRow : OpenClaim := { program := "ytoajkilickakiaagreat", sum := "fef75b2a5488f2d98a3981c5e41d484e332c263af21dd857aeb1a3e337698d48", func := "lodestar/lodestarlaw11.JournalMakes", spec := "journalMakes", inPlace := ["internal/abi.NoEscape"], unfollowed := true, recurses := true, plainKeys := false, apart := false }
def JournalMakesSaid : Prop := journalMakesRow.holds Tryz.pinned (OpenSpec.ofChange journalMakesSpec)

/-- ITS FALSE NEIGHBOUR: 'it returns false'. Refute it at one input. -/
def journalMakesWrong : ChangeSpec := { name := "journalMakes", fn := fun _ => fun
  | [d1, d2, d3] => { results := [.lit (.bool false)], args := [d1, d2, d3] }
  | _ => none }
def JournalMakesWrongFalsely : Prop := journalMakesRow.holds Tryz.pinned (OpenSpec.ofChange journalMakesWrong)

/- THE SECOND FORM. 'bulk': how many values and letters a reading holds, each counted each time it is reached (what is shared counts as often as it is met; a slice's spare places count too). A statement '..UptoSaid' is the law's where the arguments, and the package variables that the reading takes, are together of bulk at most 1048576: NARROWER than '..Said'. Prove '..Said' where nothing that the law and all that it calls make is longer than what came in: it says more and counts as full. Else prove '..UptoSaid'. A law counts once. -/
mutual
def uptoBulk {H : Type} : DataW H → Nat
  | .lit (.string bytes) => bytes.length + 1
  | .lit _ => 1
  | .nil => 1
  | .ptr d => uptoBulk d + 1
  | .slice elems spare => uptoBulkAll elems + uptoBulkAll spare + 1
  | .agg parts => uptoBulkAll parts + 1
  | .iface _ d => uptoBulk d + 1
  | .map entries => uptoBulkEntries entries + 1
  | .held _ => 1
def uptoBulkAll {H : Type} : List (DataW H) → Nat
  | [] => 0
  | d :: r => uptoBulk d + uptoBulkAll r
def uptoBulkEntries {H : Type} : List (Lit × DataW H) → Nat
  | [] => 0
  | x :: r => uptoBulkEntry x + uptoBulkEntries r
def uptoBulkEntry {H : Type} : Lit × DataW H → Nat
  | (.string bytes, d) => bytes.length + uptoBulk d + 1
  | (_, d) => uptoBulk d + 1
 end
def uptoSmall : (H : Type) → List (DataW H) → Bool := fun _ ds => decide (uptoBulkAll ds ≤ 1048576)
def OpenSpec.upto (s : _root_.Go.ChangeSpec) : _root_.Go.OpenSpec := { _root_.Go.OpenSpec.ofChange s with cond := some uptoSmall }

/-- 'lodestarlaw10.DiffMakes', WHERE WHAT IT READS IS OF BULK AT MOST 1048576: true; the input reads as it did. -/
def diffMakesUptoRow : OpenClaim := { program := "ytoajkilickakiaagreat", sum := "fef75b2a5488f2d98a3981c5e41d484e332c263af21dd857aeb1a3e337698d48", func := "lodestar/lodestarlaw10.DiffMakes", spec := "diffMakes", inPlace := ["internal/abi.NoEscape"], unfollowed := true, recurses := true, plainKeys := false, apart := false, narrowed := true }
def DiffMakesUptoSaid : Prop := diffMakesUptoRow.holds Tryz.pinned (OpenSpec.upto diffMakesSpec)

/-- 'lodestarlaw10.DiffApplies', WHERE WHAT IT READS IS OF BULK AT MOST 1048576: true; the input reads as it did. -/
def diffAppliesUptoRow : OpenClaim := { program := "ytoajkilickakiaagreat", sum := "fef75b2a5488f2d98a3981c5e41d484e332c263af21dd857aeb1a3e337698d48", func := "lodestar/lodestarlaw10.DiffApplies", spec := "diffApplies", inPlace := ["internal/abi.NoEscape"], unfollowed := true, recurses := true, plainKeys := false, apart := false, narrowed := true }
def DiffAppliesUptoSaid : Prop := diffAppliesUptoRow.holds Tryz.pinned (OpenSpec.upto diffAppliesSpec)

/-- 'lodestarlaw10.DiffTurns', WHERE WHAT IT READS IS OF BULK AT MOST 1048576: true; the input reads as it did. -/
def diffTurnsUptoRow : OpenClaim := { program := "ytoajkilickakiaagreat", sum := "fef75b2a5488f2d98a3981c5e41d484e332c263af21dd857aeb1a3e337698d48", func := "lodestar/lodestarlaw10.DiffTurns", spec := "diffTurns", inPlace := ["internal/abi.NoEscape"], unfollowed := true, recurses := true, plainKeys := false, apart := false, narrowed := true }
def DiffTurnsUptoSaid : Prop := diffTurnsUptoRow.holds Tryz.pinned (OpenSpec.upto diffTurnsSpec)

/-- 'lodestarlaw10.DiffBack', WHERE WHAT IT READS IS OF BULK AT MOST 1048576: true; the input reads as it did. -/
def diffBackUptoRow : OpenClaim := { program := "ytoajkilickakiaagreat", sum := "fef75b2a5488f2d98a3981c5e41d484e332c263af21dd857aeb1a3e337698d48", func := "lodestar/lodestarlaw10.DiffBack", spec := "diffBack", inPlace := ["internal/abi.NoEscape"], unfollowed := true, recurses := true, plainKeys := false, apart := false, narrowed := true }
def DiffBackUptoSaid : Prop := diffBackUptoRow.holds Tryz.pinned (OpenSpec.upto diffBackSpec)

/-- 'lodestarlaw10.DiffTwo', WHERE WHAT IT READS IS OF BULK AT MOST 1048576: true; the input reads as it did. -/
def diffTwoUptoRow : OpenClaim := { program := "ytoajkilickakiaagreat", sum := "fef75b2a5488f2d98a3981c5e41d484e332c263af21dd857aeb1a3e337698d48", func := "lodestar/lodestarlaw10.DiffTwo", spec := "diffTwo", inPlace := ["internal/abi.NoEscape"], unfollowed := true, recurses := true, plainKeys := false, apart := false, narrowed := true }
def DiffTwoUptoSaid : Prop := diffTwoUptoRow.holds Tryz.pinned (OpenSpec.upto diffTwoSpec)

/-- 'lodestarlaw10.DiffSelf', WHERE WHAT IT READS IS OF BULK AT MOST 1048576: true; the input reads as it did. -/
def diffSelfUptoRow : OpenClaim := { program := "ytoajkilickakiaagreat", sum := "fef75b2a5488f2d98a3981c5e41d484e332c263af21dd857aeb1a3e337698d48", func := "lodestar/lodestarlaw10.DiffSelf", spec := "diffSelf", inPlace := ["internal/abi.NoEscape"], unfollowed := true, recurses := true, plainKeys := false, apart := false, narrowed := true }
def DiffSelfUptoSaid : Prop := diffSelfUptoRow.holds Tryz.pinned (OpenSpec.upto diffSelfSpec)

/-- 'lodestarlaw10.DiffNone', WHERE WHAT IT READS IS OF BULK AT MOST 1048576: true; the input reads as it did. -/
def diffNoneUptoRow : OpenClaim := { program := "ytoajkilickakiaagreat", sum := "fef75b2a5488f2d98a3981c5e41d484e332c263af21dd857aeb1a3e337698d48", func := "lodestar/lodestarlaw10.DiffNone", spec := "diffNone", inPlace := ["internal/abi.NoEscape"], unfollowed := true, recurses := true, plainKeys := false, apart := false, narrowed := true }
def DiffNoneUptoSaid : Prop := diffNoneUptoRow.holds Tryz.pinned (OpenSpec.upto diffNoneSpec)

/-- 'lodestarlaw09.LookupSets', WHERE WHAT IT READS IS OF BULK AT MOST 1048576: true; the input reads as it did. -/
def lookupSetsUptoRow : OpenClaim := { program := "ytoajkilickakiaagreat", sum := "fef75b2a5488f2d98a3981c5e41d484e332c263af21dd857aeb1a3e337698d48", func := "lodestar/lodestarlaw09.LookupSets", spec := "lookupSets", inPlace := ["internal/abi.NoEscape"], unfollowed := true, recurses := true, plainKeys := false, apart := false, narrowed := true }
def LookupSetsUptoSaid : Prop := lookupSetsUptoRow.holds Tryz.pinned (OpenSpec.upto lookupSetsSpec)

/-- 'lodestarlaw09.LookupLetters', WHERE WHAT IT READS IS OF BULK AT MOST 1048576: true; the input reads as it did. -/
def lookupLettersUptoRow : OpenClaim := { program := "ytoajkilickakiaagreat", sum := "fef75b2a5488f2d98a3981c5e41d484e332c263af21dd857aeb1a3e337698d48", func := "lodestar/lodestarlaw09.LookupLetters", spec := "lookupLetters", inPlace := ["internal/abi.NoEscape"], unfollowed := true, recurses := true, plainKeys := false, apart := false, narrowed := true }
def LookupLettersUptoSaid : Prop := lookupLettersUptoRow.holds Tryz.pinned (OpenSpec.upto lookupLettersSpec)

/-- 'lodestarlaw09.LookupKinds', WHERE WHAT IT READS IS OF BULK AT MOST 1048576: true; the input reads as it did. -/
def lookupKindsUptoRow : OpenClaim := { program := "ytoajkilickakiaagreat", sum := "fef75b2a5488f2d98a3981c5e41d484e332c263af21dd857aeb1a3e337698d48", func := "lodestar/lodestarlaw09.LookupKinds", spec := "lookupKinds", inPlace := ["internal/abi.NoEscape"], unfollowed := true, recurses := true, plainKeys := false, apart := false, narrowed := true }
def LookupKindsUptoSaid : Prop := lookupKindsUptoRow.holds Tryz.pinned (OpenSpec.upto lookupKindsSpec)

/-- 'lodestarlaw09.LookupIn', WHERE WHAT IT READS IS OF BULK AT MOST 1048576: true; the input reads as it did. -/
def lookupInUptoRow : OpenClaim := { program := "ytoajkilickakiaagreat", sum := "fef75b2a5488f2d98a3981c5e41d484e332c263af21dd857aeb1a3e337698d48", func := "lodestar/lodestarlaw09.LookupIn", spec := "lookupIn", inPlace := ["internal/abi.NoEscape"], unfollowed := true, recurses := true, plainKeys := false, apart := false, narrowed := true }
def LookupInUptoSaid : Prop := lookupInUptoRow.holds Tryz.pinned (OpenSpec.upto lookupInSpec)

/-- 'lodestarlaw09.LookupDenies', WHERE WHAT IT READS IS OF BULK AT MOST 1048576: true; the input reads as it did. -/
def lookupDeniesUptoRow : OpenClaim := { program := "ytoajkilickakiaagreat", sum := "fef75b2a5488f2d98a3981c5e41d484e332c263af21dd857aeb1a3e337698d48", func := "lodestar/lodestarlaw09.LookupDenies", spec := "lookupDenies", inPlace := ["internal/abi.NoEscape"], unfollowed := true, recurses := true, plainKeys := false, apart := false, narrowed := true }
def LookupDeniesUptoSaid : Prop := lookupDeniesUptoRow.holds Tryz.pinned (OpenSpec.upto lookupDeniesSpec)

/-- 'lodestarlaw11.JournalScripts', WHERE WHAT IT READS IS OF BULK AT MOST 1048576: true; the input reads as it did. -/
def journalScriptsUptoRow : OpenClaim := { program := "ytoajkilickakiaagreat", sum := "fef75b2a5488f2d98a3981c5e41d484e332c263af21dd857aeb1a3e337698d48", func := "lodestar/lodestarlaw11.JournalScripts", spec := "journalScripts", inPlace := ["internal/abi.NoEscape"], unfollowed := true, recurses := true, plainKeys := false, apart := false, narrowed := true }
def JournalScriptsUptoSaid : Prop := journalScriptsUptoRow.holds Tryz.pinned (OpenSpec.upto journalScriptsSpec)

/-- 'lodestarlaw11.JournalNil', WHERE WHAT IT READS IS OF BULK AT MOST 1048576: true; the input reads as it did. -/
def journalNilUptoRow : OpenClaim := { program := "ytoajkilickakiaagreat", sum := "fef75b2a5488f2d98a3981c5e41d484e332c263af21dd857aeb1a3e337698d48", func := "lodestar/lodestarlaw11.JournalNil", spec := "journalNil", inPlace := ["internal/abi.NoEscape"], unfollowed := true, recurses := true, plainKeys := false, apart := false, narrowed := true }
def JournalNilUptoSaid : Prop := journalNilUptoRow.holds Tryz.pinned (OpenSpec.upto journalNilSpec)

/-- 'lodestarlaw11.JournalBound', WHERE WHAT IT READS IS OF BULK AT MOST 1048576: true; the input reads as it did. -/
def journalBoundUptoRow : OpenClaim := { program := "ytoajkilickakiaagreat", sum := "fef75b2a5488f2d98a3981c5e41d484e332c263af21dd857aeb1a3e337698d48", func := "lodestar/lodestarlaw11.JournalBound", spec := "journalBound", inPlace := ["internal/abi.NoEscape"], unfollowed := true, recurses := true, plainKeys := false, apart := false, narrowed := true }
def JournalBoundUptoSaid : Prop := journalBoundUptoRow.holds Tryz.pinned (OpenSpec.upto journalBoundSpec)

/-- 'lodestarlaw11.JournalMakes', WHERE WHAT IT READS IS OF BULK AT MOST 1048576: true; the input reads as it did. -/
def journalMakesUptoRow : OpenClaim := { program := "ytoajkilickakiaagreat", sum := "fef75b2a5488f2d98a3981c5e41d484e332c263af21dd857aeb1a3e337698d48", func := "lodestar/lodestarlaw11.JournalMakes", spec := "journalMakes", inPlace := ["internal/abi.NoEscape"], unfollowed := true, recurses := true, plainKeys := false, apart := false, narrowed := true }
def JournalMakesUptoSaid : Prop := journalMakesUptoRow.holds Tryz.pinned (OpenSpec.upto journalMakesSpec)

end Rows
end Go.Proofs.YtoajkilickakiaaGreat
