/-
  No cell of these rows narrows 'for every input' (looked for: loops, veiled, ifaces, maps, wideKeys, modest, calm, conditions, laid).
  DERIVED. THE GIVEN ROWS OF THIS SEAT. 6 by the template 'for every input the law returns true; each argument reads behind the call as it read before'; 0 by the template 'total and deterministic' (their statements: YteofaejlmdplhaaGreatTotals.lean).
  GIVEN WITH THE SEED: the statements are not yours to turn. If you find one false, say at which input.
  Laid BY PROGRAM, IN A SANDBOX (cutbox-rows.mjs): the forced cells as the released guide's own fill.sh prints them over the translation de1e65fd85894a7b… (all of the seat's roots in one cut). By AI agents, Wed Nov 11 2026. No macro, syntax, notation, axiom, sorry.
-/
import Derived.Test.YteofaejlmdplhaaGreatChecked
import GoSem.Claim
import GoSem.ClaimJoined
import GoSem.ClaimMapViews
import Derived.JoinedTies
import Derived.KernelRfl
namespace Go.Proofs.YteofaejlmdplhaaGreat
/- THE CELL 'sum', in the pinned program and in every row, IS THE sha256 OF THE DUMP (.gsa) THAT YteofaejlmdplhaaGreatProg.lean LOADS. Nothing in Lean hashes anything: it is a label: what it is worth is what the hold of that sum in a sandbox is worth. -/
noncomputable def Tryz.pinned : Pinned := { name := "yteofaejlmdplhaagreat", sum := "de1e65fd85894a7b7a5ed501859ab34170b70d54c282ebc314df8bec3622e94b", checked := Tryz.checked }
namespace Rows
def none {H : Type} : Left H := { results := [], args := [] }

/-- 'lodestarlaw16.XferTells': WHATEVER THE INPUT: true; the input reads as it did. -/
def xferTellsSpec : ChangeSpec := { name := "xferTells", fn := fun _ => fun
  | [d] => { results := [.lit (.bool true)], args := [d] }
  | _ => none }
def xferTellsRow : OpenClaim := { program := "yteofaejlmdplhaagreat", sum := "de1e65fd85894a7b7a5ed501859ab34170b70d54c282ebc314df8bec3622e94b", func := "lodestar/lodestarlaw16.XferTells", spec := "xferTells", inPlace := ["internal/abi.NoEscape"], unfollowed := true, recurses := true, plainKeys := false, apart := false }
def XferTellsSaid : Prop := xferTellsRow.holds Tryz.pinned (OpenSpec.ofChange xferTellsSpec)

/-- ITS FALSE NEIGHBOUR: 'it returns false'. Refute it at one input. -/
def xferTellsWrong : ChangeSpec := { name := "xferTells", fn := fun _ => fun
  | [d] => { results := [.lit (.bool false)], args := [d] }
  | _ => none }
def XferTellsWrongFalsely : Prop := xferTellsRow.holds Tryz.pinned (OpenSpec.ofChange xferTellsWrong)

/-- 'lodestarlaw16.XferInstalls': WHATEVER THE INPUT: true; the input reads as it did. -/
def xferInstallsSpec : ChangeSpec := { name := "xferInstalls", fn := fun _ => fun
  | [d1, d2, d3] => { results := [.lit (.bool true)], args := [d1, d2, d3] }
  | _ => none }
def xferInstallsRow : OpenClaim := { program := "yteofaejlmdplhaagreat", sum := "de1e65fd85894a7b7a5ed501859ab34170b70d54c282ebc314df8bec3622e94b", func := "lodestar/lodestarlaw16.XferInstalls", spec := "xferInstalls", inPlace := ["internal/abi.NoEscape"], unfollowed := true, recurses := true, plainKeys := false, apart := false }
def XferInstallsSaid : Prop := xferInstallsRow.holds Tryz.pinned (OpenSpec.ofChange xferInstallsSpec)

/-- ITS FALSE NEIGHBOUR: 'it returns false'. Refute it at one input. -/
def xferInstallsWrong : ChangeSpec := { name := "xferInstalls", fn := fun _ => fun
  | [d1, d2, d3] => { results := [.lit (.bool false)], args := [d1, d2, d3] }
  | _ => none }
def XferInstallsWrongFalsely : Prop := xferInstallsRow.holds Tryz.pinned (OpenSpec.ofChange xferInstallsWrong)

/-- 'lodestarlaw16.XferPacks': WHATEVER THE INPUT: true; the input reads as it did. -/
def xferPacksSpec : ChangeSpec := { name := "xferPacks", fn := fun _ => fun
  | [d] => { results := [.lit (.bool true)], args := [d] }
  | _ => none }
def xferPacksRow : OpenClaim := { program := "yteofaejlmdplhaagreat", sum := "de1e65fd85894a7b7a5ed501859ab34170b70d54c282ebc314df8bec3622e94b", func := "lodestar/lodestarlaw16.XferPacks", spec := "xferPacks", inPlace := ["internal/abi.NoEscape"], unfollowed := true, recurses := true, plainKeys := false, apart := false }
def XferPacksSaid : Prop := xferPacksRow.holds Tryz.pinned (OpenSpec.ofChange xferPacksSpec)

/-- ITS FALSE NEIGHBOUR: 'it returns false'. Refute it at one input. -/
def xferPacksWrong : ChangeSpec := { name := "xferPacks", fn := fun _ => fun
  | [d] => { results := [.lit (.bool false)], args := [d] }
  | _ => none }
def XferPacksWrongFalsely : Prop := xferPacksRow.holds Tryz.pinned (OpenSpec.ofChange xferPacksWrong)

/-- 'lodestarlaw16.XferMakes': WHATEVER THE INPUT: true; the input reads as it did. -/
def xferMakesSpec : ChangeSpec := { name := "xferMakes", fn := fun _ => fun
  | [d] => { results := [.lit (.bool true)], args := [d] }
  | _ => none }
def xferMakesRow : OpenClaim := { program := "yteofaejlmdplhaagreat", sum := "de1e65fd85894a7b7a5ed501859ab34170b70d54c282ebc314df8bec3622e94b", func := "lodestar/lodestarlaw16.XferMakes", spec := "xferMakes", inPlace := ["internal/abi.NoEscape"], unfollowed := true, recurses := true, plainKeys := false, apart := false }
def XferMakesSaid : Prop := xferMakesRow.holds Tryz.pinned (OpenSpec.ofChange xferMakesSpec)

/-- ITS FALSE NEIGHBOUR: 'it returns false'. Refute it at one input. -/
def xferMakesWrong : ChangeSpec := { name := "xferMakes", fn := fun _ => fun
  | [d] => { results := [.lit (.bool false)], args := [d] }
  | _ => none }
def XferMakesWrongFalsely : Prop := xferMakesRow.holds Tryz.pinned (OpenSpec.ofChange xferMakesWrong)

/-- 'lodestarlaw16.XferShape': WHATEVER THE INPUT: true; the input reads as it did. -/
def xferShapeSpec : ChangeSpec := { name := "xferShape", fn := fun _ => fun
  | [d] => { results := [.lit (.bool true)], args := [d] }
  | _ => none }
def xferShapeRow : OpenClaim := { program := "yteofaejlmdplhaagreat", sum := "de1e65fd85894a7b7a5ed501859ab34170b70d54c282ebc314df8bec3622e94b", func := "lodestar/lodestarlaw16.XferShape", spec := "xferShape", inPlace := ["internal/abi.NoEscape"], unfollowed := true, recurses := true, plainKeys := false, apart := false }
def XferShapeSaid : Prop := xferShapeRow.holds Tryz.pinned (OpenSpec.ofChange xferShapeSpec)

/-- ITS FALSE NEIGHBOUR: 'it returns false'. Refute it at one input. -/
def xferShapeWrong : ChangeSpec := { name := "xferShape", fn := fun _ => fun
  | [d] => { results := [.lit (.bool false)], args := [d] }
  | _ => none }
def XferShapeWrongFalsely : Prop := xferShapeRow.holds Tryz.pinned (OpenSpec.ofChange xferShapeWrong)

/-- 'lodestarlaw16.XferSame': WHATEVER THE INPUT: true; the input reads as it did. -/
def xferSameSpec : ChangeSpec := { name := "xferSame", fn := fun _ => fun
  | [d1, d2] => { results := [.lit (.bool true)], args := [d1, d2] }
  | _ => none }
def xferSameRow : OpenClaim := { program := "yteofaejlmdplhaagreat", sum := "de1e65fd85894a7b7a5ed501859ab34170b70d54c282ebc314df8bec3622e94b", func := "lodestar/lodestarlaw16.XferSame", spec := "xferSame", inPlace := ["internal/abi.NoEscape"], unfollowed := true, recurses := true, plainKeys := false, apart := false }
def XferSameSaid : Prop := xferSameRow.holds Tryz.pinned (OpenSpec.ofChange xferSameSpec)

/-- ITS FALSE NEIGHBOUR: 'it returns false'. Refute it at one input. -/
def xferSameWrong : ChangeSpec := { name := "xferSame", fn := fun _ => fun
  | [d1, d2] => { results := [.lit (.bool false)], args := [d1, d2] }
  | _ => none }
def XferSameWrongFalsely : Prop := xferSameRow.holds Tryz.pinned (OpenSpec.ofChange xferSameWrong)

/- THE SECOND FORM. 'bulk': how many values and letters a reading holds, each counted each time it is reached (what is shared counts as often as it is met; a slice's spare places count too). A statement '..UptoSaid' is the law's where the arguments, and the package variables that the reading takes, are together of bulk at most 1048576: NARROWER than '..Said'. Prove '..Said' where nothing that the law and all that it calls make is longer than what came in: it says more and counts as full. Else prove '..UptoSaid'. A law counts once. -/
mutual
def uptoBulk {H : Type} : DataW H → Nat
  | .lit (.string bytes) => bytes.length + 1
  | .lit _ => 1
  | .nil => 1
  | .ptr d => uptoBulk d + 1
  | .slice elems spare => uptoBulkAll elems + uptoBulkAll spare + 1
  | .agg parts => uptoBulkAll parts + 1
  | .iface _ d => uptoBulk d + 1
  | .map entries => uptoBulkEntries entries + 1
  | .held _ => 1
def uptoBulkAll {H : Type} : List (DataW H) → Nat
  | [] => 0
  | d :: r => uptoBulk d + uptoBulkAll r
def uptoBulkEntries {H : Type} : List (Lit × DataW H) → Nat
  | [] => 0
  | x :: r => uptoBulkEntry x + uptoBulkEntries r
def uptoBulkEntry {H : Type} : Lit × DataW H → Nat
  | (.string bytes, d) => bytes.length + uptoBulk d + 1
  | (_, d) => uptoBulk d + 1
 end
def uptoSmall : (H : Type) → List (DataW H) → Bool := fun _ ds => decide (uptoBulkAll ds ≤ 1048576)
def OpenSpec.upto (s : _root_.Go.ChangeSpec) : _root_.Go.OpenSpec := { _root_.Go.OpenSpec.ofChange s with cond := some uptoSmall }

/-- 'lodestarlaw16.XferTells', WHERE WHAT IT READS IS OF BULK AT MOST 1048576: true; the input reads as it did. -/
def xferTellsUptoRow : OpenClaim := { program := "yteofaejlmdplhaagreat", sum := "de1e65fd85894a7b7a5ed501859ab34170b70d54c282ebc314df8bec3622e94b", func := "lodestar/lodestarlaw16.XferTells", spec := "xferTells", inPlace := ["internal/abi.NoEscape"], unfollowed := true, recurses := true, plainKeys := false, apart := false, narrowed := true }
def XferTellsUptoSaid : Prop := xferTellsUptoRow.holds Tryz.pinned (OpenSpec.upto xferTellsSpec)

/-- 'lodestarlaw16.XferInstalls', WHERE WHAT IT READS IS OF BULK AT MOST 1048576: true; the input reads as it did. -/
def xferInstallsUptoRow : OpenClaim := { program := "yteofaejlmdplhaagreat", sum := "de1e65fd85894a7b7a5ed501859ab34170b70d54c282ebc314df8bec3622e94b", func := "lodestar/lodestarlaw16.XferInstalls", spec := "xferInstalls", inPlace := ["internal/abi.NoEscape"], unfollowed := true, recurses := true, plainKeys := false, apart := false, narrowed := true }
def XferInstallsUptoSaid : Prop := xferInstallsUptoRow.holds Tryz.pinned (OpenSpec.upto xferInstallsSpec)

/-- 'lodestarlaw16.XferPacks', WHERE WHAT IT READS IS OF BULK AT MOST 1048576: true; the input reads as it did. -/
def xferPacksUptoRow : OpenClaim := { program := "yteofaejlmdplhaagreat", sum := "de1e65fd85894a7b7a5ed501859ab34170b70d54c282ebc314df8bec3622e94b", func := "lodestar/lodestarlaw16.XferPacks", spec := "xferPacks", inPlace := ["internal/abi.NoEscape"], unfollowed := true, recurses := true, plainKeys := false, apart := false, narrowed := true }
def XferPacksUptoSaid : Prop := xferPacksUptoRow.holds Tryz.pinned (OpenSpec.upto xferPacksSpec)

/-- 'lodestarlaw16.XferMakes', WHERE WHAT IT READS IS OF BULK AT MOST 1048576: true; the input reads as it did. -/
def xferMakesUptoRow : OpenClaim := { program := "yteofaejlmdplhaagreat", sum := "de1e65fd85894a7b7a5ed501859ab34170b70d54c282ebc314df8bec3622e94b", func := "lodestar/lodestarlaw16.XferMakes", spec := "xferMakes", inPlace := ["internal/abi.NoEscape"], unfollowed := true, recurses := true, plainKeys := false, apart := false, narrowed := true }
def XferMakesUptoSaid : Prop := xferMakesUptoRow.holds Tryz.pinned (OpenSpec.upto xferMakesSpec)

/-- 'lodestarlaw16.XferShape', WHERE WHAT IT READS IS OF BULK AT MOST 1048576: true; the input reads as it did. -/
def xferShapeUptoRow : OpenClaim := { program := "yteofaejlmdplhaagreat", sum := "de1e65fd85894a7b7a5ed501859ab34170b70d54c282ebc314df8bec3622e94b", func := "lodestar/lodestarlaw16.XferShape", spec := "xferShape", inPlace := ["internal/abi.NoEscape"], unfollowed := true, recurses := true, plainKeys := false, apart := false, narrowed := true }
def XferShapeUptoSaid : Prop := xferShapeUptoRow.holds Tryz.pinned (OpenSpec.upto xferShapeSpec)

/-- 'lodestarlaw16.XferSame', WHERE WHAT IT READS IS OF BULK AT MOST 1048576: true; the input reads as it did. -/
def xferSameUptoRow : OpenClaim := { program := "yteofaejlmdplhaagreat", sum := "de1e65fd85894a7b7a5ed501859ab34170b70d54c282ebc314df8bec3622e94b", func := "lodestar/lodestarlaw16.XferSame", spec := "xferSame", inPlace := ["internal/abi.NoEscape"], unfollowed := true, recurses := true, plainKeys := false, apart := false, narrowed := true }
def XferSameUptoSaid : Prop := xferSameUptoRow.holds Tryz.pinned (OpenSpec.upto xferSameSpec)

end Rows
end Go.Proofs.YteofaejlmdplhaaGreat
