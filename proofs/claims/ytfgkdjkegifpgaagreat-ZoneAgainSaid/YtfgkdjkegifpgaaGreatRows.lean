/-
  No cell of these rows narrows 'for every input' (looked for: loops, veiled, ifaces, maps, wideKeys, modest, calm, conditions, laid).
  DERIVED. THE GIVEN ROWS OF THIS SEAT. 9 by the template 'for every input the law returns true; each argument reads behind the call as it read before'; 0 by the template 'total and deterministic' (their statements: YtfgkdjkegifpgaaGreatTotals.lean).
  GIVEN WITH THE SEED: the statements are not yours to turn. If you find one false, say at which input.
  Laid BY PROGRAM, IN A SANDBOX (cutbox-rows.mjs): the forced cells as the released guide's own fill.sh prints them over the translation f2ba9d7c05fa0e23… (all of the seat's roots in one cut). By AI agents, Wed Nov 11 2026. No macro, syntax, notation, axiom, sorry.
-/
import Derived.Test.YtfgkdjkegifpgaaGreatChecked
import GoSem.Claim
import GoSem.ClaimJoined
import GoSem.ClaimMapViews
import Derived.JoinedTies
import Derived.KernelRfl
namespace Go.Proofs.YtfgkdjkegifpgaaGreat
/- THE CELL 'sum', in the pinned program and in every row, IS THE sha256 OF THE DUMP (.gsa) THAT YtfgkdjkegifpgaaGreatProg.lean LOADS. Nothing in Lean hashes anything: it is a label: what it is worth is what the hold of that sum in a sandbox is worth. -/
noncomputable def Tryz.pinned : Pinned := { name := "ytfgkdjkegifpgaagreat", sum := "f2ba9d7c05fa0e23cbcdcc710947d929a77cf83e6742b23b7f97bd530b40d3b3", checked := Tryz.checked }
namespace Rows
def none {H : Type} : Left H := { results := [], args := [] }

/-- 'lodestarlaw07.RrsetGroups': WHATEVER THE INPUT: true; the input reads as it did. -/
def rrsetGroupsSpec : ChangeSpec := { name := "rrsetGroups", fn := fun _ => fun
  | [d] => { results := [.lit (.bool true)], args := [d] }
  | _ => none }
def rrsetGroupsRow : OpenClaim := { program := "ytfgkdjkegifpgaagreat", sum := "f2ba9d7c05fa0e23cbcdcc710947d929a77cf83e6742b23b7f97bd530b40d3b3", func := "lodestar/lodestarlaw07.RrsetGroups", spec := "rrsetGroups", inPlace := ["internal/abi.NoEscape"], unfollowed := true, recurses := true, plainKeys := false, apart := false }
def RrsetGroupsSaid : Prop := rrsetGroupsRow.holds Tryz.pinned (OpenSpec.ofChange rrsetGroupsSpec)

/-- ITS FALSE NEIGHBOUR: 'it returns false'. Refute it at one input. -/
def rrsetGroupsWrong : ChangeSpec := { name := "rrsetGroups", fn := fun _ => fun
  | [d] => { results := [.lit (.bool false)], args := [d] }
  | _ => none }
def RrsetGroupsWrongFalsely : Prop := rrsetGroupsRow.holds Tryz.pinned (OpenSpec.ofChange rrsetGroupsWrong)

/-- 'lodestarlaw07.RrsetFinds': WHATEVER THE INPUT: true; the input reads as it did. -/
def rrsetFindsSpec : ChangeSpec := { name := "rrsetFinds", fn := fun _ => fun
  | [d1, d2, d3] => { results := [.lit (.bool true)], args := [d1, d2, d3] }
  | _ => none }
def rrsetFindsRow : OpenClaim := { program := "ytfgkdjkegifpgaagreat", sum := "f2ba9d7c05fa0e23cbcdcc710947d929a77cf83e6742b23b7f97bd530b40d3b3", func := "lodestar/lodestarlaw07.RrsetFinds", spec := "rrsetFinds", inPlace := ["internal/abi.NoEscape"], unfollowed := true, recurses := true, plainKeys := false, apart := false }
def RrsetFindsSaid : Prop := rrsetFindsRow.holds Tryz.pinned (OpenSpec.ofChange rrsetFindsSpec)

/-- ITS FALSE NEIGHBOUR: 'it returns false'. Refute it at one input. -/
def rrsetFindsWrong : ChangeSpec := { name := "rrsetFinds", fn := fun _ => fun
  | [d1, d2, d3] => { results := [.lit (.bool false)], args := [d1, d2, d3] }
  | _ => none }
def RrsetFindsWrongFalsely : Prop := rrsetFindsRow.holds Tryz.pinned (OpenSpec.ofChange rrsetFindsWrong)

/-- 'lodestarlaw08.ZoneLoads': WHATEVER THE INPUT: true; the input reads as it did. -/
def zoneLoadsSpec : ChangeSpec := { name := "zoneLoads", fn := fun _ => fun
  | [d1, d2] => { results := [.lit (.bool true)], args := [d1, d2] }
  | _ => none }
def zoneLoadsRow : OpenClaim := { program := "ytfgkdjkegifpgaagreat", sum := "f2ba9d7c05fa0e23cbcdcc710947d929a77cf83e6742b23b7f97bd530b40d3b3", func := "lodestar/lodestarlaw08.ZoneLoads", spec := "zoneLoads", inPlace := ["internal/abi.NoEscape"], unfollowed := true, recurses := true, plainKeys := false, apart := false }
def ZoneLoadsSaid : Prop := zoneLoadsRow.holds Tryz.pinned (OpenSpec.ofChange zoneLoadsSpec)

/-- ITS FALSE NEIGHBOUR: 'it returns false'. Refute it at one input. -/
def zoneLoadsWrong : ChangeSpec := { name := "zoneLoads", fn := fun _ => fun
  | [d1, d2] => { results := [.lit (.bool false)], args := [d1, d2] }
  | _ => none }
def ZoneLoadsWrongFalsely : Prop := zoneLoadsRow.holds Tryz.pinned (OpenSpec.ofChange zoneLoadsWrong)

/-- 'lodestarlaw08.ZoneChecks': WHATEVER THE INPUT: true; the input reads as it did. -/
def zoneChecksSpec : ChangeSpec := { name := "zoneChecks", fn := fun _ => fun
  | [d1, d2] => { results := [.lit (.bool true)], args := [d1, d2] }
  | _ => none }
def zoneChecksRow : OpenClaim := { program := "ytfgkdjkegifpgaagreat", sum := "f2ba9d7c05fa0e23cbcdcc710947d929a77cf83e6742b23b7f97bd530b40d3b3", func := "lodestar/lodestarlaw08.ZoneChecks", spec := "zoneChecks", inPlace := ["internal/abi.NoEscape"], unfollowed := true, recurses := true, plainKeys := false, apart := false }
def ZoneChecksSaid : Prop := zoneChecksRow.holds Tryz.pinned (OpenSpec.ofChange zoneChecksSpec)

/-- ITS FALSE NEIGHBOUR: 'it returns false'. Refute it at one input. -/
def zoneChecksWrong : ChangeSpec := { name := "zoneChecks", fn := fun _ => fun
  | [d1, d2] => { results := [.lit (.bool false)], args := [d1, d2] }
  | _ => none }
def ZoneChecksWrongFalsely : Prop := zoneChecksRow.holds Tryz.pinned (OpenSpec.ofChange zoneChecksWrong)

/-- 'lodestarlaw08.ZoneFinds': WHATEVER THE INPUT: true; the input reads as it did. -/
def zoneFindsSpec : ChangeSpec := { name := "zoneFinds", fn := fun _ => fun
  | [d1, d2] => { results := [.lit (.bool true)], args := [d1, d2] }
  | _ => none }
def zoneFindsRow : OpenClaim := { program := "ytfgkdjkegifpgaagreat", sum := "f2ba9d7c05fa0e23cbcdcc710947d929a77cf83e6742b23b7f97bd530b40d3b3", func := "lodestar/lodestarlaw08.ZoneFinds", spec := "zoneFinds", inPlace := ["internal/abi.NoEscape"], unfollowed := true, recurses := true, plainKeys := false, apart := false }
def ZoneFindsSaid : Prop := zoneFindsRow.holds Tryz.pinned (OpenSpec.ofChange zoneFindsSpec)

/-- ITS FALSE NEIGHBOUR: 'it returns false'. Refute it at one input. -/
def zoneFindsWrong : ChangeSpec := { name := "zoneFinds", fn := fun _ => fun
  | [d1, d2] => { results := [.lit (.bool false)], args := [d1, d2] }
  | _ => none }
def ZoneFindsWrongFalsely : Prop := zoneFindsRow.holds Tryz.pinned (OpenSpec.ofChange zoneFindsWrong)

/-- 'lodestarlaw08.ZoneRenews': WHATEVER THE INPUT: true; the input reads as it did. -/
def zoneRenewsSpec : ChangeSpec := { name := "zoneRenews", fn := fun _ => fun
  | [d1, d2, d3] => { results := [.lit (.bool true)], args := [d1, d2, d3] }
  | _ => none }
def zoneRenewsRow : OpenClaim := { program := "ytfgkdjkegifpgaagreat", sum := "f2ba9d7c05fa0e23cbcdcc710947d929a77cf83e6742b23b7f97bd530b40d3b3", func := "lodestar/lodestarlaw08.ZoneRenews", spec := "zoneRenews", inPlace := ["internal/abi.NoEscape"], unfollowed := true, recurses := true, plainKeys := false, apart := false }
def ZoneRenewsSaid : Prop := zoneRenewsRow.holds Tryz.pinned (OpenSpec.ofChange zoneRenewsSpec)

/-- ITS FALSE NEIGHBOUR: 'it returns false'. Refute it at one input. -/
def zoneRenewsWrong : ChangeSpec := { name := "zoneRenews", fn := fun _ => fun
  | [d1, d2, d3] => { results := [.lit (.bool false)], args := [d1, d2, d3] }
  | _ => none }
def ZoneRenewsWrongFalsely : Prop := zoneRenewsRow.holds Tryz.pinned (OpenSpec.ofChange zoneRenewsWrong)

/-- 'lodestarlaw08.ZoneAbove': WHATEVER THE INPUT: true; the input reads as it did. -/
def zoneAboveSpec : ChangeSpec := { name := "zoneAbove", fn := fun _ => fun
  | [d1, d2] => { results := [.lit (.bool true)], args := [d1, d2] }
  | _ => none }
def zoneAboveRow : OpenClaim := { program := "ytfgkdjkegifpgaagreat", sum := "f2ba9d7c05fa0e23cbcdcc710947d929a77cf83e6742b23b7f97bd530b40d3b3", func := "lodestar/lodestarlaw08.ZoneAbove", spec := "zoneAbove", inPlace := ["internal/abi.NoEscape"], unfollowed := true, recurses := true, plainKeys := false, apart := false }
def ZoneAboveSaid : Prop := zoneAboveRow.holds Tryz.pinned (OpenSpec.ofChange zoneAboveSpec)

/-- ITS FALSE NEIGHBOUR: 'it returns false'. Refute it at one input. -/
def zoneAboveWrong : ChangeSpec := { name := "zoneAbove", fn := fun _ => fun
  | [d1, d2] => { results := [.lit (.bool false)], args := [d1, d2] }
  | _ => none }
def ZoneAboveWrongFalsely : Prop := zoneAboveRow.holds Tryz.pinned (OpenSpec.ofChange zoneAboveWrong)

/-- 'lodestarlaw08.ZoneOwn': WHATEVER THE INPUT: true; the input reads as it did. -/
def zoneOwnSpec : ChangeSpec := { name := "zoneOwn", fn := fun _ => fun
  | [d] => { results := [.lit (.bool true)], args := [d] }
  | _ => none }
def zoneOwnRow : OpenClaim := { program := "ytfgkdjkegifpgaagreat", sum := "f2ba9d7c05fa0e23cbcdcc710947d929a77cf83e6742b23b7f97bd530b40d3b3", func := "lodestar/lodestarlaw08.ZoneOwn", spec := "zoneOwn", inPlace := ["internal/abi.NoEscape"], unfollowed := true, recurses := true, plainKeys := false, apart := false }
def ZoneOwnSaid : Prop := zoneOwnRow.holds Tryz.pinned (OpenSpec.ofChange zoneOwnSpec)

/-- ITS FALSE NEIGHBOUR: 'it returns false'. Refute it at one input. -/
def zoneOwnWrong : ChangeSpec := { name := "zoneOwn", fn := fun _ => fun
  | [d] => { results := [.lit (.bool false)], args := [d] }
  | _ => none }
def ZoneOwnWrongFalsely : Prop := zoneOwnRow.holds Tryz.pinned (OpenSpec.ofChange zoneOwnWrong)

/-- 'lodestarlaw08.ZoneAgain': WHATEVER THE INPUT: true; the input reads as it did. -/
def zoneAgainSpec : ChangeSpec := { name := "zoneAgain", fn := fun _ => fun
  | [d] => { results := [.lit (.bool true)], args := [d] }
  | _ => none }
def zoneAgainRow : OpenClaim := { program := "ytfgkdjkegifpgaagreat", sum := "f2ba9d7c05fa0e23cbcdcc710947d929a77cf83e6742b23b7f97bd530b40d3b3", func := "lodestar/lodestarlaw08.ZoneAgain", spec := "zoneAgain", inPlace := ["internal/abi.NoEscape"], unfollowed := true, recurses := true, plainKeys := false, apart := false }
def ZoneAgainSaid : Prop := zoneAgainRow.holds Tryz.pinned (OpenSpec.ofChange zoneAgainSpec)

/-- ITS FALSE NEIGHBOUR: 'it returns false'. Refute it at one input. -/
def zoneAgainWrong : ChangeSpec := { name := "zoneAgain", fn := fun _ => fun
  | [d] => { results := [.lit (.bool false)], args := [d] }
  | _ => none }
def ZoneAgainWrongFalsely : Prop := zoneAgainRow.holds Tryz.pinned (OpenSpec.ofChange zoneAgainWrong)

/- THE SECOND FORM. 'bulk': how many values and letters a reading holds, each counted each time it is reached (what is shared counts as often as it is met; a slice's spare places count too). A statement '..UptoSaid' is the law's where the arguments, and the package variables that the reading takes, are together of bulk at most 1048576: NARROWER than '..Said'. Prove '..Said' where nothing that the law and all that it calls make is longer than what came in: it says more and counts as full. Else prove '..UptoSaid'. A law counts once. -/
mutual
def uptoBulk {H : Type} : DataW H → Nat
  | .lit (.string bytes) => bytes.length + 1
  | .lit _ => 1
  | .nil => 1
  | .ptr d => uptoBulk d + 1
  | .slice elems spare => uptoBulkAll elems + uptoBulkAll spare + 1
  | .agg parts => uptoBulkAll parts + 1
  | .iface _ d => uptoBulk d + 1
  | .map entries => uptoBulkEntries entries + 1
  | .held _ => 1
def uptoBulkAll {H : Type} : List (DataW H) → Nat
  | [] => 0
  | d :: r => uptoBulk d + uptoBulkAll r
def uptoBulkEntries {H : Type} : List (Lit × DataW H) → Nat
  | [] => 0
  | x :: r => uptoBulkEntry x + uptoBulkEntries r
def uptoBulkEntry {H : Type} : Lit × DataW H → Nat
  | (.string bytes, d) => bytes.length + uptoBulk d + 1
  | (_, d) => uptoBulk d + 1
 end
def uptoSmall : (H : Type) → List (DataW H) → Bool := fun _ ds => decide (uptoBulkAll ds ≤ 1048576)
def OpenSpec.upto (s : _root_.Go.ChangeSpec) : _root_.Go.OpenSpec := { _root_.Go.OpenSpec.ofChange s with cond := some uptoSmall }

/-- 'lodestarlaw07.RrsetGroups', WHERE WHAT IT READS IS OF BULK AT MOST 1048576: true; the input reads as it did. -/
def rrsetGroupsUptoRow : OpenClaim := { program := "ytfgkdjkegifpgaagreat", sum := "f2ba9d7c05fa0e23cbcdcc710947d929a77cf83e6742b23b7f97bd530b40d3b3", func := "lodestar/lodestarlaw07.RrsetGroups", spec := "rrsetGroups", inPlace := ["internal/abi.NoEscape"], unfollowed := true, recurses := true, plainKeys := false, apart := false, narrowed := true }
def RrsetGroupsUptoSaid : Prop := rrsetGroupsUptoRow.holds Tryz.pinned (OpenSpec.upto rrsetGroupsSpec)

/-- 'lodestarlaw07.RrsetFinds', WHERE WHAT IT READS IS OF BULK AT MOST 1048576: true; the input reads as it did. -/
def rrsetFindsUptoRow : OpenClaim := { program := "ytfgkdjkegifpgaagreat", sum := "f2ba9d7c05fa0e23cbcdcc710947d929a77cf83e6742b23b7f97bd530b40d3b3", func := "lodestar/lodestarlaw07.RrsetFinds", spec := "rrsetFinds", inPlace := ["internal/abi.NoEscape"], unfollowed := true, recurses := true, plainKeys := false, apart := false, narrowed := true }
def RrsetFindsUptoSaid : Prop := rrsetFindsUptoRow.holds Tryz.pinned (OpenSpec.upto rrsetFindsSpec)

/-- 'lodestarlaw08.ZoneLoads', WHERE WHAT IT READS IS OF BULK AT MOST 1048576: true; the input reads as it did. -/
def zoneLoadsUptoRow : OpenClaim := { program := "ytfgkdjkegifpgaagreat", sum := "f2ba9d7c05fa0e23cbcdcc710947d929a77cf83e6742b23b7f97bd530b40d3b3", func := "lodestar/lodestarlaw08.ZoneLoads", spec := "zoneLoads", inPlace := ["internal/abi.NoEscape"], unfollowed := true, recurses := true, plainKeys := false, apart := false, narrowed := true }
def ZoneLoadsUptoSaid : Prop := zoneLoadsUptoRow.holds Tryz.pinned (OpenSpec.upto zoneLoadsSpec)

/-- 'lodestarlaw08.ZoneChecks', WHERE WHAT IT READS IS OF BULK AT MOST 1048576: true; the input reads as it did. -/
def zoneChecksUptoRow : OpenClaim := { program := "ytfgkdjkegifpgaagreat", sum := "f2ba9d7c05fa0e23cbcdcc710947d929a77cf83e6742b23b7f97bd530b40d3b3", func := "lodestar/lodestarlaw08.ZoneChecks", spec := "zoneChecks", inPlace := ["internal/abi.NoEscape"], unfollowed := true, recurses := true, plainKeys := false, apart := false, narrowed := true }
def ZoneChecksUptoSaid : Prop := zoneChecksUptoRow.holds Tryz.pinned (OpenSpec.upto zoneChecksSpec)

/-- 'lodestarlaw08.ZoneFinds', WHERE WHAT IT READS IS OF BULK AT MOST 1048576: true; the input reads as it did. -/
def zoneFindsUptoRow : OpenClaim := { program := "ytfgkdjkegifpgaagreat", sum := "f2ba9d7c05fa0e23cbcdcc710947d929a77cf83e6742b23b7f97bd530b40d3b3", func := "lodestar/lodestarlaw08.ZoneFinds", spec := "zoneFinds", inPlace := ["internal/abi.NoEscape"], unfollowed := true, recurses := true, plainKeys := false, apart := false, narrowed := true }
def ZoneFindsUptoSaid : Prop := zoneFindsUptoRow.holds Tryz.pinned (OpenSpec.upto zoneFindsSpec)

/-- 'lodestarlaw08.ZoneRenews', WHERE WHAT IT READS IS OF BULK AT MOST 1048576: true; the input reads as it did. -/
def zoneRenewsUptoRow : OpenClaim := { program := "ytfgkdjkegifpgaagreat", sum := "f2ba9d7c05fa0e23cbcdcc710947d929a77cf83e6742b23b7f97bd530b40d3b3", func := "lodestar/lodestarlaw08.ZoneRenews", spec := "zoneRenews", inPlace := ["internal/abi.NoEscape"], unfollowed := true, recurses := true, plainKeys := false, apart := false, narrowed := true }
def ZoneRenewsUptoSaid : Prop := zoneRenewsUptoRow.holds Tryz.pinned (OpenSpec.upto zoneRenewsSpec)

/-- 'lodestarlaw08.ZoneAbove', WHERE WHAT IT READS IS OF BULK AT MOST 1048576: true; the input reads as it did. -/
def zoneAboveUptoRow : OpenClaim := { program := "ytfgkdjkegifpgaagreat", sum := "f2ba9d7c05fa0e23cbcdcc710947d929a77cf83e6742b23b7f97bd530b40d3b3", func := "lodestar/lodestarlaw08.ZoneAbove", spec := "zoneAbove", inPlace := ["internal/abi.NoEscape"], unfollowed := true, recurses := true, plainKeys := false, apart := false, narrowed := true }
def ZoneAboveUptoSaid : Prop := zoneAboveUptoRow.holds Tryz.pinned (OpenSpec.upto zoneAboveSpec)

/-- 'lodestarlaw08.ZoneOwn', WHERE WHAT IT READS IS OF BULK AT MOST 1048576: true; the input reads as it did. -/
def zoneOwnUptoRow : OpenClaim := { program := "ytfgkdjkegifpgaagreat", sum := "f2ba9d7c05fa0e23cbcdcc710947d929a77cf83e6742b23b7f97bd530b40d3b3", func := "lodestar/lodestarlaw08.ZoneOwn", spec := "zoneOwn", inPlace := ["internal/abi.NoEscape"], unfollowed := true, recurses := true, plainKeys := false, apart := false, narrowed := true }
def ZoneOwnUptoSaid : Prop := zoneOwnUptoRow.holds Tryz.pinned (OpenSpec.upto zoneOwnSpec)

/-- 'lodestarlaw08.ZoneAgain', WHERE WHAT IT READS IS OF BULK AT MOST 1048576: true; the input reads as it did. -/
def zoneAgainUptoRow : OpenClaim := { program := "ytfgkdjkegifpgaagreat", sum := "f2ba9d7c05fa0e23cbcdcc710947d929a77cf83e6742b23b7f97bd530b40d3b3", func := "lodestar/lodestarlaw08.ZoneAgain", spec := "zoneAgain", inPlace := ["internal/abi.NoEscape"], unfollowed := true, recurses := true, plainKeys := false, apart := false, narrowed := true }
def ZoneAgainUptoSaid : Prop := zoneAgainUptoRow.holds Tryz.pinned (OpenSpec.upto zoneAgainSpec)

end Rows
end Go.Proofs.YtfgkdjkegifpgaaGreat
