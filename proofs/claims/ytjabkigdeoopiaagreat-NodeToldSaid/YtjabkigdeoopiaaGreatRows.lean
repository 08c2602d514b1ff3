/-
  No cell of these rows narrows 'for every input' (looked for: loops, veiled, ifaces, maps, wideKeys, modest, calm, conditions, laid).
  DERIVED. THE GIVEN ROWS OF THIS SEAT. 5 by the template 'for every input the law returns true; each argument reads behind the call as it read before'; 0 by the template 'total and deterministic' (their statements: YtjabkigdeoopiaaGreatTotals.lean).
  GIVEN WITH THE SEED: the statements are not yours to turn. If you find one false, say at which input.
  Laid BY PROGRAM, IN A SANDBOX (cutbox-rows.mjs): the forced cells as the released guide's own fill.sh prints them over the translation c98ed07db39172be… (all of the seat's roots in one cut). By AI agents, Wed Nov 11 2026. No macro, syntax, notation, axiom, sorry.
-/
import Derived.Test.YtjabkigdeoopiaaGreatChecked
import GoSem.Claim
import GoSem.ClaimJoined
import GoSem.ClaimMapViews
import Derived.JoinedTies
import Derived.KernelRfl
namespace Go.Proofs.YtjabkigdeoopiaaGreat
/- THE CELL 'sum', in the pinned program and in every row, IS THE sha256 OF THE DUMP (.gsa) THAT YtjabkigdeoopiaaGreatProg.lean LOADS. Nothing in Lean hashes anything: it is a label: what it is worth is what the hold of that sum in a sandbox is worth. -/
noncomputable def Tryz.pinned : Pinned := { name := "ytjabkigdeoopiaagreat", sum := "c98ed07db39172bece5632dbd9346da2577822585db9b7c385fcd69526e91c08", checked := Tryz.checked }
namespace Rows
def none {H : Type} : Left H := { results := [], args := [] }

/-- 'lodestarlaw23.NodeUnasked': WHATEVER THE INPUT: true; the input reads as it did. -/
def nodeUnaskedSpec : ChangeSpec := { name := "nodeUnasked", fn := fun _ => fun
  | [d1, d2, d3] => { results := [.lit (.bool true)], args := [d1, d2, d3] }
  | _ => none }
def nodeUnaskedRow : OpenClaim := { program := "ytjabkigdeoopiaagreat", sum := "c98ed07db39172bece5632dbd9346da2577822585db9b7c385fcd69526e91c08", func := "lodestar/lodestarlaw23.NodeUnasked", spec := "nodeUnasked", inPlace := ["internal/abi.NoEscape"], unfollowed := true, recurses := true, plainKeys := false, apart := false }
def NodeUnaskedSaid : Prop := nodeUnaskedRow.holds Tryz.pinned (OpenSpec.ofChange nodeUnaskedSpec)

/-- ITS FALSE NEIGHBOUR: 'it returns false'. Refute it at one input. -/
def nodeUnaskedWrong : ChangeSpec := { name := "nodeUnasked", fn := fun _ => fun
  | [d1, d2, d3] => { results := [.lit (.bool false)], args := [d1, d2, d3] }
  | _ => none }
def NodeUnaskedWrongFalsely : Prop := nodeUnaskedRow.holds Tryz.pinned (OpenSpec.ofChange nodeUnaskedWrong)

/-- 'lodestarlaw23.NodeRefuses': WHATEVER THE INPUT: true; the input reads as it did. -/
def nodeRefusesSpec : ChangeSpec := { name := "nodeRefuses", fn := fun _ => fun
  | [d1, d2, d3] => { results := [.lit (.bool true)], args := [d1, d2, d3] }
  | _ => none }
def nodeRefusesRow : OpenClaim := { program := "ytjabkigdeoopiaagreat", sum := "c98ed07db39172bece5632dbd9346da2577822585db9b7c385fcd69526e91c08", func := "lodestar/lodestarlaw23.NodeRefuses", spec := "nodeRefuses", inPlace := ["internal/abi.NoEscape"], unfollowed := true, recurses := true, plainKeys := false, apart := false }
def NodeRefusesSaid : Prop := nodeRefusesRow.holds Tryz.pinned (OpenSpec.ofChange nodeRefusesSpec)

/-- ITS FALSE NEIGHBOUR: 'it returns false'. Refute it at one input. -/
def nodeRefusesWrong : ChangeSpec := { name := "nodeRefuses", fn := fun _ => fun
  | [d1, d2, d3] => { results := [.lit (.bool false)], args := [d1, d2, d3] }
  | _ => none }
def NodeRefusesWrongFalsely : Prop := nodeRefusesRow.holds Tryz.pinned (OpenSpec.ofChange nodeRefusesWrong)

/-- 'lodestarlaw23.NodeNil': WHATEVER THE INPUT: true; the input reads as it did. -/
def nodeNilSpec : ChangeSpec := { name := "nodeNil", fn := fun _ => fun
  | [d1, d2, d3] => { results := [.lit (.bool true)], args := [d1, d2, d3] }
  | _ => none }
def nodeNilRow : OpenClaim := { program := "ytjabkigdeoopiaagreat", sum := "c98ed07db39172bece5632dbd9346da2577822585db9b7c385fcd69526e91c08", func := "lodestar/lodestarlaw23.NodeNil", spec := "nodeNil", inPlace := ["internal/abi.NoEscape"], unfollowed := true, recurses := true, plainKeys := false, apart := false }
def NodeNilSaid : Prop := nodeNilRow.holds Tryz.pinned (OpenSpec.ofChange nodeNilSpec)

/-- ITS FALSE NEIGHBOUR: 'it returns false'. Refute it at one input. -/
def nodeNilWrong : ChangeSpec := { name := "nodeNil", fn := fun _ => fun
  | [d1, d2, d3] => { results := [.lit (.bool false)], args := [d1, d2, d3] }
  | _ => none }
def NodeNilWrongFalsely : Prop := nodeNilRow.holds Tryz.pinned (OpenSpec.ofChange nodeNilWrong)

/-- 'lodestarlaw23.NodeTold': WHATEVER THE INPUT: true; the input reads as it did. -/
def nodeToldSpec : ChangeSpec := { name := "nodeTold", fn := fun _ => fun
  | [d] => { results := [.lit (.bool true)], args := [d] }
  | _ => none }
def nodeToldRow : OpenClaim := { program := "ytjabkigdeoopiaagreat", sum := "c98ed07db39172bece5632dbd9346da2577822585db9b7c385fcd69526e91c08", func := "lodestar/lodestarlaw23.NodeTold", spec := "nodeTold", inPlace := ["internal/abi.NoEscape"], unfollowed := true, recurses := true, plainKeys := false, apart := false }
def NodeToldSaid : Prop := nodeToldRow.holds Tryz.pinned (OpenSpec.ofChange nodeToldSpec)

/-- ITS FALSE NEIGHBOUR: 'it returns false'. Refute it at one input. -/
def nodeToldWrong : ChangeSpec := { name := "nodeTold", fn := fun _ => fun
  | [d] => { results := [.lit (.bool false)], args := [d] }
  | _ => none }
def NodeToldWrongFalsely : Prop := nodeToldRow.holds Tryz.pinned (OpenSpec.ofChange nodeToldWrong)

/-- 'lodestarlaw23.NodeIdle': WHATEVER THE INPUT: true; the input reads as it did. -/
def nodeIdleSpec : ChangeSpec := { name := "nodeIdle", fn := fun _ => fun
  | [d] => { results := [.lit (.bool true)], args := [d] }
  | _ => none }
def nodeIdleRow : OpenClaim := { program := "ytjabkigdeoopiaagreat", sum := "c98ed07db39172bece5632dbd9346da2577822585db9b7c385fcd69526e91c08", func := "lodestar/lodestarlaw23.NodeIdle", spec := "nodeIdle", inPlace := ["internal/abi.NoEscape"], unfollowed := true, recurses := true, plainKeys := false, apart := false }
def NodeIdleSaid : Prop := nodeIdleRow.holds Tryz.pinned (OpenSpec.ofChange nodeIdleSpec)

/-- ITS FALSE NEIGHBOUR: 'it returns false'. Refute it at one input. -/
def nodeIdleWrong : ChangeSpec := { name := "nodeIdle", fn := fun _ => fun
  | [d] => { results := [.lit (.bool false)], args := [d] }
  | _ => none }
def NodeIdleWrongFalsely : Prop := nodeIdleRow.holds Tryz.pinned (OpenSpec.ofChange nodeIdleWrong)

/- THE SECOND FORM. 'bulk': how many values and letters a reading holds, each counted each time it is reached (what is shared counts as often as it is met; a slice's spare places count too). A statement '..UptoSaid' is the law's where the arguments, and the package variables that the reading takes, are together of bulk at most 1048576: NARROWER than '..Said'. Prove '..Said' where nothing that the law and all that it calls make is longer than what came in: it says more and counts as full. Else prove '..UptoSaid'. A law counts once. -/
mutual
def uptoBulk {H : Type} : DataW H → Nat
  | .lit (.string bytes) => bytes.length + 1
  | .lit _ => 1
  | .nil => 1
  | .ptr d => uptoBulk d + 1
  | .slice elems spare => uptoBulkAll elems + uptoBulkAll spare + 1
  | .agg parts => uptoBulkAll parts + 1
  | .iface _ d => uptoBulk d + 1
  | .map entries => uptoBulkEntries entries + 1
  | .held _ => 1
def uptoBulkAll {H : Type} : List (DataW H) → Nat
  | [] => 0
  | d :: r => uptoBulk d + uptoBulkAll r
def uptoBulkEntries {H : Type} : List (Lit × DataW H) → Nat
  | [] => 0
  | x :: r => uptoBulkEntry x + uptoBulkEntries r
def uptoBulkEntry {H : Type} : Lit × DataW H → Nat
  | (.string bytes, d) => bytes.length + uptoBulk d + 1
  | (_, d) => uptoBulk d + 1
 end
def uptoSmall : (H : Type) → List (DataW H) → Bool := fun _ ds => decide (uptoBulkAll ds ≤ 1048576)
def OpenSpec.upto (s : _root_.Go.ChangeSpec) : _root_.Go.OpenSpec := { _root_.Go.OpenSpec.ofChange s with cond := some uptoSmall }

/-- 'lodestarlaw23.NodeUnasked', WHERE WHAT IT READS IS OF BULK AT MOST 1048576: true; the input reads as it did. -/
def nodeUnaskedUptoRow : OpenClaim := { program := "ytjabkigdeoopiaagreat", sum := "c98ed07db39172bece5632dbd9346da2577822585db9b7c385fcd69526e91c08", func := "lodestar/lodestarlaw23.NodeUnasked", spec := "nodeUnasked", inPlace := ["internal/abi.NoEscape"], unfollowed := true, recurses := true, plainKeys := false, apart := false, narrowed := true }
def NodeUnaskedUptoSaid : Prop := nodeUnaskedUptoRow.holds Tryz.pinned (OpenSpec.upto nodeUnaskedSpec)

/-- 'lodestarlaw23.NodeRefuses', WHERE WHAT IT READS IS OF BULK AT MOST 1048576: true; the input reads as it did. -/
def nodeRefusesUptoRow : OpenClaim := { program := "ytjabkigdeoopiaagreat", sum := "c98ed07db39172bece5632dbd9346da2577822585db9b7c385fcd69526e91c08", func := "lodestar/lodestarlaw23.NodeRefuses", spec := "nodeRefuses", inPlace := ["internal/abi.NoEscape"], unfollowed := true, recurses := true, plainKeys := false, apart := false, narrowed := true }
def NodeRefusesUptoSaid : Prop := nodeRefusesUptoRow.holds Tryz.pinned (OpenSpec.upto nodeRefusesSpec)

/-- 'lodestarlaw23.NodeNil', WHERE WHAT IT READS IS OF BULK AT MOST 1048576: true; the input reads as it did. -/
def nodeNilUptoRow : OpenClaim := { program := "ytjabkigdeoopiaagreat", sum := "c98ed07db39172bece5632dbd9346da2577822585db9b7c385fcd69526e91c08", func := "lodestar/lodestarlaw23.NodeNil", spec := "nodeNil", inPlace := ["internal/abi.NoEscape"], unfollowed := true, recurses := true, plainKeys := false, apart := false, narrowed := true }
def NodeNilUptoSaid : Prop := nodeNilUptoRow.holds Tryz.pinned (OpenSpec.upto nodeNilSpec)

/-- 'lodestarlaw23.NodeTold', WHERE WHAT IT READS IS OF BULK AT MOST 1048576: true; the input reads as it did. -/
def nodeToldUptoRow : OpenClaim := { program := "ytjabkigdeoopiaagreat", sum := "c98ed07db39172bece5632dbd9346da2577822585db9b7c385fcd69526e91c08", func := "lodestar/lodestarlaw23.NodeTold", spec := "nodeTold", inPlace := ["internal/abi.NoEscape"], unfollowed := true, recurses := true, plainKeys := false, apart := false, narrowed := true }
def NodeToldUptoSaid : Prop := nodeToldUptoRow.holds Tryz.pinned (OpenSpec.upto nodeToldSpec)

/-- 'lodestarlaw23.NodeIdle', WHERE WHAT IT READS IS OF BULK AT MOST 1048576: true; the input reads as it did. -/
def nodeIdleUptoRow : OpenClaim := { program := "ytjabkigdeoopiaagreat", sum := "c98ed07db39172bece5632dbd9346da2577822585db9b7c385fcd69526e91c08", func := "lodestar/lodestarlaw23.NodeIdle", spec := "nodeIdle", inPlace := ["internal/abi.NoEscape"], unfollowed := true, recurses := true, plainKeys := false, apart := false, narrowed := true }
def NodeIdleUptoSaid : Prop := nodeIdleUptoRow.holds Tryz.pinned (OpenSpec.upto nodeIdleSpec)

end Rows
end Go.Proofs.YtjabkigdeoopiaaGreat
