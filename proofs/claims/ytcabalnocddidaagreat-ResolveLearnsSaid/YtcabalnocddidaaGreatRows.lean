/-
  No cell of these rows narrows 'for every input' (looked for: loops, veiled, ifaces, maps, wideKeys, modest, calm, conditions, laid).
  DERIVED. THE GIVEN ROWS OF THIS SEAT. 11 by the template 'for every input the law returns true; each argument reads behind the call as it read before'; 0 by the template 'total and deterministic' (their statements: YtcabalnocddidaaGreatTotals.lean).
  GIVEN WITH THE SEED: the statements are not yours to turn. If you find one false, say at which input.
  Laid BY PROGRAM, IN A SANDBOX (cutbox-rows.mjs): the forced cells as the released guide's own fill.sh prints them over the translation 84ea129e9374b382… (all of the seat's roots in one cut). By AI agents, Wed Nov 11 2026. No macro, syntax, notation, axiom, sorry.
-/
import Derived.Test.YtcabalnocddidaaGreatChecked
import GoSem.Claim
import GoSem.ClaimJoined
import GoSem.ClaimMapViews
import Derived.JoinedTies
import Derived.KernelRfl
namespace Go.Proofs.YtcabalnocddidaaGreat
/- THE CELL 'sum', in the pinned program and in every row, IS THE sha256 OF THE DUMP (.gsa) THAT YtcabalnocddidaaGreatProg.lean LOADS. Nothing in Lean hashes anything: it is a label: what it is worth is what the hold of that sum in a sandbox is worth. -/
noncomputable def Tryz.pinned : Pinned := { name := "ytcabalnocddidaagreat", sum := "84ea129e9374b382afcd4a44443120745c9f2d4186e14fb87e6ebe218f6ed710", checked := Tryz.checked }
namespace Rows
def none {H : Type} : Left H := { results := [], args := [] }

/-- 'lodestarlaw21.ResolveNil': WHATEVER THE INPUT: true; the input reads as it did. -/
def resolveNilSpec : ChangeSpec := { name := "resolveNil", fn := fun _ => fun
  | [d1, d2] => { results := [.lit (.bool true)], args := [d1, d2] }
  | _ => none }
def resolveNilRow : OpenClaim := { program := "ytcabalnocddidaagreat", sum := "84ea129e9374b382afcd4a44443120745c9f2d4186e14fb87e6ebe218f6ed710", func := "lodestar/lodestarlaw21.ResolveNil", spec := "resolveNil", inPlace := ["internal/abi.NoEscape"], unfollowed := true, recurses := true, plainKeys := false, apart := false }
def ResolveNilSaid : Prop := resolveNilRow.holds Tryz.pinned (OpenSpec.ofChange resolveNilSpec)

/-- ITS FALSE NEIGHBOUR: 'it returns false'. Refute it at one input. -/
def resolveNilWrong : ChangeSpec := { name := "resolveNil", fn := fun _ => fun
  | [d1, d2] => { results := [.lit (.bool false)], args := [d1, d2] }
  | _ => none }
def ResolveNilWrongFalsely : Prop := resolveNilRow.holds Tryz.pinned (OpenSpec.ofChange resolveNilWrong)

/-- 'lodestarlaw21.ResolveBudget': WHATEVER THE INPUT: true; the input reads as it did. -/
def resolveBudgetSpec : ChangeSpec := { name := "resolveBudget", fn := fun _ => fun
  | [d] => { results := [.lit (.bool true)], args := [d] }
  | _ => none }
def resolveBudgetRow : OpenClaim := { program := "ytcabalnocddidaagreat", sum := "84ea129e9374b382afcd4a44443120745c9f2d4186e14fb87e6ebe218f6ed710", func := "lodestar/lodestarlaw21.ResolveBudget", spec := "resolveBudget", inPlace := ["internal/abi.NoEscape"], unfollowed := true, recurses := true, plainKeys := false, apart := false }
def ResolveBudgetSaid : Prop := resolveBudgetRow.holds Tryz.pinned (OpenSpec.ofChange resolveBudgetSpec)

/-- ITS FALSE NEIGHBOUR: 'it returns false'. Refute it at one input. -/
def resolveBudgetWrong : ChangeSpec := { name := "resolveBudget", fn := fun _ => fun
  | [d] => { results := [.lit (.bool false)], args := [d] }
  | _ => none }
def ResolveBudgetWrongFalsely : Prop := resolveBudgetRow.holds Tryz.pinned (OpenSpec.ofChange resolveBudgetWrong)

/-- 'lodestarlaw21.ResolveLearns': WHATEVER THE INPUT: true; the input reads as it did. -/
def resolveLearnsSpec : ChangeSpec := { name := "resolveLearns", fn := fun _ => fun
  | [d] => { results := [.lit (.bool true)], args := [d] }
  | _ => none }
def resolveLearnsRow : OpenClaim := { program := "ytcabalnocddidaagreat", sum := "84ea129e9374b382afcd4a44443120745c9f2d4186e14fb87e6ebe218f6ed710", func := "lodestar/lodestarlaw21.ResolveLearns", spec := "resolveLearns", inPlace := ["internal/abi.NoEscape"], unfollowed := true, recurses := true, plainKeys := false, apart := false }
def ResolveLearnsSaid : Prop := resolveLearnsRow.holds Tryz.pinned (OpenSpec.ofChange resolveLearnsSpec)

/-- ITS FALSE NEIGHBOUR: 'it returns false'. Refute it at one input. -/
def resolveLearnsWrong : ChangeSpec := { name := "resolveLearns", fn := fun _ => fun
  | [d] => { results := [.lit (.bool false)], args := [d] }
  | _ => none }
def ResolveLearnsWrongFalsely : Prop := resolveLearnsRow.holds Tryz.pinned (OpenSpec.ofChange resolveLearnsWrong)

/-- 'lodestarlaw21.ResolveFails': WHATEVER THE INPUT: true; the input reads as it did. -/
def resolveFailsSpec : ChangeSpec := { name := "resolveFails", fn := fun _ => fun
  | [d1, d2, d3] => { results := [.lit (.bool true)], args := [d1, d2, d3] }
  | _ => none }
def resolveFailsRow : OpenClaim := { program := "ytcabalnocddidaagreat", sum := "84ea129e9374b382afcd4a44443120745c9f2d4186e14fb87e6ebe218f6ed710", func := "lodestar/lodestarlaw21.ResolveFails", spec := "resolveFails", inPlace := ["internal/abi.NoEscape"], unfollowed := true, recurses := true, plainKeys := false, apart := false }
def ResolveFailsSaid : Prop := resolveFailsRow.holds Tryz.pinned (OpenSpec.ofChange resolveFailsSpec)

/-- ITS FALSE NEIGHBOUR: 'it returns false'. Refute it at one input. -/
def resolveFailsWrong : ChangeSpec := { name := "resolveFails", fn := fun _ => fun
  | [d1, d2, d3] => { results := [.lit (.bool false)], args := [d1, d2, d3] }
  | _ => none }
def ResolveFailsWrongFalsely : Prop := resolveFailsRow.holds Tryz.pinned (OpenSpec.ofChange resolveFailsWrong)

/-- 'lodestarlaw21.ResolveChain': WHATEVER THE INPUT: true; the input reads as it did. -/
def resolveChainSpec : ChangeSpec := { name := "resolveChain", fn := fun _ => fun
  | [d] => { results := [.lit (.bool true)], args := [d] }
  | _ => none }
def resolveChainRow : OpenClaim := { program := "ytcabalnocddidaagreat", sum := "84ea129e9374b382afcd4a44443120745c9f2d4186e14fb87e6ebe218f6ed710", func := "lodestar/lodestarlaw21.ResolveChain", spec := "resolveChain", inPlace := ["internal/abi.NoEscape"], unfollowed := true, recurses := true, plainKeys := false, apart := false }
def ResolveChainSaid : Prop := resolveChainRow.holds Tryz.pinned (OpenSpec.ofChange resolveChainSpec)

/-- ITS FALSE NEIGHBOUR: 'it returns false'. Refute it at one input. -/
def resolveChainWrong : ChangeSpec := { name := "resolveChain", fn := fun _ => fun
  | [d] => { results := [.lit (.bool false)], args := [d] }
  | _ => none }
def ResolveChainWrongFalsely : Prop := resolveChainRow.holds Tryz.pinned (OpenSpec.ofChange resolveChainWrong)

/-- 'lodestarlaw15.AuthReplies': WHATEVER THE INPUT: true; the input reads as it did. -/
def authRepliesSpec : ChangeSpec := { name := "authReplies", fn := fun _ => fun
  | [d1, d2] => { results := [.lit (.bool true)], args := [d1, d2] }
  | _ => none }
def authRepliesRow : OpenClaim := { program := "ytcabalnocddidaagreat", sum := "84ea129e9374b382afcd4a44443120745c9f2d4186e14fb87e6ebe218f6ed710", func := "lodestar/lodestarlaw15.AuthReplies", spec := "authReplies", inPlace := ["internal/abi.NoEscape"], unfollowed := true, recurses := true, plainKeys := false, apart := false }
def AuthRepliesSaid : Prop := authRepliesRow.holds Tryz.pinned (OpenSpec.ofChange authRepliesSpec)

/-- ITS FALSE NEIGHBOUR: 'it returns false'. Refute it at one input. -/
def authRepliesWrong : ChangeSpec := { name := "authReplies", fn := fun _ => fun
  | [d1, d2] => { results := [.lit (.bool false)], args := [d1, d2] }
  | _ => none }
def AuthRepliesWrongFalsely : Prop := authRepliesRow.holds Tryz.pinned (OpenSpec.ofChange authRepliesWrong)

/-- 'lodestarlaw15.AuthServes': WHATEVER THE INPUT: true; the input reads as it did. -/
def authServesSpec : ChangeSpec := { name := "authServes", fn := fun _ => fun
  | [d1, d2, d3] => { results := [.lit (.bool true)], args := [d1, d2, d3] }
  | _ => none }
def authServesRow : OpenClaim := { program := "ytcabalnocddidaagreat", sum := "84ea129e9374b382afcd4a44443120745c9f2d4186e14fb87e6ebe218f6ed710", func := "lodestar/lodestarlaw15.AuthServes", spec := "authServes", inPlace := ["internal/abi.NoEscape"], unfollowed := true, recurses := true, plainKeys := false, apart := false }
def AuthServesSaid : Prop := authServesRow.holds Tryz.pinned (OpenSpec.ofChange authServesSpec)

/-- ITS FALSE NEIGHBOUR: 'it returns false'. Refute it at one input. -/
def authServesWrong : ChangeSpec := { name := "authServes", fn := fun _ => fun
  | [d1, d2, d3] => { results := [.lit (.bool false)], args := [d1, d2, d3] }
  | _ => none }
def AuthServesWrongFalsely : Prop := authServesRow.holds Tryz.pinned (OpenSpec.ofChange authServesWrong)

/-- 'lodestarlaw15.AuthSound': WHATEVER THE INPUT: true; the input reads as it did. -/
def authSoundSpec : ChangeSpec := { name := "authSound", fn := fun _ => fun
  | [d1, d2] => { results := [.lit (.bool true)], args := [d1, d2] }
  | _ => none }
def authSoundRow : OpenClaim := { program := "ytcabalnocddidaagreat", sum := "84ea129e9374b382afcd4a44443120745c9f2d4186e14fb87e6ebe218f6ed710", func := "lodestar/lodestarlaw15.AuthSound", spec := "authSound", inPlace := ["internal/abi.NoEscape"], unfollowed := true, recurses := true, plainKeys := false, apart := false }
def AuthSoundSaid : Prop := authSoundRow.holds Tryz.pinned (OpenSpec.ofChange authSoundSpec)

/-- ITS FALSE NEIGHBOUR: 'it returns false'. Refute it at one input. -/
def authSoundWrong : ChangeSpec := { name := "authSound", fn := fun _ => fun
  | [d1, d2] => { results := [.lit (.bool false)], args := [d1, d2] }
  | _ => none }
def AuthSoundWrongFalsely : Prop := authSoundRow.holds Tryz.pinned (OpenSpec.ofChange authSoundWrong)

/-- 'lodestarlaw15.AuthPlain': WHATEVER THE INPUT: true; the input reads as it did. -/
def authPlainSpec : ChangeSpec := { name := "authPlain", fn := fun _ => fun
  | [d1, d2, d3] => { results := [.lit (.bool true)], args := [d1, d2, d3] }
  | _ => none }
def authPlainRow : OpenClaim := { program := "ytcabalnocddidaagreat", sum := "84ea129e9374b382afcd4a44443120745c9f2d4186e14fb87e6ebe218f6ed710", func := "lodestar/lodestarlaw15.AuthPlain", spec := "authPlain", inPlace := ["internal/abi.NoEscape"], unfollowed := true, recurses := true, plainKeys := false, apart := false }
def AuthPlainSaid : Prop := authPlainRow.holds Tryz.pinned (OpenSpec.ofChange authPlainSpec)

/-- ITS FALSE NEIGHBOUR: 'it returns false'. Refute it at one input. -/
def authPlainWrong : ChangeSpec := { name := "authPlain", fn := fun _ => fun
  | [d1, d2, d3] => { results := [.lit (.bool false)], args := [d1, d2, d3] }
  | _ => none }
def AuthPlainWrongFalsely : Prop := authPlainRow.holds Tryz.pinned (OpenSpec.ofChange authPlainWrong)

/-- 'lodestarlaw15.AuthIds': WHATEVER THE INPUT: true; the input reads as it did. -/
def authIdsSpec : ChangeSpec := { name := "authIds", fn := fun _ => fun
  | [d1, d2] => { results := [.lit (.bool true)], args := [d1, d2] }
  | _ => none }
def authIdsRow : OpenClaim := { program := "ytcabalnocddidaagreat", sum := "84ea129e9374b382afcd4a44443120745c9f2d4186e14fb87e6ebe218f6ed710", func := "lodestar/lodestarlaw15.AuthIds", spec := "authIds", inPlace := ["internal/abi.NoEscape"], unfollowed := true, recurses := true, plainKeys := false, apart := false }
def AuthIdsSaid : Prop := authIdsRow.holds Tryz.pinned (OpenSpec.ofChange authIdsSpec)

/-- ITS FALSE NEIGHBOUR: 'it returns false'. Refute it at one input. -/
def authIdsWrong : ChangeSpec := { name := "authIds", fn := fun _ => fun
  | [d1, d2] => { results := [.lit (.bool false)], args := [d1, d2] }
  | _ => none }
def AuthIdsWrongFalsely : Prop := authIdsRow.holds Tryz.pinned (OpenSpec.ofChange authIdsWrong)

/-- 'lodestarlaw15.AuthStream': WHATEVER THE INPUT: true; the input reads as it did. -/
def authStreamSpec : ChangeSpec := { name := "authStream", fn := fun _ => fun
  | [d1, d2] => { results := [.lit (.bool true)], args := [d1, d2] }
  | _ => none }
def authStreamRow : OpenClaim := { program := "ytcabalnocddidaagreat", sum := "84ea129e9374b382afcd4a44443120745c9f2d4186e14fb87e6ebe218f6ed710", func := "lodestar/lodestarlaw15.AuthStream", spec := "authStream", inPlace := ["internal/abi.NoEscape"], unfollowed := true, recurses := true, plainKeys := false, apart := false }
def AuthStreamSaid : Prop := authStreamRow.holds Tryz.pinned (OpenSpec.ofChange authStreamSpec)

/-- ITS FALSE NEIGHBOUR: 'it returns false'. Refute it at one input. -/
def authStreamWrong : ChangeSpec := { name := "authStream", fn := fun _ => fun
  | [d1, d2] => { results := [.lit (.bool false)], args := [d1, d2] }
  | _ => none }
def AuthStreamWrongFalsely : Prop := authStreamRow.holds Tryz.pinned (OpenSpec.ofChange authStreamWrong)

/- THE SECOND FORM. 'bulk': how many values and letters a reading holds, each counted each time it is reached (what is shared counts as often as it is met; a slice's spare places count too). A statement '..UptoSaid' is the law's where the arguments, and the package variables that the reading takes, are together of bulk at most 1048576: NARROWER than '..Said'. Prove '..Said' where nothing that the law and all that it calls make is longer than what came in: it says more and counts as full. Else prove '..UptoSaid'. A law counts once. -/
mutual
def uptoBulk {H : Type} : DataW H → Nat
  | .lit (.string bytes) => bytes.length + 1
  | .lit _ => 1
  | .nil => 1
  | .ptr d => uptoBulk d + 1
  | .slice elems spare => uptoBulkAll elems + uptoBulkAll spare + 1
  | .agg parts => uptoBulkAll parts + 1
  | .iface _ d => uptoBulk d + 1
  | .map entries => uptoBulkEntries entries + 1
  | .held _ => 1
def uptoBulkAll {H : Type} : List (DataW H) → Nat
  | [] => 0
  | d :: r => uptoBulk d + uptoBulkAll r
def uptoBulkEntries {H : Type} : List (Lit × DataW H) → Nat
  | [] => 0
  | x :: r => uptoBulkEntry x + uptoBulkEntries r
def uptoBulkEntry {H : Type} : Lit × DataW H → Nat
  | (.string bytes, d) => bytes.length + uptoBulk d + 1
  | (_, d) => uptoBulk d + 1
 end
def uptoSmall : (H : Type) → List (DataW H) → Bool := fun _ ds => decide (uptoBulkAll ds ≤ 1048576)
def OpenSpec.upto (s : _root_.Go.ChangeSpec) : _root_.Go.OpenSpec := { _root_.Go.OpenSpec.ofChange s with cond := some uptoSmall }

/-- 'lodestarlaw21.ResolveNil', WHERE WHAT IT READS IS OF BULK AT MOST 1048576: true; the input reads as it did. -/
def resolveNilUptoRow : OpenClaim := { program := "ytcabalnocddidaagreat", sum := "84ea129e9374b382afcd4a44443120745c9f2d4186e14fb87e6ebe218f6ed710", func := "lodestar/lodestarlaw21.ResolveNil", spec := "resolveNil", inPlace := ["internal/abi.NoEscape"], unfollowed := true, recurses := true, plainKeys := false, apart := false, narrowed := true }
def ResolveNilUptoSaid : Prop := resolveNilUptoRow.holds Tryz.pinned (OpenSpec.upto resolveNilSpec)

/-- 'lodestarlaw21.ResolveBudget', WHERE WHAT IT READS IS OF BULK AT MOST 1048576: true; the input reads as it did. -/
def resolveBudgetUptoRow : OpenClaim := { program := "ytcabalnocddidaagreat", sum := "84ea129e9374b382afcd4a44443120745c9f2d4186e14fb87e6ebe218f6ed710", func := "lodestar/lodestarlaw21.ResolveBudget", spec := "resolveBudget", inPlace := ["internal/abi.NoEscape"], unfollowed := true, recurses := true, plainKeys := false, apart := false, narrowed := true }
def ResolveBudgetUptoSaid : Prop := resolveBudgetUptoRow.holds Tryz.pinned (OpenSpec.upto resolveBudgetSpec)

/-- 'lodestarlaw21.ResolveLearns', WHERE WHAT IT READS IS OF BULK AT MOST 1048576: true; the input reads as it did. -/
def resolveLearnsUptoRow : OpenClaim := { program := "ytcabalnocddidaagreat", sum := "84ea129e9374b382afcd4a44443120745c9f2d4186e14fb87e6ebe218f6ed710", func := "lodestar/lodestarlaw21.ResolveLearns", spec := "resolveLearns", inPlace := ["internal/abi.NoEscape"], unfollowed := true, recurses := true, plainKeys := false, apart := false, narrowed := true }
def ResolveLearnsUptoSaid : Prop := resolveLearnsUptoRow.holds Tryz.pinned (OpenSpec.upto resolveLearnsSpec)

/-- 'lodestarlaw21.ResolveFails', WHERE WHAT IT READS IS OF BULK AT MOST 1048576: true; the input reads as it did. -/
def resolveFailsUptoRow : OpenClaim := { program := "ytcabalnocddidaagreat", sum := "84ea129e9374b382afcd4a44443120745c9f2d4186e14fb87e6ebe218f6ed710", func := "lodestar/lodestarlaw21.ResolveFails", spec := "resolveFails", inPlace := ["internal/abi.NoEscape"], unfollowed := true, recurses := true, plainKeys := false, apart := false, narrowed := true }
def ResolveFailsUptoSaid : Prop := resolveFailsUptoRow.holds Tryz.pinned (OpenSpec.upto resolveFailsSpec)

/-- 'lodestarlaw21.ResolveChain', WHERE WHAT IT READS IS OF BULK AT MOST 1048576: true; the input reads as it did. -/
def resolveChainUptoRow : OpenClaim := { program := "ytcabalnocddidaagreat", sum := "84ea129e9374b382afcd4a44443120745c9f2d4186e14fb87e6ebe218f6ed710", func := "lodestar/lodestarlaw21.ResolveChain", spec := "resolveChain", inPlace := ["internal/abi.NoEscape"], unfollowed := true, recurses := true, plainKeys := false, apart := false, narrowed := true }
def ResolveChainUptoSaid : Prop := resolveChainUptoRow.holds Tryz.pinned (OpenSpec.upto resolveChainSpec)

/-- 'lodestarlaw15.AuthReplies', WHERE WHAT IT READS IS OF BULK AT MOST 1048576: true; the input reads as it did. -/
def authRepliesUptoRow : OpenClaim := { program := "ytcabalnocddidaagreat", sum := "84ea129e9374b382afcd4a44443120745c9f2d4186e14fb87e6ebe218f6ed710", func := "lodestar/lodestarlaw15.AuthReplies", spec := "authReplies", inPlace := ["internal/abi.NoEscape"], unfollowed := true, recurses := true, plainKeys := false, apart := false, narrowed := true }
def AuthRepliesUptoSaid : Prop := authRepliesUptoRow.holds Tryz.pinned (OpenSpec.upto authRepliesSpec)

/-- 'lodestarlaw15.AuthServes', WHERE WHAT IT READS IS OF BULK AT MOST 1048576: true; the input reads as it did. -/
def authServesUptoRow : OpenClaim := { program := "ytcabalnocddidaagreat", sum := "84ea129e9374b382afcd4a44443120745c9f2d4186e14fb87e6ebe218f6ed710", func := "lodestar/lodestarlaw15.AuthServes", spec := "authServes", inPlace := ["internal/abi.NoEscape"], unfollowed := true, recurses := true, plainKeys := false, apart := false, narrowed := true }
def AuthServesUptoSaid : Prop := authServesUptoRow.holds Tryz.pinned (OpenSpec.upto authServesSpec)

/-- 'lodestarlaw15.AuthSound', WHERE WHAT IT READS IS OF BULK AT MOST 1048576: true; the input reads as it did. -/
def authSoundUptoRow : OpenClaim := { program := "ytcabalnocddidaagreat", sum := "84ea129e9374b382afcd4a44443120745c9f2d4186e14fb87e6ebe218f6ed710", func := "lodestar/lodestarlaw15.AuthSound", spec := "authSound", inPlace := ["internal/abi.NoEscape"], unfollowed := true, recurses := true, plainKeys := false, apart := false, narrowed := true }
def AuthSoundUptoSaid : Prop := authSoundUptoRow.holds Tryz.pinned (OpenSpec.upto authSoundSpec)

/-- 'lodestarlaw15.AuthPlain', WHERE WHAT IT READS IS OF BULK AT MOST 1048576: true; the input reads as it did. -/
def authPlainUptoRow : OpenClaim := { program := "ytcabalnocddidaagreat", sum := "84ea129e9374b382afcd4a44443120745c9f2d4186e14fb87e6ebe218f6ed710", func := "lodestar/lodestarlaw15.AuthPlain", spec := "authPlain", inPlace := ["internal/abi.NoEscape"], unfollowed := true, recurses := true, plainKeys := false, apart := false, narrowed := true }
def AuthPlainUptoSaid : Prop := authPlainUptoRow.holds Tryz.pinned (OpenSpec.upto authPlainSpec)

/-- 'lodestarlaw15.AuthIds', WHERE WHAT IT READS IS OF BULK AT MOST 1048576: true; the input reads as it did. -/
def authIdsUptoRow : OpenClaim := { program := "ytcabalnocddidaagreat", sum := "84ea129e9374b382afcd4a44443120745c9f2d4186e14fb87e6ebe218f6ed710", func := "lodestar/lodestarlaw15.AuthIds", spec := "authIds", inPlace := ["internal/abi.NoEscape"], unfollowed := true, recurses := true, plainKeys := false, apart := false, narrowed := true }
def AuthIdsUptoSaid : Prop := authIdsUptoRow.holds Tryz.pinned (OpenSpec.upto authIdsSpec)

/-- 'lodestarlaw15.AuthStream', WHERE WHAT IT READS IS OF BULK AT MOST 1048576: true; the input reads as it did. -/
def authStreamUptoRow : OpenClaim := { program := "ytcabalnocddidaagreat", sum := "84ea129e9374b382afcd4a44443120745c9f2d4186e14fb87e6ebe218f6ed710", func := "lodestar/lodestarlaw15.AuthStream", spec := "authStream", inPlace := ["internal/abi.NoEscape"], unfollowed := true, recurses := true, plainKeys := false, apart := false, narrowed := true }
def AuthStreamUptoSaid : Prop := authStreamUptoRow.holds Tryz.pinned (OpenSpec.upto authStreamSpec)

end Rows
end Go.Proofs.YtcabalnocddidaaGreat
