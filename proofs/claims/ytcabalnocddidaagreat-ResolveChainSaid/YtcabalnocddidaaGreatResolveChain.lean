/- ResolveChain holds of every input, and leaves its arguments as they were; no condition. -/
import Derived.Test.YtcabalnocddidaaGreatRows
import Derived.Test.YtcabalnocddidaaGreatP12
namespace Go.Proofs.YtcabalnocddidaaGreat
/-- every call of ResolveChain returns true and leaves its arguments as they were -/
theorem resolve_chain : Rows.ResolveChainSaid := Go.Proofs.X.resolveChain_holds
end Go.Proofs.YtcabalnocddidaaGreat
#print axioms Go.Proofs.YtcabalnocddidaaGreat.resolve_chain
