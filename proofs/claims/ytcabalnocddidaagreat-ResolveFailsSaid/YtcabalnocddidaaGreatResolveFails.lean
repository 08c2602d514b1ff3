/- ResolveFails holds of every input, and leaves its arguments as they were; no condition. -/
import Derived.Test.YtcabalnocddidaaGreatRows
import Derived.Test.YtcabalnocddidaaGreatP11
namespace Go.Proofs.YtcabalnocddidaaGreat
/-- every call of ResolveFails returns true and leaves its arguments as they were -/
theorem resolve_fails : Rows.ResolveFailsSaid := Go.Proofs.X.resolveFails_holds
end Go.Proofs.YtcabalnocddidaaGreat
#print axioms Go.Proofs.YtcabalnocddidaaGreat.resolve_fails
