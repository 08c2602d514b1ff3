/- ResolveLearns holds of every input, and leaves its arguments as they were; no condition. -/
import Derived.Test.YtcabalnocddidaaGreatRows
import Derived.Test.YtcabalnocddidaaGreatP12
namespace Go.Proofs.YtcabalnocddidaaGreat
/-- every call of ResolveLearns returns true and leaves its arguments as they were -/
theorem resolve_learns : Rows.ResolveLearnsSaid := Go.Proofs.X.resolveLearns_holds
end Go.Proofs.YtcabalnocddidaaGreat
#print axioms Go.Proofs.YtcabalnocddidaaGreat.resolve_learns
