/- ResolveNil holds of every input, and leaves its arguments as they were; no condition. -/
import Derived.Test.YtcabalnocddidaaGreatRows
import Derived.Test.YtcabalnocddidaaGreatP11
namespace Go.Proofs.YtcabalnocddidaaGreat
/-- every call of ResolveNil returns true and leaves its arguments as they were -/
theorem resolve_nil : Rows.ResolveNilSaid := Go.Proofs.X.resolveNil_holds
end Go.Proofs.YtcabalnocddidaaGreat
#print axioms Go.Proofs.YtcabalnocddidaaGreat.resolve_nil
