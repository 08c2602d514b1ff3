/- ResolveBudget holds of every input, and leaves its arguments as they were; no condition. -/
import Derived.Test.YtcabalnocddidaaGreatRows
import Derived.Test.YtcabalnocddidaaGreatP12
namespace Go.Proofs.YtcabalnocddidaaGreat
/-- every call of ResolveBudget returns true and leaves its arguments as they were -/
theorem resolve_budget : Rows.ResolveBudgetSaid := Go.Proofs.X.resolveBudget_holds
end Go.Proofs.YtcabalnocddidaaGreat
#print axioms Go.Proofs.YtcabalnocddidaaGreat.resolve_budget
