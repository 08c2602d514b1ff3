/- TierIdle holds of every input, and leaves its arguments as they were; no condition. -/
import Derived.Test.YtfkckeaadnoeiaaGreatRows
import Derived.Test.YtfkckeaadnoeiaaGreatP16
namespace Go.Proofs.YtfkckeaadnoeiaaGreat
/-- every call of TierIdle returns true and leaves its arguments as they were -/
theorem tier_idle : Rows.TierIdleSaid := Go.Proofs.X.tierIdle_holds
end Go.Proofs.YtfkckeaadnoeiaaGreat
#print axioms Go.Proofs.YtfkckeaadnoeiaaGreat.tier_idle
