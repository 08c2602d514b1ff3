/- TierNil holds of every input, and leaves its arguments as they were; no condition. -/
import Derived.Test.YtfkckeaadnoeiaaGreatRows
import Derived.Test.YtfkckeaadnoeiaaGreatP16
namespace Go.Proofs.YtfkckeaadnoeiaaGreat
/-- every call of TierNil returns true and leaves its arguments as they were -/
theorem tier_nil : Rows.TierNilSaid := Go.Proofs.X.tierNil_holds
end Go.Proofs.YtfkckeaadnoeiaaGreat
#print axioms Go.Proofs.YtfkckeaadnoeiaaGreat.tier_nil
