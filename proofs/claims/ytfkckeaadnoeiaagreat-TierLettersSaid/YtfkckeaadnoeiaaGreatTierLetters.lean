/- TierLetters holds of every input, and leaves its arguments as they were; no condition. -/
import Derived.Test.YtfkckeaadnoeiaaGreatRows
import Derived.Test.YtfkckeaadnoeiaaGreatP16
namespace Go.Proofs.YtfkckeaadnoeiaaGreat
/-- every call of TierLetters returns true and leaves its arguments as they were -/
theorem tier_letters : Rows.TierLettersSaid := Go.Proofs.X.tierLetters_holds
end Go.Proofs.YtfkckeaadnoeiaaGreat
#print axioms Go.Proofs.YtfkckeaadnoeiaaGreat.tier_letters
