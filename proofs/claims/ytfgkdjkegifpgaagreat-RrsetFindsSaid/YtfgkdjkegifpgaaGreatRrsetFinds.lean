/- RrsetFinds holds of every input, and leaves its arguments as they were; no condition. -/
import Derived.Test.YtfgkdjkegifpgaaGreatRows
import Derived.Test.YtfgkdjkegifpgaaGreatP9
namespace Go.Proofs.YtfgkdjkegifpgaaGreat
/-- every call of RrsetFinds returns true and leaves its arguments as they were -/
theorem rrset_finds : Rows.RrsetFindsSaid := Go.Proofs.X.finds_holds
end Go.Proofs.YtfgkdjkegifpgaaGreat
#print axioms Go.Proofs.YtfgkdjkegifpgaaGreat.rrset_finds
