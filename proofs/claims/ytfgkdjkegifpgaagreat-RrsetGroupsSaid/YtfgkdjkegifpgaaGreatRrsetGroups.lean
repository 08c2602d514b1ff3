/- RrsetGroups holds of every input, and leaves its arguments as they were; no condition. -/
import Derived.Test.YtfgkdjkegifpgaaGreatRows
import Derived.Test.YtfgkdjkegifpgaaGreatP10
namespace Go.Proofs.YtfgkdjkegifpgaaGreat
/-- every call of RrsetGroups returns true and leaves its arguments as they were -/
theorem rrset_groups : Rows.RrsetGroupsSaid := Go.Proofs.X.zgroups_holds
end Go.Proofs.YtfgkdjkegifpgaaGreat
#print axioms Go.Proofs.YtfgkdjkegifpgaaGreat.rrset_groups
