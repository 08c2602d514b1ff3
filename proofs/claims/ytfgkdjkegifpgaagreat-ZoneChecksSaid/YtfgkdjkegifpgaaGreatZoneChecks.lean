/- ZoneChecks holds of every input, and leaves its arguments as they were; no condition. -/
import Derived.Test.YtfgkdjkegifpgaaGreatRows
import Derived.Test.YtfgkdjkegifpgaaGreatP13
namespace Go.Proofs.YtfgkdjkegifpgaaGreat
/-- every call of ZoneChecks returns true and leaves its arguments as they were -/
theorem zone_checks : Rows.ZoneChecksSaid := Go.Proofs.X.zoneChecks_holds
end Go.Proofs.YtfgkdjkegifpgaaGreat
#print axioms Go.Proofs.YtfgkdjkegifpgaaGreat.zone_checks
