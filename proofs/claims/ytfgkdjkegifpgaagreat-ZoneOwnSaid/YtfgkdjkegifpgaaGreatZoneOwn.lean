/- ZoneOwn holds of every input, and leaves its arguments as they were; no condition. -/
import Derived.Test.YtfgkdjkegifpgaaGreatRows
import Derived.Test.YtfgkdjkegifpgaaGreatP13
namespace Go.Proofs.YtfgkdjkegifpgaaGreat
/-- every call of ZoneOwn returns true and leaves its arguments as they were -/
theorem zone_own : Rows.ZoneOwnSaid := Go.Proofs.X.zoneOwn_holds
end Go.Proofs.YtfgkdjkegifpgaaGreat
#print axioms Go.Proofs.YtfgkdjkegifpgaaGreat.zone_own
