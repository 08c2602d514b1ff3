/- ZoneAgain holds of every input, and leaves its arguments as they were; no condition. -/
import Derived.Test.YtfgkdjkegifpgaaGreatRows
import Derived.Test.YtfgkdjkegifpgaaGreatP13
namespace Go.Proofs.YtfgkdjkegifpgaaGreat
/-- every call of ZoneAgain returns true and leaves its arguments as they were -/
theorem zone_again : Rows.ZoneAgainSaid := Go.Proofs.X.zoneAgain_holds
end Go.Proofs.YtfgkdjkegifpgaaGreat
#print axioms Go.Proofs.YtfgkdjkegifpgaaGreat.zone_again
