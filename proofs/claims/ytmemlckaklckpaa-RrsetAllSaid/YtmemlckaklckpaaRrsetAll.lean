/- RrsetAll holds of every list of records, and leaves its argument as it was; no condition. -/
import Derived.Test.YtmemlckaklckpaaRows
import Derived.Test.YtmemlckaklckpaaT40
namespace Go.Proofs.Ytmemlckaklckpaa
/-- every call of RrsetAll returns true and leaves its argument as it was -/
theorem rrset_all : Rows.RrsetAllSaid := Go.Proofs.X.all_holds
end Go.Proofs.Ytmemlckaklckpaa
#print axioms Go.Proofs.Ytmemlckaklckpaa.rrset_all
