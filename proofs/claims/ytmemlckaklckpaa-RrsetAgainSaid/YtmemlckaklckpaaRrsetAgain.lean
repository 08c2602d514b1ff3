/- RrsetAgain holds of every list of records, and leaves its argument as it was; no condition. -/
import Derived.Test.YtmemlckaklckpaaRows
import Derived.Test.YtmemlckaklckpaaT42
namespace Go.Proofs.Ytmemlckaklckpaa
/-- every call of RrsetAgain returns true and leaves its argument as it was -/
theorem rrset_again : Rows.RrsetAgainSaid := Go.Proofs.X.again_holds
end Go.Proofs.Ytmemlckaklckpaa
#print axioms Go.Proofs.Ytmemlckaklckpaa.rrset_again
