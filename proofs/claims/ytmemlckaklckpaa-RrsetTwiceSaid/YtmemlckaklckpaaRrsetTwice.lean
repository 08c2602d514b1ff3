/- RrsetTwice holds of every set of records, and leaves its argument as it was; no condition. -/
import Derived.Test.YtmemlckaklckpaaRows
import Derived.Test.YtmemlckaklckpaaT36
namespace Go.Proofs.Ytmemlckaklckpaa
/-- every call of RrsetTwice returns true and leaves its argument as it was -/
theorem rrset_twice : Rows.RrsetTwiceSaid := Go.Proofs.X.twice_holds
end Go.Proofs.Ytmemlckaklckpaa
#print axioms Go.Proofs.Ytmemlckaklckpaa.rrset_twice
