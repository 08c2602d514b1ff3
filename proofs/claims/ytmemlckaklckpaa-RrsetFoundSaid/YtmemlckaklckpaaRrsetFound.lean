/- RrsetFound holds of every list of sets, name and kind, and leaves its arguments as they were; no condition. -/
import Derived.Test.YtmemlckaklckpaaRows
import Derived.Test.YtmemlckaklckpaaT38
namespace Go.Proofs.Ytmemlckaklckpaa
/-- every call of RrsetFound returns true and leaves its arguments as they were -/
theorem rrset_found : Rows.RrsetFoundSaid := Go.Proofs.X.found_holds
end Go.Proofs.Ytmemlckaklckpaa
#print axioms Go.Proofs.Ytmemlckaklckpaa.rrset_found
