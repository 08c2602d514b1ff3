/- LookupSets holds of every input, and leaves its arguments as they were; no condition. -/
import Derived.Test.YtoajkilickakiaaGreatRows
import Derived.Test.YtoajkilickakiaaGreatP17
namespace Go.Proofs.YtoajkilickakiaaGreat
/-- every call of LookupSets returns true and leaves its arguments as they were -/
theorem lookup_sets : Rows.LookupSetsSaid := Go.Proofs.X.lookupSets_holds
end Go.Proofs.YtoajkilickakiaaGreat
#print axioms Go.Proofs.YtoajkilickakiaaGreat.lookup_sets
