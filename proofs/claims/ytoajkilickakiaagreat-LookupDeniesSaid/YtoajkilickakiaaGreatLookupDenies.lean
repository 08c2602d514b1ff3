/- LookupDenies holds of every input, and leaves its arguments as they were; no condition. -/
import Derived.Test.YtoajkilickakiaaGreatRows
import Derived.Test.YtoajkilickakiaaGreatP16
namespace Go.Proofs.YtoajkilickakiaaGreat
/-- every call of LookupDenies returns true and leaves its arguments as they were -/
theorem lookup_denies : Rows.LookupDeniesSaid := Go.Proofs.X.lookupDenies_holds
end Go.Proofs.YtoajkilickakiaaGreat
#print axioms Go.Proofs.YtoajkilickakiaaGreat.lookup_denies
