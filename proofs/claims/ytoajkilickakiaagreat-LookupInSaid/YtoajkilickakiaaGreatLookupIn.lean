/- LookupIn holds of every input, and leaves its arguments as they were; no condition. -/
import Derived.Test.YtoajkilickakiaaGreatRows
import Derived.Test.YtoajkilickakiaaGreatP17
namespace Go.Proofs.YtoajkilickakiaaGreat
/-- every call of LookupIn returns true and leaves its arguments as they were -/
theorem lookup_in : Rows.LookupInSaid := Go.Proofs.X.lookupIn_holds
end Go.Proofs.YtoajkilickakiaaGreat
#print axioms Go.Proofs.YtoajkilickakiaaGreat.lookup_in
