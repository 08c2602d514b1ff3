/- LookupKinds holds of every input, and leaves its arguments as they were; no condition. -/
import Derived.Test.YtoajkilickakiaaGreatRows
import Derived.Test.YtoajkilickakiaaGreatP17
namespace Go.Proofs.YtoajkilickakiaaGreat
/-- every call of LookupKinds returns true and leaves its arguments as they were -/
theorem lookup_kinds : Rows.LookupKindsSaid := Go.Proofs.X.lookupKinds_holds
end Go.Proofs.YtoajkilickakiaaGreat
#print axioms Go.Proofs.YtoajkilickakiaaGreat.lookup_kinds
