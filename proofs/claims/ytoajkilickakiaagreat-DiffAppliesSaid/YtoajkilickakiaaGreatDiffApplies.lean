/- DiffApplies holds of every input, and leaves its arguments as they were; no condition. -/
import Derived.Test.YtoajkilickakiaaGreatRows
import Derived.Test.YtoajkilickakiaaGreatP17
namespace Go.Proofs.YtoajkilickakiaaGreat
/-- every call of DiffApplies returns true and leaves its arguments as they were -/
theorem diff_applies : Rows.DiffAppliesSaid := Go.Proofs.X.diffApplies_holds
end Go.Proofs.YtoajkilickakiaaGreat
#print axioms Go.Proofs.YtoajkilickakiaaGreat.diff_applies
