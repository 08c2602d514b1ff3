/- DiffBack holds of every input, and leaves its arguments as they were; no condition. -/
import Derived.Test.YtoajkilickakiaaGreatRows
import Derived.Test.YtoajkilickakiaaGreatP16
namespace Go.Proofs.YtoajkilickakiaaGreat
/-- every call of DiffBack returns true and leaves its arguments as they were -/
theorem diff_back : Rows.DiffBackSaid := Go.Proofs.X.diffBack_holds
end Go.Proofs.YtoajkilickakiaaGreat
#print axioms Go.Proofs.YtoajkilickakiaaGreat.diff_back
