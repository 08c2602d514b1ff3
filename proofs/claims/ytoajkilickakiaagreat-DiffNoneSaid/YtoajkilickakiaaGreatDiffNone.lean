/- DiffNone holds of every input, and leaves its arguments as they were; no condition. -/
import Derived.Test.YtoajkilickakiaaGreatRows
import Derived.Test.YtoajkilickakiaaGreatP16
namespace Go.Proofs.YtoajkilickakiaaGreat
/-- every call of DiffNone returns true and leaves its arguments as they were -/
theorem diff_none : Rows.DiffNoneSaid := Go.Proofs.X.diffNone_holds
end Go.Proofs.YtoajkilickakiaaGreat
#print axioms Go.Proofs.YtoajkilickakiaaGreat.diff_none
