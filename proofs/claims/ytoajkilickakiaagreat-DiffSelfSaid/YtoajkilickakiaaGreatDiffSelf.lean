/- DiffSelf holds of every input, and leaves its arguments as they were; no condition. -/
import Derived.Test.YtoajkilickakiaaGreatRows
import Derived.Test.YtoajkilickakiaaGreatP17
namespace Go.Proofs.YtoajkilickakiaaGreat
/-- every call of DiffSelf returns true and leaves its arguments as they were -/
theorem diff_self : Rows.DiffSelfSaid := Go.Proofs.X.diffSelf_holds
end Go.Proofs.YtoajkilickakiaaGreat
#print axioms Go.Proofs.YtoajkilickakiaaGreat.diff_self
