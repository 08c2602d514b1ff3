/- XferSame holds of every input, and leaves its arguments as they were; no condition. -/
import Derived.Test.YteofaejlmdplhaaGreatRows
import Derived.Test.YteofaejlmdplhaaGreatP20
namespace Go.Proofs.YteofaejlmdplhaaGreat
/-- every call of XferSame returns true and leaves its arguments as they were -/
theorem xfer_same : Rows.XferSameSaid := Go.Proofs.X.xferSame_holds
end Go.Proofs.YteofaejlmdplhaaGreat
#print axioms Go.Proofs.YteofaejlmdplhaaGreat.xfer_same
