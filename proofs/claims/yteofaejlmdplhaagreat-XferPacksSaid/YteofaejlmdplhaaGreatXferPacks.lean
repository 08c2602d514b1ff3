/- XferPacks holds of every input, and leaves its arguments as they were; no condition. -/
import Derived.Test.YteofaejlmdplhaaGreatRows
import Derived.Test.YteofaejlmdplhaaGreatP19
namespace Go.Proofs.YteofaejlmdplhaaGreat
/-- every call of XferPacks returns true and leaves its arguments as they were -/
theorem xfer_packs : Rows.XferPacksSaid := Go.Proofs.X.xferPacks_holds
end Go.Proofs.YteofaejlmdplhaaGreat
#print axioms Go.Proofs.YteofaejlmdplhaaGreat.xfer_packs
