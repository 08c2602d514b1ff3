/- DiffTurns holds of every input, and leaves its arguments as they were; no condition. -/
import Derived.Test.YtoajkilickakiaaGreatRows
import Derived.Test.YtoajkilickakiaaGreatP17
namespace Go.Proofs.YtoajkilickakiaaGreat
/-- every call of DiffTurns returns true and leaves its arguments as they were -/
theorem diff_turns : Rows.DiffTurnsSaid := Go.Proofs.X.diffTurns_holds
end Go.Proofs.YtoajkilickakiaaGreat
#print axioms Go.Proofs.YtoajkilickakiaaGreat.diff_turns
