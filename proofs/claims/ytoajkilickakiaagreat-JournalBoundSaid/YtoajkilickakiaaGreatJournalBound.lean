/- JournalBound holds of every input, and leaves its arguments as they were; no condition. -/
import Derived.Test.YtoajkilickakiaaGreatRows
import Derived.Test.YtoajkilickakiaaGreatP16
namespace Go.Proofs.YtoajkilickakiaaGreat
/-- every call of JournalBound returns true and leaves its arguments as they were -/
theorem journal_bound : Rows.JournalBoundSaid := Go.Proofs.X.journalBound_holds
end Go.Proofs.YtoajkilickakiaaGreat
#print axioms Go.Proofs.YtoajkilickakiaaGreat.journal_bound
