/- JournalNil holds of every input, and leaves its arguments as they were; no condition. -/
import Derived.Test.YtoajkilickakiaaGreatRows
import Derived.Test.YtoajkilickakiaaGreatP16
namespace Go.Proofs.YtoajkilickakiaaGreat
/-- every call of JournalNil returns true and leaves its arguments as they were -/
theorem journal_nil : Rows.JournalNilSaid := Go.Proofs.X.journalNil_holds
end Go.Proofs.YtoajkilickakiaaGreat
#print axioms Go.Proofs.YtoajkilickakiaaGreat.journal_nil
