/- JournalMakes holds of every input, and leaves its arguments as they were; no condition. -/
import Derived.Test.YtoajkilickakiaaGreatRows
import Derived.Test.YtoajkilickakiaaGreatP18
namespace Go.Proofs.YtoajkilickakiaaGreat
/-- every call of JournalMakes returns true and leaves its arguments as they were -/
theorem journal_makes : Rows.JournalMakesSaid := Go.Proofs.X.journalMakes_holds
end Go.Proofs.YtoajkilickakiaaGreat
#print axioms Go.Proofs.YtoajkilickakiaaGreat.journal_makes
