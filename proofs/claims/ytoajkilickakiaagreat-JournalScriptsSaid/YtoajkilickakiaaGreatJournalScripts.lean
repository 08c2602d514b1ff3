/- JournalScripts holds of every input, and leaves its arguments as they were; no condition. -/
import Derived.Test.YtoajkilickakiaaGreatRows
import Derived.Test.YtoajkilickakiaaGreatP18
namespace Go.Proofs.YtoajkilickakiaaGreat
/-- every call of JournalScripts returns true and leaves its arguments as they were -/
theorem journal_scripts : Rows.JournalScriptsSaid := Go.Proofs.X.journalScripts_holds
end Go.Proofs.YtoajkilickakiaaGreat
#print axioms Go.Proofs.YtoajkilickakiaaGreat.journal_scripts
