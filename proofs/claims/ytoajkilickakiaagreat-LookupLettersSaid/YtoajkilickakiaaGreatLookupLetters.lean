/- LookupLetters holds of every input, and leaves its arguments as they were; no condition. -/
import Derived.Test.YtoajkilickakiaaGreatRows
import Derived.Test.YtoajkilickakiaaGreatP16
namespace Go.Proofs.YtoajkilickakiaaGreat
/-- every call of LookupLetters returns true and leaves its arguments as they were -/
theorem lookup_letters : Rows.LookupLettersSaid := Go.Proofs.X.lookupLetters_holds
end Go.Proofs.YtoajkilickakiaaGreat
#print axioms Go.Proofs.YtoajkilickakiaaGreat.lookup_letters
