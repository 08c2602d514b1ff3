/- SecondNil holds of every input, and leaves its arguments as they were; no condition. -/
import Derived.Test.YtedoaagdhcimiaaGreatRows
import Derived.Test.YtedoaagdhcimiaaGreatP15
namespace Go.Proofs.YtedoaagdhcimiaaGreat
/-- every call of SecondNil returns true and leaves its arguments as they were -/
theorem second_nil : Rows.SecondNilSaid := Go.Proofs.X.secondNil_holds
end Go.Proofs.YtedoaagdhcimiaaGreat
#print axioms Go.Proofs.YtedoaagdhcimiaaGreat.second_nil
