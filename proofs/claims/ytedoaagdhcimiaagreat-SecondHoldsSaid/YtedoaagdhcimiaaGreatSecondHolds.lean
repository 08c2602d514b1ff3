/- SecondHolds holds of every input, and leaves its arguments as they were; no condition. -/
import Derived.Test.YtedoaagdhcimiaaGreatRows
import Derived.Test.YtedoaagdhcimiaaGreatP15
namespace Go.Proofs.YtedoaagdhcimiaaGreat
/-- every call of SecondHolds returns true and leaves its arguments as they were -/
theorem second_holds : Rows.SecondHoldsSaid := Go.Proofs.X.secondHolds_holds
end Go.Proofs.YtedoaagdhcimiaaGreat
#print axioms Go.Proofs.YtedoaagdhcimiaaGreat.second_holds
