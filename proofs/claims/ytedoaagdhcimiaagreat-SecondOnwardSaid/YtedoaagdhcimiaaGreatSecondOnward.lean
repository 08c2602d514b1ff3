/- SecondOnward holds of every input, and leaves its arguments as they were; no condition. -/
import Derived.Test.YtedoaagdhcimiaaGreatRows
import Derived.Test.YtedoaagdhcimiaaGreatP15
namespace Go.Proofs.YtedoaagdhcimiaaGreat
/-- every call of SecondOnward returns true and leaves its arguments as they were -/
theorem second_onward : Rows.SecondOnwardSaid := Go.Proofs.X.secondOnward_holds
end Go.Proofs.YtedoaagdhcimiaaGreat
#print axioms Go.Proofs.YtedoaagdhcimiaaGreat.second_onward
