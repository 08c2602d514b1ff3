/- SecondNews holds of every input, and leaves its arguments as they were; no condition. -/
import Derived.Test.YtedoaagdhcimiaaGreatRows
import Derived.Test.YtedoaagdhcimiaaGreatP15
namespace Go.Proofs.YtedoaagdhcimiaaGreat
/-- every call of SecondNews returns true and leaves its arguments as they were -/
theorem second_news : Rows.SecondNewsSaid := Go.Proofs.X.secondNews_holds
end Go.Proofs.YtedoaagdhcimiaaGreat
#print axioms Go.Proofs.YtedoaagdhcimiaaGreat.second_news
