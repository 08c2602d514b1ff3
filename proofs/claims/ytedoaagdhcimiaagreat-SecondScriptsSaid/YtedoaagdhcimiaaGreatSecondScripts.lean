/- SecondScripts holds of every input, and leaves its arguments as they were; no condition. -/
import Derived.Test.YtedoaagdhcimiaaGreatRows
import Derived.Test.YtedoaagdhcimiaaGreatP18
namespace Go.Proofs.YtedoaagdhcimiaaGreat
/-- every call of SecondScripts returns true and leaves its arguments as they were -/
theorem second_scripts : Rows.SecondScriptsSaid := Go.Proofs.X.secondScripts_holds
end Go.Proofs.YtedoaagdhcimiaaGreat
#print axioms Go.Proofs.YtedoaagdhcimiaaGreat.second_scripts
