/- AuthReplies holds of every input, and leaves its arguments as they were; no condition. -/
import Derived.Test.YtgljkfpcadempaaGreatRows
import Derived.Test.YtgljkfpcadempaaGreatP23
namespace Go.Proofs.YtgljkfpcadempaaGreat
/-- every call of AuthReplies returns true and leaves its arguments as they were -/
theorem auth_replies : Rows.AuthRepliesSaid := Go.Proofs.X.authReplies_holds
end Go.Proofs.YtgljkfpcadempaaGreat
#print axioms Go.Proofs.YtgljkfpcadempaaGreat.auth_replies
