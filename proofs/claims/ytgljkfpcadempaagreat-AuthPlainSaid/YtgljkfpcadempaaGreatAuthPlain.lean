/- AuthPlain holds of every input, and leaves its arguments as they were; no condition. -/
import Derived.Test.YtgljkfpcadempaaGreatRows
import Derived.Test.YtgljkfpcadempaaGreatP20
namespace Go.Proofs.YtgljkfpcadempaaGreat
/-- every call of AuthPlain returns true and leaves its arguments as they were -/
theorem auth_plain : Rows.AuthPlainSaid := Go.Proofs.X.authPlain_holds
end Go.Proofs.YtgljkfpcadempaaGreat
#print axioms Go.Proofs.YtgljkfpcadempaaGreat.auth_plain
