/- AuthStream holds of every input, and leaves its arguments as they were; no condition. -/
import Derived.Test.YtgljkfpcadempaaGreatRows
import Derived.Test.YtgljkfpcadempaaGreatP21
namespace Go.Proofs.YtgljkfpcadempaaGreat
/-- every call of AuthStream returns true and leaves its arguments as they were -/
theorem auth_stream : Rows.AuthStreamSaid := Go.Proofs.X.authStream_holds
end Go.Proofs.YtgljkfpcadempaaGreat
#print axioms Go.Proofs.YtgljkfpcadempaaGreat.auth_stream
