/- AuthServes holds of every input, and leaves its arguments as they were; no condition. -/
import Derived.Test.YtdblpgbielpngaaGreatRows
import Derived.Test.YtdblpgbielpngaaGreatP18
namespace Go.Proofs.YtdblpgbielpngaaGreat
/-- every call of AuthServes returns true and leaves its arguments as they were -/
theorem auth_serves : Rows.AuthServesSaid := Go.Proofs.X.authServes_holds
end Go.Proofs.YtdblpgbielpngaaGreat
#print axioms Go.Proofs.YtdblpgbielpngaaGreat.auth_serves
