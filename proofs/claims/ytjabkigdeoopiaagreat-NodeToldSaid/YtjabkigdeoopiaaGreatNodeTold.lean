/- NodeTold holds of every input, and leaves its arguments as they were; no condition. -/
import Derived.Test.YtjabkigdeoopiaaGreatRows
import Derived.Test.YtjabkigdeoopiaaGreatP15
namespace Go.Proofs.YtjabkigdeoopiaaGreat
/-- every call of NodeTold returns true and leaves its arguments as they were -/
theorem node_told : Rows.NodeToldSaid := Go.Proofs.X.nodeTold_holds
end Go.Proofs.YtjabkigdeoopiaaGreat
#print axioms Go.Proofs.YtjabkigdeoopiaaGreat.node_told
