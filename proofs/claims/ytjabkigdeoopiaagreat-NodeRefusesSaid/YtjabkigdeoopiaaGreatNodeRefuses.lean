/- NodeRefuses holds of every input, and leaves its arguments as they were; no condition. -/
import Derived.Test.YtjabkigdeoopiaaGreatRows
import Derived.Test.YtjabkigdeoopiaaGreatP15
namespace Go.Proofs.YtjabkigdeoopiaaGreat
/-- every call of NodeRefuses returns true and leaves its arguments as they were -/
theorem node_refuses : Rows.NodeRefusesSaid := Go.Proofs.X.nodeRefuses_holds
end Go.Proofs.YtjabkigdeoopiaaGreat
#print axioms Go.Proofs.YtjabkigdeoopiaaGreat.node_refuses
