/- NodeNil holds of every input, and leaves its arguments as they were; no condition. -/
import Derived.Test.YtjabkigdeoopiaaGreatRows
import Derived.Test.YtjabkigdeoopiaaGreatP15
namespace Go.Proofs.YtjabkigdeoopiaaGreat
/-- every call of NodeNil returns true and leaves its arguments as they were -/
theorem node_nil : Rows.NodeNilSaid := Go.Proofs.X.nodeNil_holds
end Go.Proofs.YtjabkigdeoopiaaGreat
#print axioms Go.Proofs.YtjabkigdeoopiaaGreat.node_nil
