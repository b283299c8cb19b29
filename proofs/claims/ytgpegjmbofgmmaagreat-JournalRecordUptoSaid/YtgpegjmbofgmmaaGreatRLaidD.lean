/- A part of the proof. No condition. -/
import Derived.Test.YtgpegjmbofgmmaaGreatProg
import Derived.WalkKit
import Derived.ProofKit
import Derived.OpenShut
namespace Go.Proofs.YtgpegjmbofgmmaaGreat.laid
theorem fuel:(1+(Tryz.prog.funcs.toList.map fun g=>(Tryz.prog.leadsTo g).length+1).sum)=2103:=by kernel_rfl
end Go.Proofs.YtgpegjmbofgmmaaGreat.laid
