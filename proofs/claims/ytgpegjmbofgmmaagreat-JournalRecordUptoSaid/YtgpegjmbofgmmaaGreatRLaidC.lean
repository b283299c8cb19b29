/- A part of the proof. No condition. -/
import Derived.Test.YtgpegjmbofgmmaaGreatProg
import Derived.WalkKit
import Derived.ProofKit
import Derived.OpenShut
namespace Go.Proofs.YtgpegjmbofgmmaaGreat.laid
theorem maps:(mapsRowed Tryz.prog)=true:=by kernel_rfl
end Go.Proofs.YtgpegjmbofgmmaaGreat.laid
