/- A part of the proof. No condition. -/
import Derived.Test.YtgpegjmbofgmmaaGreatProg
import Derived.WalkKit
import Derived.ProofKit
import Derived.OpenShut
namespace Go.Proofs.YtgpegjmbofgmmaaGreat.laid
theorem funcs:(Tryz.prog.funcs.all (fun f=>f.params.all fun t=>decide (t<Tryz.prog.types.size)))=true:=by kernel_rfl
theorem globals:(Tryz.prog.globals.all (fun g=>decide (g.type<Tryz.prog.types.size)))=true:=by kernel_rfl
end Go.Proofs.YtgpegjmbofgmmaaGreat.laid
