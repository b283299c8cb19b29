/- A part of the proof. No condition. -/
import Derived.Test.YtgpegjmbofgmmaaGreatRows
import Derived.Test.YtgpegjmbofgmmaaGreatRLaidH
import Derived.WalkKit
import Derived.ProofKit
import Derived.OpenShut
namespace Go.Proofs.YtgpegjmbofgmmaaGreat.laid
theorem namedIs4:(Rows.journalRecordUptoRow.named==Tryz.prog.varsNamed 4)=true:=by
 unfold Program.varsNamed
 rw[closure4]
 kernel_rfl
end Go.Proofs.YtgpegjmbofgmmaaGreat.laid
