/- A fact on the program that wants much memory: alone in its text. No condition. -/
import Derived.Test.YtgpegjmbofgmmaaGreatRows
import Derived.Test.YtgpegjmbofgmmaaGreatProg
import Derived.Test.YtgpegjmbofgmmaaGreatLaidE
import Derived.WalkKit
import Derived.ProofKit
import Derived.OpenShut
namespace Go.Proofs.YtgpegjmbofgmmaaGreat.laid
theorem namedIs : (Rows.journalNamesRow.named == Tryz.prog.varsNamed 3) = true := by
  unfold Program.varsNamed
  rw [closure3]
  kernel_rfl
end Go.Proofs.YtgpegjmbofgmmaaGreat.laid
