/- A fact on the program that wants much memory: alone in its text. No condition. -/
import Derived.Test.YtgpegjmbofgmmaaGreatRows
import Derived.Test.YtgpegjmbofgmmaaGreatProg
import Derived.Test.YtgpegjmbofgmmaaGreatLaidE
import Derived.WalkKit
import Derived.ProofKit
import Derived.OpenShut
namespace Go.Proofs.YtgpegjmbofgmmaaGreat.laid
theorem inPlaceIs : (Rows.journalNamesRow.inPlace == Tryz.prog.inPlace 3) = true := by
  unfold Program.inPlace
  rw [closure3]
  kernel_rfl
theorem unfollowedIs : (Rows.journalNamesRow.unfollowed == Tryz.prog.unfollowed 3) = true := by
  unfold Program.unfollowed
  rw [closure3]
  kernel_rfl
theorem unfollowed3 : Tryz.prog.unfollowed 3 = true := by
  unfold Program.unfollowed
  rw [closure3]
  kernel_rfl
theorem recursesIs : (Rows.journalNamesRow.recurses == Tryz.prog.recurses 3) = true := by
  unfold Program.recurses
  rw [unfollowed3]
  kernel_rfl
end Go.Proofs.YtgpegjmbofgmmaaGreat.laid
