/- A part of the proof. No condition. -/
import Derived.Test.YtgpegjmbofgmmaaGreatRows
import Derived.Test.YtgpegjmbofgmmaaGreatRLaidH
import Derived.WalkKit
import Derived.ProofKit
import Derived.OpenShut
namespace Go.Proofs.YtgpegjmbofgmmaaGreat.laid
theorem inPlaceIs4:(Rows.journalRecordUptoRow.inPlace==Tryz.prog.inPlace 4)=true:=by
 unfold Program.inPlace
 rw[closure4]
 kernel_rfl
theorem unfollowed4:Tryz.prog.unfollowed 4=true:=by
 unfold Program.unfollowed
 rw[closure4]
 kernel_rfl
theorem unfollowedIs4:(Rows.journalRecordUptoRow.unfollowed==Tryz.prog.unfollowed 4)=true:=by
 rw[unfollowed4]
 kernel_rfl
theorem recursesIs4:(Rows.journalRecordUptoRow.recurses==Tryz.prog.recurses 4)=true:=by
 unfold Program.recurses
 rw[unfollowed4]
 kernel_rfl
end Go.Proofs.YtgpegjmbofgmmaaGreat.laid
