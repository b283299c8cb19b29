/- A part of the proof, written by the kit's printing program: functions with the same answers as the Go text. No condition. -/
import Derived.Test.YtconnknbmhbmoaaGreatPSidx0
import Derived.Test.YtconnknbmhbmoaaGreatPSidx1
import Derived.Test.YtconnknbmhbmoaaGreatPSidx2
import Derived.Test.YtconnknbmhbmoaaGreatPSidx3
namespace Go.Proofs.YtconnknbmhbmoaaGreat.PSid
open Go.RowKit Go.Proofs.YtconnknbmhbmoaaGreatW.PrintWords Go.Proofs.YtconnknbmhbmoaaGreatW.PrintLast Go.Proofs.YtconnknbmhbmoaaGreatW.PrintMore
attribute [local go_sem] max2_int min2_int max_two min_two max_three min_three max_four min_four   -- for this text's walks alone
set_option linter.unusedVariables false
set_option linter.unusedSimpArgs false

end Go.Proofs.YtconnknbmhbmoaaGreat.PSid
