/- A part of the proof: functions of the program and what they answer. Conditions: as each theorem tells. -/
import Derived.Test.YtimghiiihjphiaaGreatPTrix0
import Derived.Test.YtimghiiihjphiaaGreatPTrix1
import Derived.Test.YtimghiiihjphiaaGreatPTrix2
import Derived.Test.YtimghiiihjphiaaGreatPTrix3
namespace Go.Proofs.YtimghiiihjphiaaGreat.PTri
open Go.RowKit Go.Proofs.YtimghiiihjphiaaGreatW.PrintWords Go.Proofs.YtimghiiihjphiaaGreatW.PrintLast Go.Proofs.YtimghiiihjphiaaGreatW.PrintMore
attribute [local go_sem] max2_int min2_int max_two min_two max_three min_three max_four min_four   -- for this text's walks alone
set_option linter.unusedVariables false
set_option linter.unusedSimpArgs false

end Go.Proofs.YtimghiiihjphiaaGreat.PTri
