/- A part of the proof: words; lifting there and back. Condition: the samples are of 32 bits. -/
import Derived.Test.YtimghiiihjphiaaGreatPTrix
import Derived.Test.YtimghiiihjphiaaGreatFloF
import Derived.IntWalk
namespace Go.Proofs.YtimghiiihjphiaaGreat.trips
open Go.RowKit Go.Proofs.YtimghiiihjphiaaGreatW.PrintWords Go.Proofs.YtimghiiihjphiaaGreat.PTri
set_option linter.unusedVariables false
set_option linter.unusedSimpArgs false

def fnV (n : Nat) : Value := .func (.func n) #[] #[]
def clo (n b : Nat) : Value := .func (.func n) #[] #[.pointer (some ⟨b, 0, none⟩)]
end Go.Proofs.YtimghiiihjphiaaGreat.trips
