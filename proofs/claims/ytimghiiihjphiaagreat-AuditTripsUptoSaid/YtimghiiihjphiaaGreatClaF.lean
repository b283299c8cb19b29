/- A part of the proof: the cost of a list. Condition: the list is not long. -/
import Derived.Test.YtimghiiihjphiaaGreatClaE
namespace Go.Proofs.YtimghiiihjphiaaGreat.classes
open Go.RowKit Go.Proofs.YtimghiiihjphiaaGreatW.PrintWords Go.Proofs.YtimghiiihjphiaaGreat.PTri
set_option linter.unusedVariables false
set_option linter.unusedSimpArgs false

theorem cost_any (w : World) (A : Option Addr) (cap : Nat) (xs : List Int) (hx : Kd.C (Kd.int .u32) w A xs.length xs) (hn : xs.length ≤ 2000) :
    Calls Tryz.prog 20 #[.slice A xs.length cap] w fun e W' => e = .returned (.tuple #[.int .i64 (stS xs xs.length).2.2, .int .i64 0]) ∧ Below w.heap.size w W' := by
  have HX := Aside0.mk (writes_any w A cap xs hx hn)
  clear hx
  go_enter Tryz.func20, Tryz.ntmps20
  go_wp2_with fail
  refine HX.out.mono ?_
  rintro e w1 ⟨G, rfl, hw⟩
  obtain ⟨c0, c1, c3, f0, f1⟩ := hw.cells
  have HB := Aside0.mk hw.below
  clear hw HX
  go_wp2
  go_ret2
  exact ⟨rfl, HB.out⟩

end Go.Proofs.YtimghiiihjphiaaGreat.classes
