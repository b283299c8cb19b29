/- The chapter's examples (the function known) run to true: the abstract machine's run, done by the kernel. No condition. -/
import Derived.Test.YtimghiiihjphiaaGreatProg
import Derived.Test.YtimghiiihjphiaaGreatEngThree
import Derived.KernelRfl
namespace Go.Proofs.YtimghiiihjphiaaGreat.auditRun
open Go.Ab

theorem p137 : PrimOK Tryz.prog 137 .even := ⟨Tryz.f137, Tryz.func137, by kernel_rfl, by kernel_rfl, by kernel_rfl, by kernel_rfl⟩
theorem p205 : PrimOK Tryz.prog 205 .f32from := ⟨Tryz.f205, Tryz.func205, by kernel_rfl, by kernel_rfl, by kernel_rfl, by kernel_rfl⟩
theorem p207 : PrimOK Tryz.prog 207 .f64bits := ⟨Tryz.f207, Tryz.func207, by kernel_rfl, by kernel_rfl, by kernel_rfl, by kernel_rfl⟩
theorem p235 : PrimOK Tryz.prog 235 .f32bits := ⟨Tryz.f235, Tryz.func235, by kernel_rfl, by kernel_rfl, by kernel_rfl, by kernel_rfl⟩
theorem p276 : PrimOK Tryz.prog 276 .f64from := ⟨Tryz.f276, Tryz.func276, by kernel_rfl, by kernel_rfl, by kernel_rfl, by kernel_rfl⟩
theorem mixed : Tryz.prog.follows .mixedOrders = true := by kernel_rfl

def prims : List (Nat × Prim) := [(137, .even), (205, .f32from), (207, .f64bits), (235, .f32bits), (276, .f64from)]

theorem primsOK : ∀ x, x ∈ prims → PrimOK Tryz.prog x.1 x.2 := by
  intro x hx
  simp only [prims, List.mem_cons, List.not_mem_nil, or_false] at hx
  rcases hx with rfl | rfl | rfl | rfl | rfl
  · exact p137
  · exact p205
  · exact p207
  · exact p235
  · exact p276

theorem ran : okR (runF (mkF (mkTT Tryz.prog) Tryz.prog prims) 1000 4 [] emptyH isTrueK) = true := by kernel_rfl

theorem walk (w : World) : Calls Tryz.prog 4 #[] w fun e w' => e = .returned (.bool true) ∧ Go.RowKit.Grown w w' :=
  closed_grown mixed primsOK ran Tryz.func4 (by kernel_rfl) (by kernel_rfl) w
end Go.Proofs.YtimghiiihjphiaaGreat.auditRun
