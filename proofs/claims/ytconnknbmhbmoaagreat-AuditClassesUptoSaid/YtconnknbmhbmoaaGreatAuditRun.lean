/- The chapter's examples (the function known) run to true: the abstract machine's run, done by the kernel. No condition. -/
import Derived.Test.YtconnknbmhbmoaaGreatProg
import Derived.Test.YtconnknbmhbmoaaGreatEngThree
import Derived.KernelRfl
namespace Go.Proofs.YtconnknbmhbmoaaGreat.auditRun
open Go.Ab

theorem p162 : PrimOK Tryz.prog 162 .even := ⟨Tryz.f162, Tryz.func162, by kernel_rfl, by kernel_rfl, by kernel_rfl, by kernel_rfl⟩
theorem p230 : PrimOK Tryz.prog 230 .f32from := ⟨Tryz.f230, Tryz.func230, by kernel_rfl, by kernel_rfl, by kernel_rfl, by kernel_rfl⟩
theorem p232 : PrimOK Tryz.prog 232 .f64bits := ⟨Tryz.f232, Tryz.func232, by kernel_rfl, by kernel_rfl, by kernel_rfl, by kernel_rfl⟩
theorem p260 : PrimOK Tryz.prog 260 .f32bits := ⟨Tryz.f260, Tryz.func260, by kernel_rfl, by kernel_rfl, by kernel_rfl, by kernel_rfl⟩
theorem p301 : PrimOK Tryz.prog 301 .f64from := ⟨Tryz.f301, Tryz.func301, by kernel_rfl, by kernel_rfl, by kernel_rfl, by kernel_rfl⟩
theorem mixed : Tryz.prog.follows .mixedOrders = true := by kernel_rfl

def prims : List (Nat × Prim) := [(162, .even), (230, .f32from), (232, .f64bits), (260, .f32bits), (301, .f64from)]

theorem primsOK : ∀ x, x ∈ prims → PrimOK Tryz.prog x.1 x.2 := by
  intro x hx
  simp only [prims, List.mem_cons, List.not_mem_nil, or_false] at hx
  rcases hx with rfl | rfl | rfl | rfl | rfl
  · exact p162
  · exact p230
  · exact p232
  · exact p260
  · exact p301

theorem ran : okR (runF (mkF (mkTT Tryz.prog) Tryz.prog prims) 1000 5 [] emptyH isTrueK) = true := by kernel_rfl

theorem walk (w : World) : Calls Tryz.prog 5 #[] w fun e w' => e = .returned (.bool true) ∧ Go.RowKit.Grown w w' :=
  closed_grown mixed primsOK ran Tryz.func5 (by kernel_rfl) (by kernel_rfl) w
end Go.Proofs.YtconnknbmhbmoaaGreat.auditRun
