/- The law 'AuditNames' runs to true: the abstract machine's run of it, done by the kernel. No condition. -/
import Derived.Test.YthmdoiecbmdloaaGreatProg
import Derived.Test.YthmdoiecbmdloaaGreatEngZB
import Derived.KernelRfl
namespace Go.Proofs.YthmdoiecbmdloaaGreat.auditRun
open Go.Ab

theorem p164 : PrimOK Tryz.prog 164 .even := ⟨Tryz.f164, Tryz.func164, by kernel_rfl, by kernel_rfl, by kernel_rfl, by kernel_rfl⟩
theorem p232 : PrimOK Tryz.prog 232 .f32from := ⟨Tryz.f232, Tryz.func232, by kernel_rfl, by kernel_rfl, by kernel_rfl, by kernel_rfl⟩
theorem p234 : PrimOK Tryz.prog 234 .f64bits := ⟨Tryz.f234, Tryz.func234, by kernel_rfl, by kernel_rfl, by kernel_rfl, by kernel_rfl⟩
theorem p262 : PrimOK Tryz.prog 262 .f32bits := ⟨Tryz.f262, Tryz.func262, by kernel_rfl, by kernel_rfl, by kernel_rfl, by kernel_rfl⟩
theorem p303 : PrimOK Tryz.prog 303 .f64from := ⟨Tryz.f303, Tryz.func303, by kernel_rfl, by kernel_rfl, by kernel_rfl, by kernel_rfl⟩
theorem mixed : Tryz.prog.follows .mixedOrders = true := by kernel_rfl

def prims : List (Nat × Prim) := [(164, .even), (232, .f32from), (234, .f64bits), (262, .f32bits), (303, .f64from)]

theorem primsOK : ∀ x, x ∈ prims → PrimOK Tryz.prog x.1 x.2 := by
  intro x hx
  simp only [prims, List.mem_cons, List.not_mem_nil, or_false] at hx
  rcases hx with rfl | rfl | rfl | rfl | rfl
  · exact p164
  · exact p232
  · exact p234
  · exact p262
  · exact p303

theorem ran : okR (runF (mkF (mkTT Tryz.prog) Tryz.prog prims) 1000 3 [] emptyH isTrueK) = true := by kernel_rfl

theorem walk (w : World) : Calls Tryz.prog 3 #[] w fun e w' => e = .returned (.bool true) ∧ Go.RowKit.Grown w w' :=
  closed_grown mixed primsOK ran Tryz.func3 (by kernel_rfl) (by kernel_rfl) w
end Go.Proofs.YthmdoiecbmdloaaGreat.auditRun
