/- The functions of the program for the quick machine, and those of package math. No condition. -/
import Derived.Test.YtpmbkfiicbipoaaGreatProg
import Derived.Test.YtpmbkfiicbipoaaGreatEngZD
import Derived.KernelRfl
namespace Go.Proofs.YtpmbkfiicbipoaaGreat.reachRun
open Go.Ab
theorem p204 : PrimOK Tryz.prog 204 .f32from := ⟨Tryz.f204, Tryz.func204, by kernel_rfl, by kernel_rfl, by kernel_rfl, by kernel_rfl⟩
theorem p206 : PrimOK Tryz.prog 206 .f32bits := ⟨Tryz.f206, Tryz.func206, by kernel_rfl, by kernel_rfl, by kernel_rfl, by kernel_rfl⟩
theorem p210 : PrimOK Tryz.prog 210 .even := ⟨Tryz.f210, Tryz.func210, by kernel_rfl, by kernel_rfl, by kernel_rfl, by kernel_rfl⟩
theorem p249 : PrimOK Tryz.prog 249 .f64bits := ⟨Tryz.f249, Tryz.func249, by kernel_rfl, by kernel_rfl, by kernel_rfl, by kernel_rfl⟩
theorem p250 : PrimOK Tryz.prog 250 .f64from := ⟨Tryz.f250, Tryz.func250, by kernel_rfl, by kernel_rfl, by kernel_rfl, by kernel_rfl⟩
theorem mixed : Tryz.prog.follows .mixedOrders = true := by kernel_rfl
def prims : List (Nat × Prim) := [(204, .f32from), (206, .f32bits), (210, .even), (249, .f64bits), (250, .f64from)]
theorem primsOK : ∀ x, x ∈ prims → PrimOK Tryz.prog x.1 x.2 := by
  intro x hx
  simp only [prims, List.mem_cons, List.not_mem_nil, or_false] at hx
  rcases hx with rfl | rfl | rfl | rfl | rfl
  · exact p204
  · exact p206
  · exact p210
  · exact p249
  · exact p250
noncomputable def base : T FF := mkF (mkTT Tryz.prog) Tryz.prog prims
theorem baseOK : ∀ f ff, base.get f = some ff → FFok Tryz.prog f ff := mkF_ok (mkTT_ok Tryz.prog) mixed primsOK
end Go.Proofs.YtpmbkfiicbipoaaGreat.reachRun
