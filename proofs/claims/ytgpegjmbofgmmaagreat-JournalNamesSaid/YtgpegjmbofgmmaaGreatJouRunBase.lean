/- The functions of the program for the quick machine, and those of package math. No condition. -/
import Derived.Test.YtgpegjmbofgmmaaGreatProg
import Derived.Test.YtgpegjmbofgmmaaGreatEngFour
import Derived.Test.YtgpegjmbofgmmaaGreatJouA
import Derived.KernelRfl
namespace Go.Proofs.YtgpegjmbofgmmaaGreat.jouRun
open Go.Ab
theorem p485 : PrimOK Tryz.prog 485 .f32from := ⟨Tryz.f485, Tryz.func485, by kernel_rfl, by kernel_rfl, by kernel_rfl, by kernel_rfl⟩
theorem p487 : PrimOK Tryz.prog 487 .f32bits := ⟨Tryz.f487, Tryz.func487, by kernel_rfl, by kernel_rfl, by kernel_rfl, by kernel_rfl⟩
theorem p491 : PrimOK Tryz.prog 491 .even := ⟨Tryz.f491, Tryz.func491, by kernel_rfl, by kernel_rfl, by kernel_rfl, by kernel_rfl⟩
theorem p543 : PrimOK Tryz.prog 543 .f64bits := ⟨Tryz.f543, Tryz.func543, by kernel_rfl, by kernel_rfl, by kernel_rfl, by kernel_rfl⟩
theorem p544 : PrimOK Tryz.prog 544 .f64from := ⟨Tryz.f544, Tryz.func544, by kernel_rfl, by kernel_rfl, by kernel_rfl, by kernel_rfl⟩
theorem mixed : Tryz.prog.follows .mixedOrders = true := by kernel_rfl
def prims : List (Nat × Prim) := [(485, .f32from), (487, .f32bits), (491, .even), (543, .f64bits), (544, .f64from)]
theorem primsOK : ∀ x, x ∈ prims → PrimOK Tryz.prog x.1 x.2 := by
  intro x hx
  simp only [prims, List.mem_cons, List.not_mem_nil, or_false] at hx
  rcases hx with rfl | rfl | rfl | rfl | rfl
  · exact p485
  · exact p487
  · exact p491
  · exact p543
  · exact p544
noncomputable def base0 : T FF := mkF (mkTT Tryz.prog) Tryz.prog prims
theorem base0OK : ∀ f ff, base0.get f = some ff → FFok Tryz.prog f ff := mkF_ok (mkTT_ok Tryz.prog) mixed primsOK
theorem crc_ok : FFok Tryz.prog 115 (freshFF crc) := fresh_ok base0OK (n := 1000) (by kernel_rfl) (by kernel_rfl)
theorem idleOK : ∀ x, x ∈ [(79, 2), (145, 2)] → IdleD Tryz.prog x.1 x.2 := by
  intro x hx
  simp only [List.mem_cons, List.not_mem_nil, or_false] at hx
  rcases hx with rfl | rfl
  · exact idle79
  · exact idle145
noncomputable def base1 : T FF := withDs (mkTT Tryz.prog) [(79, 2), (145, 2)] [(535, Tryz.f535), (137, Tryz.f137), (49, Tryz.f49), (95, Tryz.f95)] base0
theorem base1OK : ∀ f ff, base1.get f = some ff → FFok Tryz.prog f ff := by
  refine withDs_ok (mkTT_ok Tryz.prog) mixed idleOK _ _ ?_ base0OK
  intro x hx
  simp only [List.mem_cons, List.not_mem_nil, or_false] at hx
  rcases hx with rfl | rfl | rfl | rfl
  · exact Tryz.func535
  · exact Tryz.func137
  · exact Tryz.func49
  · exact Tryz.func95
noncomputable def base : T FF := withFFs [(437, keysFF), (51, eqFF), (115, freshFF crc)] base1
theorem baseOK : ∀ f ff, base.get f = some ff → FFok Tryz.prog f ff := by
  refine withFFs_ok _ _ ?_ base1OK
  intro x hx
  simp only [List.mem_cons, List.not_mem_nil, or_false] at hx
  rcases hx with rfl | rfl | rfl
  · exact keysFF_ok keys437
  · exact eqFF_ok eq51
  · exact crc_ok
end Go.Proofs.YtgpegjmbofgmmaaGreat.jouRun
