/- The law runs to true: the machine's run of it, in pieces, done by the kernel. No condition. -/
import Derived.Test.YtpmbkfiicbipoaaGreatReachRunPiece5
import Derived.KernelRfl
namespace Go.Proofs.YtpmbkfiicbipoaaGreat.reachRun
open Go.Ab
theorem all_tabs : ∀ x, x ∈ ([(5, [e0, e4]), (6, [e1, e3]), (7, [e2]), (9, [e5])] : List (Nat × List Tent)) → ∀ e, e ∈ x.2 → TentOK Tryz.prog x.1 e := by
  intro x hx
  simp only [List.mem_cons, List.not_mem_nil, or_false] at hx
  rcases hx with rfl | rfl | rfl | rfl
  · intro e he
    simp only [List.mem_cons, List.not_mem_nil, or_false] at he
    rcases he with rfl | rfl
    · exact e0_ok
    · exact e4_ok
  · intro e he
    simp only [List.mem_cons, List.not_mem_nil, or_false] at he
    rcases he with rfl | rfl
    · exact e1_ok
    · exact e3_ok
  · intro e he
    simp only [List.mem_cons, List.not_mem_nil, or_false] at he
    subst he
    exact e2_ok
  · intro e he
    simp only [List.mem_cons, List.not_mem_nil, or_false] at he
    subst he
    exact e5_ok
theorem ran : okR (runF (withTabs [(5, [e0, e4]), (6, [e1, e3]), (7, [e2]), (9, [e5])] base) 1000 3 [] emptyH isTrueK) = true := by kernel_rfl
theorem walk (w : World) : Calls Tryz.prog 3 #[] w fun e w' => e = .returned (.bool true) ∧ Go.RowKit.Grown w w' :=
  closed_tabs (withTabs_ok _ _ all_tabs baseOK) ran Tryz.func3 (by kernel_rfl) (by kernel_rfl) w
end Go.Proofs.YtpmbkfiicbipoaaGreat.reachRun
