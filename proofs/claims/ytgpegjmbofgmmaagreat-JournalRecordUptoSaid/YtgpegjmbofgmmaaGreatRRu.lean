/- A part of the proof. No condition. -/
import Derived.Test.YtgpegjmbofgmmaaGreatRP14
import Derived.KernelRfl
namespace Go.Proofs.YtgpegjmbofgmmaaGreat.jouRun
open Go.Ab
theorem all_tabs : ∀x,x∈([(17,[e1]),(20,[e3,e6,e8,e9]),(24,[e13,e15]),(57,[e11,e14]),(85,[e0,e2,e4,e5,e7,e10,e12])]:List (Nat×List Tent)) -> ∀e,e∈x.2->TentOK Tryz.prog x.1 e:=by
 intro x hx
 simp only[List.mem_cons,List.not_mem_nil,or_false] at hx
 rcases hx with rfl|rfl|rfl|rfl|rfl
 ·intro e he
  simp only[List.mem_cons,List.not_mem_nil,or_false] at he
  subst he
  exact e1_ok
 ·intro e he
  simp only[List.mem_cons,List.not_mem_nil,or_false] at he
  rcases he with rfl|rfl|rfl|rfl
  ·exact e3_ok
  ·exact e6_ok
  ·exact e8_ok
  ·exact e9_ok
 ·intro e he
  simp only[List.mem_cons,List.not_mem_nil,or_false] at he
  rcases he with rfl|rfl
  ·exact e13_ok
  ·exact e15_ok
 ·intro e he
  simp only[List.mem_cons,List.not_mem_nil,or_false] at he
  rcases he with rfl|rfl
  ·exact e11_ok
  ·exact e14_ok
 ·intro e he
  simp only[List.mem_cons,List.not_mem_nil,or_false] at he
  rcases he with rfl|rfl|rfl|rfl|rfl|rfl|rfl
  ·exact e0_ok
  ·exact e2_ok
  ·exact e4_ok
  ·exact e5_ok
  ·exact e7_ok
  ·exact e10_ok
  ·exact e12_ok
theorem ran7:okR (runF (withTabs [(17,[e1]),(20,[e3,e6,e8,e9]),(24,[e13,e15]),(57,[e11,e14]),(85,[e0,e2,e4,e5,e7,e10,e12])] base) 1000 7 [] emptyH isTrueK)=true:=by kernel_rfl
end Go.Proofs.YtgpegjmbofgmmaaGreat.jouRun
