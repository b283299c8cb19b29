/- A part of the proof. No condition. -/
import Derived.Test.YtgpegjmbofgmmaaGreatRP13
import Derived.KernelRfl
namespace Go.Proofs.YtgpegjmbofgmmaaGreat.jouRun
open Go.Ab
def e14:Tent :=
  ⟨[.slice none 0 0],5704,[],.tuple ⟨[.pointer none,q 251]⟩,5704,[]⟩
theorem e14_tabs : ∀x,x∈([(85,[e0,e2,e4,e5,e7,e10,e12])]:List (Nat×List Tent)) -> ∀e,e∈x.2->TentOK Tryz.prog x.1 e:=by
 intro x hx
 simp only[List.mem_cons,List.not_mem_nil,or_false] at hx
 subst hx
 intro e he
 simp only[List.mem_cons,List.not_mem_nil,or_false] at he
 rcases he with rfl|rfl|rfl|rfl|rfl|rfl|rfl
 ·exact e0_ok
 ·exact e2_ok
 ·exact e4_ok
 ·exact e5_ok
 ·exact e7_ok
 ·exact e10_ok
 ·exact e12_ok
theorem e14_good:goodE e14=true:=by kernel_rfl
theorem e14_ran:okR (runF (withTabs [(85,[e0,e2,e4,e5,e7,e10,e12])] base) 1000 57 e14.args e14.h0 (pieceK e14))=true:=by kernel_rfl
theorem e14_ok:TentOK Tryz.prog 57 e14:=piece_ok (withTabs_ok _ _ e14_tabs baseOK) e14_good e14_ran
end Go.Proofs.YtgpegjmbofgmmaaGreat.jouRun
namespace Go.Proofs.YtgpegjmbofgmmaaGreat.jouRun
open Go.Ab
def e15:Tent :=
  ⟨[.slice none 0 0],5704,[],.tuple ⟨[.pointer none,q 0,q 251]⟩,5704,[]⟩
theorem e15_tabs : ∀x,x∈([(57,[e11,e14]),(85,[e0,e2,e4,e5,e7,e10,e12])]:List (Nat×List Tent)) -> ∀e,e∈x.2->TentOK Tryz.prog x.1 e:=by
 intro x hx
 simp only[List.mem_cons,List.not_mem_nil,or_false] at hx
 rcases hx with rfl|rfl
 ·intro e he
  simp only[List.mem_cons,List.not_mem_nil,or_false] at he
  rcases he with rfl|rfl
  ·exact e11_ok
  ·exact e14_ok
 ·intro e he
  simp only[List.mem_cons,List.not_mem_nil,or_false] at he
  rcases he with rfl|rfl|rfl|rfl|rfl|rfl|rfl
  ·exact e0_ok
  ·exact e2_ok
  ·exact e4_ok
  ·exact e5_ok
  ·exact e7_ok
  ·exact e10_ok
  ·exact e12_ok
theorem e15_good:goodE e15=true:=by kernel_rfl
theorem e15_ran:okR (runF (withTabs [(57,[e11,e14]),(85,[e0,e2,e4,e5,e7,e10,e12])] base) 1000 24 e15.args e15.h0 (pieceK e15))=true:=by kernel_rfl
theorem e15_ok:TentOK Tryz.prog 24 e15:=piece_ok (withTabs_ok _ _ e15_tabs baseOK) e15_good e15_ran
end Go.Proofs.YtgpegjmbofgmmaaGreat.jouRun
