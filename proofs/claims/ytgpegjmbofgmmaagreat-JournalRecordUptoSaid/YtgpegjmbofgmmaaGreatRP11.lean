/- A part of the proof. No condition. -/
import Derived.Test.YtgpegjmbofgmmaaGreatRP10
import Derived.KernelRfl
namespace Go.Proofs.YtgpegjmbofgmmaaGreat.jouRun
open Go.Ab
def e11:Tent :=
  ⟨[sn 3249 1 248 248],3250,[(3249,.cells (u8s [0,0,0,171,0,72,76,74,49,0,0,0,0,0,0,0,2,0,0,0,0,0,0,0,9,0,0,0,0,0,0,0,1,0,0,0,0,0,0,0,
  2,0,0,0,0,0,0,0,1,0,0,0,0,0,0,0,0,0,0,0,0,0,0,0,0,0,0,0,0,0,0,0,0,0,0,0,0,0,0,0,30,72,76,68,49,0,1,0,4,0,4,4,0,0,0,0,6,
  166,253,241,197,0,0,0,0,0,0,177,194,161,163,0,0,0,0,0,0,0,12,0,0,0,0,0,0,0,1,0,0,0,0,0,0,0,0,0,0,0,0,0,0,0,3,0,0,0,0,0,0,0,
  2,0,0,0,0,0,0,0,1,0,0,0,0,0,0,0,2,0,0,0,0,0,0,0,0,59,15,191,160,0,0,0,58,1,0,0,0,0,0,0,0,0,0,0,0,0,0,0,0,1,0,0,0,0,0,0,
  0,2,0,0,0,0,0,0,0,25,72,76,68,49,0,1,0,1,0,1,4,0,0,0,0,1,32,54,14,142,80,185,105,190,121,253,160,127,184,0,0,0]) (some 1))],.tuple
  ⟨[.pointer (some ⟨4581,0,none⟩),q 0]⟩,4582,[(3249,.cells (u8s [0,0,0,171,0,72,76,74,49,0,0,0,0,0,0,0,2,0,0,0,0,0,0,0,9,0,0,0,0,0,0,0,1,
  0,0,0,0,0,0,0,2,0,0,0,0,0,0,0,1,0,0,0,0,0,0,0,0,0,0,0,0,0,0,0,0,0,0,0,0,0,0,0,0,0,0,0,0,0,0,0,30,72,76,68,49,0,1,0,4,0,
  4,4,0,0,0,0,6,166,253,241,197,0,0,0,0,0,0,177,194,161,163,0,0,0,0,0,0,0,12,0,0,0,0,0,0,0,1,0,0,0,0,0,0,0,0,0,0,0,0,0,0,0,3,
  0,0,0,0,0,0,0,2,0,0,0,0,0,0,0,1,0,0,0,0,0,0,0,2,0,0,0,0,0,0,0,0,59,15,191,160,0,0,0,58,1,0,0,0,0,0,0,0,0,0,0,0,0,0,0,0,
  1,0,0,0,0,0,0,0,2,0,0,0,0,0,0,0,25,72,76,68,49,0,1,0,1,0,1,4,0,0,0,0,1,32,54,14,142,80,185,105,190,121,253,160,127,184,0,0,0])
  (some 1)),(3831,.cells [sn 4142 11 2 2] none),(3844,.cells (u32s (List.replicate 16 0)) (some 1)),(3846,.cells [q 4,q 4,sn 3844 1 16 16] (some 3)),(3871,.cells [q 0]
  (some 1)),(3873,.cells (i64s [2,1,2]) (some 1)),(3882,.cells [sn 3873 1 3 3] none),(3883,.cells [q 2] none),(3884,.cells [q 4] none),(3885,.cells [q 1] none),
  (3886,.cells [q 1] none),(3887,.cells [q 2] none),(3888,.cells [q 4] none),(3889,.cells [q 1] none),(3890,.cells [q 1] none),(4142,.cells [q 1,.slice none 0 0,
  .slice none 0 0,.slice none 0 0,q 0,sn 3846 3 1 1,.iface 385 (.agg ⟨[q 0,sn 3846 3 1 1]⟩),q 4,q 4,q 0,q 1,q 12,sn 3871 1 1 1,sn 3873 1 3 3,.slice none 0 0,q 0,
  .slice none 0 0,.iface 502 (.agg ⟨[.func (.func 389) ⟨[]⟩ ⟨[.pointer (some ⟨3882,0,none⟩)]⟩,.func (.func 503) ⟨[]⟩ ⟨[.pointer (some ⟨3885,0,none⟩),.pointer (some ⟨3886,
  0,none⟩),.pointer (some ⟨3883,0,none⟩),.pointer (some ⟨3884,0,none⟩)]⟩,.func (.func 503) ⟨[]⟩ ⟨[.pointer (some ⟨3889,0,none⟩),.pointer (some ⟨3890,0,none⟩),
  .pointer (some ⟨3887,0,none⟩),.pointer (some ⟨3888,0,none⟩)]⟩]⟩),q 4,q 4,q 0,q 1] (some 11)),(4143,.map []),(4144,.cells [q 9,q 0,.map (some 4143)] none),
  (4145,.cells [.pointer (some ⟨3831,0,none⟩),.pointer (some ⟨4144,0,none⟩),q 2,q 1,.slice none 0 0,.slice none 0 0] none),(4580,.cells (u8s [0,0,0,171,0,72,
  76,74,49,0,0,0,0,0,0,0,2,0,0,0,0,0,0,0,9,0,0,0,0,0,0,0,1,0,0,0,0,0,0,0,2,0,0,0,0,0,0,0,1,0,0,0,0,0,0,0,0,0,0,0,0,0,0,
  0,0,0,0,0,0,0,0,0,0,0,0,0,0,0,0,0,30,72,76,68,49,0,1,0,4,0,4,4,0,0,0,0,6,166,253,241,197,0,0,0,0,0,0,177,194,161,163,0,0,0,
  0,0,0,0,12,0,0,0,0,0,0,0,1,0,0,0,0,0,0,0,0,0,0,0,0,0,0,0,3,0,0,0,0,0,0,0,2,0,0,0,0,0,0,0,1,0,0,0,0,0,0,0,2,0,0,0,0,0,
  0,0,0,59,15,191,160]) (some 1)),(4581,.cells [.pointer (some ⟨4145,0,none⟩),sn 4580 1 179 179,q 179,.bool false] none)]⟩
theorem e11_tabs : ∀x,x∈([(85,[e0,e2,e4,e5,e7,e10])]:List (Nat×List Tent)) -> ∀e,e∈x.2->TentOK Tryz.prog x.1 e:=by
 intro x hx
 simp only[List.mem_cons,List.not_mem_nil,or_false] at hx
 subst hx
 intro e he
 simp only[List.mem_cons,List.not_mem_nil,or_false] at he
 rcases he with rfl|rfl|rfl|rfl|rfl|rfl
 ·exact e0_ok
 ·exact e2_ok
 ·exact e4_ok
 ·exact e5_ok
 ·exact e7_ok
 ·exact e10_ok
theorem e11_good:goodE e11=true:=by kernel_rfl
theorem e11_ran:okR (runF (withTabs [(85,[e0,e2,e4,e5,e7,e10])] base) 1000 57 e11.args e11.h0 (pieceK e11))=true:=by kernel_rfl
theorem e11_ok:TentOK Tryz.prog 57 e11:=piece_ok (withTabs_ok _ _ e11_tabs baseOK) e11_good e11_ran
end Go.Proofs.YtgpegjmbofgmmaaGreat.jouRun
