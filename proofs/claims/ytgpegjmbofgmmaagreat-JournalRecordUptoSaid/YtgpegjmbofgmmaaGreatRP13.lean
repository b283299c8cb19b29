/- A part of the proof. No condition. -/
import Derived.Test.YtgpegjmbofgmmaaGreatRP12
import Derived.KernelRfl
namespace Go.Proofs.YtgpegjmbofgmmaaGreat.jouRun
open Go.Ab
def e13:Tent :=
  ⟨[sn 3249 1 248 248],3250,[(3249,.cells (u8s [0,0,0,171,0,72,76,74,49,0,0,0,0,0,0,0,2,0,0,0,0,0,0,0,9,0,0,0,0,0,0,0,1,0,0,0,0,0,0,0,
  2,0,0,0,0,0,0,0,1,0,0,0,0,0,0,0,0,0,0,0,0,0,0,0,0,0,0,0,0,0,0,0,0,0,0,0,0,0,0,0,30,72,76,68,49,0,1,0,4,0,4,4,0,0,0,0,6,
  166,253,241,197,0,0,0,0,0,0,177,194,161,163,0,0,0,0,0,0,0,12,0,0,0,0,0,0,0,1,0,0,0,0,0,0,0,0,0,0,0,0,0,0,0,3,0,0,0,0,0,0,0,
  2,0,0,0,0,0,0,0,1,0,0,0,0,0,0,0,2,0,0,0,0,0,0,0,0,59,15,191,160,0,0,0,58,1,0,0,0,0,0,0,0,0,0,0,0,0,0,0,0,1,0,0,0,0,0,0,
  0,2,0,0,0,0,0,0,0,25,72,76,68,49,0,1,0,1,0,1,4,0,0,0,0,1,32,54,14,142,80,185,105,190,121,253,160,127,184,0,0,0]) (some 1))],.tuple
  ⟨[.pointer (some ⟨4581,0,none⟩),q 1,q 0]⟩,5704,[(3249,.cells (u8s [0,0,0,171,0,72,76,74,49,0,0,0,0,0,0,0,2,0,0,0,0,0,0,0,9,0,0,0,0,0,0,0,
  1,0,0,0,0,0,0,0,2,0,0,0,0,0,0,0,1,0,0,0,0,0,0,0,0,0,0,0,0,0,0,0,0,0,0,0,0,0,0,0,0,0,0,0,0,0,0,0,30,72,76,68,49,0,1,0,4,
  0,4,4,0,0,0,0,6,166,253,241,197,0,0,0,0,0,0,177,194,161,163,0,0,0,0,0,0,0,12,0,0,0,0,0,0,0,1,0,0,0,0,0,0,0,0,0,0,0,0,0,0,0,
  3,0,0,0,0,0,0,0,2,0,0,0,0,0,0,0,1,0,0,0,0,0,0,0,2,0,0,0,0,0,0,0,0,59,15,191,160,0,0,0,58,1,0,0,0,0,0,0,0,0,0,0,0,0,0,0,
  0,1,0,0,0,0,0,0,0,2,0,0,0,0,0,0,0,25,72,76,68,49,0,1,0,1,0,1,4,0,0,0,0,1,32,54,14,142,80,185,105,190,121,253,160,127,184,0,0,
  0]) (some 1)),(4143,.map []),(4144,.cells [q 9,q 0,.map (some 4143)] none),(4145,.cells [.pointer (some ⟨4980,0,none⟩),.pointer (some ⟨4144,0,none⟩),q 2,q 1,sn
  5700 1 1 1,.slice none 0 0] none),(4581,.cells [.pointer (some ⟨4145,0,none⟩),sn 5701 1 245 245,q 245,.bool false] none),(4863,.cells [h 0] none),(4868,.cells [q
  1,q 1,sl 4863 1 1] (some 3)),(4891,.cells [h 5] none),(4896,.cells [q 1,q 1,sl 4891 1 1] (some 3)),(4980,.cells [sn 5291 11 2 2] none),(4993,.cells (u32s [0,0,0,
  0,0,0,0,0,0,5,0,0,0,0,0,0]) (some 1)),(4995,.cells [q 4,q 4,sn 4993 1 16 16] (some 3)),(5020,.cells [q 0] (some 1)),(5022,.cells (i64s [2,1,2]) (some
  1)),(5031,.cells [sn 5022 1 3 3] none),(5032,.cells [q 2] none),(5033,.cells [q 4] none),(5034,.cells [q 1] none),(5035,.cells [q 1] none),(5036,.cells [q 2]
  none),(5037,.cells [q 4] none),(5038,.cells [q 1] none),(5039,.cells [q 1] none),(5291,.cells [q 1,.slice none 0 0,.slice none 0 0,.slice none 0 0,q 0,sn 4995 3 1
  1,.iface 385 (.agg ⟨[q 0,sn 4995 3 1 1]⟩),q 4,q 4,q 0,q 1,q 12,sn 5020 1 1 1,sn 5022 1 3 3,.slice none 0 0,q 0,.slice none 0 0,.iface 502 (.agg ⟨[.func (.func
  389) ⟨[]⟩ ⟨[.pointer (some ⟨5031,0,none⟩)]⟩,.func (.func 503) ⟨[]⟩ ⟨[.pointer (some ⟨5034,0,none⟩),.pointer (some ⟨5035,0,none⟩),.pointer (some ⟨5032,0,none⟩),
  .pointer (some ⟨5033,0,none⟩)]⟩,.func (.func 503) ⟨[]⟩ ⟨[.pointer (some ⟨5038,0,none⟩),.pointer (some ⟨5039,0,none⟩),.pointer (some ⟨5036,0,none⟩),.pointer (some
  ⟨5037,0,none⟩)]⟩]⟩),q 4,q 4,q 0,q 1] (some 11)),(5700,.cells [.iface 209 (.agg ⟨[q 0,q 1,q 2,q 2,q 3,q 0,sn 4896 3 1 1,q 0,sn 4868 3 1 1]⟩)] (some 1)),(5701,
  .cells (u8s [0,0,0,171,0,72,76,74,49,0,0,0,0,0,0,0,2,0,0,0,0,0,0,0,9,0,0,0,0,0,0,0,1,0,0,0,0,0,0,0,2,0,0,0,0,0,0,0,1,0,0,0,
  0,0,0,0,0,0,0,0,0,0,0,0,0,0,0,0,0,0,0,0,0,0,0,0,0,0,0,0,30,72,76,68,49,0,1,0,4,0,4,4,0,0,0,0,6,166,253,241,197,0,0,0,0,0,
  0,177,194,161,163,0,0,0,0,0,0,0,12,0,0,0,0,0,0,0,1,0,0,0,0,0,0,0,0,0,0,0,0,0,0,0,3,0,0,0,0,0,0,0,2,0,0,0,0,0,0,0,1,0,0,
  0,0,0,0,0,2,0,0,0,0,0,0,0,0,59,15,191,160,0,0,0,58,1,0,0,0,0,0,0,0,0,0,0,0,0,0,0,0,1,0,0,0,0,0,0,0,2,0,0,0,0,0,0,0,25,
  72,76,68,49,0,1,0,1,0,1,4,0,0,0,0,1,32,54,14,142,80,185,105,190,121,253,160,127,184]) (some 1))]⟩
theorem e13_tabs : ∀x,x∈([(57,[e11]),(85,[e0,e2,e4,e5,e7,e10,e12])]:List (Nat×List Tent)) -> ∀e,e∈x.2->TentOK Tryz.prog x.1 e:=by
 intro x hx
 simp only[List.mem_cons,List.not_mem_nil,or_false] at hx
 rcases hx with rfl|rfl
 ·intro e he
  simp only[List.mem_cons,List.not_mem_nil,or_false] at he
  subst he
  exact e11_ok
 ·intro e he
  simp only[List.mem_cons,List.not_mem_nil,or_false] at he
  rcases he with rfl|rfl|rfl|rfl|rfl|rfl|rfl
  ·exact e0_ok
  ·exact e2_ok
  ·exact e4_ok
  ·exact e5_ok
  ·exact e7_ok
  ·exact e10_ok
  ·exact e12_ok
theorem e13_good:goodE e13=true:=by kernel_rfl
theorem e13_ran:okR (runF (withTabs [(57,[e11]),(85,[e0,e2,e4,e5,e7,e10,e12])] base) 1000 24 e13.args e13.h0 (pieceK e13))=true:=by kernel_rfl
theorem e13_ok:TentOK Tryz.prog 24 e13:=piece_ok (withTabs_ok _ _ e13_tabs baseOK) e13_good e13_ran
end Go.Proofs.YtgpegjmbofgmmaaGreat.jouRun
