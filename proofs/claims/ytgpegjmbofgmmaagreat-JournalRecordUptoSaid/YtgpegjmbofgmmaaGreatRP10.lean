/- A part of the proof. No condition. -/
import Derived.Test.YtgpegjmbofgmmaaGreatRP9
import Derived.KernelRfl
namespace Go.Proofs.YtgpegjmbofgmmaaGreat.jouRun
open Go.Ab
def e10:Tent :=
  ⟨[sn 3394 6 2 2],3831,[(3310,.cells (u32s (List.replicate 16 0)) none),(3330,.cells [q 4,q 4,sl 3310 16 16] (some 3)),(3386,.cells [q 0] (some 1)),(3392,.cells
  (i64s [2,1,2]) (some 1)),(3394,.cells [q 1,.slice none 0 0,.slice none 0 0,.slice none 0 0,q 0,sn 3330 3 1 1,q 12,sn 3386 1 1 1,sn 3392 1 3 3,.slice none 0 0,q
  0,.slice none 0 0] (some 6))],.tuple ⟨[.pointer (some ⟨3831,0,none⟩),q 0]⟩,4143,[(3310,.cells (u32s (List.replicate 16 0)) none),(3330,.cells [q 4,q 4,sl 3310 16
  16] (some 3)),(3386,.cells [q 0] (some 1)),(3392,.cells (i64s [2,1,2]) (some 1)),(3394,.cells [q 1,.slice none 0 0,.slice none 0 0,.slice none 0 0,q 0,sn 3330 3 1
  1,q 12,sn 3386 1 1 1,sn 3392 1 3 3,.slice none 0 0,q 0,.slice none 0 0] (some 6)),(3831,.cells [sn 4142 11 2 2] none),(3844,.cells (u32s (List.replicate 16 0)) (some
  1)),(3846,.cells [q 4,q 4,sn 3844 1 16 16] (some 3)),(3871,.cells [q 0] (some 1)),(3873,.cells (i64s [2,1,2]) (some 1)),(3882,.cells [sn 3873 1 3 3] none),(3883,
  .cells [q 2] none),(3884,.cells [q 4] none),(3885,.cells [q 1] none),(3886,.cells [q 1] none),(3887,.cells [q 2] none),(3888,.cells [q 4] none),(3889,.cells [q 1]
  none),(3890,.cells [q 1] none),(4142,.cells [q 1,.slice none 0 0,.slice none 0 0,.slice none 0 0,q 0,sn 3846 3 1 1,.iface 385 (.agg ⟨[q 0,sn 3846 3 1 1]⟩),q 4,q
  4,q 0,q 1,q 12,sn 3871 1 1 1,sn 3873 1 3 3,.slice none 0 0,q 0,.slice none 0 0,.iface 502 (.agg ⟨[.func (.func 389) ⟨[]⟩ ⟨[.pointer (some ⟨3882,0,none⟩)]⟩,.func
  (.func 503) ⟨[]⟩ ⟨[.pointer (some ⟨3885,0,none⟩),.pointer (some ⟨3886,0,none⟩),.pointer (some ⟨3883,0,none⟩),.pointer (some ⟨3884,0,none⟩)]⟩,.func (.func 503) ⟨[]⟩
  ⟨[.pointer (some ⟨3889,0,none⟩),.pointer (some ⟨3890,0,none⟩),.pointer (some ⟨3887,0,none⟩),.pointer (some ⟨3888,0,none⟩)]⟩]⟩),q 4,q 4,q 0,q 1] (some 11))]⟩
theorem e10_tabs : ∀x,x∈([]:List (Nat×List Tent)) -> ∀e,e∈x.2->TentOK Tryz.prog x.1 e:=by
 intro x hx
 simp at hx
theorem e10_good:goodE e10=true:=by kernel_rfl
theorem e10_ran:okR (runF (withTabs [] base) 1000 85 e10.args e10.h0 (pieceK e10))=true:=by kernel_rfl
theorem e10_ok:TentOK Tryz.prog 85 e10:=piece_ok (withTabs_ok _ _ e10_tabs baseOK) e10_good e10_ran
end Go.Proofs.YtgpegjmbofgmmaaGreat.jouRun
