/- A part of the proof. No condition. -/
import Derived.Test.YtgpegjmbofgmmaaGreatRP11
import Derived.KernelRfl
namespace Go.Proofs.YtgpegjmbofgmmaaGreat.jouRun
open Go.Ab
def e12:Tent :=
  ⟨[sn 4979 6 2 2],4980,[(3871,.cells [q 0] (some 1)),(3873,.cells (i64s [2,1,2]) (some 1)),(4951,.cells (u32s [0,0,0,0,0,0,0,0,0,5,0,0,0,0,0,0]) none),
  (4971,.cells [q 4,q 4,sl 4951 16 16] (some 3)),(4979,.cells [q 1,.slice none 0 0,.slice none 0 0,.slice none 0 0,q 0,sn 4971 3 1 1,q 12,sn 3871 1 1 1,sn 3873 1 3
  3,.slice none 0 0,q 0,.slice none 0 0] (some 6))],.tuple ⟨[.pointer (some ⟨4980,0,none⟩),q 0]⟩,5292,[(3871,.cells [q 0] (some 1)),(3873,.cells (i64s [2,1,2])
  (some 1)),(4951,.cells (u32s [0,0,0,0,0,0,0,0,0,5,0,0,0,0,0,0]) none),(4971,.cells [q 4,q 4,sl 4951 16 16] (some 3)),(4979,.cells [q 1,.slice none 0 0,
  .slice none 0 0,.slice none 0 0,q 0,sn 4971 3 1 1,q 12,sn 3871 1 1 1,sn 3873 1 3 3,.slice none 0 0,q 0,.slice none 0 0] (some 6)),(4980,.cells [sn 5291 11 2 2]
  none),(4993,.cells (u32s [0,0,0,0,0,0,0,0,0,5,0,0,0,0,0,0]) (some 1)),(4995,.cells [q 4,q 4,sn 4993 1 16 16] (some 3)),(5020,.cells [q 0] (some 1)),
  (5022,.cells (i64s [2,1,2]) (some 1)),(5031,.cells [sn 5022 1 3 3] none),(5032,.cells [q 2] none),(5033,.cells [q 4] none),(5034,.cells [q 1] none),(5035,.cells
  [q 1] none),(5036,.cells [q 2] none),(5037,.cells [q 4] none),(5038,.cells [q 1] none),(5039,.cells [q 1] none),(5291,.cells [q 1,.slice none 0 0,.slice none 0 0,
  .slice none 0 0,q 0,sn 4995 3 1 1,.iface 385 (.agg ⟨[q 0,sn 4995 3 1 1]⟩),q 4,q 4,q 0,q 1,q 12,sn 5020 1 1 1,sn 5022 1 3 3,.slice none 0 0,q 0,.slice none 0 0,
  .iface 502 (.agg ⟨[.func (.func 389) ⟨[]⟩ ⟨[.pointer (some ⟨5031,0,none⟩)]⟩,.func (.func 503) ⟨[]⟩ ⟨[.pointer (some ⟨5034,0,none⟩),.pointer (some ⟨5035,0,none⟩),
  .pointer (some ⟨5032,0,none⟩),.pointer (some ⟨5033,0,none⟩)]⟩,.func (.func 503) ⟨[]⟩ ⟨[.pointer (some ⟨5038,0,none⟩),.pointer (some ⟨5039,0,none⟩),.pointer (some
  ⟨5036,0,none⟩),.pointer (some ⟨5037,0,none⟩)]⟩]⟩),q 4,q 4,q 0,q 1] (some 11))]⟩
theorem e12_tabs : ∀x,x∈([]:List (Nat×List Tent)) -> ∀e,e∈x.2->TentOK Tryz.prog x.1 e:=by
 intro x hx
 simp at hx
theorem e12_good:goodE e12=true:=by kernel_rfl
theorem e12_ran:okR (runF (withTabs [] base) 1000 85 e12.args e12.h0 (pieceK e12))=true:=by kernel_rfl
theorem e12_ok:TentOK Tryz.prog 85 e12:=piece_ok (withTabs_ok _ _ e12_tabs baseOK) e12_good e12_ran
end Go.Proofs.YtgpegjmbofgmmaaGreat.jouRun
