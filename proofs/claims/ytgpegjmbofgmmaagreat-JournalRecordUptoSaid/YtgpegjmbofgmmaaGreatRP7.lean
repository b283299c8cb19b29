/- A part of the proof. No condition. -/
import Derived.Test.YtgpegjmbofgmmaaGreatRP6
import Derived.KernelRfl
namespace Go.Proofs.YtgpegjmbofgmmaaGreat.jouRun
open Go.Ab
def e7:Tent :=
  ⟨[sn 2840 6 2 2],2841,[(2154,.cells [q 0] (some 1)),(2156,.cells (i64s [2,1,2]) (some 1)),(2483,.cells (u32s [0,0,0,0,0,0,0,0,0,5,0,0,0,0,0,0]) (some
  1)),(2485,.cells [q 4,q 4,sn 2483 1 16 16] (some 3)),(2840,.cells [q 1,.slice none 0 0,.slice none 0 0,.slice none 0 0,q 0,sn 2485 3 1 1,q 12,sn 2154 1 1 1,sn
  2156 1 3 3,.slice none 0 0,q 0,.slice none 0 0] (some 6))],.tuple ⟨[.pointer (some ⟨2841,0,none⟩),q 0]⟩,3153,[(2154,.cells [q 0] (some 1)),(2156,.cells (i64s [2,
  1,2]) (some 1)),(2483,.cells (u32s [0,0,0,0,0,0,0,0,0,5,0,0,0,0,0,0]) (some 1)),(2485,.cells [q 4,q 4,sn 2483 1 16 16] (some 3)),(2840,.cells [q 1,
  .slice none 0 0,.slice none 0 0,.slice none 0 0,q 0,sn 2485 3 1 1,q 12,sn 2154 1 1 1,sn 2156 1 3 3,.slice none 0 0,q 0,.slice none 0 0] (some 6)),(2841,.cells [sn
  3152 11 2 2] none),(2854,.cells (u32s [0,0,0,0,0,0,0,0,0,5,0,0,0,0,0,0]) (some 1)),(2856,.cells [q 4,q 4,sn 2854 1 16 16] (some 3)),(2881,.cells [q 0]
  (some 1)),(2883,.cells (i64s [2,1,2]) (some 1)),(2892,.cells [sn 2883 1 3 3] none),(2893,.cells [q 2] none),(2894,.cells [q 4] none),(2895,.cells [q 1] none),
  (2896,.cells [q 1] none),(2897,.cells [q 2] none),(2898,.cells [q 4] none),(2899,.cells [q 1] none),(2900,.cells [q 1] none),(3152,.cells [q 1,.slice none 0 0,
  .slice none 0 0,.slice none 0 0,q 0,sn 2856 3 1 1,.iface 385 (.agg ⟨[q 0,sn 2856 3 1 1]⟩),q 4,q 4,q 0,q 1,q 12,sn 2881 1 1 1,sn 2883 1 3 3,.slice none 0 0,q 0,
  .slice none 0 0,.iface 502 (.agg ⟨[.func (.func 389) ⟨[]⟩ ⟨[.pointer (some ⟨2892,0,none⟩)]⟩,.func (.func 503) ⟨[]⟩ ⟨[.pointer (some ⟨2895,0,none⟩),.pointer (some ⟨2896,
  0,none⟩),.pointer (some ⟨2893,0,none⟩),.pointer (some ⟨2894,0,none⟩)]⟩,.func (.func 503) ⟨[]⟩ ⟨[.pointer (some ⟨2899,0,none⟩),.pointer (some ⟨2900,0,none⟩),
  .pointer (some ⟨2897,0,none⟩),.pointer (some ⟨2898,0,none⟩)]⟩]⟩),q 4,q 4,q 0,q 1] (some 11))]⟩
theorem e7_tabs : ∀x,x∈([]:List (Nat×List Tent)) -> ∀e,e∈x.2->TentOK Tryz.prog x.1 e:=by
 intro x hx
 simp at hx
theorem e7_good:goodE e7=true:=by kernel_rfl
theorem e7_ran:okR (runF (withTabs [] base) 1000 85 e7.args e7.h0 (pieceK e7))=true:=by kernel_rfl
theorem e7_ok:TentOK Tryz.prog 85 e7:=piece_ok (withTabs_ok _ _ e7_tabs baseOK) e7_good e7_ran
end Go.Proofs.YtgpegjmbofgmmaaGreat.jouRun
