/- A part of the proof. No condition. -/
import Derived.Test.YtgpegjmbofgmmaaGreatRP4
import Derived.KernelRfl
namespace Go.Proofs.YtgpegjmbofgmmaaGreat.jouRun
open Go.Ab
def e5:Tent :=
  ⟨[sn 2469 6 2 2],2470,[(1316,.cells (u32s [0,0,0,0,0,0,0,0,0,5,0,0,0,0,0,0]) (some 1)),(1318,.cells [q 4,q 4,sn 1316 1 16 16] (some 3)),(2154,.cells [q
  0] (some 1)),(2163,.cells (i64s [2,0,3]) (some 1)),(2469,.cells [q 1,.slice none 0 0,.slice none 0 0,.slice none 0 0,q 0,sn 1318 3 1 1,q 12,sn 2154 1 1 1,sn 2163
  1 3 3,.slice none 0 0,q 0,.slice none 0 0] (some 6))],.tuple ⟨[.pointer (some ⟨2470,0,none⟩),q 0]⟩,2718,[(1316,.cells (u32s [0,0,0,0,0,0,0,0,0,5,0,0,0,
  0,0,0]) (some 1)),(1318,.cells [q 4,q 4,sn 1316 1 16 16] (some 3)),(2154,.cells [q 0] (some 1)),(2163,.cells (i64s [2,0,3]) (some 1)),(2469,.cells [q 1,.slice
  none 0 0,.slice none 0 0,.slice none 0 0,q 0,sn 1318 3 1 1,q 12,sn 2154 1 1 1,sn 2163 1 3 3,.slice none 0 0,q 0,.slice none 0 0] (some 6)),(2470,.cells [sn 2717 11
  2 2] none),(2483,.cells (u32s [0,0,0,0,0,0,0,0,0,5,0,0,0,0,0,0]) (some 1)),(2485,.cells [q 4,q 4,sn 2483 1 16 16] (some 3)),(2510,.cells [q 0] (some
  1)),(2512,.cells (i64s [2,0,3]) (some 1)),(2521,.cells [sn 2512 1 3 3] none),(2522,.cells [q 3] none),(2523,.cells [q 4] none),(2524,.cells [q 0] none),(2525,
  .cells [q 0] none),(2526,.cells [q 3] none),(2527,.cells [q 4] none),(2528,.cells [q 0] none),(2529,.cells [q 0] none),(2717,.cells [q 1,.slice none 0 0,.slice
  none 0 0,.slice none 0 0,q 0,sn 2485 3 1 1,.iface 385 (.agg ⟨[q 0,sn 2485 3 1 1]⟩),q 4,q 4,q 0,q 1,q 12,sn 2510 1 1 1,sn 2512 1 3 3,.slice none 0 0,q 0,.slice
  none 0 0,.iface 502 (.agg ⟨[.func (.func 389) ⟨[]⟩ ⟨[.pointer (some ⟨2521,0,none⟩)]⟩,.func (.func 503) ⟨[]⟩ ⟨[.pointer (some ⟨2524,0,none⟩),.pointer (some ⟨2525,0,
  none⟩),.pointer (some ⟨2522,0,none⟩),.pointer (some ⟨2523,0,none⟩)]⟩,.func (.func 503) ⟨[]⟩ ⟨[.pointer (some ⟨2528,0,none⟩),.pointer (some ⟨2529,0,none⟩),.pointer
  (some ⟨2526,0,none⟩),.pointer (some ⟨2527,0,none⟩)]⟩]⟩),q 4,q 4,q 0,q 1] (some 11))]⟩
theorem e5_tabs : ∀x,x∈([]:List (Nat×List Tent)) -> ∀e,e∈x.2->TentOK Tryz.prog x.1 e:=by
 intro x hx
 simp at hx
theorem e5_good:goodE e5=true:=by kernel_rfl
theorem e5_ran:okR (runF (withTabs [] base) 1000 85 e5.args e5.h0 (pieceK e5))=true:=by kernel_rfl
theorem e5_ok:TentOK Tryz.prog 85 e5:=piece_ok (withTabs_ok _ _ e5_tabs baseOK) e5_good e5_ran
end Go.Proofs.YtgpegjmbofgmmaaGreat.jouRun
