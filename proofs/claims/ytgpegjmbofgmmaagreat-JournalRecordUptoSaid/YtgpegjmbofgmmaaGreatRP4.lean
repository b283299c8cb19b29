/- A part of the proof. No condition. -/
import Derived.Test.YtgpegjmbofgmmaaGreatRP3
import Derived.KernelRfl
namespace Go.Proofs.YtgpegjmbofgmmaaGreat.jouRun
open Go.Ab
def e4:Tent :=
  ⟨[sn 2170 6 2 2],2171,[(1316,.cells (u32s [0,0,0,0,0,0,0,0,0,5,0,0,0,0,0,0]) (some 1)),(1318,.cells [q 4,q 4,sn 1316 1 16 16] (some 3)),(2154,.cells [q
  0] (some 1)),(2163,.cells (i64s [2,0,3]) (some 1)),(2170,.cells [q 1,.slice none 0 0,.slice none 0 0,.slice none 0 0,q 0,sn 1318 3 1 1,q 12,sn 2154 1 1 1,sn 2163
  1 3 3,.slice none 0 0,q 0,.slice none 0 0] (some 6))],.tuple ⟨[.pointer (some ⟨2171,0,none⟩),q 0]⟩,2419,[(1316,.cells (u32s [0,0,0,0,0,0,0,0,0,5,0,0,0,
  0,0,0]) (some 1)),(1318,.cells [q 4,q 4,sn 1316 1 16 16] (some 3)),(2154,.cells [q 0] (some 1)),(2163,.cells (i64s [2,0,3]) (some 1)),(2170,.cells [q 1,.slice
  none 0 0,.slice none 0 0,.slice none 0 0,q 0,sn 1318 3 1 1,q 12,sn 2154 1 1 1,sn 2163 1 3 3,.slice none 0 0,q 0,.slice none 0 0] (some 6)),(2171,.cells [sn 2418 11
  2 2] none),(2184,.cells (u32s [0,0,0,0,0,0,0,0,0,5,0,0,0,0,0,0]) (some 1)),(2186,.cells [q 4,q 4,sn 2184 1 16 16] (some 3)),(2211,.cells [q 0] (some
  1)),(2213,.cells (i64s [2,0,3]) (some 1)),(2222,.cells [sn 2213 1 3 3] none),(2223,.cells [q 3] none),(2224,.cells [q 4] none),(2225,.cells [q 0] none),(2226,
  .cells [q 0] none),(2227,.cells [q 3] none),(2228,.cells [q 4] none),(2229,.cells [q 0] none),(2230,.cells [q 0] none),(2418,.cells [q 1,.slice none 0 0,.slice
  none 0 0,.slice none 0 0,q 0,sn 2186 3 1 1,.iface 385 (.agg ⟨[q 0,sn 2186 3 1 1]⟩),q 4,q 4,q 0,q 1,q 12,sn 2211 1 1 1,sn 2213 1 3 3,.slice none 0 0,q 0,.slice
  none 0 0,.iface 502 (.agg ⟨[.func (.func 389) ⟨[]⟩ ⟨[.pointer (some ⟨2222,0,none⟩)]⟩,.func (.func 503) ⟨[]⟩ ⟨[.pointer (some ⟨2225,0,none⟩),.pointer (some ⟨2226,0,
  none⟩),.pointer (some ⟨2223,0,none⟩),.pointer (some ⟨2224,0,none⟩)]⟩,.func (.func 503) ⟨[]⟩ ⟨[.pointer (some ⟨2229,0,none⟩),.pointer (some ⟨2230,0,none⟩),.pointer
  (some ⟨2227,0,none⟩),.pointer (some ⟨2228,0,none⟩)]⟩]⟩),q 4,q 4,q 0,q 1] (some 11))]⟩
theorem e4_tabs : ∀x,x∈([]:List (Nat×List Tent)) -> ∀e,e∈x.2->TentOK Tryz.prog x.1 e:=by
 intro x hx
 simp at hx
theorem e4_good:goodE e4=true:=by kernel_rfl
theorem e4_ran:okR (runF (withTabs [] base) 1000 85 e4.args e4.h0 (pieceK e4))=true:=by kernel_rfl
theorem e4_ok:TentOK Tryz.prog 85 e4:=piece_ok (withTabs_ok _ _ e4_tabs baseOK) e4_good e4_ran
end Go.Proofs.YtgpegjmbofgmmaaGreat.jouRun
