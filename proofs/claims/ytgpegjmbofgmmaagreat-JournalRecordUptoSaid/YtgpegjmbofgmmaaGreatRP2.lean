/- A part of the proof. No condition. -/
import Derived.Test.YtgpegjmbofgmmaaGreatRP0
import Derived.KernelRfl
namespace Go.Proofs.YtgpegjmbofgmmaaGreat.jouRun
open Go.Ab
def e2:Tent :=
  ⟨[sn 1302 6 2 2],1303,[(258,.cells [q 0] (some 1)),(260,.cells (i64s [2,1,2]) (some 1)),(1274,.cells (u32s [0,0,0,0,0,0,0,0,0,5,0,0,0,0,0,0]) none),
  (1294,.cells [q 4,q 4,sl 1274 16 16] (some 3)),(1302,.cells [q 1,.slice none 0 0,.slice none 0 0,.slice none 0 0,q 0,sn 1294 3 1 1,q 12,sn 258 1 1 1,sn 260 1 3 3,
  .slice none 0 0,q 0,.slice none 0 0] (some 6))],.tuple ⟨[.pointer (some ⟨1303,0,none⟩),q 0]⟩,1615,[(258,.cells [q 0] (some 1)),(260,.cells (i64s [2,1,2]) (some
  1)),(1274,.cells (u32s [0,0,0,0,0,0,0,0,0,5,0,0,0,0,0,0]) none),(1294,.cells [q 4,q 4,sl 1274 16 16] (some 3)),(1302,.cells [q 1,.slice none 0 0,
  .slice none 0 0,.slice none 0 0,q 0,sn 1294 3 1 1,q 12,sn 258 1 1 1,sn 260 1 3 3,.slice none 0 0,q 0,.slice none 0 0] (some 6)),(1303,.cells [sn 1614 11 2 2] none),
  (1316,.cells (u32s [0,0,0,0,0,0,0,0,0,5,0,0,0,0,0,0]) (some 1)),(1318,.cells [q 4,q 4,sn 1316 1 16 16] (some 3)),(1343,.cells [q 0] (some 1)),(1345,
  .cells (i64s [2,1,2]) (some 1)),(1354,.cells [sn 1345 1 3 3] none),(1355,.cells [q 2] none),(1356,.cells [q 4] none),(1357,.cells [q 1] none),(1358,.cells [q 1]
  none),(1359,.cells [q 2] none),(1360,.cells [q 4] none),(1361,.cells [q 1] none),(1362,.cells [q 1] none),(1614,.cells [q 1,.slice none 0 0,.slice none 0 0,.slice
  none 0 0,q 0,sn 1318 3 1 1,.iface 385 (.agg ⟨[q 0,sn 1318 3 1 1]⟩),q 4,q 4,q 0,q 1,q 12,sn 1343 1 1 1,sn 1345 1 3 3,.slice none 0 0,q 0,.slice none 0 0,.iface
  502 (.agg ⟨[.func (.func 389) ⟨[]⟩ ⟨[.pointer (some ⟨1354,0,none⟩)]⟩,.func (.func 503) ⟨[]⟩ ⟨[.pointer (some ⟨1357,0,none⟩),.pointer (some ⟨1358,0,none⟩),.pointer
  (some ⟨1355,0,none⟩),.pointer (some ⟨1356,0,none⟩)]⟩,.func (.func 503) ⟨[]⟩ ⟨[.pointer (some ⟨1361,0,none⟩),.pointer (some ⟨1362,0,none⟩),.pointer (some ⟨1359,0,
  none⟩),.pointer (some ⟨1360,0,none⟩)]⟩]⟩),q 4,q 4,q 0,q 1] (some 11))]⟩
theorem e2_tabs : ∀x,x∈([]:List (Nat×List Tent)) -> ∀e,e∈x.2->TentOK Tryz.prog x.1 e:=by
 intro x hx
 simp at hx
theorem e2_good:goodE e2=true:=by kernel_rfl
theorem e2_ran:okR (runF (withTabs [] base) 1000 85 e2.args e2.h0 (pieceK e2))=true:=by kernel_rfl
theorem e2_ok:TentOK Tryz.prog 85 e2:=piece_ok (withTabs_ok _ _ e2_tabs baseOK) e2_good e2_ran
end Go.Proofs.YtgpegjmbofgmmaaGreat.jouRun
