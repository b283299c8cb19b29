/- A part of the proof. No condition. -/
import Derived.Test.YtgpegjmbofgmmaaGreatRP8
import Derived.KernelRfl
namespace Go.Proofs.YtgpegjmbofgmmaaGreat.jouRun
open Go.Ab
def e9:Tent :=
  ⟨[.pointer (some ⟨968,0,none⟩),.agg ⟨[q 4,q 0,q 0,q 0,q 0,.slice none 0 0,.slice none 0 0,.slice none 0 0,q 0,q 0,q 0,q 0]⟩],3245,[(530,.map []),(531,.cells
  [q 9,q 0,.map (some 530)] none),(532,.cells [.pointer (some ⟨2841,0,none⟩),.pointer (some ⟨531,0,none⟩),q 2,q 1,sn 2802 1 1 1,sn 3237 1 1 1] none),(968,.cells
  [.pointer (some ⟨532,0,none⟩),sn 3239 1 248 311,q 248,.bool true] none),(1186,.cells [h 0] none),(1191,.cells [q 1,q 1,sl 1186 1 1] (some 3)),(1214,.cells [h 5]
  none),(1219,.cells [q 1,q 1,sl 1214 1 1] (some 3)),(2154,.cells [q 0] (some 1)),(2156,.cells (i64s [2,1,2]) (some 1)),(2163,.cells (i64s [2,0,3]) (some 1)),
  (2802,.cells [.iface 209 (.agg ⟨[q 0,q 1,q 2,q 2,q 3,q 0,sn 1219 3 1 1,q 0,sn 1191 3 1 1]⟩),.iface 217 (.agg ⟨[q 1,q 0,q 0,q 4,q 4,q 12,sn 2154 1 1 1,sn 2163
  1 3 3,.slice none 0 0,q 0,.slice none 0 0,q 12,sn 2154 1 1 1,sn 2156 1 3 3,.slice none 0 0,q 0,.slice none 0 0]⟩)] (some 1)),(2841,.cells [sn 3152 11 2 2] none),
  (2854,.cells (u32s [0,0,0,0,0,0,0,0,0,5,0,0,0,0,0,0]) (some 1)),(2856,.cells [q 4,q 4,sn 2854 1 16 16] (some 3)),(2881,.cells [q 0] (some 1)),(2883,
  .cells (i64s [2,1,2]) (some 1)),(2892,.cells [sn 2883 1 3 3] none),(2893,.cells [q 2] none),(2894,.cells [q 4] none),(2895,.cells [q 1] none),(2896,.cells [q 1]
  none),(2897,.cells [q 2] none),(2898,.cells [q 4] none),(2899,.cells [q 1] none),(2900,.cells [q 1] none),(3152,.cells [q 1,.slice none 0 0,.slice none 0 0,.slice
  none 0 0,q 0,sn 2856 3 1 1,.iface 385 (.agg ⟨[q 0,sn 2856 3 1 1]⟩),q 4,q 4,q 0,q 1,q 12,sn 2881 1 1 1,sn 2883 1 3 3,.slice none 0 0,q 0,.slice none 0 0,.iface
  502 (.agg ⟨[.func (.func 389) ⟨[]⟩ ⟨[.pointer (some ⟨2892,0,none⟩)]⟩,.func (.func 503) ⟨[]⟩ ⟨[.pointer (some ⟨2895,0,none⟩),.pointer (some ⟨2896,0,none⟩),.pointer
  (some ⟨2893,0,none⟩),.pointer (some ⟨2894,0,none⟩)]⟩,.func (.func 503) ⟨[]⟩ ⟨[.pointer (some ⟨2899,0,none⟩),.pointer (some ⟨2900,0,none⟩),.pointer (some ⟨2897,0,
  none⟩),.pointer (some ⟨2898,0,none⟩)]⟩]⟩),q 4,q 4,q 0,q 1] (some 11)),(3237,.cells [.iface 217 (.agg ⟨[q 1,q 0,q 0,q 4,q 4,q 12,sn 2154 1 1 1,sn 2163 1 3 3,
  .slice none 0 0,q 0,.slice none 0 0,q 12,sn 2154 1 1 1,sn 2156 1 3 3,.slice none 0 0,q 0,.slice none 0 0]⟩)] (some 1)),(3239,.cells (u8s [0,0,0,171,0,72,76,
  74,49,0,0,0,0,0,0,0,2,0,0,0,0,0,0,0,9,0,0,0,0,0,0,0,1,0,0,0,0,0,0,0,2,0,0,0,0,0,0,0,1,0,0,0,0,0,0,0,0,0,0,0,0,0,0,0,0,
  0,0,0,0,0,0,0,0,0,0,0,0,0,0,0,30,72,76,68,49,0,1,0,4,0,4,4,0,0,0,0,6,166,253,241,197,0,0,0,0,0,0,177,194,161,163,0,0,0,0,0,
  0,0,12,0,0,0,0,0,0,0,1,0,0,0,0,0,0,0,0,0,0,0,0,0,0,0,3,0,0,0,0,0,0,0,2,0,0,0,0,0,0,0,1,0,0,0,0,0,0,0,2,0,0,0,0,0,0,0,
  0,59,15,191,160,0,0,0,58,1,0,0,0,0,0,0,0,0,0,0,0,0,0,0,0,1,0,0,0,0,0,0,0,2,0,0,0,0,0,0,0,25,72,76,68,49,0,1,0,1,0,1,4,0,
  0,0,0,1,32,54,14,142,80,185,105,190,121,253,160,127,184,0,0,0,49,2,0,0,0,0,0,0,0,1,0,0,0,0,0,0,0,3,0,0,0,0,0,0,0,2,0,0,0,0,0,
  0,0,0,0,0,0,0,0,0,0,3,0,0,0,0,0,0,0,0,141,191,99,190,0,0,0,1,3,75,11,190,55]) (some 1))],.agg ⟨[q 254,q 0,.slice none 0 0,.slice none 0 0]⟩,
  3247,[(530,.map []),(531,.cells [q 9,q 0,.map (some 530)] none),(532,.cells [.pointer (some ⟨2841,0,none⟩),.pointer (some ⟨531,0,none⟩),q 2,q 1,sn 2802 1 1 1,
  sn 3237 1 1 1] none),(968,.cells [.pointer (some ⟨532,0,none⟩),sn 3239 1 248 311,q 248,.bool true] none),(1186,.cells [h 0] none),(1191,.cells [q 1,q 1,sl 1186 1
  1] (some 3)),(1214,.cells [h 5] none),(1219,.cells [q 1,q 1,sl 1214 1 1] (some 3)),(2154,.cells [q 0] (some 1)),(2156,.cells (i64s [2,1,2]) (some 1)),(2163,
  .cells (i64s [2,0,3]) (some 1)),(2802,.cells [.iface 209 (.agg ⟨[q 0,q 1,q 2,q 2,q 3,q 0,sn 1219 3 1 1,q 0,sn 1191 3 1 1]⟩),.iface 217 (.agg ⟨[q 1,q 0,q 0,q 4,
  q 4,q 12,sn 2154 1 1 1,sn 2163 1 3 3,.slice none 0 0,q 0,.slice none 0 0,q 12,sn 2154 1 1 1,sn 2156 1 3 3,.slice none 0 0,q 0,.slice none 0 0]⟩)] (some 1)),(2841,
  .cells [sn 3152 11 2 2] none),(2854,.cells (u32s [0,0,0,0,0,0,0,0,0,5,0,0,0,0,0,0]) (some 1)),(2856,.cells [q 4,q 4,sn 2854 1 16 16] (some 3)),(2881,
  .cells [q 0] (some 1)),(2883,.cells (i64s [2,1,2]) (some 1)),(2892,.cells [sn 2883 1 3 3] none),(2893,.cells [q 2] none),(2894,.cells [q 4] none),(2895,.cells [q
  1] none),(2896,.cells [q 1] none),(2897,.cells [q 2] none),(2898,.cells [q 4] none),(2899,.cells [q 1] none),(2900,.cells [q 1] none),(3152,.cells [q 1,.slice
  none 0 0,.slice none 0 0,.slice none 0 0,q 0,sn 2856 3 1 1,.iface 385 (.agg ⟨[q 0,sn 2856 3 1 1]⟩),q 4,q 4,q 0,q 1,q 12,sn 2881 1 1 1,sn 2883 1 3 3,.slice none 0
  0,q 0,.slice none 0 0,.iface 502 (.agg ⟨[.func (.func 389) ⟨[]⟩ ⟨[.pointer (some ⟨2892,0,none⟩)]⟩,.func (.func 503) ⟨[]⟩ ⟨[.pointer (some ⟨2895,0,none⟩),.pointer
  (some ⟨2896,0,none⟩),.pointer (some ⟨2893,0,none⟩),.pointer (some ⟨2894,0,none⟩)]⟩,.func (.func 503) ⟨[]⟩ ⟨[.pointer (some ⟨2899,0,none⟩),.pointer (some ⟨2900,0,
  none⟩),.pointer (some ⟨2897,0,none⟩),.pointer (some ⟨2898,0,none⟩)]⟩]⟩),q 4,q 4,q 0,q 1] (some 11)),(3237,.cells [.iface 217 (.agg ⟨[q 1,q 0,q 0,q 4,q 4,q 12,
  sn 2154 1 1 1,sn 2163 1 3 3,.slice none 0 0,q 0,.slice none 0 0,q 12,sn 2154 1 1 1,sn 2156 1 3 3,.slice none 0 0,q 0,.slice none 0 0]⟩)] (some 1)),(3239,.cells
  (u8s [0,0,0,171,0,72,76,74,49,0,0,0,0,0,0,0,2,0,0,0,0,0,0,0,9,0,0,0,0,0,0,0,1,0,0,0,0,0,0,0,2,0,0,0,0,0,0,0,1,0,0,0,0,0,
  0,0,0,0,0,0,0,0,0,0,0,0,0,0,0,0,0,0,0,0,0,0,0,0,0,0,30,72,76,68,49,0,1,0,4,0,4,4,0,0,0,0,6,166,253,241,197,0,0,0,0,0,0,
  177,194,161,163,0,0,0,0,0,0,0,12,0,0,0,0,0,0,0,1,0,0,0,0,0,0,0,0,0,0,0,0,0,0,0,3,0,0,0,0,0,0,0,2,0,0,0,0,0,0,0,1,0,0,0,
  0,0,0,0,2,0,0,0,0,0,0,0,0,59,15,191,160,0,0,0,58,1,0,0,0,0,0,0,0,0,0,0,0,0,0,0,0,1,0,0,0,0,0,0,0,2,0,0,0,0,0,0,0,25,72,
  76,68,49,0,1,0,1,0,1,4,0,0,0,0,1,32,54,14,142,80,185,105,190,121,253,160,127,184,0,0,0,49,2,0,0,0,0,0,0,0,1,0,0,0,0,0,0,0,3,0,
  0,0,0,0,0,0,2,0,0,0,0,0,0,0,0,0,0,0,0,0,0,0,3,0,0,0,0,0,0,0,0,141,191,99,190,0,0,0,1,3,75,11,190,55]) (some 1))]⟩
theorem e9_tabs : ∀x,x∈([(85,[e0,e2,e4,e5,e7])]:List (Nat×List Tent)) -> ∀e,e∈x.2->TentOK Tryz.prog x.1 e:=by
 intro x hx
 simp only[List.mem_cons,List.not_mem_nil,or_false] at hx
 subst hx
 intro e he
 simp only[List.mem_cons,List.not_mem_nil,or_false] at he
 rcases he with rfl|rfl|rfl|rfl|rfl
 ·exact e0_ok
 ·exact e2_ok
 ·exact e4_ok
 ·exact e5_ok
 ·exact e7_ok
theorem e9_good:goodE e9=true:=by kernel_rfl
theorem e9_ran:okR (runF (withTabs [(85,[e0,e2,e4,e5,e7])] base) 1000 20 e9.args e9.h0 (pieceK e9))=true:=by kernel_rfl
theorem e9_ok:TentOK Tryz.prog 20 e9:=piece_ok (withTabs_ok _ _ e9_tabs baseOK) e9_good e9_ran
end Go.Proofs.YtgpegjmbofgmmaaGreat.jouRun
