/- A part of the proof. No condition. -/
import Derived.Test.YtgpegjmbofgmmaaGreatRP2
import Derived.KernelRfl
namespace Go.Proofs.YtgpegjmbofgmmaaGreat.jouRun
open Go.Ab
def e3:Tent :=
  ⟨[.pointer (some ⟨968,0,none⟩),.agg ⟨[q 1,q 0,q 1,q 2,q 0,sl 970 1 1,.slice none 0 0,.slice none 0 0,q 0,q 0,q 0,q 0]⟩],972,[(218,.cells [sn 529 11 2 2]
  none),(231,.cells (u32s (List.replicate 16 0)) (some 1)),(233,.cells [q 4,q 4,sn 231 1 16 16] (some 3)),(258,.cells [q 0] (some 1)),(260,.cells (i64s [2,1,2])
  (some 1)),(269,.cells [sn 260 1 3 3] none),(270,.cells [q 2] none),(271,.cells [q 4] none),(272,.cells [q 1] none),(273,.cells [q 1] none),(274,.cells [q 2] none),
  (275,.cells [q 4] none),(276,.cells [q 1] none),(277,.cells [q 1] none),(529,.cells [q 1,.slice none 0 0,.slice none 0 0,.slice none 0 0,q 0,sn 233 3 1 1,.iface
  385 (.agg ⟨[q 0,sn 233 3 1 1]⟩),q 4,q 4,q 0,q 1,q 12,sn 258 1 1 1,sn 260 1 3 3,.slice none 0 0,q 0,.slice none 0 0,.iface 502 (.agg ⟨[.func (.func 389) ⟨[]⟩
  ⟨[.pointer (some ⟨269,0,none⟩)]⟩,.func (.func 503) ⟨[]⟩ ⟨[.pointer (some ⟨272,0,none⟩),.pointer (some ⟨273,0,none⟩),.pointer (some ⟨270,0,none⟩),.pointer (some
  ⟨271,0,none⟩)]⟩,.func (.func 503) ⟨[]⟩ ⟨[.pointer (some ⟨276,0,none⟩),.pointer (some ⟨277,0,none⟩),.pointer (some ⟨274,0,none⟩),.pointer (some ⟨275,0,
  none⟩)]⟩]⟩),q 4,q 4,q 0,q 1] (some 11)),(530,.map []),(531,.cells [q 9,q 0,.map (some 530)] none),(532,.cells [.pointer (some ⟨218,0,none⟩),.pointer (some ⟨531,
  0,none⟩),q 2,q 1,.slice none 0 0,.slice none 0 0] none),(967,.cells (u8s [0,0,0,171,0,72,76,74,49,0,0,0,0,0,0,0,2,0,0,0,0,0,0,0,9,0,0,0,0,
  0,0,0,1,0,0,0,0,0,0,0,2,0,0,0,0,0,0,0,1,0,0,0,0,0,0,0,0,0,0,0,0,0,0,0,0,0,0,0,0,0,0,0,0,0,0,0,0,0,0,0,30,72,76,68,49,0,
  1,0,4,0,4,4,0,0,0,0,6,166,253,241,197,0,0,0,0,0,0,177,194,161,163,0,0,0,0,0,0,0,12,0,0,0,0,0,0,0,1,0,0,0,0,0,0,0,0,0,0,0,0,
  0,0,0,3,0,0,0,0,0,0,0,2,0,0,0,0,0,0,0,1,0,0,0,0,0,0,0,2,0,0,0,0,0,0,0,0,59,15,191,160]) (some 1)),(968,.cells [.pointer (some ⟨532,0,
  none⟩),sn 967 1 179 179,q 179,.bool false] none),(969,.cells [h 5] none),(970,.cells [q 1,q 1,sl 969 1 1] none)],.agg ⟨[q 0,q 0,.slice none 0 0,.slice none 0 0]⟩,
  2026,[(218,.cells [sn 529 11 2 2] none),(231,.cells (u32s (List.replicate 16 0)) (some 1)),(233,.cells [q 4,q 4,sn 231 1 16 16] (some 3)),(258,.cells [q 0] (some
  1)),(260,.cells (i64s [2,1,2]) (some 1)),(269,.cells [sn 260 1 3 3] none),(270,.cells [q 2] none),(271,.cells [q 4] none),(272,.cells [q 1] none),(273,.cells [q
  1] none),(274,.cells [q 2] none),(275,.cells [q 4] none),(276,.cells [q 1] none),(277,.cells [q 1] none),(529,.cells [q 1,.slice none 0 0,.slice none 0 0,.slice
  none 0 0,q 0,sn 233 3 1 1,.iface 385 (.agg ⟨[q 0,sn 233 3 1 1]⟩),q 4,q 4,q 0,q 1,q 12,sn 258 1 1 1,sn 260 1 3 3,.slice none 0 0,q 0,.slice none 0 0,.iface 502
  (.agg ⟨[.func (.func 389) ⟨[]⟩ ⟨[.pointer (some ⟨269,0,none⟩)]⟩,.func (.func 503) ⟨[]⟩ ⟨[.pointer (some ⟨272,0,none⟩),.pointer (some ⟨273,0,none⟩),.pointer (some
  ⟨270,0,none⟩),.pointer (some ⟨271,0,none⟩)]⟩,.func (.func 503) ⟨[]⟩ ⟨[.pointer (some ⟨276,0,none⟩),.pointer (some ⟨277,0,none⟩),.pointer (some ⟨274,0,none⟩),
  .pointer (some ⟨275,0,none⟩)]⟩]⟩),q 4,q 4,q 0,q 1] (some 11)),(530,.map []),(531,.cells [q 9,q 0,.map (some 530)] none),(532,.cells [.pointer (some ⟨1303,0,
  none⟩),.pointer (some ⟨531,0,none⟩),q 2,q 1,sn 2023 1 1 1,.slice none 0 0] none),(967,.gone),(968,.cells [.pointer (some ⟨532,0,none⟩),sn 2025 1 245 245,q 179,
  .bool false] none),(969,.cells [h 5] none),(970,.cells [q 1,q 1,sl 969 1 1] none),(1186,.cells [h 0] none),(1191,.cells [q 1,q 1,sl 1186 1 1] (some 3)),(1214,
  .cells [h 5] none),(1219,.cells [q 1,q 1,sl 1214 1 1] (some 3)),(1303,.cells [sn 1614 11 2 2] none),(1316,.cells (u32s [0,0,0,0,0,0,0,0,0,5,0,0,0,0,0,
  0]) (some 1)),(1318,.cells [q 4,q 4,sn 1316 1 16 16] (some 3)),(1343,.cells [q 0] (some 1)),(1345,.cells (i64s [2,1,2]) (some 1)),(1354,.cells [sn 1345 1 3 3]
  none),(1355,.cells [q 2] none),(1356,.cells [q 4] none),(1357,.cells [q 1] none),(1358,.cells [q 1] none),(1359,.cells [q 2] none),(1360,.cells [q 4] none),(1361,
  .cells [q 1] none),(1362,.cells [q 1] none),(1614,.cells [q 1,.slice none 0 0,.slice none 0 0,.slice none 0 0,q 0,sn 1318 3 1 1,.iface 385 (.agg ⟨[q 0,sn 1318 3 1
  1]⟩),q 4,q 4,q 0,q 1,q 12,sn 1343 1 1 1,sn 1345 1 3 3,.slice none 0 0,q 0,.slice none 0 0,.iface 502 (.agg ⟨[.func (.func 389) ⟨[]⟩ ⟨[.pointer (some ⟨1354,0,
  none⟩)]⟩,.func (.func 503) ⟨[]⟩ ⟨[.pointer (some ⟨1357,0,none⟩),.pointer (some ⟨1358,0,none⟩),.pointer (some ⟨1355,0,none⟩),.pointer (some ⟨1356,0,none⟩)]⟩,.func
  (.func 503) ⟨[]⟩ ⟨[.pointer (some ⟨1361,0,none⟩),.pointer (some ⟨1362,0,none⟩),.pointer (some ⟨1359,0,none⟩),.pointer (some ⟨1360,0,none⟩)]⟩]⟩),q 4,q 4,q 0,q 1]
  (some 11)),(2023,.cells [.iface 209 (.agg ⟨[q 0,q 1,q 2,q 2,q 3,q 0,sn 1219 3 1 1,q 0,sn 1191 3 1 1]⟩)] (some 1)),(2025,.cells (u8s [0,0,0,171,0,72,76,74,
  49,0,0,0,0,0,0,0,2,0,0,0,0,0,0,0,9,0,0,0,0,0,0,0,1,0,0,0,0,0,0,0,2,0,0,0,0,0,0,0,1,0,0,0,0,0,0,0,0,0,0,0,0,0,0,0,0,0,
  0,0,0,0,0,0,0,0,0,0,0,0,0,0,30,72,76,68,49,0,1,0,4,0,4,4,0,0,0,0,6,166,253,241,197,0,0,0,0,0,0,177,194,161,163,0,0,0,0,0,0,
  0,12,0,0,0,0,0,0,0,1,0,0,0,0,0,0,0,0,0,0,0,0,0,0,0,3,0,0,0,0,0,0,0,2,0,0,0,0,0,0,0,1,0,0,0,0,0,0,0,2,0,0,0,0,0,0,0,0,
  59,15,191,160,0,0,0,58,1,0,0,0,0,0,0,0,0,0,0,0,0,0,0,0,1,0,0,0,0,0,0,0,2,0,0,0,0,0,0,0,25,72,76,68,49,0,1,0,1,0,1,4,0,0,
  0,0,1,32,54,14,142,80,185,105,190,121,253,160,127,184]) (some 1))]⟩
theorem e3_tabs : ∀x,x∈([(85,[e0,e2])]:List (Nat×List Tent)) -> ∀e,e∈x.2->TentOK Tryz.prog x.1 e:=by
 intro x hx
 simp only[List.mem_cons,List.not_mem_nil,or_false] at hx
 subst hx
 intro e he
 simp only[List.mem_cons,List.not_mem_nil,or_false] at he
 rcases he with rfl|rfl
 ·exact e0_ok
 ·exact e2_ok
theorem e3_good:goodE e3=true:=by kernel_rfl
theorem e3_ran:okR (runF (withTabs [(85,[e0,e2])] base) 1000 20 e3.args e3.h0 (pieceK e3))=true:=by kernel_rfl
theorem e3_ok:TentOK Tryz.prog 20 e3:=piece_ok (withTabs_ok _ _ e3_tabs baseOK) e3_good e3_ran
end Go.Proofs.YtgpegjmbofgmmaaGreat.jouRun
