/- A part of the proof. No condition. -/
import Derived.Test.YtgpegjmbofgmmaaGreatRJa
import Derived.KernelRfl
namespace Go.Proofs.YtgpegjmbofgmmaaGreat.jouRun
open Go.Ab
def e0:Tent :=
  ⟨[sl 217 2 2],218,[(213,.cells (u32s (List.replicate 16 0)) none),(214,.cells [q 4,q 4,sl 213 16 16] none),(215,.cells [q 0] none),(216,.cells (i64s [2,1,2])
  none),(217,.cells [q 1,.slice none 0 0,.slice none 0 0,.slice none 0 0,q 0,sl 214 1 1,q 12,sl 215 1 1,sl 216 3 3,.slice none 0 0,q 0,.slice none 0 0] none)],
  .tuple ⟨[.pointer (some ⟨218,0,none⟩),q 0]⟩,530,[(213,.cells (u32s (List.replicate 16 0)) none),(214,.cells [q 4,q 4,sl 213 16 16] none),(215,.cells [q 0] none),
  (216,.cells (i64s [2,1,2]) none),(217,.cells [q 1,.slice none 0 0,.slice none 0 0,.slice none 0 0,q 0,sl 214 1 1,q 12,sl 215 1 1,sl 216 3 3,.slice none 0 0,q 0,
  .slice none 0 0] none),(218,.cells [sn 529 11 2 2] none),(231,.cells (u32s (List.replicate 16 0)) (some 1)),(233,.cells [q 4,q 4,sn 231 1 16 16] (some 3)),(258,
  .cells [q 0] (some 1)),(260,.cells (i64s [2,1,2]) (some 1)),(269,.cells [sn 260 1 3 3] none),(270,.cells [q 2] none),(271,.cells [q 4] none),(272,.cells [q 1]
  none),(273,.cells [q 1] none),(274,.cells [q 2] none),(275,.cells [q 4] none),(276,.cells [q 1] none),(277,.cells [q 1] none),(529,.cells [q 1,.slice none 0 0,
  .slice none 0 0,.slice none 0 0,q 0,sn 233 3 1 1,.iface 385 (.agg ⟨[q 0,sn 233 3 1 1]⟩),q 4,q 4,q 0,q 1,q 12,sn 258 1 1 1,sn 260 1 3 3,.slice none 0 0,q 0,
  .slice none 0 0,.iface 502 (.agg ⟨[.func (.func 389) ⟨[]⟩ ⟨[.pointer (some ⟨269,0,none⟩)]⟩,.func (.func 503) ⟨[]⟩ ⟨[.pointer (some ⟨272,0,none⟩),.pointer (some ⟨273,0,
  none⟩),.pointer (some ⟨270,0,none⟩),.pointer (some ⟨271,0,none⟩)]⟩,.func (.func 503) ⟨[]⟩ ⟨[.pointer (some ⟨276,0,none⟩),.pointer (some ⟨277,0,none⟩),.pointer
  (some ⟨274,0,none⟩),.pointer (some ⟨275,0,none⟩)]⟩]⟩),q 4,q 4,q 0,q 1] (some 11))]⟩
theorem e0_tabs : ∀x,x∈([]:List (Nat×List Tent)) -> ∀e,e∈x.2->TentOK Tryz.prog x.1 e:=by
 intro x hx
 simp at hx
theorem e0_good:goodE e0=true:=by kernel_rfl
theorem e0_ran:okR (runF (withTabs [] base) 1000 85 e0.args e0.h0 (pieceK e0))=true:=by kernel_rfl
theorem e0_ok:TentOK Tryz.prog 85 e0:=piece_ok (withTabs_ok _ _ e0_tabs baseOK) e0_good e0_ran
end Go.Proofs.YtgpegjmbofgmmaaGreat.jouRun
namespace Go.Proofs.YtgpegjmbofgmmaaGreat.jouRun
open Go.Ab
def e1:Tent :=
  ⟨[sl 217 2 2,q 2,q 9,q 1],218,[(213,.cells (u32s (List.replicate 16 0)) none),(214,.cells [q 4,q 4,sl 213 16 16] none),(215,.cells [q 0] none),(216,.cells (i64s
  [2,1,2]) none),(217,.cells [q 1,.slice none 0 0,.slice none 0 0,.slice none 0 0,q 0,sl 214 1 1,q 12,sl 215 1 1,sl 216 3 3,.slice none 0 0,q 0,.slice none 0 0]
  none)],.tuple ⟨[.pointer (some ⟨968,0,none⟩),q 0]⟩,969,[(213,.cells (u32s (List.replicate 16 0)) none),(214,.cells [q 4,q 4,sl 213 16 16] none),(215,.cells [q 0]
  none),(216,.cells (i64s [2,1,2]) none),(217,.cells [q 1,.slice none 0 0,.slice none 0 0,.slice none 0 0,q 0,sl 214 1 1,q 12,sl 215 1 1,sl 216 3 3,.slice none 0
  0,q 0,.slice none 0 0] none),(218,.cells [sn 529 11 2 2] none),(231,.cells (u32s (List.replicate 16 0)) (some 1)),(233,.cells [q 4,q 4,sn 231 1 16 16] (some 3)),
  (258,.cells [q 0] (some 1)),(260,.cells (i64s [2,1,2]) (some 1)),(269,.cells [sn 260 1 3 3] none),(270,.cells [q 2] none),(271,.cells [q 4] none),(272,.cells [q
  1] none),(273,.cells [q 1] none),(274,.cells [q 2] none),(275,.cells [q 4] none),(276,.cells [q 1] none),(277,.cells [q 1] none),(529,.cells [q 1,.slice none 0 0,
  .slice none 0 0,.slice none 0 0,q 0,sn 233 3 1 1,.iface 385 (.agg ⟨[q 0,sn 233 3 1 1]⟩),q 4,q 4,q 0,q 1,q 12,sn 258 1 1 1,sn 260 1 3 3,.slice none 0 0,q 0,
  .slice none 0 0,.iface 502 (.agg ⟨[.func (.func 389) ⟨[]⟩ ⟨[.pointer (some ⟨269,0,none⟩)]⟩,.func (.func 503) ⟨[]⟩ ⟨[.pointer (some ⟨272,0,none⟩),.pointer (some ⟨273,0,
  none⟩),.pointer (some ⟨270,0,none⟩),.pointer (some ⟨271,0,none⟩)]⟩,.func (.func 503) ⟨[]⟩ ⟨[.pointer (some ⟨276,0,none⟩),.pointer (some ⟨277,0,none⟩),.pointer
  (some ⟨274,0,none⟩),.pointer (some ⟨275,0,none⟩)]⟩]⟩),q 4,q 4,q 0,q 1] (some 11)),(530,.map []),(531,.cells [q 9,q 0,.map (some 530)] none),(532,.cells
  [.pointer (some ⟨218,0,none⟩),.pointer (some ⟨531,0,none⟩),q 2,q 1,.slice none 0 0,.slice none 0 0] none),(967,.cells (u8s [0,0,0,171,0,72,76,74,49,0,0,
  0,0,0,0,0,2,0,0,0,0,0,0,0,9,0,0,0,0,0,0,0,1,0,0,0,0,0,0,0,2,0,0,0,0,0,0,0,1,0,0,0,0,0,0,0,0,0,0,0,0,0,0,0,0,0,0,0,0,
  0,0,0,0,0,0,0,0,0,0,0,30,72,76,68,49,0,1,0,4,0,4,4,0,0,0,0,6,166,253,241,197,0,0,0,0,0,0,177,194,161,163,0,0,0,0,0,0,0,12,0,
  0,0,0,0,0,0,1,0,0,0,0,0,0,0,0,0,0,0,0,0,0,0,3,0,0,0,0,0,0,0,2,0,0,0,0,0,0,0,1,0,0,0,0,0,0,0,2,0,0,0,0,0,0,0,0,59,15,
  191,160]) (some 1)),(968,.cells [.pointer (some ⟨532,0,none⟩),sn 967 1 179 179,q 179,.bool false] none)]⟩
theorem e1_tabs : ∀x,x∈([(85,[e0])]:List (Nat×List Tent)) -> ∀e,e∈x.2->TentOK Tryz.prog x.1 e:=by
 intro x hx
 simp only[List.mem_cons,List.not_mem_nil,or_false] at hx
 subst hx
 intro e he
 simp only[List.mem_cons,List.not_mem_nil,or_false] at he
 subst he
 exact e0_ok
theorem e1_good:goodE e1=true:=by kernel_rfl
theorem e1_ran:okR (runF (withTabs [(85,[e0])] base) 1000 17 e1.args e1.h0 (pieceK e1))=true:=by kernel_rfl
theorem e1_ok:TentOK Tryz.prog 17 e1:=piece_ok (withTabs_ok _ _ e1_tabs baseOK) e1_good e1_ran
end Go.Proofs.YtgpegjmbofgmmaaGreat.jouRun
