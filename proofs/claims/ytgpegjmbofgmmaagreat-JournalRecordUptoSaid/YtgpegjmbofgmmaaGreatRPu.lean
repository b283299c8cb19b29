/- A part of the proof. No condition. -/
import Derived.Test.YtgpegjmbofgmmaaGreatProg
import Derived.Below
import Derived.Deep.Draws
import Derived.Deep.AppendLies
import Derived.Maps.AppendAt
import Derived.OwnWalk
import Derived.Laws.BytesArg
import Derived.Laws.MakeOwn
import Derived.Laws.OwnMore
import Derived.Deep.OwnRows
import Derived.Tactics
import Derived.Lib.ConvBytes
import Derived.Laws.Slices
import Derived.WalkKit
import Derived.KernelRfl
import Derived.RowKit3
import Derived.Deep.LoopGhost
import Derived.Deep.QuietTactic
import Derived.BigQuiet
import Derived.WideLaws
import Derived.Deep.DeepCutAuto
import Derived.Deep.CutBlock
import Derived.Deep.RegionHeld3
import Derived.Laws.Rows
import Derived.Lib.AppendStr
import Derived.ArgAppend
import Derived.Laws.IdiomCopy
import Derived.OrdersHeld
import Derived.Laws.BitsLemmas
import Derived.RowKit
import Derived.Test.YtgpegjmbofgmmaaGreatRWd
namespace Go.Proofs.YtgpegjmbofgmmaaGreatW.PrintWords
open Go.RowKit Go.Proofs.YtgpegjmbofgmmaaGreatW.PrintLast
section
variable {P:Program} {ops:Array Oper} {Q:Exit->Act->World->Prop} {S:World->Prop} {ds:List Nat} {T:Bool×List (List Nat×List Nat)} {B:List Nat} {md:Region.Mode}
theorem pu (i n:Nat) {oi:Oper} {v:Value} {fuel:Nat} {l:Array Bool} {a:Act} {w:World} {a':Act} (HT:Aside0 (rtab md ops=T))
  (h:wpAnyLast P md ops Q S ds fuel (l.setIfInBounds i true) a' w)
  (hi:ops[i]?=some oi:=by rfl) (hN:oi.dst=some n:=by rfl) (hc:anyT T l.toList (l.setIfInBounds i true).toList i=true:=by kernel_rfl)
  (hQ : ∀c a w,Q (.panic c) (a.put oi.dst v) w->Q (.panic c) a w:=by exact fun _ _ _ h=>h)
  (hg:Region.wanted oi (yielded ops a.tmps)=true:=by rfl)
  (hy : ∀w,(execOp a.eval oi).run P w = .ok (.value v) w:=by intro w';go_simp;with_reducible rfl)
  (ha:a.put (some n) v=a':=by simp only[Act.put,List.setIfInBounds_toArray,List.set_cons_zero,List.set_cons_succ,i64_w,i32_w];rfl) :
  wpAnyLast P md ops Q S ds (fuel+1) l a w:=pure_ _ hi hN (any_of HT.out hc) hQ (Or.inl ⟨hg,hy⟩) ha h
theorem tk (i n:Nat) {oi:Oper} {v:Value} {fuel:Nat} {l:Array Bool} {a:Act} {w:World} {a':Act} (HT:Aside0 (rtab md ops=T)) (HW:Aside0 (waitsOk T.2 B=true)) (hS:S w) (hi:ops[i]?=some oi)
  (hy : ∀w,S w->(execOp a.eval oi).run P w = .ok (.value v) w) (h:wpAnyLast P md ops Q S ds fuel (l.setIfInBounds i true) a' w)
  (hN:oi.dst=some n:=by rfl) (hc:takeW T B ds l.toList (l.setIfInBounds i true).toList i=true:=by kernel_rfl)
  (hQ : ∀c a w,Q (.panic c) (a.put oi.dst v) w->Q (.panic c) a w:=by exact fun _ _ _ h=>h)
  (hg:Region.wanted oi (yielded ops a.tmps)=true:=by rfl)
  (ha:a.put (some n) v=a':=by simp only[Act.put,List.setIfInBounds_toArray,List.set_cons_zero,List.set_cons_succ,i64_w,i32_w];rfl) :
  wpAnyLast P md ops Q S ds (fuel+1) l a w:=take_ _ hi hN (take_ofW HT.out HW.out hc) hQ (Or.inl ⟨hg,hy⟩) hS ha h
end
end Go.Proofs.YtgpegjmbofgmmaaGreatW.PrintWords
namespace Go.Proofs.YtgpegjmbofgmmaaGreat.PJop
open Go.RowKit Go.Proofs.YtgpegjmbofgmmaaGreatW.PrintWords Go.Proofs.YtgpegjmbofgmmaaGreatW.PrintLast Go.Proofs.YtgpegjmbofgmmaaGreatW.PrintMore
attribute [local go_sem] max2_int min2_int max_two min_two max_three min_three max_four min_four
set_option linter.unusedVariables false
set_option linter.unusedSimpArgs false
theorem info5:(Tryz.prog.info? 5).map (fun i=>(i.zero,i.size,i.bytes))=some (some (.int .u8 0),1,1):=by kernel_rfl
theorem info56:(Tryz.prog.info? 56).map (fun i=>(i.zero,i.size,i.bytes))=some (some (.int .u32 0),1,4):=by kernel_rfl
structure S58 where
 f0:Int
 f1:Int
 f2:(List Int)
def z58:S58:=⟨(0:Int),(0:Int),([]:List Int)⟩
def k58:Kd S58:=Kd.iso (Kd.pair (Kd.int .i64) (Kd.pair (Kd.int .i64) (Kd.slice 56 (Kd.int .u32)))) (fun x:S58=>(x.f0,x.f1,x.f2))
theorem k58_open {w:World} {x:S58} {cs:List Value} (h:k58.K w x cs) : ∃A2 c2,cs = [.int .i64 x.f0,.int .i64 x.f1,.slice A2 x.f2.length c2]/\x.f2.length<=c2/\(Kd.int .u32).C w A2 x.f2.length x.f2:=by
 obtain⟨_,_,rfl,rfl,⟨_,_,rfl,rfl,⟨A2,c2,rfl,l2,g2⟩⟩⟩:=h
 exact⟨A2,c2,rfl,l2,g2⟩
theorem k58_mk (w:World) (x:S58) {A2:Option Addr} {c2:Nat} (l2:x.f2.length<=c2) (g2:(Kd.int .u32).C w A2 x.f2.length x.f2):k58.K w x [.int .i64 x.f0,.int .i64 x.f1,.slice A2 x.f2.length c2]:=⟨[.int .i64 x.f0],[.int .i64 x.f1,.slice A2 x.f2.length c2],rfl,rfl,⟨[.int .i64 x.f1],[.slice A2 x.f2.length c2],rfl,rfl,⟨A2,c2,rfl,l2,g2⟩⟩⟩
theorem k58_mkM (w:World) (base:Nat) (ok:Nat->Prop) (x:S58) {v2:Value} (g2:(Kd.int .u32).R 56 w base ok v2 x.f2):k58.M w base ok x [.int .i64 x.f0,.int .i64 x.f1,v2]:=⟨[.int .i64 x.f0],[.int .i64 x.f1,v2],rfl,rfl,⟨[.int .i64 x.f1],[v2],rfl,rfl,⟨v2,rfl,g2⟩⟩⟩
def rd_T58 (xs:List S58) (i:Int):S58:=xs.getD i.toNat z58
theorem at_T58 {w:World} {A:Option Addr} {n:Nat} {xs:List S58} (h:Kd.C k58 w A n xs) (i:Int) (h0:0<=i) (h1:i<n) : ∃ad A2 c2,A=some ad/\w.cell? (ad.add (i.toNat*3))=some (.int .i64 (rd_T58 xs i).f0)/\w.cell? ⟨(ad.add (i.toNat*3)).block,(ad.add (i.toNat*3)).off+1,none⟩=some (.int .i64 (rd_T58 xs i).f1)/\w.cell? ⟨(ad.add (i.toNat*3)).block,(ad.add (i.toNat*3)).off+2,none⟩=some (.slice A2 (rd_T58 xs i).f2.length c2)/\(rd_T58 xs i).f2.length<=c2/\(Kd.int .u32).C w A2 (rd_T58 xs i).f2.length (rd_T58 xs i).f2:=by
 obtain⟨ad,c,e,_,hK,hc0⟩:=Kd.C_get h z58 i h0 h1
 have hc : ∀j u,c[j]?=some u->w.cell? (ad.add (i.toNat*3+j))=some u:=hc0
 obtain⟨A2,c2,rfl,l2,g2⟩:=k58_open hK
 exact⟨ad,A2,c2,e,hc 0 _ rfl,by rw[<- add_field _ _ 1 (by omega)];exact hc 1 _ rfl,by rw[<- add_field _ _ 2 (by omega)];exact hc 2 _ rfl,l2,g2⟩
end Go.Proofs.YtgpegjmbofgmmaaGreat.PJop
