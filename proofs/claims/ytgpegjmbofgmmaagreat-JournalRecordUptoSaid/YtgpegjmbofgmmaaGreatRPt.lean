/- A part of the proof. No condition. -/
import Derived.Test.YtgpegjmbofgmmaaGreatProg
import Derived.Below
import Derived.Deep.Draws
import Derived.Deep.AppendLies
import Derived.Maps.AppendAt
import Derived.OwnWalk
import Derived.Laws.BytesArg
import Derived.Laws.MakeOwn
import Derived.Laws.OwnMore
import Derived.Deep.OwnRows
import Derived.Tactics
import Derived.Lib.ConvBytes
import Derived.Laws.Slices
import Derived.WalkKit
import Derived.KernelRfl
import Derived.RowKit3
import Derived.Deep.LoopGhost
import Derived.Deep.QuietTactic
import Derived.BigQuiet
import Derived.WideLaws
import Derived.Deep.DeepCutAuto
import Derived.Deep.CutBlock
import Derived.Deep.RegionHeld3
import Derived.Laws.Rows
import Derived.Lib.AppendStr
import Derived.ArgAppend
import Derived.Laws.IdiomCopy
import Derived.OrdersHeld
import Derived.Laws.BitsLemmas
import Derived.RowKit
import Derived.Test.YtgpegjmbofgmmaaGreatRWd
namespace Go.Proofs.YtgpegjmbofgmmaaGreat.PJot
open Go.RowKit Go.Proofs.YtgpegjmbofgmmaaGreatW.PrintWords Go.Proofs.YtgpegjmbofgmmaaGreatW.PrintLast Go.Proofs.YtgpegjmbofgmmaaGreatW.PrintMore
attribute [local go_sem] max2_int min2_int max_two min_two max_three min_three max_four min_four
set_option linter.unusedVariables false
set_option linter.unusedSimpArgs false
theorem info29:(Tryz.prog.info? 29).map (fun i=>(i.zero,i.size,i.bytes))=some (some (.agg #[(.int .i64 0),(.int .i64 0),(.int .i64 0),(.int .i64 0)]),4,32):=by kernel_rfl
structure S29 where
 f0:Int
 f1:Int
 f2:Int
 f3:Int
def z29:S29:=⟨(0:Int),(0:Int),(0:Int),(0:Int)⟩
def k29:Kd S29:=Kd.iso (Kd.pair (Kd.int .i64) (Kd.pair (Kd.int .i64) (Kd.pair (Kd.int .i64) (Kd.int .i64)))) (fun x:S29=>(x.f0,x.f1,x.f2,x.f3))
theorem k29_open {w:World} {x:S29} {cs:List Value} (h:k29.K w x cs):cs = [.int .i64 x.f0,.int .i64 x.f1,.int .i64 x.f2,.int .i64 x.f3]:=by
 obtain⟨_,_,rfl,rfl,⟨_,_,rfl,rfl,⟨_,_,rfl,rfl,rfl⟩⟩⟩:=h
 exact rfl
theorem k29_mkM (w:World) (base:Nat) (ok:Nat->Prop) (x:S29):k29.M w base ok x [.int .i64 x.f0,.int .i64 x.f1,.int .i64 x.f2,.int .i64 x.f3]:=⟨[.int .i64 x.f0],[.int .i64 x.f1,.int .i64 x.f2,.int .i64 x.f3],rfl,rfl,⟨[.int .i64 x.f1],[.int .i64 x.f2,.int .i64 x.f3],rfl,rfl,⟨[.int .i64 x.f2],[.int .i64 x.f3],rfl,rfl,rfl⟩⟩⟩
def rd_T29 (xs:List S29) (i:Int):S29:=xs.getD i.toNat z29
theorem at_T29 {w:World} {A:Option Addr} {n:Nat} {xs:List S29} (h:Kd.C k29 w A n xs) (i:Int) (h0:0<=i) (h1:i<n) : ∃ad,A=some ad/\w.cell? (ad.add (i.toNat*4))=some (.int .i64 (rd_T29 xs i).f0)/\w.cell? ⟨(ad.add (i.toNat*4)).block,(ad.add (i.toNat*4)).off+1,none⟩=some (.int .i64 (rd_T29 xs i).f1)/\w.cell? ⟨(ad.add (i.toNat*4)).block,(ad.add (i.toNat*4)).off+2,none⟩=some (.int .i64 (rd_T29 xs i).f2)/\w.cell? ⟨(ad.add (i.toNat*4)).block,(ad.add (i.toNat*4)).off+3,none⟩=some (.int .i64 (rd_T29 xs i).f3):=by
 obtain⟨ad,c,e,_,hK,hc0⟩:=Kd.C_get h z29 i h0 h1
 have hc : ∀j u,c[j]?=some u->w.cell? (ad.add (i.toNat*4+j))=some u:=hc0
 obtain rfl:=k29_open hK
 exact⟨ad,e,hc 0 _ rfl,by rw[<- add_field _ _ 1 (by omega)];exact hc 1 _ rfl,by rw[<- add_field _ _ 2 (by omega)];exact hc 2 _ rfl,by rw[<- add_field _ _ 3 (by omega)];exact hc 3 _ rfl⟩
end Go.Proofs.YtgpegjmbofgmmaaGreat.PJot
namespace Go.Proofs.YtgpegjmbofgmmaaGreat.PJot
open Go.RowKit Go.Proofs.YtgpegjmbofgmmaaGreatW.PrintWords Go.Proofs.YtgpegjmbofgmmaaGreatW.PrintLast Go.Proofs.YtgpegjmbofgmmaaGreatW.PrintMore
attribute [local go_sem] max2_int min2_int max_two min_two max_three min_three max_four min_four
set_option linter.unusedVariables false
set_option linter.unusedSimpArgs false
mutual
def halideref18_Tiles.l0:Nat->Int->Int->Int->List (S29)->Int->Option ((List (S29)))
 | 0,_,_,_,_,_=>none
 | k+1,x0,x1,x2,x7,x8=>if x8<x1 then (halideref18_Tiles.l1 k x0 x1 x2 x7 x8 0) else (some x7)
def halideref18_Tiles.l1:Nat->Int->Int->Int->List (S29)->Int->Int->Option ((List (S29)))
 | 0,_,_,_,_,_,_=>none
 | k+1,x0,x1,x2,x7,x8,x9=>if x9<x0 then (if x7.length<4398046511104 then (halideref18_Tiles.l1 k x0 x1 x2 (x7 ++ [(⟨x9,x8,mn (wrap64 (x9+x2)) x0,mn (wrap64 (x8+x2)) x1⟩:S29)]) x8 (wrap64 (x9+x2))) else (none)) else (halideref18_Tiles.l0 k x0 x1 x2 x7 (wrap64 (x8+x2)))
end
def halideref18_Tiles.f (k:Nat) (a0:Int) (a1:Int) (a2:Int):Option ((List (S29))):=halideref18_Tiles.l0 k a0 a1 a2 ([]:List (S29)) 0
set_option maxHeartbeats 8000000 in
set_option maxRecDepth 100000 in
theorem halideref18_Tiles.calls (k:Nat) (a0:Int) (a1:Int) (a2:Int) (r:List (S29)) (w:World) (h:halideref18_Tiles.f k a0 a1 a2=some r) :
  Calls Tryz.prog 107 #[.int .i64 a0,.int .i64 a1,.int .i64 a2] w fun e w' => ∃v0_:Value,e = .returned (v0_)/\Kd.R k29 29 w' w.heap.size (fun _=>True) v0_ r/\Below w.heap.size w w':=by
 have hu29:=Tryz.underlying29
 have HB:=Aside0.mk (Below.refl w.heap.size w)
 have H:(halideref18_Tiles.l0 k a0 a1 a2 ([]:List (S29)) 0)=some r:=h
 clear h
 have H':=Aside0.mk H
 clear H
 go_enter Tryz.func107,Tryz.ntmps107
 go_wp2
 go_loopg [7,8] k (fun kq v7 v8 w' => ∃(x7_1:List (S29)) (x8_1:Int),v8 = .int .i64 x8_1/\Aside0 (halideref18_Tiles.l0 kq a0 a1 a2 x7_1 x8_1=some r)/\Aside0 (kq<=k)/\Aside0 (Kd.R k29 29 w' w.heap.size (fun _=>True) v7 x7_1)/\Aside0 (Below w.heap.size w w'))
 case atStart=>exact⟨(([]:List (S29))),(0),(by rfl),H',⟨Nat.le_refl _⟩,⟨by exact Kd.R_nil _ _ _ _ _⟩,⟨by repeat((with_reducible exact HB.out))⟩⟩
 case round =>
  clear H'
  obtain⟨x7_1,x8_1,rfl,HA,HK1,HO_7,HB⟩:=hrel
  cases gk with
  | zero=>exact absurd HA.out (by simp[halideref18_Tiles.l0])
  | succ k1 =>
   have H:=HA.out
   clear HA
   simp only[halideref18_Tiles.l0] at H
   by_cases c4:x8_1<a1
   ·rw[if_pos c4] at H
    have c4b0:decide (x8_1<a1)=true:=decide_eq_true c4
    clear c4
    have H':=Aside0.mk H
    clear H
    go_wp2
    go_loopg [7,9] k1 (fun kq v7 v9 w' => ∃(x7_2:List (S29)) (x9_2:Int),v9 = .int .i64 x9_2/\Aside0 (halideref18_Tiles.l1 kq a0 a1 a2 x7_2 x8_1 x9_2=some r)/\Aside0 (kq<=k1)/\Aside0 (Kd.R k29 29 w' w.heap.size (fun _=>True) v7 x7_2)/\Aside0 (Below w.heap.size w w'))
    case atStart=>exact⟨(x7_1),(0),(by rfl),H',⟨Nat.le_refl _⟩,⟨by(with_reducible repeat(fail));exact HO_7.out⟩,⟨by repeat((with_reducible exact HB.out))⟩⟩
    case round =>
     clear H'
     (try clear c4b0)
     obtain⟨x7_2,x9_2,rfl,HA,HK2,HO_7,HB⟩:=hrel
     cases gk with
     | zero=>exact absurd HA.out (by simp[halideref18_Tiles.l1])
     | succ k2 =>
      have H:=HA.out
      clear HA
      simp only[halideref18_Tiles.l1] at H
      by_cases c5:x9_2<a0
      ·rw[if_pos c5] at H
       have c5b0:decide (x9_2<a0)=true:=decide_eq_true c5
       clear c5
       obtain⟨ji6,hji6⟩ : ∃j_:Int,(mn (wrap64 (x9_2+a2)) a0)=j_:=⟨_,rfl⟩
       replace H:(if x7_2.length<4398046511104 then (halideref18_Tiles.l1 k2 a0 a1 a2 (x7_2 ++ [(⟨x9_2,x8_1,ji6,mn (wrap64 (x8_1+a2)) a1⟩:S29)]) x8_1 (wrap64 (x9_2+a2))) else (none))=some r:=by(rw[hji6] at H;exact H)
       have hji6_:(if a0<(wrap64 (x9_2+a2)) then a0 else (wrap64 (x9_2+a2)))=ji6:=hji6
       obtain⟨ji7,hji7⟩ : ∃j_:Int,(mn (wrap64 (x8_1+a2)) a1)=j_:=⟨_,rfl⟩
       replace H:(if x7_2.length<4398046511104 then (halideref18_Tiles.l1 k2 a0 a1 a2 (x7_2 ++ [(⟨x9_2,x8_1,ji6,ji7⟩:S29)]) x8_1 (wrap64 (x9_2+a2))) else (none))=some r:=by(rw[hji7] at H;exact H)
       have hji7_:(if a1<(wrap64 (x8_1+a2)) then a1 else (wrap64 (x8_1+a2)))=ji7:=hji7
       by_cases c8:x7_2.length<4398046511104
       ·rw[if_pos c8] at H
        have LMc8:=Aside0.mk c8
        clear c8
        obtain⟨y101,hy101⟩ : ∃y_:List (S29),y_=(x7_2 ++ [(⟨x9_2,x8_1,ji6,ji7⟩:S29)]):=⟨_,rfl⟩
        replace H:(halideref18_Tiles.l1 k2 a0 a1 a2 y101 x8_1 (wrap64 (x9_2+a2)))=some r:=by(rw[hy101];with_reducible exact H)
        have Ny101:=Aside0.mk hy101
        clear hy101
        have H':=Aside0.mk H
        clear H
        go_wp2_with (((with_reducible refine gate_builtin (b := .append) (xs := #[.tmp 22,.tmp 36]) rfl ?_);at_builtin;refine Kd.R_append k29 (w0:=w) w.heap.size rfl (.tmp 22) (.tmp 36) 168 29 (.agg #[(.int .i64 0),(.int .i64 0),(.int .i64 0),(.int .i64 0)]) 32 rfl Tryz.underlying168 info29 rfl (by decide) (by omega) u7 x7_2 (⟨x9_2,x8_1,ji6,ji7⟩:S29) [.int .i64 x9_2,.int .i64 x8_1,.int .i64 ji6,.int .i64 ji7] (fun _=>True) (fun _=>False) rfl rfl ?aP (fun _ hk=>hk.elim) ?aF ?aO ?aB ?aS ?aL ?_;(case aP=>exact k29_mkM _ _ _ (⟨x9_2,x8_1,ji6,ji7⟩:S29));(case aB=>exact(by repeat((with_reducible exact HB.out))));(case aF=>exact(fun _ _=>trivial));(case aO=>exact(by(with_reducible repeat(fail));exact HO_7.out));(case aS=>exact(below_size (by repeat((with_reducible exact HB.out)))));(case aL=>have:=LMc8.out;omega);intro v102 w9 ho hb hg hat;rw[<- Ny101.out] at ho;have n0_:=Aside0.mk (hb);have n1_:=Aside0.mk (ho);clear HB;clear HO_7;have HB:=n0_;have HO103:=n1_;clear n0_ n1_;clear ho hb hg hat))
        go_roundg k2
        case measure=>have:=HK1.out;have:=HK2.out;omega
        case rel=>exact⟨(y101),(wrap64 (x9_2+a2)),(by rfl),H',⟨by have:=HK1.out;have:=HK2.out;omega⟩,⟨by(with_reducible repeat(fail));exact HO103.out⟩,⟨by repeat((with_reducible exact HB.out))⟩⟩
       ·rw[if_neg c8] at H
        exact absurd H (by simp)
      ·rw[if_neg c5] at H
       have c5b0:decide (x9_2<a0)=false:=decide_eq_false c5
       clear c5
       have H':=Aside0.mk H
       clear H
       go_wp2
       go_roundg k2
       case measure=>have:=HK1.out;have:=HK2.out;omega
       case rel=>exact⟨(x7_2),(wrap64 (x8_1+a2)),(by rfl),H',⟨by have:=HK1.out;have:=HK2.out;omega⟩,⟨by(with_reducible repeat(fail));exact HO_7.out⟩,⟨by repeat((with_reducible exact HB.out))⟩⟩
   ·rw[if_neg c4] at H
    have c4b0:decide (x8_1<a1)=false:=decide_eq_false c4
    clear c4
    obtain rfl:=Option.some.inj H
    go_wp2
    go_ret
    exact⟨_,by rfl,by(with_reducible repeat(fail));exact HO_7.out,by repeat((with_reducible exact HB.out))⟩
end Go.Proofs.YtgpegjmbofgmmaaGreat.PJot
