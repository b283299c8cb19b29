/- A part of the proof. No condition. -/
import Derived.Test.YtgpegjmbofgmmaaGreatRPu
import Derived.Test.YtgpegjmbofgmmaaGreatRPJopx4
namespace Go.Proofs.YtgpegjmbofgmmaaGreat.PJop
open Go.RowKit Go.Proofs.YtgpegjmbofgmmaaGreatW.PrintWords Go.Proofs.YtgpegjmbofgmmaaGreatW.PrintLast Go.Proofs.YtgpegjmbofgmmaaGreatW.PrintMore
attribute [local go_sem] max2_int min2_int max_two min_two max_three min_three max_four min_four
set_option linter.unusedVariables false
set_option linter.unusedSimpArgs false
mutual
def halidehelp_Picture.j0:Nat->Bool->Int->List (S58)->Int->List (S58)->Option (Bool)
 | 0,_,_,_,_,_=>none
 | k+1,x19,x164000,x164001,x165000,x165001=>if x19=true then (some false) else (halidehelp_Picture.l0 k 0 x164000 x164001 x165000 x165001)
def halidehelp_Picture.l0:Nat->Int->Int->List (S58)->Int->List (S58)->Option (Bool)
 | 0,_,_,_,_,_=>none
 | k+1,x5,x164000,x164001,x165000,x165001=>if x5<(x164001.length:Int) then (if 0<=x5 then (if x5<(x165001.length:Int) then ((halidehelp_Plane.f k ((rd_T58 x164001 x5).f0) ((rd_T58 x164001 x5).f1) ((rd_T58 x164001 x5).f2) ((rd_T58 x165001 x5).f0) ((rd_T58 x165001 x5).f1) ((rd_T58 x165001 x5).f2)).bind fun t167=>(if t167=true then (halidehelp_Picture.l0 k (wrap64 (x5+1)) x164000 x164001 x165000 x165001) else (some false))) else (none)) else (none)) else (some true)
end
def halidehelp_Picture.f (k:Nat) (a0_0:Int) (l0_1:List (S58)) (a1_0:Int) (l1_1:List (S58)):Option (Bool):=if a0_0=a1_0 then (halidehelp_Picture.j0 k ((l0_1.length:Int) !=(l1_1.length:Int)) a0_0 l0_1 a1_0 l1_1) else (halidehelp_Picture.j0 k true a0_0 l0_1 a1_0 l1_1)
def halidehelp_Picture.T6:Bool×List (List Nat×List Nat):=(true,[([],[]),([0],[0]),([],[]),([1,2],[1,2]),([3],[3]),([],[]),([5],[5]),([],[]),([6,7],[6,7]),([8],[8]),([4,9],[4,9]),([10],[10])])
def halidehelp_Picture.B6:List Nat := [0,1,0,7,15,0,32,0,224,480,1023,2047]
theorem halidehelp_Picture.tab6:rtab .any (opsOf Tryz.f45 6)=halidehelp_Picture.T6:=by kernel_rfl
theorem halidehelp_Picture.bits6:waitsOk halidehelp_Picture.T6.2 halidehelp_Picture.B6=true:=by kernel_rfl
set_option maxHeartbeats 8000000 in
set_option maxRecDepth 100000 in
theorem halidehelp_Picture.calls (k:Nat) (a0_0:Int) (A0_1:Option Addr) (c0_1:Nat) (l0_1:List (S58)) (a1_0:Int) (A1_1:Option Addr) (c1_1:Nat) (l1_1:List (S58)) (r:Bool) (w:World) (hr0_1:Kd.C k58 w A0_1 l0_1.length l0_1) (hc0_1:l0_1.length<=c0_1) (hr1_1:Kd.C k58 w A1_1 l1_1.length l1_1) (hc1_1:l1_1.length<=c1_1) (h:halidehelp_Picture.f k a0_0 l0_1 a1_0 l1_1=some r) :
  Calls Tryz.prog 45 #[.agg #[.int .i64 a0_0,.slice A0_1 l0_1.length c0_1],.agg #[.int .i64 a1_0,.slice A1_1 l1_1.length c1_1]] w fun e w'=>e = .returned (.bool r)/\Below w.heap.size w w':=by
 have hu25:=Tryz.underlying25
 have hu58:=Tryz.underlying58
 have HR0_1:=Aside0.mk hr0_1
 have HC0_1:=Aside0.mk hc0_1
 clear hr0_1 hc0_1
 have HR1_1:=Aside0.mk hr1_1
 have HC1_1:=Aside0.mk hc1_1
 clear hr1_1 hc1_1
 have HB:=Aside0.mk (Below.refl w.heap.size w)
 have H:(if a0_0=a1_0 then (halidehelp_Picture.j0 k ((l0_1.length:Int) !=(l1_1.length:Int)) a0_0 l0_1 a1_0 l1_1) else (halidehelp_Picture.j0 k true a0_0 l0_1 a1_0 l1_1))=some r:=h
 clear h
 have HC3:=Aside0.mk H
 clear H
 go_enter Tryz.func45,Tryz.ntmps45
 go_upto_region 1 with (first|((with_reducible refine gate_dst (N:=2) rfl ?_);(try(refine gate_guard (by rfl) ?_;dsimp only));refine box_event ?hg (N:=2) ?hd (cs := #[.int .i64 a0_0,.slice A0_1 l0_1.length c0_1]) (t:=25) ?hr ?_;(case hd=>rfl);(case hg=>rfl);(case hr=>(go_simp;done));intro gb163 hg w4 hbox hb;have n0_:=Aside0.mk (below_step (by repeat((with_reducible exact HB.out))) hb);have n1_:=Aside0.mk (hbox);have n2_:=Aside0.mk ((by rw[hg];exact(below_size (by repeat((with_reducible exact HB.out)))):w.heap.size<=gb163));have n3_:=Aside0.mk ((by rw[hg];exact(below_size (by repeat((with_reducible exact HB.out)))):w.heap.size<=gb163));clear HB;have HB:=n0_;have BK163:=n1_;have GW163:=n2_;have GE163:=n3_;clear n0_ n1_ n2_ n3_;clear hb hbox hg)|((with_reducible refine gate_dst (N:=3) rfl ?_);(try(refine gate_guard (by rfl) ?_;dsimp only));refine box_event ?hg (N:=3) ?hd (cs := #[.int .i64 a1_0,.slice A1_1 l1_1.length c1_1]) (t:=25) ?hr ?_;(case hd=>rfl);(case hg=>rfl);(case hr=>(go_simp;done));intro gb164 hg w5 hbox hb;have n0_:=Aside0.mk (blk_below (g:=gb163) (o := .cells #[.int .i64 a0_0,.slice A0_1 l0_1.length c0_1] 25 (0,0)) (by(with_reducible repeat(fail));exact BK163.out) hb);have n1_:=Aside0.mk (below_step (by repeat((with_reducible exact HB.out))) hb);have n2_:=Aside0.mk (hbox);have n3_:=Aside0.mk ((by rw[hg];exact(below_size (by repeat((with_reducible exact HB.out)))):w.heap.size<=gb164));have n4_:=Aside0.mk ((by rw[hg];exact(below_size (by repeat((with_reducible exact HB.out)))):w.heap.size<=gb164));have n5_:=Aside0.mk ((by rw[hg];exact Nat.ne_of_lt (blk_lt (g:=gb163) (o := .cells #[.int .i64 a0_0,.slice A0_1 l0_1.length c0_1] 25 (0,0)) (by(with_reducible repeat(fail));exact BK163.out)):gb163≠gb164));have n6_:=Aside0.mk ((by rw[hg];exact Nat.ne_of_gt (blk_lt (g:=gb163) (o := .cells #[.int .i64 a0_0,.slice A0_1 l0_1.length c0_1] 25 (0,0)) (by(with_reducible repeat(fail));exact BK163.out)):gb164≠gb163));clear BK163;clear HB;have BK163:=n0_;have HB:=n1_;have BK164:=n2_;have GW164:=n3_;have GE164:=n4_;have NB163_164:=n5_;have NB164_163:=n6_;clear n0_ n1_ n2_ n3_ n4_ n5_ n6_;clear hb hbox hg))
 go_cut [19] (fun v19 wc => ∃(kq:Nat) (x19_2:Bool),v19 = .bool x19_2/\Aside0 (halidehelp_Picture.j0 kq x19_2 a0_0 l0_1 a1_0 l1_1=some r)/\Aside0 (kq<=k)/\Aside0 (wc.heap[gb163]?=some (.cells #[.int .i64 a0_0,(.slice A0_1 l0_1.length c0_1)] 25 (0,0)))/\Aside0 (wc.heap[gb164]?=some (.cells #[.int .i64 a1_0,(.slice A1_1 l1_1.length c1_1)] 25 (0,0)))/\Aside0 (Below w.heap.size w wc))
 case first =>
  have H:=HC3.out
  clear HC3
  by_cases c6:a0_0=a1_0
  ·rw[if_pos c6] at H
   have c6b0:(a0_0==a1_0)=true:=beq_iff_eq.mpr c6
   have c6b1:(a0_0 !=a1_0)=false:=bne_eq_false_iff_eq.mpr c6
   clear c6
   (skip)
   have H':=Aside0.mk H
   clear H
   have hnb7:=NB163_164.out
   have hnc7:=NB164_163.out
   have hcz8_0:w5.cell? ⟨gb163,0,none⟩=some (.int .i64 a0_0):=(blk_cell BK163.out 0).trans rfl
   have hcz8_1:w5.cell? ⟨gb163,1,none⟩=some (.slice A0_1 l0_1.length c0_1):=(blk_cell BK163.out 1).trans rfl
   have hfz8_0:=blk_frozen BK163.out 0
   have hfz8_1:=blk_frozen BK163.out 1
   have hcz9_0:w5.cell? ⟨gb164,0,none⟩=some (.int .i64 a1_0):=(blk_cell BK164.out 0).trans rfl
   have hcz9_1:w5.cell? ⟨gb164,1,none⟩=some (.slice A1_1 l1_1.length c1_1):=(blk_cell BK164.out 1).trans rfl
   have hfz9_0:=blk_frozen BK164.out 0
   have hfz9_1:=blk_frozen BK164.out 1
   go_wp2
   go_meet
   case rel=>exact⟨_,(((l0_1.length:Int) !=(l1_1.length:Int))),(by rfl),H',⟨by omega⟩,⟨by(with_reducible repeat(fail));exact BK163.out⟩,⟨by(with_reducible repeat(fail));exact BK164.out⟩,⟨by repeat((with_reducible exact HB.out))⟩⟩
  ·rw[if_neg c6] at H
   have c6b0:(a0_0==a1_0)=false:=beq_eq_false_iff_ne.mpr c6
   have c6b1:(a0_0 !=a1_0)=true:=bne_iff_ne.mpr c6
   (skip)
   have H':=Aside0.mk H
   clear H
   have hnb10:=NB163_164.out
   have hnc10:=NB164_163.out
   have hcz11_0:w5.cell? ⟨gb163,0,none⟩=some (.int .i64 a0_0):=(blk_cell BK163.out 0).trans rfl
   have hcz11_1:w5.cell? ⟨gb163,1,none⟩=some (.slice A0_1 l0_1.length c0_1):=(blk_cell BK163.out 1).trans rfl
   have hfz11_0:=blk_frozen BK163.out 0
   have hfz11_1:=blk_frozen BK163.out 1
   have hcz12_0:w5.cell? ⟨gb164,0,none⟩=some (.int .i64 a1_0):=(blk_cell BK164.out 0).trans rfl
   have hcz12_1:w5.cell? ⟨gb164,1,none⟩=some (.slice A1_1 l1_1.length c1_1):=(blk_cell BK164.out 1).trans rfl
   have hfz12_0:=blk_frozen BK164.out 0
   have hfz12_1:=blk_frozen BK164.out 1
   go_wp2
   go_meet
   case rel=>exact⟨_,(true),(by rfl),H',⟨by omega⟩,⟨by(with_reducible repeat(fail));exact BK163.out⟩,⟨by(with_reducible repeat(fail));exact BK164.out⟩,⟨by repeat((with_reducible exact HB.out))⟩⟩
 case rest =>
  clear HC3
  obtain⟨kq,x19_2,rfl,HA,HJ2,BK163,BK164,HB⟩:=hcut
  cases kq with
  | zero=>exact absurd HA.out (by simp[halidehelp_Picture.j0])
  | succ kj2 =>
   have H:=HA.out
   clear HA
   simp only[halidehelp_Picture.j0] at H
   by_cases c13:x19_2=true
   ·subst c13
    have H1:(some false)=some r:=by rw[if_pos rfl] at H;exact H
    clear H
    have H:=H1
    clear H1
    obtain rfl:=Option.some.inj H
    go_wp2
    go_ret
    exact⟨by rfl,by repeat((with_reducible exact HB.out))⟩
   ·replace c13:=Bool.eq_false_iff.mpr c13
    subst c13
    have H1:(halidehelp_Picture.l0 kj2 0 a0_0 l0_1 a1_0 l1_1)=some r:=by rw[if_neg (show ¬(false=true) by decide)] at H;exact H
    clear H
    have H:=H1
    clear H1
    have H':=Aside0.mk H
    clear H
    go_wp2
    go_loopg [5] kj2 (fun kq v5 w' => ∃(x5_2:Int),v5 = .int .i64 x5_2/\Aside0 (halidehelp_Picture.l0 kq x5_2 a0_0 l0_1 a1_0 l1_1=some r)/\Aside0 (kq<=kj2)/\Aside0 (w'.heap[gb163]?=some (.cells #[.int .i64 a0_0,(.slice A0_1 l0_1.length c0_1)] 25 (0,0)))/\Aside0 (w'.heap[gb164]?=some (.cells #[.int .i64 a1_0,(.slice A1_1 l1_1.length c1_1)] 25 (0,0)))/\Aside0 (Below w.heap.size w w'))
    case atStart=>exact⟨(0),(by rfl),H',⟨Nat.le_refl _⟩,⟨by(with_reducible repeat(fail));exact BK163.out⟩,⟨by(with_reducible repeat(fail));exact BK164.out⟩,⟨by repeat((with_reducible exact HB.out))⟩⟩
    case round =>
     clear H'
     obtain⟨x5_2,rfl,HA,HK2,BK163,BK164,HB⟩:=hrel
     cases gk with
     | zero=>exact absurd HA.out (by simp[halidehelp_Picture.l0])
     | succ k2 =>
      have H:=HA.out
      clear HA
      simp only[halidehelp_Picture.l0] at H
      by_cases c14:x5_2<(l0_1.length:Int)
      ·rw[if_pos c14] at H
       have c14b0:decide (x5_2<(l0_1.length:Int))=true:=decide_eq_true c14
       clear c14
       by_cases c15:0<=x5_2
       ·rw[if_pos c15] at H
        have c15b0:decide (0<=x5_2)=true:=decide_eq_true c15
        clear c15
        by_cases c16:x5_2<(l1_1.length:Int)
        ·rw[if_pos c16] at H
         have c16b0:decide (x5_2<(l1_1.length:Int))=true:=decide_eq_true c16
         clear c16
         replace H:=Option.bind_eq_some_iff.mp H
         obtain⟨t167,A170,H⟩:=H
         replace H:(if t167=true then (halidehelp_Picture.l0 k2 (wrap64 (x5_2+1)) a0_0 l0_1 a1_0 l1_1) else (some false))=some r:=H
         have A17:=Aside0.mk A170
         clear A170
         by_cases c18:t167=true
         ·subst c18
          have H1:(halidehelp_Picture.l0 k2 (wrap64 (x5_2+1)) a0_0 l0_1 a1_0 l1_1)=some r:=by rw[if_pos rfl] at H;exact H
          clear H
          have H:=H1
          clear H1
          have H':=Aside0.mk H
          clear H
          have hnb19:=NB163_164.out
          have hnc19:=NB164_163.out
          have hcz20_0:wr.cell? ⟨gb163,0,none⟩=some (.int .i64 a0_0):=(blk_cell BK163.out 0).trans rfl
          have hcz20_1:wr.cell? ⟨gb163,1,none⟩=some (.slice A0_1 l0_1.length c0_1):=(blk_cell BK163.out 1).trans rfl
          have hfz20_0:=blk_frozen BK163.out 0
          have hfz20_1:=blk_frozen BK163.out 1
          try go_wp2
          have n0_:=Aside0.mk (blk_drew BK163.out)
          have n1_:=Aside0.mk (blk_drew BK164.out)
          have n2_:=Aside0.mk (below_drew1 HB.out)
          clear BK163
          clear BK164
          clear HB
          have BK163:=n0_
          have BK164:=n1_
          have HB:=n2_
          clear n0_ n1_ n2_
          have p165:0<=(x5_2:Int):=of_decide_eq_true (by(with_reducible assumption))
          have q165:x5_2<(l0_1.length:Int):=of_decide_eq_true (by(with_reducible assumption))
          obtain⟨ad165,A165_2,c165_2,e165,hx165_0,hx165_1,hx165_2,hl165_2,hi165_2⟩:=at_T58 HR0_1.out x5_2 p165 q165
          have hw165_2:=hx165_2
          have hw165_1:=hx165_1
          have hw165_0:=hx165_0
          cases e165
          replace hx165_0:=(HB.out.cell (World.block_lt_of_cell? w _ hx165_0)).trans hx165_0
          replace hx165_1:=(HB.out.cell (World.block_lt_of_cell? w _ hx165_1)).trans hx165_1
          replace hx165_2:=(HB.out.cell (World.block_lt_of_cell? w _ hx165_2)).trans hx165_2
          have HR165_2:=Aside0.mk hi165_2
          have HC165_2:=Aside0.mk hl165_2
          clear hi165_2 hl165_2
          replace p165:=eq_true p165
          replace q165:=eq_true q165
          have p166:0<=(x5_2:Int):=of_decide_eq_true (by(with_reducible assumption))
          have q166:x5_2<(l1_1.length:Int):=of_decide_eq_true (by(with_reducible assumption))
          obtain⟨ad166,A166_2,c166_2,e166,hx166_0,hx166_1,hx166_2,hl166_2,hi166_2⟩:=at_T58 HR1_1.out x5_2 p166 q166
          have hw166_2:=hx166_2
          have hw166_1:=hx166_1
          have hw166_0:=hx166_0
          cases e166
          replace hx166_0:=(HB.out.cell (World.block_lt_of_cell? w _ hx166_0)).trans hx166_0
          replace hx166_1:=(HB.out.cell (World.block_lt_of_cell? w _ hx166_1)).trans hx166_1
          replace hx166_2:=(HB.out.cell (World.block_lt_of_cell? w _ hx166_2)).trans hx166_2
          have HR166_2:=Aside0.mk hi166_2
          have HC166_2:=Aside0.mk hl166_2
          clear hi166_2 hl166_2
          replace p166:=eq_true p166
          replace q166:=eq_true q166
          refine start_ (n:=12) (S:=fun w'=>w'.cell? ⟨gb163,0,none⟩=some (.int .i64 a0_0)/\w'.cell? ⟨gb163,1,none⟩=some (.slice (some ad165) l0_1.length c0_1)/\w'.cell? ⟨gb164,0,none⟩=some (.int .i64 a1_0)/\w'.cell? ⟨gb164,1,none⟩=some (.slice (some ad166) l1_1.length c1_1)/\w'.cell? (ad165.add ((x5_2).toNat*3))=some (.int .i64 ((rd_T58 l0_1 x5_2).f0))/\w'.cell? ⟨(ad165.add ((x5_2).toNat*3)).block,(ad165.add ((x5_2).toNat*3)).off+1,none⟩=some (.int .i64 ((rd_T58 l0_1 x5_2).f1))/\w'.cell? ⟨(ad165.add ((x5_2).toNat*3)).block,(ad165.add ((x5_2).toNat*3)).off+2,none⟩=some (.slice A165_2 ((rd_T58 l0_1 x5_2).f2).length c165_2)/\w'.cell? (ad166.add ((x5_2).toNat*3))=some (.int .i64 ((rd_T58 l1_1 x5_2).f0))/\w'.cell? ⟨(ad166.add ((x5_2).toNat*3)).block,(ad166.add ((x5_2).toNat*3)).off+1,none⟩=some (.int .i64 ((rd_T58 l1_1 x5_2).f1))/\w'.cell? ⟨(ad166.add ((x5_2).toNat*3)).block,(ad166.add ((x5_2).toNat*3)).off+2,none⟩=some (.slice A166_2 ((rd_T58 l1_1 x5_2).f2).length c166_2)) (ds := []) (Array.replicate 12 false) (by kernel_rfl) rfl rfl ⟨(blk_cell BK163.out 0).trans rfl,(blk_cell BK163.out 1).trans rfl,(blk_cell BK164.out 0).trans rfl,(blk_cell BK164.out 1).trans rfl,((HB.out.cell (World.block_lt_of_cell? w _ hw165_0)).trans hw165_0),((HB.out.cell (World.block_lt_of_cell? w _ hw165_1)).trans hw165_1),((HB.out.cell (World.block_lt_of_cell? w _ hw165_2)).trans hw165_2),((HB.out.cell (World.block_lt_of_cell? w _ hw166_0)).trans hw166_0),((HB.out.cell (World.block_lt_of_cell? w _ hw166_1)).trans hw166_1),((HB.out.cell (World.block_lt_of_cell? w _ hw166_2)).trans hw166_2)⟩ (fun hHeld=>?_);refine with_tabW halidehelp_Picture.tab6 halidehelp_Picture.bits6 (fun HT_ HW_=>?_)
          generalize wr.drew=w21 at BK163 BK164 HB HR165_2 HR166_2 hx165_0 hx165_1 hx165_2 hx166_0 hx166_1 hx166_2 hHeld ⊢
          refine pu 0 27 HT_ ?_
          refine pu 2 29 HT_ ?_
          refine pu 5 32 HT_ ?_
          refine pu 7 34 HT_ ?_
          refine tk 1 28 HT_ HW_ hHeld rfl (by rintro w' ⟨s0,s1,s2,s3,s4,s5,s6,s7,s8,s9⟩;go_simp;with_reducible rfl) ?_
          refine pu 3 30 HT_ ?_
          refine tk 4 31 HT_ HW_ hHeld rfl (by rintro w' ⟨s0,s1,s2,s3,s4,s5,s6,s7,s8,s9⟩;go_simp;with_reducible rfl) ?_
          refine tk 6 33 HT_ HW_ hHeld rfl (by rintro w' ⟨s0,s1,s2,s3,s4,s5,s6,s7,s8,s9⟩;go_simp;with_reducible rfl) ?_
          refine pu 8 35 HT_ ?_
          refine tk 9 36 HT_ HW_ hHeld rfl (by rintro w' ⟨s0,s1,s2,s3,s4,s5,s6,s7,s8,s9⟩;go_simp;with_reducible rfl) ?_
          refine one_ (i:=10) (N:=some 37) #[true,true,true,true,true,true,true,true,true,true,true,false] rfl rfl (one_of HT_.out (by kernel_rfl)) (by decide) (fun K hK=>?_)
          refine goes_ Tryz.func72 (by kernel_rfl) rfl #[.agg #[.int .i64 ((rd_T58 l0_1 x5_2).f0),.int .i64 ((rd_T58 l0_1 x5_2).f1),.slice A165_2 ((rd_T58 l0_1 x5_2).f2).length c165_2],.agg #[.int .i64 ((rd_T58 l1_1 x5_2).f0),.int .i64 ((rd_T58 l1_1 x5_2).f1),.slice A166_2 ((rd_T58 l1_1 x5_2).f2).length c166_2]] (by rfl) rfl rfl (by(try simp only[List.map_toArray,List.map_cons,List.map_nil]);rfl) ?_
          with_reducible refine(halidehelp_Plane.calls k2 ((rd_T58 l0_1 x5_2).f0) ((rd_T58 l0_1 x5_2).f1) _ _ ((rd_T58 l0_1 x5_2).f2) ((rd_T58 l1_1 x5_2).f0) ((rd_T58 l1_1 x5_2).f1) _ _ ((rd_T58 l1_1 x5_2).f2) true _ ?side1 ?side2 ?side3 ?side4 A17.out).mono ?_
          (case side1=>repeat((exact(Kd.C_below HR165_2.out HB.out))))
          (case side2=>exact HC165_2.out)
          (case side3=>repeat((exact(Kd.C_below HR166_2.out HB.out))))
          (case side4=>exact HC166_2.out)
          rintro e w22 ⟨rfl,hb⟩
          refine⟨_,rfl,?_⟩
          have n0_:=Aside0.mk (blk_below (g:=gb163) (o := .cells #[.int .i64 a0_0,.slice (some ad165) l0_1.length c0_1] 25 (0,0)) (by(with_reducible repeat(fail));exact BK163.out) hb)
          have n1_:=Aside0.mk (blk_below (g:=gb164) (o := .cells #[.int .i64 a1_0,.slice (some ad166) l1_1.length c1_1] 25 (0,0)) (by(with_reducible repeat(fail));exact BK164.out) hb)
          have n2_:=Aside0.mk (below_step (by repeat((with_reducible exact HB.out))) hb)
          clear BK163
          clear BK164
          clear HB
          have BK163:=n0_
          have BK164:=n1_
          have HB:=n2_
          clear n0_ n1_ n2_
          (try clear hb)
          refine hK.out _ _ ⟨(blk_cell BK163.out 0).trans rfl,(blk_cell BK163.out 1).trans rfl,(blk_cell BK164.out 0).trans rfl,(blk_cell BK164.out 1).trans rfl,((HB.out.cell (World.block_lt_of_cell? w _ hw165_0)).trans hw165_0),((HB.out.cell (World.block_lt_of_cell? w _ hw165_1)).trans hw165_1),((HB.out.cell (World.block_lt_of_cell? w _ hw165_2)).trans hw165_2),((HB.out.cell (World.block_lt_of_cell? w _ hw166_0)).trans hw166_0),((HB.out.cell (World.block_lt_of_cell? w _ hw166_1)).trans hw166_1),((HB.out.cell (World.block_lt_of_cell? w _ hw166_2)).trans hw166_2)⟩ (fun hHeld=>?_)
          clear hK K
          refine norm_ (a':=?_) ?_ ?_
          rotate_left
          ·show Act.put _ (some 37) _=_
           simp only[Act.put,List.setIfInBounds_toArray,List.set_cons_zero,List.set_cons_succ,i64_w,i32_w]
           rfl
          refine pu 11 38 HT_ ?_
          refine done_ (done_of HT_.out (by kernel_rfl)) ?_
          try go_wp2
          go_roundg k2
          case measure=>have:=HJ2.out;have:=HK2.out;omega
          case rel=>exact⟨(wrap64 (x5_2+1)),(by rfl),H',⟨by have:=HJ2.out;have:=HK2.out;omega⟩,⟨by(with_reducible repeat(fail));exact BK163.out⟩,⟨by(with_reducible repeat(fail));exact BK164.out⟩,⟨by repeat((with_reducible exact HB.out))⟩⟩
         ·replace c18:=Bool.eq_false_iff.mpr c18
          subst c18
          have H1:(some false)=some r:=by rw[if_neg (show ¬(false=true) by decide)] at H;exact H
          clear H
          have H:=H1
          clear H1
          obtain rfl:=Option.some.inj H
          have hnb23:=NB163_164.out
          have hnc23:=NB164_163.out
          have hcz24_0:wr.cell? ⟨gb163,0,none⟩=some (.int .i64 a0_0):=(blk_cell BK163.out 0).trans rfl
          have hcz24_1:wr.cell? ⟨gb163,1,none⟩=some (.slice A0_1 l0_1.length c0_1):=(blk_cell BK163.out 1).trans rfl
          have hfz24_0:=blk_frozen BK163.out 0
          have hfz24_1:=blk_frozen BK163.out 1
          try go_wp2
          have n0_:=Aside0.mk (blk_drew BK163.out)
          have n1_:=Aside0.mk (blk_drew BK164.out)
          have n2_:=Aside0.mk (below_drew1 HB.out)
          clear BK163
          clear BK164
          clear HB
          have BK163:=n0_
          have BK164:=n1_
          have HB:=n2_
          clear n0_ n1_ n2_
          have p165:0<=(x5_2:Int):=of_decide_eq_true (by(with_reducible assumption))
          have q165:x5_2<(l0_1.length:Int):=of_decide_eq_true (by(with_reducible assumption))
          obtain⟨ad165,A165_2,c165_2,e165,hx165_0,hx165_1,hx165_2,hl165_2,hi165_2⟩:=at_T58 HR0_1.out x5_2 p165 q165
          have hw165_2:=hx165_2
          have hw165_1:=hx165_1
          have hw165_0:=hx165_0
          cases e165
          replace hx165_0:=(HB.out.cell (World.block_lt_of_cell? w _ hx165_0)).trans hx165_0
          replace hx165_1:=(HB.out.cell (World.block_lt_of_cell? w _ hx165_1)).trans hx165_1
          replace hx165_2:=(HB.out.cell (World.block_lt_of_cell? w _ hx165_2)).trans hx165_2
          have HR165_2:=Aside0.mk hi165_2
          have HC165_2:=Aside0.mk hl165_2
          clear hi165_2 hl165_2
          replace p165:=eq_true p165
          replace q165:=eq_true q165
          have p166:0<=(x5_2:Int):=of_decide_eq_true (by(with_reducible assumption))
          have q166:x5_2<(l1_1.length:Int):=of_decide_eq_true (by(with_reducible assumption))
          obtain⟨ad166,A166_2,c166_2,e166,hx166_0,hx166_1,hx166_2,hl166_2,hi166_2⟩:=at_T58 HR1_1.out x5_2 p166 q166
          have hw166_2:=hx166_2
          have hw166_1:=hx166_1
          have hw166_0:=hx166_0
          cases e166
          replace hx166_0:=(HB.out.cell (World.block_lt_of_cell? w _ hx166_0)).trans hx166_0
          replace hx166_1:=(HB.out.cell (World.block_lt_of_cell? w _ hx166_1)).trans hx166_1
          replace hx166_2:=(HB.out.cell (World.block_lt_of_cell? w _ hx166_2)).trans hx166_2
          have HR166_2:=Aside0.mk hi166_2
          have HC166_2:=Aside0.mk hl166_2
          clear hi166_2 hl166_2
          replace p166:=eq_true p166
          replace q166:=eq_true q166
          refine start_ (n:=12) (S:=fun w'=>w'.cell? ⟨gb163,0,none⟩=some (.int .i64 a0_0)/\w'.cell? ⟨gb163,1,none⟩=some (.slice (some ad165) l0_1.length c0_1)/\w'.cell? ⟨gb164,0,none⟩=some (.int .i64 a1_0)/\w'.cell? ⟨gb164,1,none⟩=some (.slice (some ad166) l1_1.length c1_1)/\w'.cell? (ad165.add ((x5_2).toNat*3))=some (.int .i64 ((rd_T58 l0_1 x5_2).f0))/\w'.cell? ⟨(ad165.add ((x5_2).toNat*3)).block,(ad165.add ((x5_2).toNat*3)).off+1,none⟩=some (.int .i64 ((rd_T58 l0_1 x5_2).f1))/\w'.cell? ⟨(ad165.add ((x5_2).toNat*3)).block,(ad165.add ((x5_2).toNat*3)).off+2,none⟩=some (.slice A165_2 ((rd_T58 l0_1 x5_2).f2).length c165_2)/\w'.cell? (ad166.add ((x5_2).toNat*3))=some (.int .i64 ((rd_T58 l1_1 x5_2).f0))/\w'.cell? ⟨(ad166.add ((x5_2).toNat*3)).block,(ad166.add ((x5_2).toNat*3)).off+1,none⟩=some (.int .i64 ((rd_T58 l1_1 x5_2).f1))/\w'.cell? ⟨(ad166.add ((x5_2).toNat*3)).block,(ad166.add ((x5_2).toNat*3)).off+2,none⟩=some (.slice A166_2 ((rd_T58 l1_1 x5_2).f2).length c166_2)) (ds := []) (Array.replicate 12 false) (by kernel_rfl) rfl rfl ⟨(blk_cell BK163.out 0).trans rfl,(blk_cell BK163.out 1).trans rfl,(blk_cell BK164.out 0).trans rfl,(blk_cell BK164.out 1).trans rfl,((HB.out.cell (World.block_lt_of_cell? w _ hw165_0)).trans hw165_0),((HB.out.cell (World.block_lt_of_cell? w _ hw165_1)).trans hw165_1),((HB.out.cell (World.block_lt_of_cell? w _ hw165_2)).trans hw165_2),((HB.out.cell (World.block_lt_of_cell? w _ hw166_0)).trans hw166_0),((HB.out.cell (World.block_lt_of_cell? w _ hw166_1)).trans hw166_1),((HB.out.cell (World.block_lt_of_cell? w _ hw166_2)).trans hw166_2)⟩ (fun hHeld=>?_);refine with_tabW halidehelp_Picture.tab6 halidehelp_Picture.bits6 (fun HT_ HW_=>?_)
          generalize wr.drew=w25 at BK163 BK164 HB HR165_2 HR166_2 hx165_0 hx165_1 hx165_2 hx166_0 hx166_1 hx166_2 hHeld ⊢
          refine pu 0 27 HT_ ?_
          refine pu 2 29 HT_ ?_
          refine pu 5 32 HT_ ?_
          refine pu 7 34 HT_ ?_
          refine tk 1 28 HT_ HW_ hHeld rfl (by rintro w' ⟨s0,s1,s2,s3,s4,s5,s6,s7,s8,s9⟩;go_simp;with_reducible rfl) ?_
          refine pu 3 30 HT_ ?_
          refine tk 4 31 HT_ HW_ hHeld rfl (by rintro w' ⟨s0,s1,s2,s3,s4,s5,s6,s7,s8,s9⟩;go_simp;with_reducible rfl) ?_
          refine tk 6 33 HT_ HW_ hHeld rfl (by rintro w' ⟨s0,s1,s2,s3,s4,s5,s6,s7,s8,s9⟩;go_simp;with_reducible rfl) ?_
          refine pu 8 35 HT_ ?_
          refine tk 9 36 HT_ HW_ hHeld rfl (by rintro w' ⟨s0,s1,s2,s3,s4,s5,s6,s7,s8,s9⟩;go_simp;with_reducible rfl) ?_
          refine one_ (i:=10) (N:=some 37) #[true,true,true,true,true,true,true,true,true,true,true,false] rfl rfl (one_of HT_.out (by kernel_rfl)) (by decide) (fun K hK=>?_)
          refine goes_ Tryz.func72 (by kernel_rfl) rfl #[.agg #[.int .i64 ((rd_T58 l0_1 x5_2).f0),.int .i64 ((rd_T58 l0_1 x5_2).f1),.slice A165_2 ((rd_T58 l0_1 x5_2).f2).length c165_2],.agg #[.int .i64 ((rd_T58 l1_1 x5_2).f0),.int .i64 ((rd_T58 l1_1 x5_2).f1),.slice A166_2 ((rd_T58 l1_1 x5_2).f2).length c166_2]] (by rfl) rfl rfl (by(try simp only[List.map_toArray,List.map_cons,List.map_nil]);rfl) ?_
          with_reducible refine(halidehelp_Plane.calls k2 ((rd_T58 l0_1 x5_2).f0) ((rd_T58 l0_1 x5_2).f1) _ _ ((rd_T58 l0_1 x5_2).f2) ((rd_T58 l1_1 x5_2).f0) ((rd_T58 l1_1 x5_2).f1) _ _ ((rd_T58 l1_1 x5_2).f2) false _ ?side1 ?side2 ?side3 ?side4 A17.out).mono ?_
          (case side1=>repeat((exact(Kd.C_below HR165_2.out HB.out))))
          (case side2=>exact HC165_2.out)
          (case side3=>repeat((exact(Kd.C_below HR166_2.out HB.out))))
          (case side4=>exact HC166_2.out)
          rintro e w26 ⟨rfl,hb⟩
          refine⟨_,rfl,?_⟩
          have n0_:=Aside0.mk (blk_below (g:=gb163) (o := .cells #[.int .i64 a0_0,.slice (some ad165) l0_1.length c0_1] 25 (0,0)) (by(with_reducible repeat(fail));exact BK163.out) hb)
          have n1_:=Aside0.mk (blk_below (g:=gb164) (o := .cells #[.int .i64 a1_0,.slice (some ad166) l1_1.length c1_1] 25 (0,0)) (by(with_reducible repeat(fail));exact BK164.out) hb)
          have n2_:=Aside0.mk (below_step (by repeat((with_reducible exact HB.out))) hb)
          clear BK163
          clear BK164
          clear HB
          have BK163:=n0_
          have BK164:=n1_
          have HB:=n2_
          clear n0_ n1_ n2_
          (try clear hb)
          refine hK.out _ _ ⟨(blk_cell BK163.out 0).trans rfl,(blk_cell BK163.out 1).trans rfl,(blk_cell BK164.out 0).trans rfl,(blk_cell BK164.out 1).trans rfl,((HB.out.cell (World.block_lt_of_cell? w _ hw165_0)).trans hw165_0),((HB.out.cell (World.block_lt_of_cell? w _ hw165_1)).trans hw165_1),((HB.out.cell (World.block_lt_of_cell? w _ hw165_2)).trans hw165_2),((HB.out.cell (World.block_lt_of_cell? w _ hw166_0)).trans hw166_0),((HB.out.cell (World.block_lt_of_cell? w _ hw166_1)).trans hw166_1),((HB.out.cell (World.block_lt_of_cell? w _ hw166_2)).trans hw166_2)⟩ (fun hHeld=>?_)
          clear hK K
          refine norm_ (a':=?_) ?_ ?_
          rotate_left
          ·show Act.put _ (some 37) _=_
           simp only[Act.put,List.setIfInBounds_toArray,List.set_cons_zero,List.set_cons_succ,i64_w,i32_w]
           rfl
          refine pu 11 38 HT_ ?_
          refine done_ (done_of HT_.out (by kernel_rfl)) ?_
          try go_wp2
          go_ret
          exact⟨by rfl,by repeat((with_reducible exact HB.out))⟩
        ·rw[if_neg c16] at H
         exact absurd H (by simp)
       ·rw[if_neg c15] at H
        exact absurd H (by simp)
      ·rw[if_neg c14] at H
       have c14b0:decide (x5_2<(l0_1.length:Int))=false:=decide_eq_false c14
       clear c14
       obtain rfl:=Option.some.inj H
       have hnb27:=NB163_164.out
       have hnc27:=NB164_163.out
       have hcz28_0:wr.cell? ⟨gb163,0,none⟩=some (.int .i64 a0_0):=(blk_cell BK163.out 0).trans rfl
       have hcz28_1:wr.cell? ⟨gb163,1,none⟩=some (.slice A0_1 l0_1.length c0_1):=(blk_cell BK163.out 1).trans rfl
       have hfz28_0:=blk_frozen BK163.out 0
       have hfz28_1:=blk_frozen BK163.out 1
       go_wp2
       go_ret
       exact⟨by rfl,by repeat((with_reducible exact HB.out))⟩
end Go.Proofs.YtgpegjmbofgmmaaGreat.PJop
