/- A part of the proof. No condition. -/
import Derived.Test.YtgpegjmbofgmmaaGreatRPu
namespace Go.Proofs.YtgpegjmbofgmmaaGreat.PJop
open Go.RowKit Go.Proofs.YtgpegjmbofgmmaaGreatW.PrintWords Go.Proofs.YtgpegjmbofgmmaaGreatW.PrintLast Go.Proofs.YtgpegjmbofgmmaaGreatW.PrintMore
attribute [local go_sem] max2_int min2_int max_two min_two max_three min_three max_four min_four
set_option linter.unusedVariables false
set_option linter.unusedSimpArgs false
def halidelaw25_light.l0:Nat->Int->Int->Int->List (S58)->Option (Bool)
 | 0,_,_,_,_=>none
 | k+1,x3,x4,x153000,x153001=>if x4<(x153001.length:Int) then (if x4<10 then (if 0<=x4 then (halidelaw25_light.l0 k (wrap64 (x3+(((rd_T58 x153001 x4).f2).length:Int))) (wrap64 (x4+1)) x153000 x153001) else (none)) else (some (decide (x3<=1500)))) else (some (decide (x3<=1500)))
def halidelaw25_light.f (k:Nat) (a0_0:Int) (l0_1:List (S58)):Option (Bool):=halidelaw25_light.l0 k (l0_1.length:Int) 0 a0_0 l0_1
set_option maxHeartbeats 8000000 in
set_option maxRecDepth 100000 in
theorem halidelaw25_light.calls (k:Nat) (a0_0:Int) (A0_1:Option Addr) (c0_1:Nat) (l0_1:List (S58)) (r:Bool) (w:World) (hr0_1:Kd.C k58 w A0_1 l0_1.length l0_1) (hc0_1:l0_1.length<=c0_1) (h:halidelaw25_light.f k a0_0 l0_1=some r) :
  Calls Tryz.prog 27 #[.agg #[.int .i64 a0_0,.slice A0_1 l0_1.length c0_1]] w fun e w'=>e = .returned (.bool r)/\Below w.heap.size w w':=by
 have hu25:=Tryz.underlying25
 have HR0_1:=Aside0.mk hr0_1
 have HC0_1:=Aside0.mk hc0_1
 clear hr0_1 hc0_1
 have HB:=Aside0.mk (Below.refl w.heap.size w)
 have H:(halidelaw25_light.l0 k (l0_1.length:Int) 0 a0_0 l0_1)=some r:=h
 clear h
 have H':=Aside0.mk H
 clear H
 go_enter Tryz.func27,Tryz.ntmps27
 go_wp2_with (((with_reducible refine gate_dst (N:=1) rfl ?_);refine box_event ?hg (N:=1) ?hd (cs := #[.int .i64 a0_0,.slice A0_1 l0_1.length c0_1]) (t:=25) ?hr ?_;(case hd=>rfl);(case hg=>rfl);(case hr=>(go_simp;done));intro gb152 hg w2 hbox hb;have n0_:=Aside0.mk (below_step (by repeat((with_reducible exact HB.out))) hb);have n1_:=Aside0.mk (hbox);have n2_:=Aside0.mk ((by rw[hg];exact(below_size (by repeat((with_reducible exact HB.out)))):w.heap.size<=gb152));have n3_:=Aside0.mk ((by rw[hg];exact(below_size (by repeat((with_reducible exact HB.out)))):w.heap.size<=gb152));clear HB;have HB:=n0_;have BK152:=n1_;have GW152:=n2_;have GE152:=n3_;clear n0_ n1_ n2_ n3_;clear hb hbox hg;have hcz3_0:w2.cell? ⟨gb152,0,none⟩=some (.int .i64 a0_0):=(blk_cell BK152.out 0).trans rfl;have hcz3_1:w2.cell? ⟨gb152,1,none⟩=some (.slice A0_1 l0_1.length c0_1):=(blk_cell BK152.out 1).trans rfl;have hfz3_0:=blk_frozen BK152.out 0;have hfz3_1:=blk_frozen BK152.out 1))
 go_loopg [3,4] k (fun kq v3 v4 w' => ∃(x3_1:Int) (x4_1:Int),v3 = .int .i64 x3_1/\v4 = .int .i64 x4_1/\Aside0 (halidelaw25_light.l0 kq x3_1 x4_1 a0_0 l0_1=some r)/\Aside0 (kq<=k)/\Aside0 (w'.heap[gb152]?=some (.cells #[.int .i64 a0_0,(.slice A0_1 l0_1.length c0_1)] 25 (0,0)))/\Aside0 (Below w.heap.size w w'))
 case atStart=>exact⟨((l0_1.length:Int)),(0),(by rfl),(by rfl),H',⟨Nat.le_refl _⟩,⟨by(with_reducible repeat(fail));exact BK152.out⟩,⟨by repeat((with_reducible exact HB.out))⟩⟩
 case round =>
  clear H'
  (try clear hcz3_0)
  (try clear hcz3_1)
  (try clear hfz3_0)
  (try clear hfz3_1)
  obtain⟨x3_1,x4_1,rfl,rfl,HA,HK1,BK152,HB⟩:=hrel
  cases gk with
  | zero=>exact absurd HA.out (by simp[halidelaw25_light.l0])
  | succ k1 =>
   have H:=HA.out
   clear HA
   simp only[halidelaw25_light.l0] at H
   by_cases c4:x4_1<(l0_1.length:Int)
   ·rw[if_pos c4] at H
    have c4b0:decide (x4_1<(l0_1.length:Int))=true:=decide_eq_true c4
    clear c4
    by_cases c5:x4_1<10
    ·rw[if_pos c5] at H
     have c5b0:decide (x4_1<10)=true:=decide_eq_true c5
     clear c5
     by_cases c6:0<=x4_1
     ·rw[if_pos c6] at H
      have c6b0:decide (0<=x4_1)=true:=decide_eq_true c6
      clear c6
      have H':=Aside0.mk H
      clear H
      have hcz7_0:wr.cell? ⟨gb152,0,none⟩=some (.int .i64 a0_0):=(blk_cell BK152.out 0).trans rfl
      have hcz7_1:wr.cell? ⟨gb152,1,none⟩=some (.slice A0_1 l0_1.length c0_1):=(blk_cell BK152.out 1).trans rfl
      have hfz7_0:=blk_frozen BK152.out 0
      have hfz7_1:=blk_frozen BK152.out 1
      have p153:0<=(x4_1:Int):=of_decide_eq_true (by(with_reducible assumption))
      have q153:x4_1<(l0_1.length:Int):=of_decide_eq_true (by(with_reducible assumption))
      obtain⟨ad153,A153_2,c153_2,e153,hx153_0,hx153_1,hx153_2,hl153_2,hi153_2⟩:=at_T58 HR0_1.out x4_1 p153 q153
      cases e153
      replace hx153_0:=(HB.out.cell (World.block_lt_of_cell? w _ hx153_0)).trans hx153_0
      replace hx153_1:=(HB.out.cell (World.block_lt_of_cell? w _ hx153_1)).trans hx153_1
      replace hx153_2:=(HB.out.cell (World.block_lt_of_cell? w _ hx153_2)).trans hx153_2
      have HR153_2:=Aside0.mk hi153_2
      have HC153_2:=Aside0.mk hl153_2
      clear hi153_2 hl153_2
      replace p153:=eq_true p153
      replace q153:=eq_true q153
      go_wp2
      go_roundg k1
      case measure=>have:=HK1.out;omega
      case rel=>exact⟨(wrap64 (x3_1+(((rd_T58 l0_1 x4_1).f2).length:Int))),(wrap64 (x4_1+1)),(by rfl),(by rfl),H',⟨by have:=HK1.out;omega⟩,⟨by(with_reducible repeat(fail));exact BK152.out⟩,⟨by repeat((with_reducible exact HB.out))⟩⟩
     ·rw[if_neg c6] at H
      exact absurd H (by simp)
    ·rw[if_neg c5] at H
     have c5b0:decide (x4_1<10)=false:=decide_eq_false c5
     clear c5
     obtain rfl:=Option.some.inj H
     have hcz8_0:wr.cell? ⟨gb152,0,none⟩=some (.int .i64 a0_0):=(blk_cell BK152.out 0).trans rfl
     have hcz8_1:wr.cell? ⟨gb152,1,none⟩=some (.slice A0_1 l0_1.length c0_1):=(blk_cell BK152.out 1).trans rfl
     have hfz8_0:=blk_frozen BK152.out 0
     have hfz8_1:=blk_frozen BK152.out 1
     go_wp2
     go_ret
     exact⟨by rfl,by repeat((with_reducible exact HB.out))⟩
   ·rw[if_neg c4] at H
    have c4b0:decide (x4_1<(l0_1.length:Int))=false:=decide_eq_false c4
    clear c4
    obtain rfl:=Option.some.inj H
    have hcz9_0:wr.cell? ⟨gb152,0,none⟩=some (.int .i64 a0_0):=(blk_cell BK152.out 0).trans rfl
    have hcz9_1:wr.cell? ⟨gb152,1,none⟩=some (.slice A0_1 l0_1.length c0_1):=(blk_cell BK152.out 1).trans rfl
    have hfz9_0:=blk_frozen BK152.out 0
    have hfz9_1:=blk_frozen BK152.out 1
    go_wp2
    go_ret
    exact⟨by rfl,by repeat((with_reducible exact HB.out))⟩
def halidelaw25_sameBytes.l0:Nat->List Int->List Int->Int->Option (Bool)
 | 0,_,_,_=>none
 | k+1,x0,x1,x5=>if x5<(x0.length:Int) then (if 0<=x5 then (if x5<(x1.length:Int) then (if (rd x0 x5)=(rd x1 x5) then (halidelaw25_sameBytes.l0 k x0 x1 (wrap64 (x5+1))) else (some false)) else (none)) else (none)) else (some true)
def halidelaw25_sameBytes.f (k:Nat) (l0:List Int) (l1:List Int):Option (Bool):=if (l0.length:Int)=(l1.length:Int) then (halidelaw25_sameBytes.l0 k l0 l1 0) else (some false)
set_option maxHeartbeats 8000000 in
set_option maxRecDepth 100000 in
theorem halidelaw25_sameBytes.calls (k:Nat) (A0:Option Addr) (c0:Nat) (l0:List Int) (A1:Option Addr) (c1:Nat) (l1:List Int) (r:Bool) (w:World) (hr0:Kd.C (Kd.int .u8) w A0 l0.length l0) (hc0:l0.length<=c0) (hr1:Kd.C (Kd.int .u8) w A1 l1.length l1) (hc1:l1.length<=c1) (h:halidelaw25_sameBytes.f k l0 l1=some r) :
  Calls Tryz.prog 12 #[.slice A0 l0.length c0,.slice A1 l1.length c1] w fun e w'=>e = .returned (.bool r)/\Drawn0 w w':=by
 have HR0:=Aside0.mk hr0
 have HC0:=Aside0.mk hc0
 clear hr0 hc0
 have HR1:=Aside0.mk hr1
 have HC1:=Aside0.mk hc1
 clear hr1 hc1
 have H:(if (l0.length:Int)=(l1.length:Int) then (halidelaw25_sameBytes.l0 k l0 l1 0) else (some false))=some r:=h
 clear h
 by_cases c3:(l0.length:Int)=(l1.length:Int)
 ·rw[if_pos c3] at H
  have c3b0:((l0.length:Int)==(l1.length:Int))=true:=beq_iff_eq.mpr c3
  have c3b1:((l0.length:Int) !=(l1.length:Int))=false:=bne_eq_false_iff_eq.mpr c3
  have c3b2:(l0.length==l1.length)=true:=by(simp at c3 ⊢;omega)
  clear c3
  have H':=Aside0.mk H
  clear H
  go_enter Tryz.func12,Tryz.ntmps12
  go_wp2
  repeat(go_quiet (fail);try go_wp2)
  go_loopg [5] k (fun kq v5 w' => ∃(x5_1:Int),v5 = .int .i64 x5_1/\Aside0 (halidelaw25_sameBytes.l0 kq l0 l1 x5_1=some r)/\Aside0 (kq<=k)/\Drawn0 w w')
  case atStart=>exact⟨(0),(by rfl),H',⟨Nat.le_refl _⟩,by repeat(exact Drawn0.refl _)⟩
  case round =>
   clear H'
   (try clear c3b0)
   (try clear c3b1)
   (try clear c3b2)
   obtain⟨x5_1,rfl,HA,HK1,⟨m1,rfl⟩⟩:=hrel
   cases gk with
   | zero=>exact absurd HA.out (by simp[halidelaw25_sameBytes.l0])
   | succ k1 =>
    have H:=HA.out
    clear HA
    simp only[halidelaw25_sameBytes.l0] at H
    by_cases c4:x5_1<(l0.length:Int)
    ·rw[if_pos c4] at H
     have c4b0:decide (x5_1<(l0.length:Int))=true:=decide_eq_true c4
     clear c4
     by_cases c5:0<=x5_1
     ·rw[if_pos c5] at H
      have c5b0:decide (0<=x5_1)=true:=decide_eq_true c5
      clear c5
      by_cases c6:x5_1<(l1.length:Int)
      ·rw[if_pos c6] at H
       have c6b0:decide (x5_1<(l1.length:Int))=true:=decide_eq_true c6
       clear c6
       by_cases c7:(rd l0 x5_1)=(rd l1 x5_1)
       ·rw[if_pos c7] at H
        have c7b0:((rd l0 x5_1)==(rd l1 x5_1))=true:=beq_iff_eq.mpr c7
        have c7b1:((rd l0 x5_1) !=(rd l1 x5_1))=false:=bne_eq_false_iff_eq.mpr c7
        clear c7
        have H':=Aside0.mk H
        clear H
        have p154:0<=(x5_1:Int):=of_decide_eq_true (by(with_reducible assumption))
        have q154:x5_1<(l0.length:Int):=of_decide_eq_true (by(with_reducible assumption))
        obtain⟨ad154,e154,hx154_0⟩:=Kd.at_int HR0.out x5_1 p154 q154
        cases e154
        replace p154:=eq_true p154
        replace q154:=eq_true q154
        have p155:0<=(x5_1:Int):=of_decide_eq_true (by(with_reducible assumption))
        have q155:x5_1<(l1.length:Int):=of_decide_eq_true (by(with_reducible assumption))
        obtain⟨ad155,e155,hx155_0⟩:=Kd.at_int HR1.out x5_1 p155 q155
        cases e155
        replace p155:=eq_true p155
        replace q155:=eq_true q155
        go_wp2
        repeat(go_quiet (fail);try go_wp2)
        go_roundg k1
        case measure=>have:=HK1.out;omega
        case rel=>exact⟨(wrap64 (x5_1+1)),(by rfl),H',⟨by have:=HK1.out;omega⟩,by repeat(first|exact Drawn0.refl _|apply Drawn0.step)⟩
       ·rw[if_neg c7] at H
        have c7b0:((rd l0 x5_1)==(rd l1 x5_1))=false:=beq_eq_false_iff_ne.mpr c7
        have c7b1:((rd l0 x5_1) !=(rd l1 x5_1))=true:=bne_iff_ne.mpr c7
        obtain rfl:=Option.some.inj H
        have p154:0<=(x5_1:Int):=of_decide_eq_true (by(with_reducible assumption))
        have q154:x5_1<(l0.length:Int):=of_decide_eq_true (by(with_reducible assumption))
        obtain⟨ad154,e154,hx154_0⟩:=Kd.at_int HR0.out x5_1 p154 q154
        cases e154
        replace p154:=eq_true p154
        replace q154:=eq_true q154
        have p155:0<=(x5_1:Int):=of_decide_eq_true (by(with_reducible assumption))
        have q155:x5_1<(l1.length:Int):=of_decide_eq_true (by(with_reducible assumption))
        obtain⟨ad155,e155,hx155_0⟩:=Kd.at_int HR1.out x5_1 p155 q155
        cases e155
        replace p155:=eq_true p155
        replace q155:=eq_true q155
        go_wp2
        repeat(go_quiet (fail);try go_wp2)
        go_ret
        exact⟨by rfl,by repeat(first|exact Drawn0.refl _|apply Drawn0.step)⟩
      ·rw[if_neg c6] at H
       exact absurd H (by simp)
     ·rw[if_neg c5] at H
      exact absurd H (by simp)
    ·rw[if_neg c4] at H
     have c4b0:decide (x5_1<(l0.length:Int))=false:=decide_eq_false c4
     clear c4
     obtain rfl:=Option.some.inj H
     go_wp2
     repeat(go_quiet (fail);try go_wp2)
     go_ret
     exact⟨by rfl,by repeat(first|exact Drawn0.refl _|apply Drawn0.step)⟩
 ·rw[if_neg c3] at H
  have c3b0:((l0.length:Int)==(l1.length:Int))=false:=beq_eq_false_iff_ne.mpr c3
  have c3b1:((l0.length:Int) !=(l1.length:Int))=true:=bne_iff_ne.mpr c3
  have c3b2:(l0.length==l1.length)=false:=by(simp at c3 ⊢;omega)
  obtain rfl:=Option.some.inj H
  go_enter Tryz.func12,Tryz.ntmps12
  go_wp2
  repeat(go_quiet (fail);try go_wp2)
  go_ret
  exact⟨by rfl,by repeat(exact Drawn0.refl _)⟩
def halidehelp_Ints.l0:Nat->List Int->List Int->Int->Option (Bool)
 | 0,_,_,_=>none
 | k+1,x0,x1,x5=>if x5<(x0.length:Int) then (if 0<=x5 then (if x5<(x1.length:Int) then (if (rd x0 x5)=(rd x1 x5) then (halidehelp_Ints.l0 k x0 x1 (wrap64 (x5+1))) else (some false)) else (none)) else (none)) else (some true)
def halidehelp_Ints.f (k:Nat) (l0:List Int) (l1:List Int):Option (Bool):=if (l0.length:Int)=(l1.length:Int) then (halidehelp_Ints.l0 k l0 l1 0) else (some false)
set_option maxHeartbeats 8000000 in
set_option maxRecDepth 100000 in
theorem halidehelp_Ints.calls (k:Nat) (A0:Option Addr) (c0:Nat) (l0:List Int) (A1:Option Addr) (c1:Nat) (l1:List Int) (r:Bool) (w:World) (hr0:Kd.C (Kd.int .i64) w A0 l0.length l0) (hc0:l0.length<=c0) (hr1:Kd.C (Kd.int .i64) w A1 l1.length l1) (hc1:l1.length<=c1) (h:halidehelp_Ints.f k l0 l1=some r) :
  Calls Tryz.prog 43 #[.slice A0 l0.length c0,.slice A1 l1.length c1] w fun e w'=>e = .returned (.bool r)/\Drawn0 w w':=by
 have HR0:=Aside0.mk hr0
 have HC0:=Aside0.mk hc0
 clear hr0 hc0
 have HR1:=Aside0.mk hr1
 have HC1:=Aside0.mk hc1
 clear hr1 hc1
 have H:(if (l0.length:Int)=(l1.length:Int) then (halidehelp_Ints.l0 k l0 l1 0) else (some false))=some r:=h
 clear h
 by_cases c3:(l0.length:Int)=(l1.length:Int)
 ·rw[if_pos c3] at H
  have c3b0:((l0.length:Int)==(l1.length:Int))=true:=beq_iff_eq.mpr c3
  have c3b1:((l0.length:Int) !=(l1.length:Int))=false:=bne_eq_false_iff_eq.mpr c3
  have c3b2:(l0.length==l1.length)=true:=by(simp at c3 ⊢;omega)
  clear c3
  have H':=Aside0.mk H
  clear H
  go_enter Tryz.func43,Tryz.ntmps43
  go_wp2
  repeat(go_quiet (fail);try go_wp2)
  go_loopg [5] k (fun kq v5 w' => ∃(x5_1:Int),v5 = .int .i64 x5_1/\Aside0 (halidehelp_Ints.l0 kq l0 l1 x5_1=some r)/\Aside0 (kq<=k)/\Drawn0 w w')
  case atStart=>exact⟨(0),(by rfl),H',⟨Nat.le_refl _⟩,by repeat(exact Drawn0.refl _)⟩
  case round =>
   clear H'
   (try clear c3b0)
   (try clear c3b1)
   (try clear c3b2)
   obtain⟨x5_1,rfl,HA,HK1,⟨m1,rfl⟩⟩:=hrel
   cases gk with
   | zero=>exact absurd HA.out (by simp[halidehelp_Ints.l0])
   | succ k1 =>
    have H:=HA.out
    clear HA
    simp only[halidehelp_Ints.l0] at H
    by_cases c4:x5_1<(l0.length:Int)
    ·rw[if_pos c4] at H
     have c4b0:decide (x5_1<(l0.length:Int))=true:=decide_eq_true c4
     clear c4
     by_cases c5:0<=x5_1
     ·rw[if_pos c5] at H
      have c5b0:decide (0<=x5_1)=true:=decide_eq_true c5
      clear c5
      by_cases c6:x5_1<(l1.length:Int)
      ·rw[if_pos c6] at H
       have c6b0:decide (x5_1<(l1.length:Int))=true:=decide_eq_true c6
       clear c6
       by_cases c7:(rd l0 x5_1)=(rd l1 x5_1)
       ·rw[if_pos c7] at H
        have c7b0:((rd l0 x5_1)==(rd l1 x5_1))=true:=beq_iff_eq.mpr c7
        have c7b1:((rd l0 x5_1) !=(rd l1 x5_1))=false:=bne_eq_false_iff_eq.mpr c7
        clear c7
        have H':=Aside0.mk H
        clear H
        have p156:0<=(x5_1:Int):=of_decide_eq_true (by(with_reducible assumption))
        have q156:x5_1<(l0.length:Int):=of_decide_eq_true (by(with_reducible assumption))
        obtain⟨ad156,e156,hx156_0⟩:=Kd.at_int HR0.out x5_1 p156 q156
        cases e156
        replace p156:=eq_true p156
        replace q156:=eq_true q156
        have p157:0<=(x5_1:Int):=of_decide_eq_true (by(with_reducible assumption))
        have q157:x5_1<(l1.length:Int):=of_decide_eq_true (by(with_reducible assumption))
        obtain⟨ad157,e157,hx157_0⟩:=Kd.at_int HR1.out x5_1 p157 q157
        cases e157
        replace p157:=eq_true p157
        replace q157:=eq_true q157
        go_wp2
        repeat(go_quiet (fail);try go_wp2)
        go_roundg k1
        case measure=>have:=HK1.out;omega
        case rel=>exact⟨(wrap64 (x5_1+1)),(by rfl),H',⟨by have:=HK1.out;omega⟩,by repeat(first|exact Drawn0.refl _|apply Drawn0.step)⟩
       ·rw[if_neg c7] at H
        have c7b0:((rd l0 x5_1)==(rd l1 x5_1))=false:=beq_eq_false_iff_ne.mpr c7
        have c7b1:((rd l0 x5_1) !=(rd l1 x5_1))=true:=bne_iff_ne.mpr c7
        obtain rfl:=Option.some.inj H
        have p156:0<=(x5_1:Int):=of_decide_eq_true (by(with_reducible assumption))
        have q156:x5_1<(l0.length:Int):=of_decide_eq_true (by(with_reducible assumption))
        obtain⟨ad156,e156,hx156_0⟩:=Kd.at_int HR0.out x5_1 p156 q156
        cases e156
        replace p156:=eq_true p156
        replace q156:=eq_true q156
        have p157:0<=(x5_1:Int):=of_decide_eq_true (by(with_reducible assumption))
        have q157:x5_1<(l1.length:Int):=of_decide_eq_true (by(with_reducible assumption))
        obtain⟨ad157,e157,hx157_0⟩:=Kd.at_int HR1.out x5_1 p157 q157
        cases e157
        replace p157:=eq_true p157
        replace q157:=eq_true q157
        go_wp2
        repeat(go_quiet (fail);try go_wp2)
        go_ret
        exact⟨by rfl,by repeat(first|exact Drawn0.refl _|apply Drawn0.step)⟩
      ·rw[if_neg c6] at H
       exact absurd H (by simp)
     ·rw[if_neg c5] at H
      exact absurd H (by simp)
    ·rw[if_neg c4] at H
     have c4b0:decide (x5_1<(l0.length:Int))=false:=decide_eq_false c4
     clear c4
     obtain rfl:=Option.some.inj H
     go_wp2
     repeat(go_quiet (fail);try go_wp2)
     go_ret
     exact⟨by rfl,by repeat(first|exact Drawn0.refl _|apply Drawn0.step)⟩
 ·rw[if_neg c3] at H
  have c3b0:((l0.length:Int)==(l1.length:Int))=false:=beq_eq_false_iff_ne.mpr c3
  have c3b1:((l0.length:Int) !=(l1.length:Int))=true:=bne_iff_ne.mpr c3
  have c3b2:(l0.length==l1.length)=false:=by(simp at c3 ⊢;omega)
  obtain rfl:=Option.some.inj H
  go_enter Tryz.func43,Tryz.ntmps43
  go_wp2
  repeat(go_quiet (fail);try go_wp2)
  go_ret
  exact⟨by rfl,by repeat(exact Drawn0.refl _)⟩
def halidehelp_Words.l0:Nat->List Int->List Int->Int->Option (Bool)
 | 0,_,_,_=>none
 | k+1,x0,x1,x5=>if x5<(x0.length:Int) then (if 0<=x5 then (if x5<(x1.length:Int) then (if (rd x0 x5)=(rd x1 x5) then (halidehelp_Words.l0 k x0 x1 (wrap64 (x5+1))) else (some false)) else (none)) else (none)) else (some true)
def halidehelp_Words.f (k:Nat) (l0:List Int) (l1:List Int):Option (Bool):=if (l0.length:Int)=(l1.length:Int) then (halidehelp_Words.l0 k l0 l1 0) else (some false)
set_option maxHeartbeats 8000000 in
set_option maxRecDepth 100000 in
theorem halidehelp_Words.calls (k:Nat) (A0:Option Addr) (c0:Nat) (l0:List Int) (A1:Option Addr) (c1:Nat) (l1:List Int) (r:Bool) (w:World) (hr0:Kd.C (Kd.int .u32) w A0 l0.length l0) (hc0:l0.length<=c0) (hr1:Kd.C (Kd.int .u32) w A1 l1.length l1) (hc1:l1.length<=c1) (h:halidehelp_Words.f k l0 l1=some r) :
  Calls Tryz.prog 44 #[.slice A0 l0.length c0,.slice A1 l1.length c1] w fun e w'=>e = .returned (.bool r)/\Drawn0 w w':=by
 have HR0:=Aside0.mk hr0
 have HC0:=Aside0.mk hc0
 clear hr0 hc0
 have HR1:=Aside0.mk hr1
 have HC1:=Aside0.mk hc1
 clear hr1 hc1
 have H:(if (l0.length:Int)=(l1.length:Int) then (halidehelp_Words.l0 k l0 l1 0) else (some false))=some r:=h
 clear h
 by_cases c3:(l0.length:Int)=(l1.length:Int)
 ·rw[if_pos c3] at H
  have c3b0:((l0.length:Int)==(l1.length:Int))=true:=beq_iff_eq.mpr c3
  have c3b1:((l0.length:Int) !=(l1.length:Int))=false:=bne_eq_false_iff_eq.mpr c3
  have c3b2:(l0.length==l1.length)=true:=by(simp at c3 ⊢;omega)
  clear c3
  have H':=Aside0.mk H
  clear H
  go_enter Tryz.func44,Tryz.ntmps44
  go_wp2
  repeat(go_quiet (fail);try go_wp2)
  go_loopg [5] k (fun kq v5 w' => ∃(x5_1:Int),v5 = .int .i64 x5_1/\Aside0 (halidehelp_Words.l0 kq l0 l1 x5_1=some r)/\Aside0 (kq<=k)/\Drawn0 w w')
  case atStart=>exact⟨(0),(by rfl),H',⟨Nat.le_refl _⟩,by repeat(exact Drawn0.refl _)⟩
  case round =>
   clear H'
   (try clear c3b0)
   (try clear c3b1)
   (try clear c3b2)
   obtain⟨x5_1,rfl,HA,HK1,⟨m1,rfl⟩⟩:=hrel
   cases gk with
   | zero=>exact absurd HA.out (by simp[halidehelp_Words.l0])
   | succ k1 =>
    have H:=HA.out
    clear HA
    simp only[halidehelp_Words.l0] at H
    by_cases c4:x5_1<(l0.length:Int)
    ·rw[if_pos c4] at H
     have c4b0:decide (x5_1<(l0.length:Int))=true:=decide_eq_true c4
     clear c4
     by_cases c5:0<=x5_1
     ·rw[if_pos c5] at H
      have c5b0:decide (0<=x5_1)=true:=decide_eq_true c5
      clear c5
      by_cases c6:x5_1<(l1.length:Int)
      ·rw[if_pos c6] at H
       have c6b0:decide (x5_1<(l1.length:Int))=true:=decide_eq_true c6
       clear c6
       by_cases c7:(rd l0 x5_1)=(rd l1 x5_1)
       ·rw[if_pos c7] at H
        have c7b0:((rd l0 x5_1)==(rd l1 x5_1))=true:=beq_iff_eq.mpr c7
        have c7b1:((rd l0 x5_1) !=(rd l1 x5_1))=false:=bne_eq_false_iff_eq.mpr c7
        clear c7
        have H':=Aside0.mk H
        clear H
        have p158:0<=(x5_1:Int):=of_decide_eq_true (by(with_reducible assumption))
        have q158:x5_1<(l0.length:Int):=of_decide_eq_true (by(with_reducible assumption))
        obtain⟨ad158,e158,hx158_0⟩:=Kd.at_int HR0.out x5_1 p158 q158
        cases e158
        replace p158:=eq_true p158
        replace q158:=eq_true q158
        have p159:0<=(x5_1:Int):=of_decide_eq_true (by(with_reducible assumption))
        have q159:x5_1<(l1.length:Int):=of_decide_eq_true (by(with_reducible assumption))
        obtain⟨ad159,e159,hx159_0⟩:=Kd.at_int HR1.out x5_1 p159 q159
        cases e159
        replace p159:=eq_true p159
        replace q159:=eq_true q159
        go_wp2
        repeat(go_quiet (fail);try go_wp2)
        go_roundg k1
        case measure=>have:=HK1.out;omega
        case rel=>exact⟨(wrap64 (x5_1+1)),(by rfl),H',⟨by have:=HK1.out;omega⟩,by repeat(first|exact Drawn0.refl _|apply Drawn0.step)⟩
       ·rw[if_neg c7] at H
        have c7b0:((rd l0 x5_1)==(rd l1 x5_1))=false:=beq_eq_false_iff_ne.mpr c7
        have c7b1:((rd l0 x5_1) !=(rd l1 x5_1))=true:=bne_iff_ne.mpr c7
        obtain rfl:=Option.some.inj H
        have p158:0<=(x5_1:Int):=of_decide_eq_true (by(with_reducible assumption))
        have q158:x5_1<(l0.length:Int):=of_decide_eq_true (by(with_reducible assumption))
        obtain⟨ad158,e158,hx158_0⟩:=Kd.at_int HR0.out x5_1 p158 q158
        cases e158
        replace p158:=eq_true p158
        replace q158:=eq_true q158
        have p159:0<=(x5_1:Int):=of_decide_eq_true (by(with_reducible assumption))
        have q159:x5_1<(l1.length:Int):=of_decide_eq_true (by(with_reducible assumption))
        obtain⟨ad159,e159,hx159_0⟩:=Kd.at_int HR1.out x5_1 p159 q159
        cases e159
        replace p159:=eq_true p159
        replace q159:=eq_true q159
        go_wp2
        repeat(go_quiet (fail);try go_wp2)
        go_ret
        exact⟨by rfl,by repeat(first|exact Drawn0.refl _|apply Drawn0.step)⟩
      ·rw[if_neg c6] at H
       exact absurd H (by simp)
     ·rw[if_neg c5] at H
      exact absurd H (by simp)
    ·rw[if_neg c4] at H
     have c4b0:decide (x5_1<(l0.length:Int))=false:=decide_eq_false c4
     clear c4
     obtain rfl:=Option.some.inj H
     go_wp2
     repeat(go_quiet (fail);try go_wp2)
     go_ret
     exact⟨by rfl,by repeat(first|exact Drawn0.refl _|apply Drawn0.step)⟩
 ·rw[if_neg c3] at H
  have c3b0:((l0.length:Int)==(l1.length:Int))=false:=beq_eq_false_iff_ne.mpr c3
  have c3b1:((l0.length:Int) !=(l1.length:Int))=true:=bne_iff_ne.mpr c3
  have c3b2:(l0.length==l1.length)=false:=by(simp at c3 ⊢;omega)
  obtain rfl:=Option.some.inj H
  go_enter Tryz.func44,Tryz.ntmps44
  go_wp2
  repeat(go_quiet (fail);try go_wp2)
  go_ret
  exact⟨by rfl,by repeat(exact Drawn0.refl _)⟩
def halidehelp_Plane.f (k:Nat) (a0_0:Int) (a0_1:Int) (l0_2:List Int) (a1_0:Int) (a1_1:Int) (l1_2:List Int):Option (Bool):=if a0_0=a1_0 then (if a0_1=a1_1 then ((halidehelp_Words.f k l0_2 l1_2).bind fun t162=>(some t162)) else (some false)) else (some false)
set_option maxHeartbeats 8000000 in
set_option maxRecDepth 100000 in
theorem halidehelp_Plane.calls (k:Nat) (a0_0:Int) (a0_1:Int) (A0_2:Option Addr) (c0_2:Nat) (l0_2:List Int) (a1_0:Int) (a1_1:Int) (A1_2:Option Addr) (c1_2:Nat) (l1_2:List Int) (r:Bool) (w:World) (hr0_2:Kd.C (Kd.int .u32) w A0_2 l0_2.length l0_2) (hc0_2:l0_2.length<=c0_2) (hr1_2:Kd.C (Kd.int .u32) w A1_2 l1_2.length l1_2) (hc1_2:l1_2.length<=c1_2) (h:halidehelp_Plane.f k a0_0 a0_1 l0_2 a1_0 a1_1 l1_2=some r) :
  Calls Tryz.prog 72 #[.agg #[.int .i64 a0_0,.int .i64 a0_1,.slice A0_2 l0_2.length c0_2],.agg #[.int .i64 a1_0,.int .i64 a1_1,.slice A1_2 l1_2.length c1_2]] w fun e w'=>e = .returned (.bool r)/\Below w.heap.size w w':=by
 have hu58:=Tryz.underlying58
 have HR0_2:=Aside0.mk hr0_2
 have HC0_2:=Aside0.mk hc0_2
 clear hr0_2 hc0_2
 have HR1_2:=Aside0.mk hr1_2
 have HC1_2:=Aside0.mk hc1_2
 clear hr1_2 hc1_2
 have HB:=Aside0.mk (Below.refl w.heap.size w)
 have H:(if a0_0=a1_0 then (if a0_1=a1_1 then ((halidehelp_Words.f k l0_2 l1_2).bind fun t162=>(some t162)) else (some false)) else (some false))=some r:=h
 clear h
 by_cases c3:a0_0=a1_0
 ·rw[if_pos c3] at H
  have c3b0:(a0_0==a1_0)=true:=beq_iff_eq.mpr c3
  have c3b1:(a0_0 !=a1_0)=false:=bne_eq_false_iff_eq.mpr c3
  clear c3
  by_cases c4:a0_1=a1_1
  ·rw[if_pos c4] at H
   have c4b0:(a0_1==a1_1)=true:=beq_iff_eq.mpr c4
   have c4b1:(a0_1 !=a1_1)=false:=bne_eq_false_iff_eq.mpr c4
   clear c4
   replace H:=Option.bind_eq_some_iff.mp H
   obtain⟨t162,A50,H⟩:=H
   replace H:(some t162)=some r:=H
   have A5:=Aside0.mk A50
   clear A50
   obtain rfl:=Option.some.inj H
   go_enter Tryz.func72,Tryz.ntmps72
   go_wp2_with (first|((with_reducible refine gate_dst (N:=2) rfl ?_);refine box_event ?hg (N:=2) ?hd (cs := #[.int .i64 a0_0,.int .i64 a0_1,.slice A0_2 l0_2.length c0_2]) (t:=58) ?hr ?_;(case hd=>rfl);(case hg=>rfl);(case hr=>(go_simp;done));intro gb160 hg w6 hbox hb;have n0_:=Aside0.mk (below_step (by repeat((with_reducible exact HB.out))) hb);have n1_:=Aside0.mk (hbox);have n2_:=Aside0.mk ((by rw[hg];exact(below_size (by repeat((with_reducible exact HB.out)))):w.heap.size<=gb160));have n3_:=Aside0.mk ((by rw[hg];exact(below_size (by repeat((with_reducible exact HB.out)))):w.heap.size<=gb160));clear HB;have HB:=n0_;have BK160:=n1_;have GW160:=n2_;have GE160:=n3_;clear n0_ n1_ n2_ n3_;clear hb hbox hg)|((with_reducible refine gate_dst (N:=3) rfl ?_);refine box_event ?hg (N:=3) ?hd (cs := #[.int .i64 a1_0,.int .i64 a1_1,.slice A1_2 l1_2.length c1_2]) (t:=58) ?hr ?_;(case hd=>rfl);(case hg=>rfl);(case hr=>(go_simp;done));intro gb161 hg w7 hbox hb;have n0_:=Aside0.mk (blk_below (g:=gb160) (o := .cells #[.int .i64 a0_0,.int .i64 a0_1,.slice A0_2 l0_2.length c0_2] 58 (0,0)) (by(with_reducible repeat(fail));exact BK160.out) hb);have n1_:=Aside0.mk (below_step (by repeat((with_reducible exact HB.out))) hb);have n2_:=Aside0.mk (hbox);have n3_:=Aside0.mk ((by rw[hg];exact(below_size (by repeat((with_reducible exact HB.out)))):w.heap.size<=gb161));have n4_:=Aside0.mk ((by rw[hg];exact(below_size (by repeat((with_reducible exact HB.out)))):w.heap.size<=gb161));have n5_:=Aside0.mk ((by rw[hg];exact Nat.ne_of_lt (blk_lt (g:=gb160) (o := .cells #[.int .i64 a0_0,.int .i64 a0_1,.slice A0_2 l0_2.length c0_2] 58 (0,0)) (by(with_reducible repeat(fail));exact BK160.out)):gb160≠gb161));have n6_:=Aside0.mk ((by rw[hg];exact Nat.ne_of_gt (blk_lt (g:=gb160) (o := .cells #[.int .i64 a0_0,.int .i64 a0_1,.slice A0_2 l0_2.length c0_2] 58 (0,0)) (by(with_reducible repeat(fail));exact BK160.out)):gb161≠gb160));clear BK160;clear HB;have BK160:=n0_;have HB:=n1_;have BK161:=n2_;have GW161:=n3_;have GE161:=n4_;have NB160_161:=n5_;have NB161_160:=n6_;clear n0_ n1_ n2_ n3_ n4_ n5_ n6_;clear hb hbox hg;have hnb8:=NB160_161.out;have hnc8:=NB161_160.out;have hcz9_0:w7.cell? ⟨gb160,0,none⟩=some (.int .i64 a0_0):=(blk_cell BK160.out 0).trans rfl;have hcz9_1:w7.cell? ⟨gb160,1,none⟩=some (.int .i64 a0_1):=(blk_cell BK160.out 1).trans rfl;have hcz9_2:w7.cell? ⟨gb160,2,none⟩=some (.slice A0_2 l0_2.length c0_2):=(blk_cell BK160.out 2).trans rfl;have hfz9_0:=blk_frozen BK160.out 0;have hfz9_1:=blk_frozen BK160.out 1;have hfz9_2:=blk_frozen BK160.out 2;have hcz10_0:w7.cell? ⟨gb161,0,none⟩=some (.int .i64 a1_0):=(blk_cell BK161.out 0).trans rfl;have hcz10_1:w7.cell? ⟨gb161,1,none⟩=some (.int .i64 a1_1):=(blk_cell BK161.out 1).trans rfl;have hcz10_2:w7.cell? ⟨gb161,2,none⟩=some (.slice A1_2 l1_2.length c1_2):=(blk_cell BK161.out 2).trans rfl;have hfz10_0:=blk_frozen BK161.out 0;have hfz10_1:=blk_frozen BK161.out 1;have hfz10_2:=blk_frozen BK161.out 2)|(go_at_call 44;(with_reducible refine(halidehelp_Words.calls k _ _ l0_2 _ _ l1_2 t162 _ ?side1 ?side2 ?side3 ?side4 A5.out).mono ?_);(case side1=>repeat((exact(Kd.C_below HR0_2.out HB.out))));(case side2=>exact HC0_2.out);(case side3=>repeat((exact(Kd.C_below HR1_2.out HB.out))));(case side4=>exact HC1_2.out);rintro e w' ⟨rfl,⟨nd,rfl⟩⟩))
   go_ret
   exact⟨by rfl,by repeat((with_reducible first|exact HB.out|apply pw_below_drewN))⟩
  ·rw[if_neg c4] at H
   have c4b0:(a0_1==a1_1)=false:=beq_eq_false_iff_ne.mpr c4
   have c4b1:(a0_1 !=a1_1)=true:=bne_iff_ne.mpr c4
   obtain rfl:=Option.some.inj H
   go_enter Tryz.func72,Tryz.ntmps72
   go_wp2_with (first|((with_reducible refine gate_dst (N:=2) rfl ?_);refine box_event ?hg (N:=2) ?hd (cs := #[.int .i64 a0_0,.int .i64 a0_1,.slice A0_2 l0_2.length c0_2]) (t:=58) ?hr ?_;(case hd=>rfl);(case hg=>rfl);(case hr=>(go_simp;done));intro gb160 hg w11 hbox hb;have n0_:=Aside0.mk (below_step (by repeat((with_reducible exact HB.out))) hb);have n1_:=Aside0.mk (hbox);have n2_:=Aside0.mk ((by rw[hg];exact(below_size (by repeat((with_reducible exact HB.out)))):w.heap.size<=gb160));have n3_:=Aside0.mk ((by rw[hg];exact(below_size (by repeat((with_reducible exact HB.out)))):w.heap.size<=gb160));clear HB;have HB:=n0_;have BK160:=n1_;have GW160:=n2_;have GE160:=n3_;clear n0_ n1_ n2_ n3_;clear hb hbox hg)|((with_reducible refine gate_dst (N:=3) rfl ?_);refine box_event ?hg (N:=3) ?hd (cs := #[.int .i64 a1_0,.int .i64 a1_1,.slice A1_2 l1_2.length c1_2]) (t:=58) ?hr ?_;(case hd=>rfl);(case hg=>rfl);(case hr=>(go_simp;done));intro gb161 hg w12 hbox hb;have n0_:=Aside0.mk (blk_below (g:=gb160) (o := .cells #[.int .i64 a0_0,.int .i64 a0_1,.slice A0_2 l0_2.length c0_2] 58 (0,0)) (by(with_reducible repeat(fail));exact BK160.out) hb);have n1_:=Aside0.mk (below_step (by repeat((with_reducible exact HB.out))) hb);have n2_:=Aside0.mk (hbox);have n3_:=Aside0.mk ((by rw[hg];exact(below_size (by repeat((with_reducible exact HB.out)))):w.heap.size<=gb161));have n4_:=Aside0.mk ((by rw[hg];exact(below_size (by repeat((with_reducible exact HB.out)))):w.heap.size<=gb161));have n5_:=Aside0.mk ((by rw[hg];exact Nat.ne_of_lt (blk_lt (g:=gb160) (o := .cells #[.int .i64 a0_0,.int .i64 a0_1,.slice A0_2 l0_2.length c0_2] 58 (0,0)) (by(with_reducible repeat(fail));exact BK160.out)):gb160≠gb161));have n6_:=Aside0.mk ((by rw[hg];exact Nat.ne_of_gt (blk_lt (g:=gb160) (o := .cells #[.int .i64 a0_0,.int .i64 a0_1,.slice A0_2 l0_2.length c0_2] 58 (0,0)) (by(with_reducible repeat(fail));exact BK160.out)):gb161≠gb160));clear BK160;clear HB;have BK160:=n0_;have HB:=n1_;have BK161:=n2_;have GW161:=n3_;have GE161:=n4_;have NB160_161:=n5_;have NB161_160:=n6_;clear n0_ n1_ n2_ n3_ n4_ n5_ n6_;clear hb hbox hg;have hnb13:=NB160_161.out;have hnc13:=NB161_160.out;have hcz14_0:w12.cell? ⟨gb160,0,none⟩=some (.int .i64 a0_0):=(blk_cell BK160.out 0).trans rfl;have hcz14_1:w12.cell? ⟨gb160,1,none⟩=some (.int .i64 a0_1):=(blk_cell BK160.out 1).trans rfl;have hcz14_2:w12.cell? ⟨gb160,2,none⟩=some (.slice A0_2 l0_2.length c0_2):=(blk_cell BK160.out 2).trans rfl;have hfz14_0:=blk_frozen BK160.out 0;have hfz14_1:=blk_frozen BK160.out 1;have hfz14_2:=blk_frozen BK160.out 2;have hcz15_0:w12.cell? ⟨gb161,0,none⟩=some (.int .i64 a1_0):=(blk_cell BK161.out 0).trans rfl;have hcz15_1:w12.cell? ⟨gb161,1,none⟩=some (.int .i64 a1_1):=(blk_cell BK161.out 1).trans rfl;have hcz15_2:w12.cell? ⟨gb161,2,none⟩=some (.slice A1_2 l1_2.length c1_2):=(blk_cell BK161.out 2).trans rfl;have hfz15_0:=blk_frozen BK161.out 0;have hfz15_1:=blk_frozen BK161.out 1;have hfz15_2:=blk_frozen BK161.out 2))
   go_ret
   exact⟨by rfl,by repeat((with_reducible exact HB.out))⟩
 ·rw[if_neg c3] at H
  have c3b0:(a0_0==a1_0)=false:=beq_eq_false_iff_ne.mpr c3
  have c3b1:(a0_0 !=a1_0)=true:=bne_iff_ne.mpr c3
  obtain rfl:=Option.some.inj H
  go_enter Tryz.func72,Tryz.ntmps72
  go_wp2_with (first|((with_reducible refine gate_dst (N:=2) rfl ?_);refine box_event ?hg (N:=2) ?hd (cs := #[.int .i64 a0_0,.int .i64 a0_1,.slice A0_2 l0_2.length c0_2]) (t:=58) ?hr ?_;(case hd=>rfl);(case hg=>rfl);(case hr=>(go_simp;done));intro gb160 hg w16 hbox hb;have n0_:=Aside0.mk (below_step (by repeat((with_reducible exact HB.out))) hb);have n1_:=Aside0.mk (hbox);have n2_:=Aside0.mk ((by rw[hg];exact(below_size (by repeat((with_reducible exact HB.out)))):w.heap.size<=gb160));have n3_:=Aside0.mk ((by rw[hg];exact(below_size (by repeat((with_reducible exact HB.out)))):w.heap.size<=gb160));clear HB;have HB:=n0_;have BK160:=n1_;have GW160:=n2_;have GE160:=n3_;clear n0_ n1_ n2_ n3_;clear hb hbox hg)|((with_reducible refine gate_dst (N:=3) rfl ?_);refine box_event ?hg (N:=3) ?hd (cs := #[.int .i64 a1_0,.int .i64 a1_1,.slice A1_2 l1_2.length c1_2]) (t:=58) ?hr ?_;(case hd=>rfl);(case hg=>rfl);(case hr=>(go_simp;done));intro gb161 hg w17 hbox hb;have n0_:=Aside0.mk (blk_below (g:=gb160) (o := .cells #[.int .i64 a0_0,.int .i64 a0_1,.slice A0_2 l0_2.length c0_2] 58 (0,0)) (by(with_reducible repeat(fail));exact BK160.out) hb);have n1_:=Aside0.mk (below_step (by repeat((with_reducible exact HB.out))) hb);have n2_:=Aside0.mk (hbox);have n3_:=Aside0.mk ((by rw[hg];exact(below_size (by repeat((with_reducible exact HB.out)))):w.heap.size<=gb161));have n4_:=Aside0.mk ((by rw[hg];exact(below_size (by repeat((with_reducible exact HB.out)))):w.heap.size<=gb161));have n5_:=Aside0.mk ((by rw[hg];exact Nat.ne_of_lt (blk_lt (g:=gb160) (o := .cells #[.int .i64 a0_0,.int .i64 a0_1,.slice A0_2 l0_2.length c0_2] 58 (0,0)) (by(with_reducible repeat(fail));exact BK160.out)):gb160≠gb161));have n6_:=Aside0.mk ((by rw[hg];exact Nat.ne_of_gt (blk_lt (g:=gb160) (o := .cells #[.int .i64 a0_0,.int .i64 a0_1,.slice A0_2 l0_2.length c0_2] 58 (0,0)) (by(with_reducible repeat(fail));exact BK160.out)):gb161≠gb160));clear BK160;clear HB;have BK160:=n0_;have HB:=n1_;have BK161:=n2_;have GW161:=n3_;have GE161:=n4_;have NB160_161:=n5_;have NB161_160:=n6_;clear n0_ n1_ n2_ n3_ n4_ n5_ n6_;clear hb hbox hg;have hnb18:=NB160_161.out;have hnc18:=NB161_160.out;have hcz19_0:w17.cell? ⟨gb160,0,none⟩=some (.int .i64 a0_0):=(blk_cell BK160.out 0).trans rfl;have hcz19_1:w17.cell? ⟨gb160,1,none⟩=some (.int .i64 a0_1):=(blk_cell BK160.out 1).trans rfl;have hcz19_2:w17.cell? ⟨gb160,2,none⟩=some (.slice A0_2 l0_2.length c0_2):=(blk_cell BK160.out 2).trans rfl;have hfz19_0:=blk_frozen BK160.out 0;have hfz19_1:=blk_frozen BK160.out 1;have hfz19_2:=blk_frozen BK160.out 2;have hcz20_0:w17.cell? ⟨gb161,0,none⟩=some (.int .i64 a1_0):=(blk_cell BK161.out 0).trans rfl;have hcz20_1:w17.cell? ⟨gb161,1,none⟩=some (.int .i64 a1_1):=(blk_cell BK161.out 1).trans rfl;have hcz20_2:w17.cell? ⟨gb161,2,none⟩=some (.slice A1_2 l1_2.length c1_2):=(blk_cell BK161.out 2).trans rfl;have hfz20_0:=blk_frozen BK161.out 0;have hfz20_1:=blk_frozen BK161.out 1;have hfz20_2:=blk_frozen BK161.out 2))
  go_ret
  exact⟨by rfl,by repeat((with_reducible exact HB.out))⟩
end Go.Proofs.YtgpegjmbofgmmaaGreat.PJop
