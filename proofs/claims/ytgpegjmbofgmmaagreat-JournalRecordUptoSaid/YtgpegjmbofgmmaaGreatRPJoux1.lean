/- A part of the proof. No condition. -/
import Derived.Test.YtgpegjmbofgmmaaGreatRPu
namespace Go.Proofs.YtgpegjmbofgmmaaGreat.PJou
open Go.RowKit Go.Proofs.YtgpegjmbofgmmaaGreat.PJop Go.Proofs.YtgpegjmbofgmmaaGreatW.PrintWords Go.Proofs.YtgpegjmbofgmmaaGreatW.PrintLast Go.Proofs.YtgpegjmbofgmmaaGreatW.PrintMore
attribute [local go_sem] max2_int min2_int max_two min_two max_three min_three max_four min_four
set_option linter.unusedVariables false
set_option linter.unusedSimpArgs false
def halideref5_Size.f (a0:Int) (a1:Int):Option (Bool):=if a0>=1 then (if a0<=1024 then (if a1>=1 then (if a1<=1024 then (some (decide ((wrap64 (a0*a1))<=65536))) else (some false)) else (some false)) else (some false)) else (some false)
set_option maxHeartbeats 8000000 in
set_option maxRecDepth 100000 in
theorem halideref5_Size.calls (a0:Int) (a1:Int) (r:Bool) (w:World) (h:halideref5_Size.f a0 a1=some r) :
  Calls Tryz.prog 104 #[.int .i64 a0,.int .i64 a1] w fun e w'=>e = .returned (.bool r)/\Drawn0 w w':=by
 have H:(if a0>=1 then (if a0<=1024 then (if a1>=1 then (if a1<=1024 then (some (decide ((wrap64 (a0*a1))<=65536))) else (some false)) else (some false)) else (some false)) else (some false))=some r:=h
 clear h
 by_cases c3:a0>=1
 ·rw[if_pos c3] at H
  have c3b0:decide (1<=a0)=true:=decide_eq_true c3
  clear c3
  by_cases c4:a0<=1024
  ·rw[if_pos c4] at H
   have c4b0:decide (a0<=1024)=true:=decide_eq_true c4
   clear c4
   by_cases c5:a1>=1
   ·rw[if_pos c5] at H
    have c5b0:decide (1<=a1)=true:=decide_eq_true c5
    clear c5
    by_cases c6:a1<=1024
    ·rw[if_pos c6] at H
     have c6b0:decide (a1<=1024)=true:=decide_eq_true c6
     clear c6
     obtain rfl:=Option.some.inj H
     go_enter Tryz.func104,Tryz.ntmps104
     go_wp2
     go_ret
     exact⟨by rfl,by repeat(exact Drawn0.refl _)⟩
    ·rw[if_neg c6] at H
     have c6b0:decide (a1<=1024)=false:=decide_eq_false c6
     clear c6
     obtain rfl:=Option.some.inj H
     go_enter Tryz.func104,Tryz.ntmps104
     go_wp2
     go_ret
     exact⟨by rfl,by repeat(exact Drawn0.refl _)⟩
   ·rw[if_neg c5] at H
    have c5b0:decide (1<=a1)=false:=decide_eq_false c5
    clear c5
    obtain rfl:=Option.some.inj H
    go_enter Tryz.func104,Tryz.ntmps104
    go_wp2
    go_ret
    exact⟨by rfl,by repeat(exact Drawn0.refl _)⟩
  ·rw[if_neg c4] at H
   have c4b0:decide (a0<=1024)=false:=decide_eq_false c4
   clear c4
   obtain rfl:=Option.some.inj H
   go_enter Tryz.func104,Tryz.ntmps104
   go_wp2
   go_ret
   exact⟨by rfl,by repeat(exact Drawn0.refl _)⟩
 ·rw[if_neg c3] at H
  have c3b0:decide (1<=a0)=false:=decide_eq_false c3
  clear c3
  obtain rfl:=Option.some.inj H
  go_enter Tryz.func104,Tryz.ntmps104
  go_wp2
  go_ret
  exact⟨by rfl,by repeat(exact Drawn0.refl _)⟩
def halideref5_Check.f (a0_0:Int) (a0_1:Int) (l0_2:List Int):Option (Int):=(halideref5_Size.f a0_0 a0_1).bind fun t102=>(if t102=true then (if (l0_2.length:Int)=(wrap64 (a0_0*a0_1)) then (some 0) else (some 51)) else (some 50))
set_option maxHeartbeats 8000000 in
set_option maxRecDepth 100000 in
theorem halideref5_Check.calls (a0_0:Int) (a0_1:Int) (A0_2:Option Addr) (c0_2:Nat) (l0_2:List Int) (r:Int) (w:World) (hr0_2:Kd.C (Kd.int .u32) w A0_2 l0_2.length l0_2) (hc0_2:l0_2.length<=c0_2) (h:halideref5_Check.f a0_0 a0_1 l0_2=some r) :
  Calls Tryz.prog 62 #[.agg #[.int .i64 a0_0,.int .i64 a0_1,.slice A0_2 l0_2.length c0_2]] w fun e w'=>e = .returned (.int .i64 r)/\Below w.heap.size w w':=by
 have hu58:=Tryz.underlying58
 have HR0_2:=Aside0.mk hr0_2
 have HC0_2:=Aside0.mk hc0_2
 clear hr0_2 hc0_2
 have HB:=Aside0.mk (Below.refl w.heap.size w)
 have H:((halideref5_Size.f a0_0 a0_1).bind fun t102=>(if t102=true then (if (l0_2.length:Int)=(wrap64 (a0_0*a0_1)) then (some 0) else (some 51)) else (some 50)))=some r:=h
 clear h
 replace H:=Option.bind_eq_some_iff.mp H
 obtain⟨t102,A20,H⟩:=H
 replace H:(if t102=true then (if (l0_2.length:Int)=(wrap64 (a0_0*a0_1)) then (some 0) else (some 51)) else (some 50))=some r:=H
 have A2:=Aside0.mk A20
 clear A20
 by_cases c3:t102=true
 ·subst c3
  have H1:(if (l0_2.length:Int)=(wrap64 (a0_0*a0_1)) then (some 0) else (some 51))=some r:=by rw[if_pos rfl] at H;exact H
  clear H
  have H:=H1
  clear H1
  by_cases c4:(l0_2.length:Int)=(wrap64 (a0_0*a0_1))
  ·rw[if_pos c4] at H
   have c4b0:((l0_2.length:Int)==(wrap64 (a0_0*a0_1)))=true:=beq_iff_eq.mpr c4
   have c4b1:((l0_2.length:Int) !=(wrap64 (a0_0*a0_1)))=false:=bne_eq_false_iff_eq.mpr c4
   clear c4
   obtain rfl:=Option.some.inj H
   go_enter Tryz.func62,Tryz.ntmps62
   go_wp2_with (first|((with_reducible refine gate_dst (N:=1) rfl ?_);refine box_event ?hg (N:=1) ?hd (cs := #[.int .i64 a0_0,.int .i64 a0_1,.slice A0_2 l0_2.length c0_2]) (t:=58) ?hr ?_;(case hd=>rfl);(case hg=>rfl);(case hr=>(go_simp;done));intro gb101 hg w5 hbox hb;have n0_:=Aside0.mk (below_step (by repeat((with_reducible exact HB.out))) hb);have n1_:=Aside0.mk (hbox);have n2_:=Aside0.mk ((by rw[hg];exact(below_size (by repeat((with_reducible exact HB.out)))):w.heap.size<=gb101));have n3_:=Aside0.mk ((by rw[hg];exact(below_size (by repeat((with_reducible exact HB.out)))):w.heap.size<=gb101));clear HB;have HB:=n0_;have BK101:=n1_;have GW101:=n2_;have GE101:=n3_;clear n0_ n1_ n2_ n3_;clear hb hbox hg;have hcz6_0:w5.cell? ⟨gb101,0,none⟩=some (.int .i64 a0_0):=(blk_cell BK101.out 0).trans rfl;have hcz6_1:w5.cell? ⟨gb101,1,none⟩=some (.int .i64 a0_1):=(blk_cell BK101.out 1).trans rfl;have hcz6_2:w5.cell? ⟨gb101,2,none⟩=some (.slice A0_2 l0_2.length c0_2):=(blk_cell BK101.out 2).trans rfl;have hfz6_0:=blk_frozen BK101.out 0;have hfz6_1:=blk_frozen BK101.out 1;have hfz6_2:=blk_frozen BK101.out 2)|((with_reducible refine gate_callee (f:=104) rfl ?_);refine goesL_ (some 7) rfl rfl Tryz.func104 (by kernel_rfl) rfl #[.int .i64 a0_0,.int .i64 a0_1] rfl (by(try simp only[List.map_toArray,List.map_cons,List.map_nil]);rfl) ?_;(with_reducible refine(halideref5_Size.calls a0_0 a0_1 true _ A2.out).mono ?_);rintro e w' ⟨rfl,⟨nd,rfl⟩⟩;refine⟨_,rfl,?_⟩))
   go_ret
   exact⟨by rfl,by repeat((with_reducible first|exact HB.out|apply pw_below_drewN))⟩
  ·rw[if_neg c4] at H
   have c4b0:((l0_2.length:Int)==(wrap64 (a0_0*a0_1)))=false:=beq_eq_false_iff_ne.mpr c4
   have c4b1:((l0_2.length:Int) !=(wrap64 (a0_0*a0_1)))=true:=bne_iff_ne.mpr c4
   obtain rfl:=Option.some.inj H
   go_enter Tryz.func62,Tryz.ntmps62
   go_wp2_with (first|((with_reducible refine gate_dst (N:=1) rfl ?_);refine box_event ?hg (N:=1) ?hd (cs := #[.int .i64 a0_0,.int .i64 a0_1,.slice A0_2 l0_2.length c0_2]) (t:=58) ?hr ?_;(case hd=>rfl);(case hg=>rfl);(case hr=>(go_simp;done));intro gb101 hg w7 hbox hb;have n0_:=Aside0.mk (below_step (by repeat((with_reducible exact HB.out))) hb);have n1_:=Aside0.mk (hbox);have n2_:=Aside0.mk ((by rw[hg];exact(below_size (by repeat((with_reducible exact HB.out)))):w.heap.size<=gb101));have n3_:=Aside0.mk ((by rw[hg];exact(below_size (by repeat((with_reducible exact HB.out)))):w.heap.size<=gb101));clear HB;have HB:=n0_;have BK101:=n1_;have GW101:=n2_;have GE101:=n3_;clear n0_ n1_ n2_ n3_;clear hb hbox hg;have hcz8_0:w7.cell? ⟨gb101,0,none⟩=some (.int .i64 a0_0):=(blk_cell BK101.out 0).trans rfl;have hcz8_1:w7.cell? ⟨gb101,1,none⟩=some (.int .i64 a0_1):=(blk_cell BK101.out 1).trans rfl;have hcz8_2:w7.cell? ⟨gb101,2,none⟩=some (.slice A0_2 l0_2.length c0_2):=(blk_cell BK101.out 2).trans rfl;have hfz8_0:=blk_frozen BK101.out 0;have hfz8_1:=blk_frozen BK101.out 1;have hfz8_2:=blk_frozen BK101.out 2)|((with_reducible refine gate_callee (f:=104) rfl ?_);refine goesL_ (some 7) rfl rfl Tryz.func104 (by kernel_rfl) rfl #[.int .i64 a0_0,.int .i64 a0_1] rfl (by(try simp only[List.map_toArray,List.map_cons,List.map_nil]);rfl) ?_;(with_reducible refine(halideref5_Size.calls a0_0 a0_1 true _ A2.out).mono ?_);rintro e w' ⟨rfl,⟨nd,rfl⟩⟩;refine⟨_,rfl,?_⟩))
   go_ret
   exact⟨by rfl,by repeat((with_reducible first|exact HB.out|apply pw_below_drewN))⟩
 ·replace c3:=Bool.eq_false_iff.mpr c3
  subst c3
  have H1:(some 50)=some r:=by rw[if_neg (show ¬(false=true) by decide)] at H;exact H
  clear H
  have H:=H1
  clear H1
  obtain rfl:=Option.some.inj H
  go_enter Tryz.func62,Tryz.ntmps62
  go_wp2_with (first|((with_reducible refine gate_dst (N:=1) rfl ?_);refine box_event ?hg (N:=1) ?hd (cs := #[.int .i64 a0_0,.int .i64 a0_1,.slice A0_2 l0_2.length c0_2]) (t:=58) ?hr ?_;(case hd=>rfl);(case hg=>rfl);(case hr=>(go_simp;done));intro gb101 hg w9 hbox hb;have n0_:=Aside0.mk (below_step (by repeat((with_reducible exact HB.out))) hb);have n1_:=Aside0.mk (hbox);have n2_:=Aside0.mk ((by rw[hg];exact(below_size (by repeat((with_reducible exact HB.out)))):w.heap.size<=gb101));have n3_:=Aside0.mk ((by rw[hg];exact(below_size (by repeat((with_reducible exact HB.out)))):w.heap.size<=gb101));clear HB;have HB:=n0_;have BK101:=n1_;have GW101:=n2_;have GE101:=n3_;clear n0_ n1_ n2_ n3_;clear hb hbox hg;have hcz10_0:w9.cell? ⟨gb101,0,none⟩=some (.int .i64 a0_0):=(blk_cell BK101.out 0).trans rfl;have hcz10_1:w9.cell? ⟨gb101,1,none⟩=some (.int .i64 a0_1):=(blk_cell BK101.out 1).trans rfl;have hcz10_2:w9.cell? ⟨gb101,2,none⟩=some (.slice A0_2 l0_2.length c0_2):=(blk_cell BK101.out 2).trans rfl;have hfz10_0:=blk_frozen BK101.out 0;have hfz10_1:=blk_frozen BK101.out 1;have hfz10_2:=blk_frozen BK101.out 2)|((with_reducible refine gate_callee (f:=104) rfl ?_);refine goesL_ (some 7) rfl rfl Tryz.func104 (by kernel_rfl) rfl #[.int .i64 a0_0,.int .i64 a0_1] rfl (by(try simp only[List.map_toArray,List.map_cons,List.map_nil]);rfl) ?_;(with_reducible refine(halideref5_Size.calls a0_0 a0_1 false _ A2.out).mono ?_);rintro e w' ⟨rfl,⟨nd,rfl⟩⟩;refine⟨_,rfl,?_⟩))
  go_ret
  exact⟨by rfl,by repeat((with_reducible first|exact HB.out|apply pw_below_drewN))⟩
def halideref8_spaced.f (a0:Int) (a1:Int):Option (Bool):=if a0>=0 then (if a0<=4 then (if a0=0 then (some true) else (if a1=3 then (some true) else (some (a1==4)))) else (some false)) else (some false)
set_option maxHeartbeats 8000000 in
set_option maxRecDepth 100000 in
theorem halideref8_spaced.calls (a0:Int) (a1:Int) (r:Bool) (w:World) (h:halideref8_spaced.f a0 a1=some r) :
  Calls Tryz.prog 63 #[.int .i64 a0,.int .i64 a1] w fun e w'=>e = .returned (.bool r)/\Drawn0 w w':=by
 have H:(if a0>=0 then (if a0<=4 then (if a0=0 then (some true) else (if a1=3 then (some true) else (some (a1==4)))) else (some false)) else (some false))=some r:=h
 clear h
 by_cases c3:a0>=0
 ·rw[if_pos c3] at H
  have c3b0:decide (0<=a0)=true:=decide_eq_true c3
  clear c3
  by_cases c4:a0<=4
  ·rw[if_pos c4] at H
   have c4b0:decide (a0<=4)=true:=decide_eq_true c4
   clear c4
   by_cases c5:a0=0
   ·rw[if_pos c5] at H
    have c5b0:(a0==0)=true:=beq_iff_eq.mpr c5
    have c5b1:(a0 !=0)=false:=bne_eq_false_iff_eq.mpr c5
    clear c5
    obtain rfl:=Option.some.inj H
    go_enter Tryz.func63,Tryz.ntmps63
    go_wp2
    go_ret
    exact⟨by rfl,by repeat(exact Drawn0.refl _)⟩
   ·rw[if_neg c5] at H
    have c5b0:(a0==0)=false:=beq_eq_false_iff_ne.mpr c5
    have c5b1:(a0 !=0)=true:=bne_iff_ne.mpr c5
    by_cases c6:a1=3
    ·rw[if_pos c6] at H
     have c6b0:(a1==3)=true:=beq_iff_eq.mpr c6
     have c6b1:(a1 !=3)=false:=bne_eq_false_iff_eq.mpr c6
     clear c6
     obtain rfl:=Option.some.inj H
     go_enter Tryz.func63,Tryz.ntmps63
     go_wp2
     go_ret
     exact⟨by rfl,by repeat(exact Drawn0.refl _)⟩
    ·rw[if_neg c6] at H
     have c6b0:(a1==3)=false:=beq_eq_false_iff_ne.mpr c6
     have c6b1:(a1 !=3)=true:=bne_iff_ne.mpr c6
     obtain rfl:=Option.some.inj H
     go_enter Tryz.func63,Tryz.ntmps63
     go_wp2
     go_ret
     exact⟨by rfl,by repeat(exact Drawn0.refl _)⟩
  ·rw[if_neg c4] at H
   have c4b0:decide (a0<=4)=false:=decide_eq_false c4
   clear c4
   obtain rfl:=Option.some.inj H
   go_enter Tryz.func63,Tryz.ntmps63
   go_wp2
   go_ret
   exact⟨by rfl,by repeat(exact Drawn0.refl _)⟩
 ·rw[if_neg c3] at H
  have c3b0:decide (0<=a0)=false:=decide_eq_false c3
  clear c3
  obtain rfl:=Option.some.inj H
  go_enter Tryz.func63,Tryz.ntmps63
  go_wp2
  go_ret
  exact⟨by rfl,by repeat(exact Drawn0.refl _)⟩
mutual
def halideref8_Check.j0:Nat->Bool->Int->List (S58)->Option (Int)
 | 0,_,_,_=>none
 | k+1,x15,x104000,x104001=>if x15=true then (some 80) else (halideref8_Check.l0 k 0 x104000 x104001)
def halideref8_Check.l0:Nat->Int->Int->List (S58)->Option (Int)
 | 0,_,_,_=>none
 | k+1,x3,x104000,x104001=>if x3<(x104001.length:Int) then (if 0<=x3 then ((halideref5_Check.f ((rd_T58 x104001 x3).f0) ((rd_T58 x104001 x3).f1) ((rd_T58 x104001 x3).f2)).bind fun t105=>(if t105=0 then (halideref8_Check.l0 k (wrap64 (x3+1)) x104000 x104001) else (some t105))) else (none)) else (halideref8_Check.l1 k 0 x104000 x104001)
def halideref8_Check.l1:Nat->Int->Int->List (S58)->Option (Int)
 | 0,_,_,_=>none
 | k+1,x5,x104000,x104001=>if x5<(x104001.length:Int) then (if 0<=x5 then (if 0<(x104001.length:Int) then (if ((rd_T58 x104001 x5).f0)=((rd_T58 x104001 0).f0) then (if ((rd_T58 x104001 x5).f1)=((rd_T58 x104001 0).f1) then (halideref8_Check.l1 k (wrap64 (x5+1)) x104000 x104001) else (some 80)) else (some 80)) else (none)) else (none)) else ((halideref8_spaced.f x104000 (x104001.length:Int)).bind fun t110=>(if t110=true then (some 0) else (some 81)))
end
def halideref8_Check.f (k:Nat) (a0_0:Int) (l0_1:List (S58)):Option (Int):=if (l0_1.length:Int)=0 then (halideref8_Check.j0 k true a0_0 l0_1) else (halideref8_Check.j0 k (decide ((l0_1.length:Int)>4)) a0_0 l0_1)
set_option maxHeartbeats 8000000 in
set_option maxRecDepth 100000 in
theorem halideref8_Check.calls (k:Nat) (a0_0:Int) (A0_1:Option Addr) (c0_1:Nat) (l0_1:List (S58)) (r:Int) (w:World) (hr0_1:Kd.C k58 w A0_1 l0_1.length l0_1) (hc0_1:l0_1.length<=c0_1) (h:halideref8_Check.f k a0_0 l0_1=some r) :
  Calls Tryz.prog 30 #[.agg #[.int .i64 a0_0,.slice A0_1 l0_1.length c0_1]] w fun e w'=>e = .returned (.int .i64 r)/\Below w.heap.size w w':=by
 have hu25:=Tryz.underlying25
 have hu58:=Tryz.underlying58
 have HR0_1:=Aside0.mk hr0_1
 have HC0_1:=Aside0.mk hc0_1
 clear hr0_1 hc0_1
 have HB:=Aside0.mk (Below.refl w.heap.size w)
 have H:(if (l0_1.length:Int)=0 then (halideref8_Check.j0 k true a0_0 l0_1) else (halideref8_Check.j0 k (decide ((l0_1.length:Int)>4)) a0_0 l0_1))=some r:=h
 clear h
 have HC2:=Aside0.mk H
 clear H
 go_enter Tryz.func30,Tryz.ntmps30
 go_upto_region 1 with (((with_reducible refine gate_dst (N:=1) rfl ?_);(try(refine gate_guard (by rfl) ?_;dsimp only));refine box_event ?hg (N:=1) ?hd (cs := #[.int .i64 a0_0,.slice A0_1 l0_1.length c0_1]) (t:=25) ?hr ?_;(case hd=>rfl);(case hg=>rfl);(case hr=>(go_simp;done));intro gb103 hg w3 hbox hb;have n0_:=Aside0.mk (below_step (by repeat((with_reducible exact HB.out))) hb);have n1_:=Aside0.mk (hbox);have n2_:=Aside0.mk ((by rw[hg];exact(below_size (by repeat((with_reducible exact HB.out)))):w.heap.size<=gb103));have n3_:=Aside0.mk ((by rw[hg];exact(below_size (by repeat((with_reducible exact HB.out)))):w.heap.size<=gb103));clear HB;have HB:=n0_;have BK103:=n1_;have GW103:=n2_;have GE103:=n3_;clear n0_ n1_ n2_ n3_;clear hb hbox hg))
 repeat(go_quiet (fail);go_upto_region 1 with (fail))
 go_cut [15] (fun v15 wc => ∃(kq:Nat) (x15_1:Bool),v15 = .bool x15_1/\Aside0 (halideref8_Check.j0 kq x15_1 a0_0 l0_1=some r)/\Aside0 (kq<=k)/\Aside0 (wc.heap[gb103]?=some (.cells #[.int .i64 a0_0,(.slice A0_1 l0_1.length c0_1)] 25 (0,0)))/\Aside0 (Below w.heap.size w wc))
 case first =>
  have H:=HC2.out
  clear HC2
  by_cases c4:(l0_1.length:Int)=0
  ·rw[if_pos c4] at H
   have c4b0:((l0_1.length:Int)==0)=true:=beq_iff_eq.mpr c4
   have c4b1:((l0_1.length:Int) !=0)=false:=bne_eq_false_iff_eq.mpr c4
   clear c4
   (skip)
   have H':=Aside0.mk H
   clear H
   have hcz5_0:w3.cell? ⟨gb103,0,none⟩=some (.int .i64 a0_0):=(blk_cell BK103.out 0).trans rfl
   have hcz5_1:w3.cell? ⟨gb103,1,none⟩=some (.slice A0_1 l0_1.length c0_1):=(blk_cell BK103.out 1).trans rfl
   have hfz5_0:=blk_frozen BK103.out 0
   have hfz5_1:=blk_frozen BK103.out 1
   go_wp2
   repeat(go_quiet (fail);try go_wp2)
   go_meet
   case rel=>exact⟨_,(true),(by rfl),H',⟨by omega⟩,⟨by(with_reducible repeat(fail));exact BK103.out⟩,⟨by repeat((with_reducible exact HB.out))⟩⟩
  ·rw[if_neg c4] at H
   have c4b0:((l0_1.length:Int)==0)=false:=beq_eq_false_iff_ne.mpr c4
   have c4b1:((l0_1.length:Int) !=0)=true:=bne_iff_ne.mpr c4
   have c4b2 : ¬(l0_1 = []):=fun h_=>c4 (by rw[h_];rfl)
   (skip)
   have H':=Aside0.mk H
   clear H
   have hcz6_0:w3.cell? ⟨gb103,0,none⟩=some (.int .i64 a0_0):=(blk_cell BK103.out 0).trans rfl
   have hcz6_1:w3.cell? ⟨gb103,1,none⟩=some (.slice A0_1 l0_1.length c0_1):=(blk_cell BK103.out 1).trans rfl
   have hfz6_0:=blk_frozen BK103.out 0
   have hfz6_1:=blk_frozen BK103.out 1
   go_wp2
   repeat(go_quiet (fail);try go_wp2)
   go_meet
   case rel=>exact⟨_,(decide ((l0_1.length:Int)>4)),(by rfl),H',⟨by omega⟩,⟨by(with_reducible repeat(fail));exact BK103.out⟩,⟨by repeat((with_reducible exact HB.out))⟩⟩
 case rest =>
  clear HC2
  obtain⟨kq,x15_1,rfl,HA,HJ1,BK103,HB⟩:=hcut
  cases kq with
  | zero=>exact absurd HA.out (by simp[halideref8_Check.j0])
  | succ kj1 =>
   have H:=HA.out
   clear HA
   simp only[halideref8_Check.j0] at H
   by_cases c7:x15_1=true
   ·subst c7
    have H1:(some 80)=some r:=by rw[if_pos rfl] at H;exact H
    clear H
    have H:=H1
    clear H1
    obtain rfl:=Option.some.inj H
    go_wp2
    repeat(go_quiet (fail);try go_wp2)
    go_ret
    exact⟨by rfl,by repeat((with_reducible exact HB.out))⟩
   ·replace c7:=Bool.eq_false_iff.mpr c7
    subst c7
    have H1:(halideref8_Check.l0 kj1 0 a0_0 l0_1)=some r:=by rw[if_neg (show ¬(false=true) by decide)] at H;exact H
    clear H
    have H:=H1
    clear H1
    have H':=Aside0.mk H
    clear H
    go_wp2
    repeat(go_quiet (fail);try go_wp2)
    go_loopg [3] kj1 (fun kq v3 w' => ∃(x3_2:Int),v3 = .int .i64 x3_2/\Aside0 (halideref8_Check.l0 kq x3_2 a0_0 l0_1=some r)/\Aside0 (kq<=kj1)/\Aside0 (w'.heap[gb103]?=some (.cells #[.int .i64 a0_0,(.slice A0_1 l0_1.length c0_1)] 25 (0,0)))/\Aside0 (Below w.heap.size w w'))
    case atStart=>exact⟨(0),(by rfl),H',⟨Nat.le_refl _⟩,⟨by(with_reducible repeat(fail));exact BK103.out⟩,⟨by repeat((with_reducible exact HB.out))⟩⟩
    case round =>
     clear H'
     obtain⟨x3_2,rfl,HA,HK2,BK103,HB⟩:=hrel
     cases gk with
     | zero=>exact absurd HA.out (by simp[halideref8_Check.l0])
     | succ k2 =>
      have H:=HA.out
      clear HA
      simp only[halideref8_Check.l0] at H
      by_cases c8:x3_2<(l0_1.length:Int)
      ·rw[if_pos c8] at H
       have c8b0:decide (x3_2<(l0_1.length:Int))=true:=decide_eq_true c8
       clear c8
       by_cases c9:0<=x3_2
       ·rw[if_pos c9] at H
        have c9b0:decide (0<=x3_2)=true:=decide_eq_true c9
        clear c9
        replace H:=Option.bind_eq_some_iff.mp H
        obtain⟨t105,A100,H⟩:=H
        replace H:(if t105=0 then (halideref8_Check.l0 k2 (wrap64 (x3_2+1)) a0_0 l0_1) else (some t105))=some r:=H
        have A10:=Aside0.mk A100
        clear A100
        by_cases c11:t105=0
        ·rw[if_pos c11] at H
         have c11b0:(t105==0)=true:=beq_iff_eq.mpr c11
         have c11b1:(t105 !=0)=false:=bne_eq_false_iff_eq.mpr c11
         clear c11
         have H':=Aside0.mk H
         clear H
         have hcz12_0:wr.cell? ⟨gb103,0,none⟩=some (.int .i64 a0_0):=(blk_cell BK103.out 0).trans rfl
         have hcz12_1:wr.cell? ⟨gb103,1,none⟩=some (.slice A0_1 l0_1.length c0_1):=(blk_cell BK103.out 1).trans rfl
         have hfz12_0:=blk_frozen BK103.out 0
         have hfz12_1:=blk_frozen BK103.out 1
         have p104:0<=(x3_2:Int):=of_decide_eq_true (by(with_reducible assumption))
         have q104:x3_2<(l0_1.length:Int):=of_decide_eq_true (by(with_reducible assumption))
         obtain⟨ad104,A104_2,c104_2,e104,hx104_0,hx104_1,hx104_2,hl104_2,hi104_2⟩:=at_T58 HR0_1.out x3_2 p104 q104
         cases e104
         replace hx104_0:=(HB.out.cell (World.block_lt_of_cell? w _ hx104_0)).trans hx104_0
         replace hx104_1:=(HB.out.cell (World.block_lt_of_cell? w _ hx104_1)).trans hx104_1
         replace hx104_2:=(HB.out.cell (World.block_lt_of_cell? w _ hx104_2)).trans hx104_2
         have HR104_2:=Aside0.mk hi104_2
         have HC104_2:=Aside0.mk hl104_2
         clear hi104_2 hl104_2
         replace p104:=eq_true p104
         replace q104:=eq_true q104
         go_wp2_with ((go_at_call 62;(with_reducible refine(halideref5_Check.calls ((rd_T58 l0_1 x3_2).f0) ((rd_T58 l0_1 x3_2).f1) _ _ ((rd_T58 l0_1 x3_2).f2) t105 _ ?side1 ?side2 A10.out).mono ?_);(case side1=>repeat((exact(Kd.C_below HR104_2.out HB.out))));(case side2=>exact HC104_2.out);rintro e w13 ⟨rfl,hb⟩;have n0_:=Aside0.mk (blk_below (g:=gb103) (o := .cells #[.int .i64 a0_0,.slice (some ad104) l0_1.length c0_1] 25 (0,0)) (by(with_reducible repeat(fail));exact BK103.out) hb);have n1_:=Aside0.mk (below_step (by repeat((with_reducible exact HB.out))) hb);clear BK103;clear HB;have BK103:=n0_;have HB:=n1_;clear n0_ n1_;(try clear hb)))
         repeat(go_quiet (fail);try go_wp2_with (fail))
         go_roundg k2
         case measure=>have:=HJ1.out;have:=HK2.out;omega
         case rel=>exact⟨(wrap64 (x3_2+1)),(by rfl),H',⟨by have:=HJ1.out;have:=HK2.out;omega⟩,⟨by(with_reducible repeat(fail));exact BK103.out⟩,⟨by repeat((with_reducible exact HB.out))⟩⟩
        ·rw[if_neg c11] at H
         have c11b0:(t105==0)=false:=beq_eq_false_iff_ne.mpr c11
         have c11b1:(t105 !=0)=true:=bne_iff_ne.mpr c11
         obtain rfl:=Option.some.inj H
         have hcz14_0:wr.cell? ⟨gb103,0,none⟩=some (.int .i64 a0_0):=(blk_cell BK103.out 0).trans rfl
         have hcz14_1:wr.cell? ⟨gb103,1,none⟩=some (.slice A0_1 l0_1.length c0_1):=(blk_cell BK103.out 1).trans rfl
         have hfz14_0:=blk_frozen BK103.out 0
         have hfz14_1:=blk_frozen BK103.out 1
         have p104:0<=(x3_2:Int):=of_decide_eq_true (by(with_reducible assumption))
         have q104:x3_2<(l0_1.length:Int):=of_decide_eq_true (by(with_reducible assumption))
         obtain⟨ad104,A104_2,c104_2,e104,hx104_0,hx104_1,hx104_2,hl104_2,hi104_2⟩:=at_T58 HR0_1.out x3_2 p104 q104
         cases e104
         replace hx104_0:=(HB.out.cell (World.block_lt_of_cell? w _ hx104_0)).trans hx104_0
         replace hx104_1:=(HB.out.cell (World.block_lt_of_cell? w _ hx104_1)).trans hx104_1
         replace hx104_2:=(HB.out.cell (World.block_lt_of_cell? w _ hx104_2)).trans hx104_2
         have HR104_2:=Aside0.mk hi104_2
         have HC104_2:=Aside0.mk hl104_2
         clear hi104_2 hl104_2
         replace p104:=eq_true p104
         replace q104:=eq_true q104
         go_wp2_with ((go_at_call 62;(with_reducible refine(halideref5_Check.calls ((rd_T58 l0_1 x3_2).f0) ((rd_T58 l0_1 x3_2).f1) _ _ ((rd_T58 l0_1 x3_2).f2) t105 _ ?side1 ?side2 A10.out).mono ?_);(case side1=>repeat((exact(Kd.C_below HR104_2.out HB.out))));(case side2=>exact HC104_2.out);rintro e w15 ⟨rfl,hb⟩;have n0_:=Aside0.mk (blk_below (g:=gb103) (o := .cells #[.int .i64 a0_0,.slice (some ad104) l0_1.length c0_1] 25 (0,0)) (by(with_reducible repeat(fail));exact BK103.out) hb);have n1_:=Aside0.mk (below_step (by repeat((with_reducible exact HB.out))) hb);clear BK103;clear HB;have BK103:=n0_;have HB:=n1_;clear n0_ n1_;(try clear hb)))
         repeat(go_quiet (fail);try go_wp2_with (fail))
         go_ret
         exact⟨by rfl,by repeat((with_reducible exact HB.out))⟩
       ·rw[if_neg c9] at H
        exact absurd H (by simp)
      ·rw[if_neg c8] at H
       have c8b0:decide (x3_2<(l0_1.length:Int))=false:=decide_eq_false c8
       clear c8
       have H':=Aside0.mk H
       clear H
       have hcz16_0:wr.cell? ⟨gb103,0,none⟩=some (.int .i64 a0_0):=(blk_cell BK103.out 0).trans rfl
       have hcz16_1:wr.cell? ⟨gb103,1,none⟩=some (.slice A0_1 l0_1.length c0_1):=(blk_cell BK103.out 1).trans rfl
       have hfz16_0:=blk_frozen BK103.out 0
       have hfz16_1:=blk_frozen BK103.out 1
       go_wp2
       repeat(go_quiet (fail);try go_wp2)
       go_loopg [5] k2 (fun kq v5 w' => ∃(x5_3:Int),v5 = .int .i64 x5_3/\Aside0 (halideref8_Check.l1 kq x5_3 a0_0 l0_1=some r)/\Aside0 (kq<=k2)/\Aside0 (w'.heap[gb103]?=some (.cells #[.int .i64 a0_0,(.slice A0_1 l0_1.length c0_1)] 25 (0,0)))/\Aside0 (Below w.heap.size w w'))
       case atStart=>exact⟨(0),(by rfl),H',⟨Nat.le_refl _⟩,⟨by(with_reducible repeat(fail));exact BK103.out⟩,⟨by repeat((with_reducible exact HB.out))⟩⟩
       case round =>
        clear H'
        (try clear c8b0)
        (try clear hcz16_0)
        (try clear hcz16_1)
        (try clear hfz16_0)
        (try clear hfz16_1)
        obtain⟨x5_3,rfl,HA,HK3,BK103,HB⟩:=hrel
        cases gk with
        | zero=>exact absurd HA.out (by simp[halideref8_Check.l1])
        | succ k3 =>
         have H:=HA.out
         clear HA
         simp only[halideref8_Check.l1] at H
         by_cases c17:x5_3<(l0_1.length:Int)
         ·rw[if_pos c17] at H
          have c17b0:decide (x5_3<(l0_1.length:Int))=true:=decide_eq_true c17
          clear c17
          by_cases c18:0<=x5_3
          ·rw[if_pos c18] at H
           have c18b0:decide (0<=x5_3)=true:=decide_eq_true c18
           clear c18
           by_cases c19:0<(l0_1.length:Int)
           ·rw[if_pos c19] at H
            have c19b0:decide (0<(l0_1.length:Int))=true:=decide_eq_true c19
            have c19b1:decide (0<l0_1.length)=true:=decide_eq_true (by omega)
            clear c19
            by_cases c20:((rd_T58 l0_1 x5_3).f0)=((rd_T58 l0_1 0).f0)
            ·rw[if_pos c20] at H
             have c20b0:(((rd_T58 l0_1 x5_3).f0)==((rd_T58 l0_1 0).f0))=true:=beq_iff_eq.mpr c20
             have c20b1:(((rd_T58 l0_1 x5_3).f0) !=((rd_T58 l0_1 0).f0))=false:=bne_eq_false_iff_eq.mpr c20
             clear c20
             by_cases c21:((rd_T58 l0_1 x5_3).f1)=((rd_T58 l0_1 0).f1)
             ·rw[if_pos c21] at H
              have c21b0:(((rd_T58 l0_1 x5_3).f1)==((rd_T58 l0_1 0).f1))=true:=beq_iff_eq.mpr c21
              have c21b1:(((rd_T58 l0_1 x5_3).f1) !=((rd_T58 l0_1 0).f1))=false:=bne_eq_false_iff_eq.mpr c21
              clear c21
              have H':=Aside0.mk H
              clear H
              have hcz22_0:wr.cell? ⟨gb103,0,none⟩=some (.int .i64 a0_0):=(blk_cell BK103.out 0).trans rfl
              have hcz22_1:wr.cell? ⟨gb103,1,none⟩=some (.slice A0_1 l0_1.length c0_1):=(blk_cell BK103.out 1).trans rfl
              have hfz22_0:=blk_frozen BK103.out 0
              have hfz22_1:=blk_frozen BK103.out 1
              have p106:0<=(x5_3:Int):=of_decide_eq_true (by(with_reducible assumption))
              have q106:x5_3<(l0_1.length:Int):=of_decide_eq_true (by(with_reducible assumption))
              obtain⟨ad106,A106_2,c106_2,e106,hx106_0,hx106_1,hx106_2,hl106_2,hi106_2⟩:=at_T58 HR0_1.out x5_3 p106 q106
              cases e106
              replace hx106_0:=(HB.out.cell (World.block_lt_of_cell? w _ hx106_0)).trans hx106_0
              replace hx106_1:=(HB.out.cell (World.block_lt_of_cell? w _ hx106_1)).trans hx106_1
              replace hx106_2:=(HB.out.cell (World.block_lt_of_cell? w _ hx106_2)).trans hx106_2
              have HR106_2:=Aside0.mk hi106_2
              have HC106_2:=Aside0.mk hl106_2
              clear hi106_2 hl106_2
              replace p106:=eq_true p106
              replace q106:=eq_true q106
              have p107:0<=(0:Int):=(by omega)
              have q107:0<(l0_1.length:Int):=of_decide_eq_true (by(with_reducible assumption))
              obtain⟨ad107,A107_2,c107_2,e107,hx107_0,hx107_1,hx107_2,hl107_2,hi107_2⟩:=at_T58 HR0_1.out 0 p107 q107
              obtain rfl:ad106=ad107:=(by injection e107)
              have qi107:(0<l0_1.length)=True:=eq_true (by omega)
              (try rw[show((0:Int)).toNat=0 from rfl] at hx107_0)
              (try rw[show 0*3=0 from rfl] at hx107_0)
              (try rw[Addr.add_zero'] at hx107_0)
              (try rw[show((0:Int)).toNat=0 from rfl] at hx107_1)
              (try rw[show 0*3=0 from rfl] at hx107_1)
              (try rw[Addr.add_zero'] at hx107_1)
              (try rw[show((0:Int)).toNat=0 from rfl] at hx107_2)
              (try rw[show 0*3=0 from rfl] at hx107_2)
              (try rw[Addr.add_zero'] at hx107_2)
              replace hx107_0:=(HB.out.cell (World.block_lt_of_cell? w _ hx107_0)).trans hx107_0
              replace hx107_1:=(HB.out.cell (World.block_lt_of_cell? w _ hx107_1)).trans hx107_1
              replace hx107_2:=(HB.out.cell (World.block_lt_of_cell? w _ hx107_2)).trans hx107_2
              have HR107_2:=Aside0.mk hi107_2
              have HC107_2:=Aside0.mk hl107_2
              clear hi107_2 hl107_2
              replace p107:=eq_true p107
              replace q107:=eq_true q107
              have p108:0<=(x5_3:Int):=of_decide_eq_true (by(with_reducible assumption))
              have q108:x5_3<(l0_1.length:Int):=of_decide_eq_true (by(with_reducible assumption))
              obtain⟨ad108,A108_2,c108_2,e108,hx108_0,hx108_1,hx108_2,hl108_2,hi108_2⟩:=at_T58 HR0_1.out x5_3 p108 q108
              obtain rfl:ad106=ad108:=(by injection e108)
              replace hx108_0:=(HB.out.cell (World.block_lt_of_cell? w _ hx108_0)).trans hx108_0
              replace hx108_1:=(HB.out.cell (World.block_lt_of_cell? w _ hx108_1)).trans hx108_1
              replace hx108_2:=(HB.out.cell (World.block_lt_of_cell? w _ hx108_2)).trans hx108_2
              have HR108_2:=Aside0.mk hi108_2
              have HC108_2:=Aside0.mk hl108_2
              clear hi108_2 hl108_2
              replace p108:=eq_true p108
              replace q108:=eq_true q108
              have ea_:=Option.some.inj (hx106_2.symm.trans hx108_2)
              injection ea_ with ea_ en_ ec_
              subst ea_
              subst ec_
              clear en_
              have p109:0<=(0:Int):=(by omega)
              have q109:0<(l0_1.length:Int):=of_decide_eq_true (by(with_reducible assumption))
              obtain⟨ad109,A109_2,c109_2,e109,hx109_0,hx109_1,hx109_2,hl109_2,hi109_2⟩:=at_T58 HR0_1.out 0 p109 q109
              obtain rfl:ad106=ad109:=(by injection e109)
              have qi109:(0<l0_1.length)=True:=eq_true (by omega)
              (try rw[show((0:Int)).toNat=0 from rfl] at hx109_0)
              (try rw[show 0*3=0 from rfl] at hx109_0)
              (try rw[Addr.add_zero'] at hx109_0)
              (try rw[show((0:Int)).toNat=0 from rfl] at hx109_1)
              (try rw[show 0*3=0 from rfl] at hx109_1)
              (try rw[Addr.add_zero'] at hx109_1)
              (try rw[show((0:Int)).toNat=0 from rfl] at hx109_2)
              (try rw[show 0*3=0 from rfl] at hx109_2)
              (try rw[Addr.add_zero'] at hx109_2)
              replace hx109_0:=(HB.out.cell (World.block_lt_of_cell? w _ hx109_0)).trans hx109_0
              replace hx109_1:=(HB.out.cell (World.block_lt_of_cell? w _ hx109_1)).trans hx109_1
              replace hx109_2:=(HB.out.cell (World.block_lt_of_cell? w _ hx109_2)).trans hx109_2
              have HR109_2:=Aside0.mk hi109_2
              have HC109_2:=Aside0.mk hl109_2
              clear hi109_2 hl109_2
              replace p109:=eq_true p109
              replace q109:=eq_true q109
              have ea_:=Option.some.inj (hx107_2.symm.trans hx109_2)
              injection ea_ with ea_ en_ ec_
              subst ea_
              subst ec_
              clear en_
              go_wp2
              repeat(go_quiet (fail);try go_wp2)
              go_roundg k3
              case measure=>have:=HJ1.out;have:=HK2.out;have:=HK3.out;omega
              case rel=>exact⟨(wrap64 (x5_3+1)),(by rfl),H',⟨by have:=HJ1.out;have:=HK2.out;have:=HK3.out;omega⟩,⟨by(with_reducible repeat((refine blk_drewN ?_ _)));exact BK103.out⟩,⟨by repeat((with_reducible first|exact HB.out|apply pw_below_drewN))⟩⟩
             ·rw[if_neg c21] at H
              have c21b0:(((rd_T58 l0_1 x5_3).f1)==((rd_T58 l0_1 0).f1))=false:=beq_eq_false_iff_ne.mpr c21
              have c21b1:(((rd_T58 l0_1 x5_3).f1) !=((rd_T58 l0_1 0).f1))=true:=bne_iff_ne.mpr c21
              obtain rfl:=Option.some.inj H
              have hcz23_0:wr.cell? ⟨gb103,0,none⟩=some (.int .i64 a0_0):=(blk_cell BK103.out 0).trans rfl
              have hcz23_1:wr.cell? ⟨gb103,1,none⟩=some (.slice A0_1 l0_1.length c0_1):=(blk_cell BK103.out 1).trans rfl
              have hfz23_0:=blk_frozen BK103.out 0
              have hfz23_1:=blk_frozen BK103.out 1
              have p106:0<=(x5_3:Int):=of_decide_eq_true (by(with_reducible assumption))
              have q106:x5_3<(l0_1.length:Int):=of_decide_eq_true (by(with_reducible assumption))
              obtain⟨ad106,A106_2,c106_2,e106,hx106_0,hx106_1,hx106_2,hl106_2,hi106_2⟩:=at_T58 HR0_1.out x5_3 p106 q106
              cases e106
              replace hx106_0:=(HB.out.cell (World.block_lt_of_cell? w _ hx106_0)).trans hx106_0
              replace hx106_1:=(HB.out.cell (World.block_lt_of_cell? w _ hx106_1)).trans hx106_1
              replace hx106_2:=(HB.out.cell (World.block_lt_of_cell? w _ hx106_2)).trans hx106_2
              have HR106_2:=Aside0.mk hi106_2
              have HC106_2:=Aside0.mk hl106_2
              clear hi106_2 hl106_2
              replace p106:=eq_true p106
              replace q106:=eq_true q106
              have p107:0<=(0:Int):=(by omega)
              have q107:0<(l0_1.length:Int):=of_decide_eq_true (by(with_reducible assumption))
              obtain⟨ad107,A107_2,c107_2,e107,hx107_0,hx107_1,hx107_2,hl107_2,hi107_2⟩:=at_T58 HR0_1.out 0 p107 q107
              obtain rfl:ad106=ad107:=(by injection e107)
              have qi107:(0<l0_1.length)=True:=eq_true (by omega)
              (try rw[show((0:Int)).toNat=0 from rfl] at hx107_0)
              (try rw[show 0*3=0 from rfl] at hx107_0)
              (try rw[Addr.add_zero'] at hx107_0)
              (try rw[show((0:Int)).toNat=0 from rfl] at hx107_1)
              (try rw[show 0*3=0 from rfl] at hx107_1)
              (try rw[Addr.add_zero'] at hx107_1)
              (try rw[show((0:Int)).toNat=0 from rfl] at hx107_2)
              (try rw[show 0*3=0 from rfl] at hx107_2)
              (try rw[Addr.add_zero'] at hx107_2)
              replace hx107_0:=(HB.out.cell (World.block_lt_of_cell? w _ hx107_0)).trans hx107_0
              replace hx107_1:=(HB.out.cell (World.block_lt_of_cell? w _ hx107_1)).trans hx107_1
              replace hx107_2:=(HB.out.cell (World.block_lt_of_cell? w _ hx107_2)).trans hx107_2
              have HR107_2:=Aside0.mk hi107_2
              have HC107_2:=Aside0.mk hl107_2
              clear hi107_2 hl107_2
              replace p107:=eq_true p107
              replace q107:=eq_true q107
              have p108:0<=(x5_3:Int):=of_decide_eq_true (by(with_reducible assumption))
              have q108:x5_3<(l0_1.length:Int):=of_decide_eq_true (by(with_reducible assumption))
              obtain⟨ad108,A108_2,c108_2,e108,hx108_0,hx108_1,hx108_2,hl108_2,hi108_2⟩:=at_T58 HR0_1.out x5_3 p108 q108
              obtain rfl:ad106=ad108:=(by injection e108)
              replace hx108_0:=(HB.out.cell (World.block_lt_of_cell? w _ hx108_0)).trans hx108_0
              replace hx108_1:=(HB.out.cell (World.block_lt_of_cell? w _ hx108_1)).trans hx108_1
              replace hx108_2:=(HB.out.cell (World.block_lt_of_cell? w _ hx108_2)).trans hx108_2
              have HR108_2:=Aside0.mk hi108_2
              have HC108_2:=Aside0.mk hl108_2
              clear hi108_2 hl108_2
              replace p108:=eq_true p108
              replace q108:=eq_true q108
              have ea_:=Option.some.inj (hx106_2.symm.trans hx108_2)
              injection ea_ with ea_ en_ ec_
              subst ea_
              subst ec_
              clear en_
              have p109:0<=(0:Int):=(by omega)
              have q109:0<(l0_1.length:Int):=of_decide_eq_true (by(with_reducible assumption))
              obtain⟨ad109,A109_2,c109_2,e109,hx109_0,hx109_1,hx109_2,hl109_2,hi109_2⟩:=at_T58 HR0_1.out 0 p109 q109
              obtain rfl:ad106=ad109:=(by injection e109)
              have qi109:(0<l0_1.length)=True:=eq_true (by omega)
              (try rw[show((0:Int)).toNat=0 from rfl] at hx109_0)
              (try rw[show 0*3=0 from rfl] at hx109_0)
              (try rw[Addr.add_zero'] at hx109_0)
              (try rw[show((0:Int)).toNat=0 from rfl] at hx109_1)
              (try rw[show 0*3=0 from rfl] at hx109_1)
              (try rw[Addr.add_zero'] at hx109_1)
              (try rw[show((0:Int)).toNat=0 from rfl] at hx109_2)
              (try rw[show 0*3=0 from rfl] at hx109_2)
              (try rw[Addr.add_zero'] at hx109_2)
              replace hx109_0:=(HB.out.cell (World.block_lt_of_cell? w _ hx109_0)).trans hx109_0
              replace hx109_1:=(HB.out.cell (World.block_lt_of_cell? w _ hx109_1)).trans hx109_1
              replace hx109_2:=(HB.out.cell (World.block_lt_of_cell? w _ hx109_2)).trans hx109_2
              have HR109_2:=Aside0.mk hi109_2
              have HC109_2:=Aside0.mk hl109_2
              clear hi109_2 hl109_2
              replace p109:=eq_true p109
              replace q109:=eq_true q109
              have ea_:=Option.some.inj (hx107_2.symm.trans hx109_2)
              injection ea_ with ea_ en_ ec_
              subst ea_
              subst ec_
              clear en_
              go_wp2
              repeat(go_quiet (fail);try go_wp2)
              go_ret
              exact⟨by rfl,by repeat((with_reducible first|exact HB.out|apply pw_below_drewN))⟩
            ·rw[if_neg c20] at H
             have c20b0:(((rd_T58 l0_1 x5_3).f0)==((rd_T58 l0_1 0).f0))=false:=beq_eq_false_iff_ne.mpr c20
             have c20b1:(((rd_T58 l0_1 x5_3).f0) !=((rd_T58 l0_1 0).f0))=true:=bne_iff_ne.mpr c20
             obtain rfl:=Option.some.inj H
             have hcz24_0:wr.cell? ⟨gb103,0,none⟩=some (.int .i64 a0_0):=(blk_cell BK103.out 0).trans rfl
             have hcz24_1:wr.cell? ⟨gb103,1,none⟩=some (.slice A0_1 l0_1.length c0_1):=(blk_cell BK103.out 1).trans rfl
             have hfz24_0:=blk_frozen BK103.out 0
             have hfz24_1:=blk_frozen BK103.out 1
             have p106:0<=(x5_3:Int):=of_decide_eq_true (by(with_reducible assumption))
             have q106:x5_3<(l0_1.length:Int):=of_decide_eq_true (by(with_reducible assumption))
             obtain⟨ad106,A106_2,c106_2,e106,hx106_0,hx106_1,hx106_2,hl106_2,hi106_2⟩:=at_T58 HR0_1.out x5_3 p106 q106
             cases e106
             replace hx106_0:=(HB.out.cell (World.block_lt_of_cell? w _ hx106_0)).trans hx106_0
             replace hx106_1:=(HB.out.cell (World.block_lt_of_cell? w _ hx106_1)).trans hx106_1
             replace hx106_2:=(HB.out.cell (World.block_lt_of_cell? w _ hx106_2)).trans hx106_2
             have HR106_2:=Aside0.mk hi106_2
             have HC106_2:=Aside0.mk hl106_2
             clear hi106_2 hl106_2
             replace p106:=eq_true p106
             replace q106:=eq_true q106
             have p107:0<=(0:Int):=(by omega)
             have q107:0<(l0_1.length:Int):=of_decide_eq_true (by(with_reducible assumption))
             obtain⟨ad107,A107_2,c107_2,e107,hx107_0,hx107_1,hx107_2,hl107_2,hi107_2⟩:=at_T58 HR0_1.out 0 p107 q107
             obtain rfl:ad106=ad107:=(by injection e107)
             have qi107:(0<l0_1.length)=True:=eq_true (by omega)
             (try rw[show((0:Int)).toNat=0 from rfl] at hx107_0)
             (try rw[show 0*3=0 from rfl] at hx107_0)
             (try rw[Addr.add_zero'] at hx107_0)
             (try rw[show((0:Int)).toNat=0 from rfl] at hx107_1)
             (try rw[show 0*3=0 from rfl] at hx107_1)
             (try rw[Addr.add_zero'] at hx107_1)
             (try rw[show((0:Int)).toNat=0 from rfl] at hx107_2)
             (try rw[show 0*3=0 from rfl] at hx107_2)
             (try rw[Addr.add_zero'] at hx107_2)
             replace hx107_0:=(HB.out.cell (World.block_lt_of_cell? w _ hx107_0)).trans hx107_0
             replace hx107_1:=(HB.out.cell (World.block_lt_of_cell? w _ hx107_1)).trans hx107_1
             replace hx107_2:=(HB.out.cell (World.block_lt_of_cell? w _ hx107_2)).trans hx107_2
             have HR107_2:=Aside0.mk hi107_2
             have HC107_2:=Aside0.mk hl107_2
             clear hi107_2 hl107_2
             replace p107:=eq_true p107
             replace q107:=eq_true q107
             go_wp2
             repeat(go_quiet (fail);try go_wp2)
             go_ret
             exact⟨by rfl,by repeat((with_reducible first|exact HB.out|apply pw_below_drewN))⟩
           ·rw[if_neg c19] at H
            exact absurd H (by simp)
          ·rw[if_neg c18] at H
           exact absurd H (by simp)
         ·rw[if_neg c17] at H
          have c17b0:decide (x5_3<(l0_1.length:Int))=false:=decide_eq_false c17
          clear c17
          replace H:=Option.bind_eq_some_iff.mp H
          obtain⟨t110,A250,H⟩:=H
          replace H:(if t110=true then (some 0) else (some 81))=some r:=H
          have A25:=Aside0.mk A250
          clear A250
          by_cases c26:t110=true
          ·subst c26
           have H1:(some 0)=some r:=by rw[if_pos rfl] at H;exact H
           clear H
           have H:=H1
           clear H1
           obtain rfl:=Option.some.inj H
           have hcz27_0:wr.cell? ⟨gb103,0,none⟩=some (.int .i64 a0_0):=(blk_cell BK103.out 0).trans rfl
           have hcz27_1:wr.cell? ⟨gb103,1,none⟩=some (.slice A0_1 l0_1.length c0_1):=(blk_cell BK103.out 1).trans rfl
           have hfz27_0:=blk_frozen BK103.out 0
           have hfz27_1:=blk_frozen BK103.out 1
           go_wp2_with ((go_at_call 63;(with_reducible refine(halideref8_spaced.calls a0_0 (l0_1.length:Int) true _ A25.out).mono ?_);rintro e w' ⟨rfl,⟨nd,rfl⟩⟩))
           repeat(go_quiet (fail);try go_wp2_with (fail))
           go_ret
           exact⟨by rfl,by repeat((with_reducible first|exact HB.out|apply pw_below_drewN))⟩
          ·replace c26:=Bool.eq_false_iff.mpr c26
           subst c26
           have H1:(some 81)=some r:=by rw[if_neg (show ¬(false=true) by decide)] at H;exact H
           clear H
           have H:=H1
           clear H1
           obtain rfl:=Option.some.inj H
           have hcz28_0:wr.cell? ⟨gb103,0,none⟩=some (.int .i64 a0_0):=(blk_cell BK103.out 0).trans rfl
           have hcz28_1:wr.cell? ⟨gb103,1,none⟩=some (.slice A0_1 l0_1.length c0_1):=(blk_cell BK103.out 1).trans rfl
           have hfz28_0:=blk_frozen BK103.out 0
           have hfz28_1:=blk_frozen BK103.out 1
           go_wp2_with ((go_at_call 63;(with_reducible refine(halideref8_spaced.calls a0_0 (l0_1.length:Int) false _ A25.out).mono ?_);rintro e w' ⟨rfl,⟨nd,rfl⟩⟩))
           repeat(go_quiet (fail);try go_wp2_with (fail))
           go_ret
           exact⟨by rfl,by repeat((with_reducible first|exact HB.out|apply pw_below_drewN))⟩
def halideref7_Key.f (a0:Int):Option (Int):=if (a0/2147483648)=0 then (some ((a0+2147483648)%4294967296)) else (some ((4294967295-a0)%4294967296))
set_option maxHeartbeats 8000000 in
set_option maxRecDepth 100000 in
theorem halideref7_Key.calls (a0:Int) (r:Int) (w:World) (h:halideref7_Key.f a0=some r) :
  Calls Tryz.prog 165 #[.int .u32 a0] w fun e w'=>e = .returned (.int .u32 r)/\Drawn0 w w':=by
 have H:(if (a0/2147483648)=0 then (some ((a0+2147483648)%4294967296)) else (some ((4294967295-a0)%4294967296)))=some r:=h
 clear h
 by_cases c2:(a0/2147483648)=0
 ·rw[if_pos c2] at H
  have c2b0:((a0/2147483648)==0)=true:=beq_iff_eq.mpr c2
  have c2b1:((a0/2147483648) !=0)=false:=bne_eq_false_iff_eq.mpr c2
  clear c2
  obtain rfl:=Option.some.inj H
  go_enter Tryz.func165,Tryz.ntmps165
  go_wp2
  go_ret
  exact⟨by rfl,by repeat(exact Drawn0.refl _)⟩
 ·rw[if_neg c2] at H
  have c2b0:((a0/2147483648)==0)=false:=beq_eq_false_iff_ne.mpr c2
  have c2b1:((a0/2147483648) !=0)=true:=bne_iff_ne.mpr c2
  obtain rfl:=Option.some.inj H
  go_enter Tryz.func165,Tryz.ntmps165
  go_wp2
  go_ret
  exact⟨by rfl,by repeat(exact Drawn0.refl _)⟩
def halideref7_FromKey.f (a0:Int):Option (Int):=if (a0/2147483648)=1 then (some ((a0-2147483648)%4294967296)) else (some ((4294967295-a0)%4294967296))
set_option maxHeartbeats 8000000 in
set_option maxRecDepth 100000 in
theorem halideref7_FromKey.calls (a0:Int) (r:Int) (w:World) (h:halideref7_FromKey.f a0=some r) :
  Calls Tryz.prog 331 #[.int .u32 a0] w fun e w'=>e = .returned (.int .u32 r)/\Drawn0 w w':=by
 have H:(if (a0/2147483648)=1 then (some ((a0-2147483648)%4294967296)) else (some ((4294967295-a0)%4294967296)))=some r:=h
 clear h
 by_cases c2:(a0/2147483648)=1
 ·rw[if_pos c2] at H
  have c2b0:((a0/2147483648)==1)=true:=beq_iff_eq.mpr c2
  have c2b1:((a0/2147483648) !=1)=false:=bne_eq_false_iff_eq.mpr c2
  clear c2
  obtain rfl:=Option.some.inj H
  go_enter Tryz.func331,Tryz.ntmps331
  go_wp2
  go_ret
  exact⟨by rfl,by repeat(exact Drawn0.refl _)⟩
 ·rw[if_neg c2] at H
  have c2b0:((a0/2147483648)==1)=false:=beq_eq_false_iff_ne.mpr c2
  have c2b1:((a0/2147483648) !=1)=true:=bne_iff_ne.mpr c2
  obtain rfl:=Option.some.inj H
  go_enter Tryz.func331,Tryz.ntmps331
  go_wp2
  go_ret
  exact⟨by rfl,by repeat(exact Drawn0.refl _)⟩
end Go.Proofs.YtgpegjmbofgmmaaGreat.PJou
