/- A part of the proof. No condition. -/
import Derived.Test.YtgpegjmbofgmmaaGreatRPu
namespace Go.Proofs.YtgpegjmbofgmmaaGreat.PJop
open Go.RowKit Go.Proofs.YtgpegjmbofgmmaaGreatW.PrintWords Go.Proofs.YtgpegjmbofgmmaaGreatW.PrintLast Go.Proofs.YtgpegjmbofgmmaaGreatW.PrintMore
attribute [local go_sem] max2_int min2_int max_two min_two max_three min_three max_four min_four
set_option linter.unusedVariables false
set_option linter.unusedSimpArgs false
def plane_size.f (a0:Int) (a1:Int):Option (Bool):=if a0>=1 then (if a1>=1 then (if a0<=1024 then (if a1<=1024 then (some (decide ((wrap64 (a0*a1))<=65536))) else (some false)) else (some false)) else (some false)) else (some false)
set_option maxHeartbeats 8000000 in
set_option maxRecDepth 100000 in
theorem plane_size.calls (a0:Int) (a1:Int) (r:Bool) (w:World) (h:plane_size.f a0 a1=some r) :
  Calls Tryz.prog 112 #[.int .i64 a0,.int .i64 a1] w fun e w'=>e = .returned (.bool r)/\Drawn0 w w':=by
 have H:(if a0>=1 then (if a1>=1 then (if a0<=1024 then (if a1<=1024 then (some (decide ((wrap64 (a0*a1))<=65536))) else (some false)) else (some false)) else (some false)) else (some false))=some r:=h
 clear h
 by_cases c3:a0>=1
 ·rw[if_pos c3] at H
  have c3b0:decide (1<=a0)=true:=decide_eq_true c3
  clear c3
  by_cases c4:a1>=1
  ·rw[if_pos c4] at H
   have c4b0:decide (1<=a1)=true:=decide_eq_true c4
   clear c4
   by_cases c5:a0<=1024
   ·rw[if_pos c5] at H
    have c5b0:decide (a0<=1024)=true:=decide_eq_true c5
    clear c5
    by_cases c6:a1<=1024
    ·rw[if_pos c6] at H
     have c6b0:decide (a1<=1024)=true:=decide_eq_true c6
     clear c6
     obtain rfl:=Option.some.inj H
     go_enter Tryz.func112,Tryz.ntmps112
     go_wp2
     go_ret
     exact⟨by rfl,by repeat(exact Drawn0.refl _)⟩
    ·rw[if_neg c6] at H
     have c6b0:decide (a1<=1024)=false:=decide_eq_false c6
     clear c6
     obtain rfl:=Option.some.inj H
     go_enter Tryz.func112,Tryz.ntmps112
     go_wp2
     go_ret
     exact⟨by rfl,by repeat(exact Drawn0.refl _)⟩
   ·rw[if_neg c5] at H
    have c5b0:decide (a0<=1024)=false:=decide_eq_false c5
    clear c5
    obtain rfl:=Option.some.inj H
    go_enter Tryz.func112,Tryz.ntmps112
    go_wp2
    go_ret
    exact⟨by rfl,by repeat(exact Drawn0.refl _)⟩
  ·rw[if_neg c4] at H
   have c4b0:decide (1<=a1)=false:=decide_eq_false c4
   clear c4
   obtain rfl:=Option.some.inj H
   go_enter Tryz.func112,Tryz.ntmps112
   go_wp2
   go_ret
   exact⟨by rfl,by repeat(exact Drawn0.refl _)⟩
 ·rw[if_neg c3] at H
  have c3b0:decide (1<=a0)=false:=decide_eq_false c3
  clear c3
  obtain rfl:=Option.some.inj H
  go_enter Tryz.func112,Tryz.ntmps112
  go_wp2
  go_ret
  exact⟨by rfl,by repeat(exact Drawn0.refl _)⟩
def plane_Check.f (a0_0:Int) (a0_1:Int) (l0_2:List Int):Option (Int):=(plane_size.f a0_0 a0_1).bind fun t102=>(if t102=true then (if (l0_2.length:Int)=(wrap64 (a0_0*a0_1)) then (some 0) else (some 51)) else (some 50))
set_option maxHeartbeats 8000000 in
set_option maxRecDepth 100000 in
theorem plane_Check.calls (a0_0:Int) (a0_1:Int) (A0_2:Option Addr) (c0_2:Nat) (l0_2:List Int) (r:Int) (w:World) (hr0_2:Kd.C (Kd.int .u32) w A0_2 l0_2.length l0_2) (hc0_2:l0_2.length<=c0_2) (h:plane_Check.f a0_0 a0_1 l0_2=some r) :
  Calls Tryz.prog 67 #[.agg #[.int .i64 a0_0,.int .i64 a0_1,.slice A0_2 l0_2.length c0_2]] w fun e w'=>e = .returned (.int .i64 r)/\Below w.heap.size w w':=by
 have hu58:=Tryz.underlying58
 have HR0_2:=Aside0.mk hr0_2
 have HC0_2:=Aside0.mk hc0_2
 clear hr0_2 hc0_2
 have HB:=Aside0.mk (Below.refl w.heap.size w)
 have H:((plane_size.f a0_0 a0_1).bind fun t102=>(if t102=true then (if (l0_2.length:Int)=(wrap64 (a0_0*a0_1)) then (some 0) else (some 51)) else (some 50)))=some r:=h
 clear h
 replace H:=Option.bind_eq_some_iff.mp H
 obtain⟨t102,A20,H⟩:=H
 replace H:(if t102=true then (if (l0_2.length:Int)=(wrap64 (a0_0*a0_1)) then (some 0) else (some 51)) else (some 50))=some r:=H
 have A2:=Aside0.mk A20
 clear A20
 by_cases c3:t102=true
 ·subst c3
  have H1:(if (l0_2.length:Int)=(wrap64 (a0_0*a0_1)) then (some 0) else (some 51))=some r:=by rw[if_pos rfl] at H;exact H
  clear H
  have H:=H1
  clear H1
  by_cases c4:(l0_2.length:Int)=(wrap64 (a0_0*a0_1))
  ·rw[if_pos c4] at H
   have c4b0:((l0_2.length:Int)==(wrap64 (a0_0*a0_1)))=true:=beq_iff_eq.mpr c4
   have c4b1:((l0_2.length:Int) !=(wrap64 (a0_0*a0_1)))=false:=bne_eq_false_iff_eq.mpr c4
   clear c4
   obtain rfl:=Option.some.inj H
   go_enter Tryz.func67,Tryz.ntmps67
   go_wp2_with (first|((with_reducible refine gate_dst (N:=1) rfl ?_);refine box_event ?hg (N:=1) ?hd (cs := #[.int .i64 a0_0,.int .i64 a0_1,.slice A0_2 l0_2.length c0_2]) (t:=58) ?hr ?_;(case hd=>rfl);(case hg=>rfl);(case hr=>(go_simp;done));intro gb101 hg w5 hbox hb;have n0_:=Aside0.mk (below_step (by repeat((with_reducible exact HB.out))) hb);have n1_:=Aside0.mk (hbox);have n2_:=Aside0.mk ((by rw[hg];exact(below_size (by repeat((with_reducible exact HB.out)))):w.heap.size<=gb101));have n3_:=Aside0.mk ((by rw[hg];exact(below_size (by repeat((with_reducible exact HB.out)))):w.heap.size<=gb101));clear HB;have HB:=n0_;have BK101:=n1_;have GW101:=n2_;have GE101:=n3_;clear n0_ n1_ n2_ n3_;clear hb hbox hg;have hcz6_0:w5.cell? ⟨gb101,0,none⟩=some (.int .i64 a0_0):=(blk_cell BK101.out 0).trans rfl;have hcz6_1:w5.cell? ⟨gb101,1,none⟩=some (.int .i64 a0_1):=(blk_cell BK101.out 1).trans rfl;have hcz6_2:w5.cell? ⟨gb101,2,none⟩=some (.slice A0_2 l0_2.length c0_2):=(blk_cell BK101.out 2).trans rfl;have hfz6_0:=blk_frozen BK101.out 0;have hfz6_1:=blk_frozen BK101.out 1;have hfz6_2:=blk_frozen BK101.out 2)|((with_reducible refine gate_callee (f:=112) rfl ?_);refine goesL_ (some 8) rfl rfl Tryz.func112 (by kernel_rfl) rfl #[.int .i64 a0_0,.int .i64 a0_1] rfl (by(try simp only[List.map_toArray,List.map_cons,List.map_nil]);rfl) ?_;(with_reducible refine(plane_size.calls a0_0 a0_1 true _ A2.out).mono ?_);rintro e w' ⟨rfl,⟨nd,rfl⟩⟩;refine⟨_,rfl,?_⟩))
   go_ret
   exact⟨by rfl,by repeat((with_reducible first|exact HB.out|apply pw_below_drewN))⟩
  ·rw[if_neg c4] at H
   have c4b0:((l0_2.length:Int)==(wrap64 (a0_0*a0_1)))=false:=beq_eq_false_iff_ne.mpr c4
   have c4b1:((l0_2.length:Int) !=(wrap64 (a0_0*a0_1)))=true:=bne_iff_ne.mpr c4
   obtain rfl:=Option.some.inj H
   go_enter Tryz.func67,Tryz.ntmps67
   go_wp2_with (first|((with_reducible refine gate_dst (N:=1) rfl ?_);refine box_event ?hg (N:=1) ?hd (cs := #[.int .i64 a0_0,.int .i64 a0_1,.slice A0_2 l0_2.length c0_2]) (t:=58) ?hr ?_;(case hd=>rfl);(case hg=>rfl);(case hr=>(go_simp;done));intro gb101 hg w7 hbox hb;have n0_:=Aside0.mk (below_step (by repeat((with_reducible exact HB.out))) hb);have n1_:=Aside0.mk (hbox);have n2_:=Aside0.mk ((by rw[hg];exact(below_size (by repeat((with_reducible exact HB.out)))):w.heap.size<=gb101));have n3_:=Aside0.mk ((by rw[hg];exact(below_size (by repeat((with_reducible exact HB.out)))):w.heap.size<=gb101));clear HB;have HB:=n0_;have BK101:=n1_;have GW101:=n2_;have GE101:=n3_;clear n0_ n1_ n2_ n3_;clear hb hbox hg;have hcz8_0:w7.cell? ⟨gb101,0,none⟩=some (.int .i64 a0_0):=(blk_cell BK101.out 0).trans rfl;have hcz8_1:w7.cell? ⟨gb101,1,none⟩=some (.int .i64 a0_1):=(blk_cell BK101.out 1).trans rfl;have hcz8_2:w7.cell? ⟨gb101,2,none⟩=some (.slice A0_2 l0_2.length c0_2):=(blk_cell BK101.out 2).trans rfl;have hfz8_0:=blk_frozen BK101.out 0;have hfz8_1:=blk_frozen BK101.out 1;have hfz8_2:=blk_frozen BK101.out 2)|((with_reducible refine gate_callee (f:=112) rfl ?_);refine goesL_ (some 8) rfl rfl Tryz.func112 (by kernel_rfl) rfl #[.int .i64 a0_0,.int .i64 a0_1] rfl (by(try simp only[List.map_toArray,List.map_cons,List.map_nil]);rfl) ?_;(with_reducible refine(plane_size.calls a0_0 a0_1 true _ A2.out).mono ?_);rintro e w' ⟨rfl,⟨nd,rfl⟩⟩;refine⟨_,rfl,?_⟩))
   go_ret
   exact⟨by rfl,by repeat((with_reducible first|exact HB.out|apply pw_below_drewN))⟩
 ·replace c3:=Bool.eq_false_iff.mpr c3
  subst c3
  have H1:(some 50)=some r:=by rw[if_neg (show ¬(false=true) by decide)] at H;exact H
  clear H
  have H:=H1
  clear H1
  obtain rfl:=Option.some.inj H
  go_enter Tryz.func67,Tryz.ntmps67
  go_wp2_with (first|((with_reducible refine gate_dst (N:=1) rfl ?_);refine box_event ?hg (N:=1) ?hd (cs := #[.int .i64 a0_0,.int .i64 a0_1,.slice A0_2 l0_2.length c0_2]) (t:=58) ?hr ?_;(case hd=>rfl);(case hg=>rfl);(case hr=>(go_simp;done));intro gb101 hg w9 hbox hb;have n0_:=Aside0.mk (below_step (by repeat((with_reducible exact HB.out))) hb);have n1_:=Aside0.mk (hbox);have n2_:=Aside0.mk ((by rw[hg];exact(below_size (by repeat((with_reducible exact HB.out)))):w.heap.size<=gb101));have n3_:=Aside0.mk ((by rw[hg];exact(below_size (by repeat((with_reducible exact HB.out)))):w.heap.size<=gb101));clear HB;have HB:=n0_;have BK101:=n1_;have GW101:=n2_;have GE101:=n3_;clear n0_ n1_ n2_ n3_;clear hb hbox hg;have hcz10_0:w9.cell? ⟨gb101,0,none⟩=some (.int .i64 a0_0):=(blk_cell BK101.out 0).trans rfl;have hcz10_1:w9.cell? ⟨gb101,1,none⟩=some (.int .i64 a0_1):=(blk_cell BK101.out 1).trans rfl;have hcz10_2:w9.cell? ⟨gb101,2,none⟩=some (.slice A0_2 l0_2.length c0_2):=(blk_cell BK101.out 2).trans rfl;have hfz10_0:=blk_frozen BK101.out 0;have hfz10_1:=blk_frozen BK101.out 1;have hfz10_2:=blk_frozen BK101.out 2)|((with_reducible refine gate_callee (f:=112) rfl ?_);refine goesL_ (some 8) rfl rfl Tryz.func112 (by kernel_rfl) rfl #[.int .i64 a0_0,.int .i64 a0_1] rfl (by(try simp only[List.map_toArray,List.map_cons,List.map_nil]);rfl) ?_;(with_reducible refine(plane_size.calls a0_0 a0_1 false _ A2.out).mono ?_);rintro e w' ⟨rfl,⟨nd,rfl⟩⟩;refine⟨_,rfl,?_⟩))
  go_ret
  exact⟨by rfl,by repeat((with_reducible first|exact HB.out|apply pw_below_drewN))⟩
def picture_spaceOf.f (a0:Int) (a1:Int):Option (Int):=if a0<0 then (some 81) else (if a0>4 then (some 81) else (if a0=0 then (some 0) else (if a1<3 then (some 81) else (some 0))))
set_option maxHeartbeats 8000000 in
set_option maxRecDepth 100000 in
theorem picture_spaceOf.calls (a0:Int) (a1:Int) (r:Int) (w:World) (h:picture_spaceOf.f a0 a1=some r) :
  Calls Tryz.prog 68 #[.int .i64 a0,.int .i64 a1] w fun e w'=>e = .returned (.int .i64 r)/\Drawn0 w w':=by
 have H:(if a0<0 then (some 81) else (if a0>4 then (some 81) else (if a0=0 then (some 0) else (if a1<3 then (some 81) else (some 0)))))=some r:=h
 clear h
 by_cases c3:a0<0
 ·rw[if_pos c3] at H
  have c3b0:decide (a0<0)=true:=decide_eq_true c3
  clear c3
  obtain rfl:=Option.some.inj H
  go_enter Tryz.func68,Tryz.ntmps68
  go_wp2
  go_ret
  exact⟨by rfl,by repeat(exact Drawn0.refl _)⟩
 ·rw[if_neg c3] at H
  have c3b0:decide (a0<0)=false:=decide_eq_false c3
  clear c3
  by_cases c4:a0>4
  ·rw[if_pos c4] at H
   have c4b0:decide (4<a0)=true:=decide_eq_true c4
   clear c4
   obtain rfl:=Option.some.inj H
   go_enter Tryz.func68,Tryz.ntmps68
   go_wp2
   go_ret
   exact⟨by rfl,by repeat(exact Drawn0.refl _)⟩
  ·rw[if_neg c4] at H
   have c4b0:decide (4<a0)=false:=decide_eq_false c4
   clear c4
   by_cases c5:a0=0
   ·rw[if_pos c5] at H
    have c5b0:(a0==0)=true:=beq_iff_eq.mpr c5
    have c5b1:(a0 !=0)=false:=bne_eq_false_iff_eq.mpr c5
    clear c5
    obtain rfl:=Option.some.inj H
    go_enter Tryz.func68,Tryz.ntmps68
    go_wp2
    go_ret
    exact⟨by rfl,by repeat(exact Drawn0.refl _)⟩
   ·rw[if_neg c5] at H
    have c5b0:(a0==0)=false:=beq_eq_false_iff_ne.mpr c5
    have c5b1:(a0 !=0)=true:=bne_iff_ne.mpr c5
    by_cases c6:a1<3
    ·rw[if_pos c6] at H
     have c6b0:decide (a1<3)=true:=decide_eq_true c6
     clear c6
     obtain rfl:=Option.some.inj H
     go_enter Tryz.func68,Tryz.ntmps68
     go_wp2
     go_ret
     exact⟨by rfl,by repeat(exact Drawn0.refl _)⟩
    ·rw[if_neg c6] at H
     have c6b0:decide (a1<3)=false:=decide_eq_false c6
     clear c6
     obtain rfl:=Option.some.inj H
     go_enter Tryz.func68,Tryz.ntmps68
     go_wp2
     go_ret
     exact⟨by rfl,by repeat(exact Drawn0.refl _)⟩
mutual
def picture_Check.j0:Nat->Bool->Int->List (S58)->Option (Int)
 | 0,_,_,_=>none
 | k+1,x17,x104000,x104001=>if x17=true then (some 80) else (picture_Check.l0 k x104001 (x104001.length:Int) 0 x104000 x104001)
def picture_Check.l0:Nat->List (S58)->Int->Int->Int->List (S58)->Option (Int)
 | 0,_,_,_,_,_=>none
 | k+1,x19,x20,x21,x104000,x104001=>if x21<x20 then (if 0<=x21 then (if x21<(x19.length:Int) then ((plane_Check.f ((rd_T58 x19 x21).f0) ((rd_T58 x19 x21).f1) ((rd_T58 x19 x21).f2)).bind fun t106=>(if t106=0 then (picture_Check.l0 k x19 x20 (wrap64 (x21+1)) x104000 x104001) else (some t106))) else (none)) else (none)) else (picture_Check.l1 k x104001 (x104001.length:Int) 0 x104000 x104001)
def picture_Check.l1:Nat->List (S58)->Int->Int->Int->List (S58)->Option (Int)
 | 0,_,_,_,_,_=>none
 | k+1,x32,x33,x34,x104000,x104001=>if x34<x33 then (if 0<=x34 then (if x34<(x32.length:Int) then (if 0<(x104001.length:Int) then (if ((rd_T58 x32 x34).f0)=((rd_T58 x104001 0).f0) then (if ((rd_T58 x32 x34).f1)=((rd_T58 x104001 0).f1) then (picture_Check.l1 k x32 x33 (wrap64 (x34+1)) x104000 x104001) else (some 80)) else (some 80)) else (none)) else (none)) else (none)) else ((picture_spaceOf.f x104000 (x104001.length:Int)).bind fun t111=>(some t111))
end
def picture_Check.f (k:Nat) (a0_0:Int) (l0_1:List (S58)):Option (Int):=if (l0_1.length:Int)=0 then (picture_Check.j0 k true a0_0 l0_1) else (picture_Check.j0 k (decide ((l0_1.length:Int)>4)) a0_0 l0_1)
theorem picture_Check.mono_l : ∀k,(∀y0 y1 y2,LeO (picture_Check.j0 k y0 y1 y2) (picture_Check.j0 (k+1) y0 y1 y2))/\(∀y0 y1 y2 y3 y4,LeO (picture_Check.l0 k y0 y1 y2 y3 y4) (picture_Check.l0 (k+1) y0 y1 y2 y3 y4))/\(∀y0 y1 y2 y3 y4,LeO (picture_Check.l1 k y0 y1 y2 y3 y4) (picture_Check.l1 (k+1) y0 y1 y2 y3 y4))
 | 0=>⟨fun _ _ _ r h=>by simp[picture_Check.j0] at h,fun _ _ _ _ _ r h=>by simp[picture_Check.l0] at h,fun _ _ _ _ _ r h=>by simp[picture_Check.l1] at h⟩
 | k+1=>by
  obtain⟨ih0,ih1,ih2⟩:=picture_Check.mono_l k
  refine⟨?_,?_,?_⟩
  ·intro y0 y1 y2
   unfold picture_Check.j0
   repeat' first|(with_reducible exact ih1 _ _ _ _ _)|(with_reducible exact LeO.refl _)|(with_reducible refine LeO.ite ?_ ?_)
  ·intro y0 y1 y2 y3 y4
   unfold picture_Check.l0
   repeat' first|(with_reducible exact ih1 _ _ _ _ _)|(with_reducible exact ih2 _ _ _ _ _)|(with_reducible exact LeO.refl _)|(with_reducible refine LeO.ite ?_ ?_)|(with_reducible refine LeO.bind ?_ (fun _=>?_))
  ·intro y0 y1 y2 y3 y4
   unfold picture_Check.l1
   repeat' first|(with_reducible exact ih2 _ _ _ _ _)|(with_reducible exact LeO.refl _)|(with_reducible refine LeO.ite ?_ ?_)
theorem picture_Check.mono : ∀a0 a1 k,LeO (picture_Check.f k a0 a1) (picture_Check.f (k+1) a0 a1):=by
 intro a0 a1 k
 obtain⟨ih0,ih1,ih2⟩:=picture_Check.mono_l k
 unfold picture_Check.f
 repeat' first|(with_reducible exact ih0 _ _ _)|(with_reducible refine LeO.ite ?_ ?_)
set_option maxHeartbeats 8000000 in
set_option maxRecDepth 100000 in
theorem picture_Check.calls (k:Nat) (a0_0:Int) (A0_1:Option Addr) (c0_1:Nat) (l0_1:List (S58)) (r:Int) (w:World) (hr0_1:Kd.C k58 w A0_1 l0_1.length l0_1) (hc0_1:l0_1.length<=c0_1) (h:picture_Check.f k a0_0 l0_1=some r) :
  Calls Tryz.prog 36 #[.agg #[.int .i64 a0_0,.slice A0_1 l0_1.length c0_1]] w fun e w'=>e = .returned (.int .i64 r)/\Below w.heap.size w w':=by
 have hu25:=Tryz.underlying25
 have hu58:=Tryz.underlying58
 have HR0_1:=Aside0.mk hr0_1
 have HC0_1:=Aside0.mk hc0_1
 clear hr0_1 hc0_1
 have HB:=Aside0.mk (Below.refl w.heap.size w)
 have H:(if (l0_1.length:Int)=0 then (picture_Check.j0 k true a0_0 l0_1) else (picture_Check.j0 k (decide ((l0_1.length:Int)>4)) a0_0 l0_1))=some r:=h
 clear h
 have HC2:=Aside0.mk H
 clear H
 go_enter Tryz.func36,Tryz.ntmps36
 go_upto_region 1 with (((with_reducible refine gate_dst (N:=1) rfl ?_);(try(refine gate_guard (by rfl) ?_;dsimp only));refine box_event ?hg (N:=1) ?hd (cs := #[.int .i64 a0_0,.slice A0_1 l0_1.length c0_1]) (t:=25) ?hr ?_;(case hd=>rfl);(case hg=>rfl);(case hr=>(go_simp;done));intro gb103 hg w3 hbox hb;have n0_:=Aside0.mk (below_step (by repeat((with_reducible exact HB.out))) hb);have n1_:=Aside0.mk (hbox);have n2_:=Aside0.mk ((by rw[hg];exact(below_size (by repeat((with_reducible exact HB.out)))):w.heap.size<=gb103));have n3_:=Aside0.mk ((by rw[hg];exact(below_size (by repeat((with_reducible exact HB.out)))):w.heap.size<=gb103));clear HB;have HB:=n0_;have BK103:=n1_;have GW103:=n2_;have GE103:=n3_;clear n0_ n1_ n2_ n3_;clear hb hbox hg))
 repeat(go_quiet (fail);go_upto_region 1 with (fail))
 go_cut [17] (fun v17 wc => ∃(kq:Nat) (x17_1:Bool),v17 = .bool x17_1/\Aside0 (picture_Check.j0 kq x17_1 a0_0 l0_1=some r)/\Aside0 (kq<=k)/\Aside0 (wc.heap[gb103]?=some (.cells #[.int .i64 a0_0,(.slice A0_1 l0_1.length c0_1)] 25 (0,0)))/\Aside0 (Below w.heap.size w wc))
 case first =>
  have H:=HC2.out
  clear HC2
  by_cases c4:(l0_1.length:Int)=0
  ·rw[if_pos c4] at H
   have c4b0:((l0_1.length:Int)==0)=true:=beq_iff_eq.mpr c4
   have c4b1:((l0_1.length:Int) !=0)=false:=bne_eq_false_iff_eq.mpr c4
   clear c4
   (skip)
   have H':=Aside0.mk H
   clear H
   have hcz5_0:w3.cell? ⟨gb103,0,none⟩=some (.int .i64 a0_0):=(blk_cell BK103.out 0).trans rfl
   have hcz5_1:w3.cell? ⟨gb103,1,none⟩=some (.slice A0_1 l0_1.length c0_1):=(blk_cell BK103.out 1).trans rfl
   have hfz5_0:=blk_frozen BK103.out 0
   have hfz5_1:=blk_frozen BK103.out 1
   go_wp2
   repeat(go_quiet (fail);try go_wp2)
   go_meet
   case rel=>exact⟨_,(true),(by rfl),H',⟨by omega⟩,⟨by(with_reducible repeat(fail));exact BK103.out⟩,⟨by repeat((with_reducible exact HB.out))⟩⟩
  ·rw[if_neg c4] at H
   have c4b0:((l0_1.length:Int)==0)=false:=beq_eq_false_iff_ne.mpr c4
   have c4b1:((l0_1.length:Int) !=0)=true:=bne_iff_ne.mpr c4
   have c4b2 : ¬(l0_1 = []):=fun h_=>c4 (by rw[h_];rfl)
   (skip)
   have H':=Aside0.mk H
   clear H
   have hcz6_0:w3.cell? ⟨gb103,0,none⟩=some (.int .i64 a0_0):=(blk_cell BK103.out 0).trans rfl
   have hcz6_1:w3.cell? ⟨gb103,1,none⟩=some (.slice A0_1 l0_1.length c0_1):=(blk_cell BK103.out 1).trans rfl
   have hfz6_0:=blk_frozen BK103.out 0
   have hfz6_1:=blk_frozen BK103.out 1
   go_wp2
   repeat(go_quiet (fail);try go_wp2)
   go_meet
   case rel=>exact⟨_,(decide ((l0_1.length:Int)>4)),(by rfl),H',⟨by omega⟩,⟨by(with_reducible repeat(fail));exact BK103.out⟩,⟨by repeat((with_reducible exact HB.out))⟩⟩
 case rest =>
  clear HC2
  obtain⟨kq,x17_1,rfl,HA,HJ1,BK103,HB⟩:=hcut
  cases kq with
  | zero=>exact absurd HA.out (by simp[picture_Check.j0])
  | succ kj1 =>
   have H:=HA.out
   clear HA
   simp only[picture_Check.j0] at H
   by_cases c7:x17_1=true
   ·subst c7
    have H1:(some 80)=some r:=by rw[if_pos rfl] at H;exact H
    clear H
    have H:=H1
    clear H1
    obtain rfl:=Option.some.inj H
    go_wp2
    repeat(go_quiet (fail);try go_wp2)
    go_ret
    exact⟨by rfl,by repeat((with_reducible exact HB.out))⟩
   ·replace c7:=Bool.eq_false_iff.mpr c7
    subst c7
    have H1:(picture_Check.l0 kj1 l0_1 (l0_1.length:Int) 0 a0_0 l0_1)=some r:=by rw[if_neg (show ¬(false=true) by decide)] at H;exact H
    clear H
    have H:=H1
    clear H1
    have H':=Aside0.mk H
    clear H
    have hcz8_0:wc.cell? ⟨gb103,0,none⟩=some (.int .i64 a0_0):=(blk_cell BK103.out 0).trans rfl
    have hcz8_1:wc.cell? ⟨gb103,1,none⟩=some (.slice A0_1 l0_1.length c0_1):=(blk_cell BK103.out 1).trans rfl
    have hfz8_0:=blk_frozen BK103.out 0
    have hfz8_1:=blk_frozen BK103.out 1
    go_wp2
    repeat(go_quiet (fail);try go_wp2)
    go_loopg [21] kj1 (fun kq v21 w' => ∃(x21_2:Int),v21 = .int .i64 x21_2/\Aside0 (picture_Check.l0 kq l0_1 (l0_1.length:Int) x21_2 a0_0 l0_1=some r)/\Aside0 (kq<=kj1)/\Aside0 (w'.heap[gb103]?=some (.cells #[.int .i64 a0_0,(.slice A0_1 l0_1.length c0_1)] 25 (0,0)))/\Aside0 (Below w.heap.size w w'))
    case atStart=>exact⟨(0),(by rfl),H',⟨Nat.le_refl _⟩,⟨by(with_reducible repeat(fail));exact BK103.out⟩,⟨by repeat((with_reducible exact HB.out))⟩⟩
    case round =>
     clear H'
     (try clear hcz8_0)
     (try clear hcz8_1)
     (try clear hfz8_0)
     (try clear hfz8_1)
     obtain⟨x21_2,rfl,HA,HK2,BK103,HB⟩:=hrel
     cases gk with
     | zero=>exact absurd HA.out (by simp[picture_Check.l0])
     | succ k2 =>
      have H:=HA.out
      clear HA
      simp only[picture_Check.l0] at H
      by_cases c9:x21_2<(l0_1.length:Int)
      ·rw[if_pos c9] at H
       have c9b0:decide (x21_2<(l0_1.length:Int))=true:=decide_eq_true c9
       clear c9
       by_cases c10:0<=x21_2
       ·rw[if_pos c10] at H
        have c10b0:decide (0<=x21_2)=true:=decide_eq_true c10
        clear c10
        by_cases c11:x21_2<(l0_1.length:Int)
        ·rw[if_pos c11] at H
         have c11b0:decide (x21_2<(l0_1.length:Int))=true:=decide_eq_true c11
         clear c11
         replace H:=Option.bind_eq_some_iff.mp H
         obtain⟨t106,A120,H⟩:=H
         replace H:(if t106=0 then (picture_Check.l0 k2 l0_1 (l0_1.length:Int) (wrap64 (x21_2+1)) a0_0 l0_1) else (some t106))=some r:=H
         have A12:=Aside0.mk A120
         clear A120
         by_cases c13:t106=0
         ·rw[if_pos c13] at H
          have c13b0:(t106==0)=true:=beq_iff_eq.mpr c13
          have c13b1:(t106 !=0)=false:=bne_eq_false_iff_eq.mpr c13
          clear c13
          have H':=Aside0.mk H
          clear H
          have p104:0<=(x21_2:Int):=of_decide_eq_true (by(with_reducible assumption))
          have q104:x21_2<(l0_1.length:Int):=of_decide_eq_true (by(with_reducible assumption))
          obtain⟨ad104,A104_2,c104_2,e104,hx104_0,hx104_1,hx104_2,hl104_2,hi104_2⟩:=at_T58 HR0_1.out x21_2 p104 q104
          cases e104
          replace hx104_0:=(HB.out.cell (World.block_lt_of_cell? w _ hx104_0)).trans hx104_0
          replace hx104_1:=(HB.out.cell (World.block_lt_of_cell? w _ hx104_1)).trans hx104_1
          replace hx104_2:=(HB.out.cell (World.block_lt_of_cell? w _ hx104_2)).trans hx104_2
          have HR104_2:=Aside0.mk hi104_2
          have HC104_2:=Aside0.mk hl104_2
          clear hi104_2 hl104_2
          replace p104:=eq_true p104
          replace q104:=eq_true q104
          go_wp2_with (first|((with_reducible refine gate_dst (N:=4) rfl ?_);(try(refine gate_guard (by rfl) ?_;dsimp only));refine box_event ?hg (N:=4) ?hd (cs := #[.int .i64 0,.int .i64 0,.slice none 0 0]) (t:=58) ?hr ?_;(case hd=>rfl);(case hg=>rfl);(case hr=>(go_simp;done));intro gb105 hg w14 hbox hb;have n0_:=Aside0.mk (blk_below (g:=gb103) (o := .cells #[.int .i64 a0_0,.slice (some ad104) l0_1.length c0_1] 25 (0,0)) (by(with_reducible repeat(fail));exact BK103.out) hb);have n1_:=Aside0.mk (below_step (by repeat((with_reducible exact HB.out))) hb);have n2_:=Aside0.mk (hbox);have n3_:=Aside0.mk ((by rw[hg];exact(below_size (by repeat((with_reducible exact HB.out)))):w.heap.size<=gb105));have n4_:=Aside0.mk ((by rw[hg];exact(below_size (by repeat((with_reducible exact HB.out)))):w.heap.size<=gb105));have n5_:=Aside0.mk ((by rw[hg];exact Nat.ne_of_lt (blk_lt (g:=gb103) (o := .cells #[.int .i64 a0_0,.slice (some ad104) l0_1.length c0_1] 25 (0,0)) (by(with_reducible repeat(fail));exact BK103.out)):gb103≠gb105));have n6_:=Aside0.mk ((by rw[hg];exact Nat.ne_of_gt (blk_lt (g:=gb103) (o := .cells #[.int .i64 a0_0,.slice (some ad104) l0_1.length c0_1] 25 (0,0)) (by(with_reducible repeat(fail));exact BK103.out)):gb105≠gb103));clear BK103;clear HB;have BK103:=n0_;have HB:=n1_;have BK105:=n2_;have GW105:=n3_;have GE105:=n4_;have NB103_105:=n5_;have NB105_103:=n6_;clear n0_ n1_ n2_ n3_ n4_ n5_ n6_;clear hb hbox hg;have hnb15:=NB105_103.out;have hnc15:=NB103_105.out;have hcz16_0:w14.cell? ⟨gb105,0,none⟩=some (.int .i64 0):=(blk_cell BK105.out 0).trans rfl;have hcz16_1:w14.cell? ⟨gb105,1,none⟩=some (.int .i64 0):=(blk_cell BK105.out 1).trans rfl;have hcz16_2:w14.cell? ⟨gb105,2,none⟩=some (.slice none 0 0):=(blk_cell BK105.out 2).trans rfl;have hfz16_0:=blk_frozen BK105.out 0;have hfz16_1:=blk_frozen BK105.out 1;have hfz16_2:=blk_frozen BK105.out 2)|(go_at_call 67;(with_reducible refine(plane_Check.calls ((rd_T58 l0_1 x21_2).f0) ((rd_T58 l0_1 x21_2).f1) _ _ ((rd_T58 l0_1 x21_2).f2) t106 _ ?side1 ?side2 A12.out).mono ?_);(case side1=>exact Kd.C_below HR104_2.out (by repeat((with_reducible first|exact HB.out|refine below_set ?_ GE105.out))));(case side2=>exact HC104_2.out);rintro e w17 ⟨rfl,hb⟩;have n0_:=Aside0.mk (blk_below (g:=gb103) (o := .cells #[.int .i64 a0_0,.slice (some ad104) l0_1.length c0_1] 25 (0,0)) (by(with_reducible repeat(fail));refine blk_far ?_ NB103_105.out _;(with_reducible repeat(fail));refine blk_far ?_ NB103_105.out _;(with_reducible repeat(fail));refine blk_far ?_ NB103_105.out _;(with_reducible repeat(fail));exact BK103.out) hb);have n1_:=Aside0.mk (blk_below (g:=gb105) (o := .cells #[.int .i64 ((rd_T58 l0_1 x21_2).f0),.int .i64 ((rd_T58 l0_1 x21_2).f1),.slice A104_2 ((rd_T58 l0_1 x21_2).f2).length c104_2] 58 (0,0)) (by(with_reducible repeat(fail));refine blk_put (cs := #[.int .i64 ((rd_T58 l0_1 x21_2).f0),.int .i64 ((rd_T58 l0_1 x21_2).f1),.slice none 0 0]) ?_ 2 _ rfl;(with_reducible repeat(fail));refine blk_put (cs := #[.int .i64 ((rd_T58 l0_1 x21_2).f0),.int .i64 0,.slice none 0 0]) ?_ 1 _ rfl;(with_reducible repeat(fail));refine blk_put (cs := #[.int .i64 0,.int .i64 0,.slice none 0 0]) ?_ 0 _ rfl;(with_reducible repeat(fail));exact BK105.out) hb);have n2_:=Aside0.mk (below_step (by repeat((with_reducible first|exact HB.out|refine below_set ?_ GE105.out))) hb);clear BK103;clear BK105;clear HB;have BK103:=n0_;have BK105:=n1_;have HB:=n2_;clear n0_ n1_ n2_;(try clear hb)))
          repeat(go_quiet (fail);try go_wp2_with (fail))
          go_roundg k2
          case measure=>have:=HJ1.out;have:=HK2.out;omega
          case rel=>exact⟨(wrap64 (x21_2+1)),(by rfl),H',⟨by have:=HJ1.out;have:=HK2.out;omega⟩,⟨by(with_reducible repeat(fail));exact BK103.out⟩,⟨by repeat((with_reducible exact HB.out))⟩⟩
         ·rw[if_neg c13] at H
          have c13b0:(t106==0)=false:=beq_eq_false_iff_ne.mpr c13
          have c13b1:(t106 !=0)=true:=bne_iff_ne.mpr c13
          obtain rfl:=Option.some.inj H
          have p104:0<=(x21_2:Int):=of_decide_eq_true (by(with_reducible assumption))
          have q104:x21_2<(l0_1.length:Int):=of_decide_eq_true (by(with_reducible assumption))
          obtain⟨ad104,A104_2,c104_2,e104,hx104_0,hx104_1,hx104_2,hl104_2,hi104_2⟩:=at_T58 HR0_1.out x21_2 p104 q104
          cases e104
          replace hx104_0:=(HB.out.cell (World.block_lt_of_cell? w _ hx104_0)).trans hx104_0
          replace hx104_1:=(HB.out.cell (World.block_lt_of_cell? w _ hx104_1)).trans hx104_1
          replace hx104_2:=(HB.out.cell (World.block_lt_of_cell? w _ hx104_2)).trans hx104_2
          have HR104_2:=Aside0.mk hi104_2
          have HC104_2:=Aside0.mk hl104_2
          clear hi104_2 hl104_2
          replace p104:=eq_true p104
          replace q104:=eq_true q104
          go_wp2_with (first|((with_reducible refine gate_dst (N:=4) rfl ?_);(try(refine gate_guard (by rfl) ?_;dsimp only));refine box_event ?hg (N:=4) ?hd (cs := #[.int .i64 0,.int .i64 0,.slice none 0 0]) (t:=58) ?hr ?_;(case hd=>rfl);(case hg=>rfl);(case hr=>(go_simp;done));intro gb105 hg w18 hbox hb;have n0_:=Aside0.mk (blk_below (g:=gb103) (o := .cells #[.int .i64 a0_0,.slice (some ad104) l0_1.length c0_1] 25 (0,0)) (by(with_reducible repeat(fail));exact BK103.out) hb);have n1_:=Aside0.mk (below_step (by repeat((with_reducible exact HB.out))) hb);have n2_:=Aside0.mk (hbox);have n3_:=Aside0.mk ((by rw[hg];exact(below_size (by repeat((with_reducible exact HB.out)))):w.heap.size<=gb105));have n4_:=Aside0.mk ((by rw[hg];exact(below_size (by repeat((with_reducible exact HB.out)))):w.heap.size<=gb105));have n5_:=Aside0.mk ((by rw[hg];exact Nat.ne_of_lt (blk_lt (g:=gb103) (o := .cells #[.int .i64 a0_0,.slice (some ad104) l0_1.length c0_1] 25 (0,0)) (by(with_reducible repeat(fail));exact BK103.out)):gb103≠gb105));have n6_:=Aside0.mk ((by rw[hg];exact Nat.ne_of_gt (blk_lt (g:=gb103) (o := .cells #[.int .i64 a0_0,.slice (some ad104) l0_1.length c0_1] 25 (0,0)) (by(with_reducible repeat(fail));exact BK103.out)):gb105≠gb103));clear BK103;clear HB;have BK103:=n0_;have HB:=n1_;have BK105:=n2_;have GW105:=n3_;have GE105:=n4_;have NB103_105:=n5_;have NB105_103:=n6_;clear n0_ n1_ n2_ n3_ n4_ n5_ n6_;clear hb hbox hg;have hnb19:=NB105_103.out;have hnc19:=NB103_105.out;have hcz20_0:w18.cell? ⟨gb105,0,none⟩=some (.int .i64 0):=(blk_cell BK105.out 0).trans rfl;have hcz20_1:w18.cell? ⟨gb105,1,none⟩=some (.int .i64 0):=(blk_cell BK105.out 1).trans rfl;have hcz20_2:w18.cell? ⟨gb105,2,none⟩=some (.slice none 0 0):=(blk_cell BK105.out 2).trans rfl;have hfz20_0:=blk_frozen BK105.out 0;have hfz20_1:=blk_frozen BK105.out 1;have hfz20_2:=blk_frozen BK105.out 2)|(go_at_call 67;(with_reducible refine(plane_Check.calls ((rd_T58 l0_1 x21_2).f0) ((rd_T58 l0_1 x21_2).f1) _ _ ((rd_T58 l0_1 x21_2).f2) t106 _ ?side1 ?side2 A12.out).mono ?_);(case side1=>exact Kd.C_below HR104_2.out (by repeat((with_reducible first|exact HB.out|refine below_set ?_ GE105.out))));(case side2=>exact HC104_2.out);rintro e w21 ⟨rfl,hb⟩;have n0_:=Aside0.mk (blk_below (g:=gb103) (o := .cells #[.int .i64 a0_0,.slice (some ad104) l0_1.length c0_1] 25 (0,0)) (by(with_reducible repeat(fail));refine blk_far ?_ NB103_105.out _;(with_reducible repeat(fail));refine blk_far ?_ NB103_105.out _;(with_reducible repeat(fail));refine blk_far ?_ NB103_105.out _;(with_reducible repeat(fail));exact BK103.out) hb);have n1_:=Aside0.mk (blk_below (g:=gb105) (o := .cells #[.int .i64 ((rd_T58 l0_1 x21_2).f0),.int .i64 ((rd_T58 l0_1 x21_2).f1),.slice A104_2 ((rd_T58 l0_1 x21_2).f2).length c104_2] 58 (0,0)) (by(with_reducible repeat(fail));refine blk_put (cs := #[.int .i64 ((rd_T58 l0_1 x21_2).f0),.int .i64 ((rd_T58 l0_1 x21_2).f1),.slice none 0 0]) ?_ 2 _ rfl;(with_reducible repeat(fail));refine blk_put (cs := #[.int .i64 ((rd_T58 l0_1 x21_2).f0),.int .i64 0,.slice none 0 0]) ?_ 1 _ rfl;(with_reducible repeat(fail));refine blk_put (cs := #[.int .i64 0,.int .i64 0,.slice none 0 0]) ?_ 0 _ rfl;(with_reducible repeat(fail));exact BK105.out) hb);have n2_:=Aside0.mk (below_step (by repeat((with_reducible first|exact HB.out|refine below_set ?_ GE105.out))) hb);clear BK103;clear BK105;clear HB;have BK103:=n0_;have BK105:=n1_;have HB:=n2_;clear n0_ n1_ n2_;(try clear hb)))
          repeat(go_quiet (fail);try go_wp2_with (fail))
          go_ret
          exact⟨by rfl,by repeat((with_reducible exact HB.out))⟩
        ·rw[if_neg c11] at H
         exact absurd H (by simp)
       ·rw[if_neg c10] at H
        exact absurd H (by simp)
      ·rw[if_neg c9] at H
       have c9b0:decide (x21_2<(l0_1.length:Int))=false:=decide_eq_false c9
       clear c9
       have H':=Aside0.mk H
       clear H
       have hcz22_0:wr.cell? ⟨gb103,0,none⟩=some (.int .i64 a0_0):=(blk_cell BK103.out 0).trans rfl
       have hcz22_1:wr.cell? ⟨gb103,1,none⟩=some (.slice A0_1 l0_1.length c0_1):=(blk_cell BK103.out 1).trans rfl
       have hfz22_0:=blk_frozen BK103.out 0
       have hfz22_1:=blk_frozen BK103.out 1
       go_wp2
       repeat(go_quiet (fail);try go_wp2)
       go_loopg [34] k2 (fun kq v34 w' => ∃(x34_3:Int),v34 = .int .i64 x34_3/\Aside0 (picture_Check.l1 kq l0_1 (l0_1.length:Int) x34_3 a0_0 l0_1=some r)/\Aside0 (kq<=k2)/\Aside0 (w'.heap[gb103]?=some (.cells #[.int .i64 a0_0,(.slice A0_1 l0_1.length c0_1)] 25 (0,0)))/\Aside0 (Below w.heap.size w w'))
       case atStart=>exact⟨(0),(by rfl),H',⟨Nat.le_refl _⟩,⟨by(with_reducible repeat(fail));exact BK103.out⟩,⟨by repeat((with_reducible exact HB.out))⟩⟩
       case round =>
        clear H'
        (try clear c9b0)
        (try clear hcz22_0)
        (try clear hcz22_1)
        (try clear hfz22_0)
        (try clear hfz22_1)
        obtain⟨x34_3,rfl,HA,HK3,BK103,HB⟩:=hrel
        cases gk with
        | zero=>exact absurd HA.out (by simp[picture_Check.l1])
        | succ k3 =>
         have H:=HA.out
         clear HA
         simp only[picture_Check.l1] at H
         by_cases c23:x34_3<(l0_1.length:Int)
         ·rw[if_pos c23] at H
          have c23b0:decide (x34_3<(l0_1.length:Int))=true:=decide_eq_true c23
          clear c23
          by_cases c24:0<=x34_3
          ·rw[if_pos c24] at H
           have c24b0:decide (0<=x34_3)=true:=decide_eq_true c24
           clear c24
           by_cases c25:x34_3<(l0_1.length:Int)
           ·rw[if_pos c25] at H
            have c25b0:decide (x34_3<(l0_1.length:Int))=true:=decide_eq_true c25
            clear c25
            by_cases c26:0<(l0_1.length:Int)
            ·rw[if_pos c26] at H
             have c26b0:decide (0<(l0_1.length:Int))=true:=decide_eq_true c26
             have c26b1:decide (0<l0_1.length)=true:=decide_eq_true (by omega)
             clear c26
             by_cases c27:((rd_T58 l0_1 x34_3).f0)=((rd_T58 l0_1 0).f0)
             ·rw[if_pos c27] at H
              have c27b0:(((rd_T58 l0_1 x34_3).f0)==((rd_T58 l0_1 0).f0))=true:=beq_iff_eq.mpr c27
              have c27b1:(((rd_T58 l0_1 x34_3).f0) !=((rd_T58 l0_1 0).f0))=false:=bne_eq_false_iff_eq.mpr c27
              clear c27
              by_cases c28:((rd_T58 l0_1 x34_3).f1)=((rd_T58 l0_1 0).f1)
              ·rw[if_pos c28] at H
               have c28b0:(((rd_T58 l0_1 x34_3).f1)==((rd_T58 l0_1 0).f1))=true:=beq_iff_eq.mpr c28
               have c28b1:(((rd_T58 l0_1 x34_3).f1) !=((rd_T58 l0_1 0).f1))=false:=bne_eq_false_iff_eq.mpr c28
               clear c28
               have H':=Aside0.mk H
               clear H
               have p107:0<=(x34_3:Int):=of_decide_eq_true (by(with_reducible assumption))
               have q107:x34_3<(l0_1.length:Int):=of_decide_eq_true (by(with_reducible assumption))
               obtain⟨ad107,A107_2,c107_2,e107,hx107_0,hx107_1,hx107_2,hl107_2,hi107_2⟩:=at_T58 HR0_1.out x34_3 p107 q107
               cases e107
               replace hx107_0:=(HB.out.cell (World.block_lt_of_cell? w _ hx107_0)).trans hx107_0
               replace hx107_1:=(HB.out.cell (World.block_lt_of_cell? w _ hx107_1)).trans hx107_1
               replace hx107_2:=(HB.out.cell (World.block_lt_of_cell? w _ hx107_2)).trans hx107_2
               have HR107_2:=Aside0.mk hi107_2
               have HC107_2:=Aside0.mk hl107_2
               clear hi107_2 hl107_2
               replace p107:=eq_true p107
               replace q107:=eq_true q107
               go_wp2_with (((with_reducible refine gate_dst (N:=7) rfl ?_);(try(refine gate_guard (by rfl) ?_;dsimp only));refine box_event ?hg (N:=7) ?hd (cs := #[.int .i64 0,.int .i64 0,.slice none 0 0]) (t:=58) ?hr ?_;(case hd=>rfl);(case hg=>rfl);(case hr=>(go_simp;done));intro gb108 hg w29 hbox hb;have n0_:=Aside0.mk (blk_below (g:=gb103) (o := .cells #[.int .i64 a0_0,.slice (some ad107) l0_1.length c0_1] 25 (0,0)) (by(with_reducible repeat(fail));exact BK103.out) hb);have n1_:=Aside0.mk (below_step (by repeat((with_reducible exact HB.out))) hb);have n2_:=Aside0.mk (hbox);have n3_:=Aside0.mk ((by rw[hg];exact(below_size (by repeat((with_reducible exact HB.out)))):w.heap.size<=gb108));have n4_:=Aside0.mk ((by rw[hg];exact(below_size (by repeat((with_reducible exact HB.out)))):w.heap.size<=gb108));have n5_:=Aside0.mk ((by rw[hg];exact Nat.ne_of_lt (blk_lt (g:=gb103) (o := .cells #[.int .i64 a0_0,.slice (some ad107) l0_1.length c0_1] 25 (0,0)) (by(with_reducible repeat(fail));exact BK103.out)):gb103≠gb108));have n6_:=Aside0.mk ((by rw[hg];exact Nat.ne_of_gt (blk_lt (g:=gb103) (o := .cells #[.int .i64 a0_0,.slice (some ad107) l0_1.length c0_1] 25 (0,0)) (by(with_reducible repeat(fail));exact BK103.out)):gb108≠gb103));clear BK103;clear HB;have BK103:=n0_;have HB:=n1_;have BK108:=n2_;have GW108:=n3_;have GE108:=n4_;have NB103_108:=n5_;have NB108_103:=n6_;clear n0_ n1_ n2_ n3_ n4_ n5_ n6_;clear hb hbox hg;have hnb30:=NB108_103.out;have hnc30:=NB103_108.out;have hcz31_0:w29.cell? ⟨gb108,0,none⟩=some (.int .i64 0):=(blk_cell BK108.out 0).trans rfl;have hcz31_1:w29.cell? ⟨gb108,1,none⟩=some (.int .i64 0):=(blk_cell BK108.out 1).trans rfl;have hcz31_2:w29.cell? ⟨gb108,2,none⟩=some (.slice none 0 0):=(blk_cell BK108.out 2).trans rfl;have hfz31_0:=blk_frozen BK108.out 0;have hfz31_1:=blk_frozen BK108.out 1;have hfz31_2:=blk_frozen BK108.out 2;have hcz32_0:w29.cell? ⟨gb103,0,none⟩=some (.int .i64 a0_0):=(blk_cell BK103.out 0).trans rfl;have hcz32_1:w29.cell? ⟨gb103,1,none⟩=some (.slice (some ad107) l0_1.length c0_1):=(blk_cell BK103.out 1).trans rfl;have hfz32_0:=blk_frozen BK103.out 0;have hfz32_1:=blk_frozen BK103.out 1;have p109:0<=(0:Int):=(by omega);have q109:0<(l0_1.length:Int):=of_decide_eq_true (by(with_reducible assumption));obtain⟨ad109,A109_2,c109_2,e109,hx109_0,hx109_1,hx109_2,hl109_2,hi109_2⟩:=at_T58 HR0_1.out 0 p109 q109;obtain rfl:ad107=ad109:=(by injection e109);have qi109:(0<l0_1.length)=True:=eq_true (by omega);(try rw[show((0:Int)).toNat=0 from rfl] at hx109_0);(try rw[show 0*3=0 from rfl] at hx109_0);(try rw[Addr.add_zero'] at hx109_0);(try rw[show((0:Int)).toNat=0 from rfl] at hx109_1);(try rw[show 0*3=0 from rfl] at hx109_1);(try rw[Addr.add_zero'] at hx109_1);(try rw[show((0:Int)).toNat=0 from rfl] at hx109_2);(try rw[show 0*3=0 from rfl] at hx109_2);(try rw[Addr.add_zero'] at hx109_2);have hn109_0:ad107.block≠gb108:=Nat.ne_of_lt (Nat.lt_of_lt_of_le (by have:=World.block_lt_of_cell? _ _ hx109_0;exact this) GW108.out);have hn109_1:ad107.block≠gb108:=Nat.ne_of_lt (Nat.lt_of_lt_of_le (by have:=World.block_lt_of_cell? _ _ hx109_0;exact this) GW108.out);have hn109_2:ad107.block≠gb108:=Nat.ne_of_lt (Nat.lt_of_lt_of_le (by have:=World.block_lt_of_cell? _ _ hx109_0;exact this) GW108.out);replace hx109_0:=(HB.out.cell (World.block_lt_of_cell? w _ hx109_0)).trans hx109_0;replace hx109_1:=(HB.out.cell (World.block_lt_of_cell? w _ hx109_1)).trans hx109_1;replace hx109_2:=(HB.out.cell (World.block_lt_of_cell? w _ hx109_2)).trans hx109_2;have HR109_2:=Aside0.mk hi109_2;have HC109_2:=Aside0.mk hl109_2;clear hi109_2 hl109_2;replace hx109_0:=(cell_far (p:=⟨gb108,0,none⟩) (by exact hn109_0) (.int .i64 ((rd_T58 l0_1 x34_3).f0))).trans hx109_0;replace hx109_1:=(cell_far (p:=⟨gb108,0,none⟩) (by exact hn109_0) (.int .i64 ((rd_T58 l0_1 x34_3).f0))).trans hx109_1;replace hx109_2:=(cell_far (p:=⟨gb108,0,none⟩) (by exact hn109_0) (.int .i64 ((rd_T58 l0_1 x34_3).f0))).trans hx109_2;replace hx109_0:=(cell_far (p:=⟨gb108,1,none⟩) (by exact hn109_1) (.int .i64 ((rd_T58 l0_1 x34_3).f1))).trans hx109_0;replace hx109_1:=(cell_far (p:=⟨gb108,1,none⟩) (by exact hn109_1) (.int .i64 ((rd_T58 l0_1 x34_3).f1))).trans hx109_1;replace hx109_2:=(cell_far (p:=⟨gb108,1,none⟩) (by exact hn109_1) (.int .i64 ((rd_T58 l0_1 x34_3).f1))).trans hx109_2;replace hx109_0:=(cell_far (p:=⟨gb108,2,none⟩) (by exact hn109_2) (.slice A107_2 ((rd_T58 l0_1 x34_3).f2).length c107_2)).trans hx109_0;replace hx109_1:=(cell_far (p:=⟨gb108,2,none⟩) (by exact hn109_2) (.slice A107_2 ((rd_T58 l0_1 x34_3).f2).length c107_2)).trans hx109_1;replace hx109_2:=(cell_far (p:=⟨gb108,2,none⟩) (by exact hn109_2) (.slice A107_2 ((rd_T58 l0_1 x34_3).f2).length c107_2)).trans hx109_2;(try have hy109_0:=fun(n_:Nat)=>(show(((((w29.drewN n_).setCell ⟨gb108,0,none⟩ (.int .i64 ((rd_T58 l0_1 x34_3).f0))).setCell ⟨gb108,1,none⟩ (.int .i64 ((rd_T58 l0_1 x34_3).f1))).setCell ⟨gb108,2,none⟩ (.slice A107_2 ((rd_T58 l0_1 x34_3).f2).length c107_2))).cell? _=some _ from hx109_0));(try have hy109_1:=fun(n_:Nat)=>(show(((((w29.drewN n_).setCell ⟨gb108,0,none⟩ (.int .i64 ((rd_T58 l0_1 x34_3).f0))).setCell ⟨gb108,1,none⟩ (.int .i64 ((rd_T58 l0_1 x34_3).f1))).setCell ⟨gb108,2,none⟩ (.slice A107_2 ((rd_T58 l0_1 x34_3).f2).length c107_2))).cell? _=some _ from hx109_1));(try have hy109_2:=fun(n_:Nat)=>(show(((((w29.drewN n_).setCell ⟨gb108,0,none⟩ (.int .i64 ((rd_T58 l0_1 x34_3).f0))).setCell ⟨gb108,1,none⟩ (.int .i64 ((rd_T58 l0_1 x34_3).f1))).setCell ⟨gb108,2,none⟩ (.slice A107_2 ((rd_T58 l0_1 x34_3).f2).length c107_2))).cell? _=some _ from hx109_2));clear hn109_0;clear hn109_1;clear hn109_2;replace p109:=eq_true p109;replace q109:=eq_true q109;have p110:0<=(0:Int):=(by omega);have q110:0<(l0_1.length:Int):=of_decide_eq_true (by(with_reducible assumption));obtain⟨ad110,A110_2,c110_2,e110,hx110_0,hx110_1,hx110_2,hl110_2,hi110_2⟩:=at_T58 HR0_1.out 0 p110 q110;obtain rfl:ad107=ad110:=(by injection e110);have qi110:(0<l0_1.length)=True:=eq_true (by omega);(try rw[show((0:Int)).toNat=0 from rfl] at hx110_0);(try rw[show 0*3=0 from rfl] at hx110_0);(try rw[Addr.add_zero'] at hx110_0);(try rw[show((0:Int)).toNat=0 from rfl] at hx110_1);(try rw[show 0*3=0 from rfl] at hx110_1);(try rw[Addr.add_zero'] at hx110_1);(try rw[show((0:Int)).toNat=0 from rfl] at hx110_2);(try rw[show 0*3=0 from rfl] at hx110_2);(try rw[Addr.add_zero'] at hx110_2);have hn110_0:ad107.block≠gb108:=Nat.ne_of_lt (Nat.lt_of_lt_of_le (by have:=World.block_lt_of_cell? _ _ hx110_0;exact this) GW108.out);have hn110_1:ad107.block≠gb108:=Nat.ne_of_lt (Nat.lt_of_lt_of_le (by have:=World.block_lt_of_cell? _ _ hx110_0;exact this) GW108.out);have hn110_2:ad107.block≠gb108:=Nat.ne_of_lt (Nat.lt_of_lt_of_le (by have:=World.block_lt_of_cell? _ _ hx110_0;exact this) GW108.out);replace hx110_0:=(HB.out.cell (World.block_lt_of_cell? w _ hx110_0)).trans hx110_0;replace hx110_1:=(HB.out.cell (World.block_lt_of_cell? w _ hx110_1)).trans hx110_1;replace hx110_2:=(HB.out.cell (World.block_lt_of_cell? w _ hx110_2)).trans hx110_2;have HR110_2:=Aside0.mk hi110_2;have HC110_2:=Aside0.mk hl110_2;clear hi110_2 hl110_2;replace hx110_0:=(cell_far (p:=⟨gb108,0,none⟩) (by exact hn110_0) (.int .i64 ((rd_T58 l0_1 x34_3).f0))).trans hx110_0;replace hx110_1:=(cell_far (p:=⟨gb108,0,none⟩) (by exact hn110_0) (.int .i64 ((rd_T58 l0_1 x34_3).f0))).trans hx110_1;replace hx110_2:=(cell_far (p:=⟨gb108,0,none⟩) (by exact hn110_0) (.int .i64 ((rd_T58 l0_1 x34_3).f0))).trans hx110_2;replace hx110_0:=(cell_far (p:=⟨gb108,1,none⟩) (by exact hn110_1) (.int .i64 ((rd_T58 l0_1 x34_3).f1))).trans hx110_0;replace hx110_1:=(cell_far (p:=⟨gb108,1,none⟩) (by exact hn110_1) (.int .i64 ((rd_T58 l0_1 x34_3).f1))).trans hx110_1;replace hx110_2:=(cell_far (p:=⟨gb108,1,none⟩) (by exact hn110_1) (.int .i64 ((rd_T58 l0_1 x34_3).f1))).trans hx110_2;replace hx110_0:=(cell_far (p:=⟨gb108,2,none⟩) (by exact hn110_2) (.slice A107_2 ((rd_T58 l0_1 x34_3).f2).length c107_2)).trans hx110_0;replace hx110_1:=(cell_far (p:=⟨gb108,2,none⟩) (by exact hn110_2) (.slice A107_2 ((rd_T58 l0_1 x34_3).f2).length c107_2)).trans hx110_1;replace hx110_2:=(cell_far (p:=⟨gb108,2,none⟩) (by exact hn110_2) (.slice A107_2 ((rd_T58 l0_1 x34_3).f2).length c107_2)).trans hx110_2;(try have hy110_0:=fun(n_:Nat)=>(show(((((w29.drewN n_).setCell ⟨gb108,0,none⟩ (.int .i64 ((rd_T58 l0_1 x34_3).f0))).setCell ⟨gb108,1,none⟩ (.int .i64 ((rd_T58 l0_1 x34_3).f1))).setCell ⟨gb108,2,none⟩ (.slice A107_2 ((rd_T58 l0_1 x34_3).f2).length c107_2))).cell? _=some _ from hx110_0));(try have hy110_1:=fun(n_:Nat)=>(show(((((w29.drewN n_).setCell ⟨gb108,0,none⟩ (.int .i64 ((rd_T58 l0_1 x34_3).f0))).setCell ⟨gb108,1,none⟩ (.int .i64 ((rd_T58 l0_1 x34_3).f1))).setCell ⟨gb108,2,none⟩ (.slice A107_2 ((rd_T58 l0_1 x34_3).f2).length c107_2))).cell? _=some _ from hx110_1));(try have hy110_2:=fun(n_:Nat)=>(show(((((w29.drewN n_).setCell ⟨gb108,0,none⟩ (.int .i64 ((rd_T58 l0_1 x34_3).f0))).setCell ⟨gb108,1,none⟩ (.int .i64 ((rd_T58 l0_1 x34_3).f1))).setCell ⟨gb108,2,none⟩ (.slice A107_2 ((rd_T58 l0_1 x34_3).f2).length c107_2))).cell? _=some _ from hx110_2));clear hn110_0;clear hn110_1;clear hn110_2;replace p110:=eq_true p110;replace q110:=eq_true q110))
               repeat(go_quiet (fail);try go_wp2_with (fail))
               go_roundg k3
               case measure=>have:=HJ1.out;have:=HK2.out;have:=HK3.out;omega
               case rel=>exact⟨(wrap64 (x34_3+1)),(by rfl),H',⟨by have:=HJ1.out;have:=HK2.out;have:=HK3.out;omega⟩,⟨by(with_reducible repeat((refine blk_drewN ?_ _)));refine blk_far ?_ NB103_108.out _;(with_reducible repeat(fail));refine blk_far ?_ NB103_108.out _;(with_reducible repeat(fail));refine blk_far ?_ NB103_108.out _;(with_reducible repeat(fail));exact BK103.out⟩,⟨by repeat((with_reducible first|exact HB.out|apply pw_below_drewN|refine below_set ?_ GE108.out))⟩⟩
              ·rw[if_neg c28] at H
               have c28b0:(((rd_T58 l0_1 x34_3).f1)==((rd_T58 l0_1 0).f1))=false:=beq_eq_false_iff_ne.mpr c28
               have c28b1:(((rd_T58 l0_1 x34_3).f1) !=((rd_T58 l0_1 0).f1))=true:=bne_iff_ne.mpr c28
               obtain rfl:=Option.some.inj H
               have p107:0<=(x34_3:Int):=of_decide_eq_true (by(with_reducible assumption))
               have q107:x34_3<(l0_1.length:Int):=of_decide_eq_true (by(with_reducible assumption))
               obtain⟨ad107,A107_2,c107_2,e107,hx107_0,hx107_1,hx107_2,hl107_2,hi107_2⟩:=at_T58 HR0_1.out x34_3 p107 q107
               cases e107
               replace hx107_0:=(HB.out.cell (World.block_lt_of_cell? w _ hx107_0)).trans hx107_0
               replace hx107_1:=(HB.out.cell (World.block_lt_of_cell? w _ hx107_1)).trans hx107_1
               replace hx107_2:=(HB.out.cell (World.block_lt_of_cell? w _ hx107_2)).trans hx107_2
               have HR107_2:=Aside0.mk hi107_2
               have HC107_2:=Aside0.mk hl107_2
               clear hi107_2 hl107_2
               replace p107:=eq_true p107
               replace q107:=eq_true q107
               go_wp2_with (((with_reducible refine gate_dst (N:=7) rfl ?_);(try(refine gate_guard (by rfl) ?_;dsimp only));refine box_event ?hg (N:=7) ?hd (cs := #[.int .i64 0,.int .i64 0,.slice none 0 0]) (t:=58) ?hr ?_;(case hd=>rfl);(case hg=>rfl);(case hr=>(go_simp;done));intro gb108 hg w33 hbox hb;have n0_:=Aside0.mk (blk_below (g:=gb103) (o := .cells #[.int .i64 a0_0,.slice (some ad107) l0_1.length c0_1] 25 (0,0)) (by(with_reducible repeat(fail));exact BK103.out) hb);have n1_:=Aside0.mk (below_step (by repeat((with_reducible exact HB.out))) hb);have n2_:=Aside0.mk (hbox);have n3_:=Aside0.mk ((by rw[hg];exact(below_size (by repeat((with_reducible exact HB.out)))):w.heap.size<=gb108));have n4_:=Aside0.mk ((by rw[hg];exact(below_size (by repeat((with_reducible exact HB.out)))):w.heap.size<=gb108));have n5_:=Aside0.mk ((by rw[hg];exact Nat.ne_of_lt (blk_lt (g:=gb103) (o := .cells #[.int .i64 a0_0,.slice (some ad107) l0_1.length c0_1] 25 (0,0)) (by(with_reducible repeat(fail));exact BK103.out)):gb103≠gb108));have n6_:=Aside0.mk ((by rw[hg];exact Nat.ne_of_gt (blk_lt (g:=gb103) (o := .cells #[.int .i64 a0_0,.slice (some ad107) l0_1.length c0_1] 25 (0,0)) (by(with_reducible repeat(fail));exact BK103.out)):gb108≠gb103));clear BK103;clear HB;have BK103:=n0_;have HB:=n1_;have BK108:=n2_;have GW108:=n3_;have GE108:=n4_;have NB103_108:=n5_;have NB108_103:=n6_;clear n0_ n1_ n2_ n3_ n4_ n5_ n6_;clear hb hbox hg;have hnb34:=NB108_103.out;have hnc34:=NB103_108.out;have hcz35_0:w33.cell? ⟨gb108,0,none⟩=some (.int .i64 0):=(blk_cell BK108.out 0).trans rfl;have hcz35_1:w33.cell? ⟨gb108,1,none⟩=some (.int .i64 0):=(blk_cell BK108.out 1).trans rfl;have hcz35_2:w33.cell? ⟨gb108,2,none⟩=some (.slice none 0 0):=(blk_cell BK108.out 2).trans rfl;have hfz35_0:=blk_frozen BK108.out 0;have hfz35_1:=blk_frozen BK108.out 1;have hfz35_2:=blk_frozen BK108.out 2;have hcz36_0:w33.cell? ⟨gb103,0,none⟩=some (.int .i64 a0_0):=(blk_cell BK103.out 0).trans rfl;have hcz36_1:w33.cell? ⟨gb103,1,none⟩=some (.slice (some ad107) l0_1.length c0_1):=(blk_cell BK103.out 1).trans rfl;have hfz36_0:=blk_frozen BK103.out 0;have hfz36_1:=blk_frozen BK103.out 1;have p109:0<=(0:Int):=(by omega);have q109:0<(l0_1.length:Int):=of_decide_eq_true (by(with_reducible assumption));obtain⟨ad109,A109_2,c109_2,e109,hx109_0,hx109_1,hx109_2,hl109_2,hi109_2⟩:=at_T58 HR0_1.out 0 p109 q109;obtain rfl:ad107=ad109:=(by injection e109);have qi109:(0<l0_1.length)=True:=eq_true (by omega);(try rw[show((0:Int)).toNat=0 from rfl] at hx109_0);(try rw[show 0*3=0 from rfl] at hx109_0);(try rw[Addr.add_zero'] at hx109_0);(try rw[show((0:Int)).toNat=0 from rfl] at hx109_1);(try rw[show 0*3=0 from rfl] at hx109_1);(try rw[Addr.add_zero'] at hx109_1);(try rw[show((0:Int)).toNat=0 from rfl] at hx109_2);(try rw[show 0*3=0 from rfl] at hx109_2);(try rw[Addr.add_zero'] at hx109_2);have hn109_0:ad107.block≠gb108:=Nat.ne_of_lt (Nat.lt_of_lt_of_le (by have:=World.block_lt_of_cell? _ _ hx109_0;exact this) GW108.out);have hn109_1:ad107.block≠gb108:=Nat.ne_of_lt (Nat.lt_of_lt_of_le (by have:=World.block_lt_of_cell? _ _ hx109_0;exact this) GW108.out);have hn109_2:ad107.block≠gb108:=Nat.ne_of_lt (Nat.lt_of_lt_of_le (by have:=World.block_lt_of_cell? _ _ hx109_0;exact this) GW108.out);replace hx109_0:=(HB.out.cell (World.block_lt_of_cell? w _ hx109_0)).trans hx109_0;replace hx109_1:=(HB.out.cell (World.block_lt_of_cell? w _ hx109_1)).trans hx109_1;replace hx109_2:=(HB.out.cell (World.block_lt_of_cell? w _ hx109_2)).trans hx109_2;have HR109_2:=Aside0.mk hi109_2;have HC109_2:=Aside0.mk hl109_2;clear hi109_2 hl109_2;replace hx109_0:=(cell_far (p:=⟨gb108,0,none⟩) (by exact hn109_0) (.int .i64 ((rd_T58 l0_1 x34_3).f0))).trans hx109_0;replace hx109_1:=(cell_far (p:=⟨gb108,0,none⟩) (by exact hn109_0) (.int .i64 ((rd_T58 l0_1 x34_3).f0))).trans hx109_1;replace hx109_2:=(cell_far (p:=⟨gb108,0,none⟩) (by exact hn109_0) (.int .i64 ((rd_T58 l0_1 x34_3).f0))).trans hx109_2;replace hx109_0:=(cell_far (p:=⟨gb108,1,none⟩) (by exact hn109_1) (.int .i64 ((rd_T58 l0_1 x34_3).f1))).trans hx109_0;replace hx109_1:=(cell_far (p:=⟨gb108,1,none⟩) (by exact hn109_1) (.int .i64 ((rd_T58 l0_1 x34_3).f1))).trans hx109_1;replace hx109_2:=(cell_far (p:=⟨gb108,1,none⟩) (by exact hn109_1) (.int .i64 ((rd_T58 l0_1 x34_3).f1))).trans hx109_2;replace hx109_0:=(cell_far (p:=⟨gb108,2,none⟩) (by exact hn109_2) (.slice A107_2 ((rd_T58 l0_1 x34_3).f2).length c107_2)).trans hx109_0;replace hx109_1:=(cell_far (p:=⟨gb108,2,none⟩) (by exact hn109_2) (.slice A107_2 ((rd_T58 l0_1 x34_3).f2).length c107_2)).trans hx109_1;replace hx109_2:=(cell_far (p:=⟨gb108,2,none⟩) (by exact hn109_2) (.slice A107_2 ((rd_T58 l0_1 x34_3).f2).length c107_2)).trans hx109_2;(try have hy109_0:=fun(n_:Nat)=>(show(((((w33.drewN n_).setCell ⟨gb108,0,none⟩ (.int .i64 ((rd_T58 l0_1 x34_3).f0))).setCell ⟨gb108,1,none⟩ (.int .i64 ((rd_T58 l0_1 x34_3).f1))).setCell ⟨gb108,2,none⟩ (.slice A107_2 ((rd_T58 l0_1 x34_3).f2).length c107_2))).cell? _=some _ from hx109_0));(try have hy109_1:=fun(n_:Nat)=>(show(((((w33.drewN n_).setCell ⟨gb108,0,none⟩ (.int .i64 ((rd_T58 l0_1 x34_3).f0))).setCell ⟨gb108,1,none⟩ (.int .i64 ((rd_T58 l0_1 x34_3).f1))).setCell ⟨gb108,2,none⟩ (.slice A107_2 ((rd_T58 l0_1 x34_3).f2).length c107_2))).cell? _=some _ from hx109_1));(try have hy109_2:=fun(n_:Nat)=>(show(((((w33.drewN n_).setCell ⟨gb108,0,none⟩ (.int .i64 ((rd_T58 l0_1 x34_3).f0))).setCell ⟨gb108,1,none⟩ (.int .i64 ((rd_T58 l0_1 x34_3).f1))).setCell ⟨gb108,2,none⟩ (.slice A107_2 ((rd_T58 l0_1 x34_3).f2).length c107_2))).cell? _=some _ from hx109_2));clear hn109_0;clear hn109_1;clear hn109_2;replace p109:=eq_true p109;replace q109:=eq_true q109;have p110:0<=(0:Int):=(by omega);have q110:0<(l0_1.length:Int):=of_decide_eq_true (by(with_reducible assumption));obtain⟨ad110,A110_2,c110_2,e110,hx110_0,hx110_1,hx110_2,hl110_2,hi110_2⟩:=at_T58 HR0_1.out 0 p110 q110;obtain rfl:ad107=ad110:=(by injection e110);have qi110:(0<l0_1.length)=True:=eq_true (by omega);(try rw[show((0:Int)).toNat=0 from rfl] at hx110_0);(try rw[show 0*3=0 from rfl] at hx110_0);(try rw[Addr.add_zero'] at hx110_0);(try rw[show((0:Int)).toNat=0 from rfl] at hx110_1);(try rw[show 0*3=0 from rfl] at hx110_1);(try rw[Addr.add_zero'] at hx110_1);(try rw[show((0:Int)).toNat=0 from rfl] at hx110_2);(try rw[show 0*3=0 from rfl] at hx110_2);(try rw[Addr.add_zero'] at hx110_2);have hn110_0:ad107.block≠gb108:=Nat.ne_of_lt (Nat.lt_of_lt_of_le (by have:=World.block_lt_of_cell? _ _ hx110_0;exact this) GW108.out);have hn110_1:ad107.block≠gb108:=Nat.ne_of_lt (Nat.lt_of_lt_of_le (by have:=World.block_lt_of_cell? _ _ hx110_0;exact this) GW108.out);have hn110_2:ad107.block≠gb108:=Nat.ne_of_lt (Nat.lt_of_lt_of_le (by have:=World.block_lt_of_cell? _ _ hx110_0;exact this) GW108.out);replace hx110_0:=(HB.out.cell (World.block_lt_of_cell? w _ hx110_0)).trans hx110_0;replace hx110_1:=(HB.out.cell (World.block_lt_of_cell? w _ hx110_1)).trans hx110_1;replace hx110_2:=(HB.out.cell (World.block_lt_of_cell? w _ hx110_2)).trans hx110_2;have HR110_2:=Aside0.mk hi110_2;have HC110_2:=Aside0.mk hl110_2;clear hi110_2 hl110_2;replace hx110_0:=(cell_far (p:=⟨gb108,0,none⟩) (by exact hn110_0) (.int .i64 ((rd_T58 l0_1 x34_3).f0))).trans hx110_0;replace hx110_1:=(cell_far (p:=⟨gb108,0,none⟩) (by exact hn110_0) (.int .i64 ((rd_T58 l0_1 x34_3).f0))).trans hx110_1;replace hx110_2:=(cell_far (p:=⟨gb108,0,none⟩) (by exact hn110_0) (.int .i64 ((rd_T58 l0_1 x34_3).f0))).trans hx110_2;replace hx110_0:=(cell_far (p:=⟨gb108,1,none⟩) (by exact hn110_1) (.int .i64 ((rd_T58 l0_1 x34_3).f1))).trans hx110_0;replace hx110_1:=(cell_far (p:=⟨gb108,1,none⟩) (by exact hn110_1) (.int .i64 ((rd_T58 l0_1 x34_3).f1))).trans hx110_1;replace hx110_2:=(cell_far (p:=⟨gb108,1,none⟩) (by exact hn110_1) (.int .i64 ((rd_T58 l0_1 x34_3).f1))).trans hx110_2;replace hx110_0:=(cell_far (p:=⟨gb108,2,none⟩) (by exact hn110_2) (.slice A107_2 ((rd_T58 l0_1 x34_3).f2).length c107_2)).trans hx110_0;replace hx110_1:=(cell_far (p:=⟨gb108,2,none⟩) (by exact hn110_2) (.slice A107_2 ((rd_T58 l0_1 x34_3).f2).length c107_2)).trans hx110_1;replace hx110_2:=(cell_far (p:=⟨gb108,2,none⟩) (by exact hn110_2) (.slice A107_2 ((rd_T58 l0_1 x34_3).f2).length c107_2)).trans hx110_2;(try have hy110_0:=fun(n_:Nat)=>(show(((((w33.drewN n_).setCell ⟨gb108,0,none⟩ (.int .i64 ((rd_T58 l0_1 x34_3).f0))).setCell ⟨gb108,1,none⟩ (.int .i64 ((rd_T58 l0_1 x34_3).f1))).setCell ⟨gb108,2,none⟩ (.slice A107_2 ((rd_T58 l0_1 x34_3).f2).length c107_2))).cell? _=some _ from hx110_0));(try have hy110_1:=fun(n_:Nat)=>(show(((((w33.drewN n_).setCell ⟨gb108,0,none⟩ (.int .i64 ((rd_T58 l0_1 x34_3).f0))).setCell ⟨gb108,1,none⟩ (.int .i64 ((rd_T58 l0_1 x34_3).f1))).setCell ⟨gb108,2,none⟩ (.slice A107_2 ((rd_T58 l0_1 x34_3).f2).length c107_2))).cell? _=some _ from hx110_1));(try have hy110_2:=fun(n_:Nat)=>(show(((((w33.drewN n_).setCell ⟨gb108,0,none⟩ (.int .i64 ((rd_T58 l0_1 x34_3).f0))).setCell ⟨gb108,1,none⟩ (.int .i64 ((rd_T58 l0_1 x34_3).f1))).setCell ⟨gb108,2,none⟩ (.slice A107_2 ((rd_T58 l0_1 x34_3).f2).length c107_2))).cell? _=some _ from hx110_2));clear hn110_0;clear hn110_1;clear hn110_2;replace p110:=eq_true p110;replace q110:=eq_true q110))
               repeat(go_quiet (fail);try go_wp2_with (fail))
               go_ret
               exact⟨by rfl,by repeat((with_reducible first|exact HB.out|apply pw_below_drewN|refine below_set ?_ GE108.out))⟩
             ·rw[if_neg c27] at H
              have c27b0:(((rd_T58 l0_1 x34_3).f0)==((rd_T58 l0_1 0).f0))=false:=beq_eq_false_iff_ne.mpr c27
              have c27b1:(((rd_T58 l0_1 x34_3).f0) !=((rd_T58 l0_1 0).f0))=true:=bne_iff_ne.mpr c27
              obtain rfl:=Option.some.inj H
              have p107:0<=(x34_3:Int):=of_decide_eq_true (by(with_reducible assumption))
              have q107:x34_3<(l0_1.length:Int):=of_decide_eq_true (by(with_reducible assumption))
              obtain⟨ad107,A107_2,c107_2,e107,hx107_0,hx107_1,hx107_2,hl107_2,hi107_2⟩:=at_T58 HR0_1.out x34_3 p107 q107
              cases e107
              replace hx107_0:=(HB.out.cell (World.block_lt_of_cell? w _ hx107_0)).trans hx107_0
              replace hx107_1:=(HB.out.cell (World.block_lt_of_cell? w _ hx107_1)).trans hx107_1
              replace hx107_2:=(HB.out.cell (World.block_lt_of_cell? w _ hx107_2)).trans hx107_2
              have HR107_2:=Aside0.mk hi107_2
              have HC107_2:=Aside0.mk hl107_2
              clear hi107_2 hl107_2
              replace p107:=eq_true p107
              replace q107:=eq_true q107
              go_wp2_with (((with_reducible refine gate_dst (N:=7) rfl ?_);(try(refine gate_guard (by rfl) ?_;dsimp only));refine box_event ?hg (N:=7) ?hd (cs := #[.int .i64 0,.int .i64 0,.slice none 0 0]) (t:=58) ?hr ?_;(case hd=>rfl);(case hg=>rfl);(case hr=>(go_simp;done));intro gb108 hg w37 hbox hb;have n0_:=Aside0.mk (blk_below (g:=gb103) (o := .cells #[.int .i64 a0_0,.slice (some ad107) l0_1.length c0_1] 25 (0,0)) (by(with_reducible repeat(fail));exact BK103.out) hb);have n1_:=Aside0.mk (below_step (by repeat((with_reducible exact HB.out))) hb);have n2_:=Aside0.mk (hbox);have n3_:=Aside0.mk ((by rw[hg];exact(below_size (by repeat((with_reducible exact HB.out)))):w.heap.size<=gb108));have n4_:=Aside0.mk ((by rw[hg];exact(below_size (by repeat((with_reducible exact HB.out)))):w.heap.size<=gb108));have n5_:=Aside0.mk ((by rw[hg];exact Nat.ne_of_lt (blk_lt (g:=gb103) (o := .cells #[.int .i64 a0_0,.slice (some ad107) l0_1.length c0_1] 25 (0,0)) (by(with_reducible repeat(fail));exact BK103.out)):gb103≠gb108));have n6_:=Aside0.mk ((by rw[hg];exact Nat.ne_of_gt (blk_lt (g:=gb103) (o := .cells #[.int .i64 a0_0,.slice (some ad107) l0_1.length c0_1] 25 (0,0)) (by(with_reducible repeat(fail));exact BK103.out)):gb108≠gb103));clear BK103;clear HB;have BK103:=n0_;have HB:=n1_;have BK108:=n2_;have GW108:=n3_;have GE108:=n4_;have NB103_108:=n5_;have NB108_103:=n6_;clear n0_ n1_ n2_ n3_ n4_ n5_ n6_;clear hb hbox hg;have hnb38:=NB108_103.out;have hnc38:=NB103_108.out;have hcz39_0:w37.cell? ⟨gb108,0,none⟩=some (.int .i64 0):=(blk_cell BK108.out 0).trans rfl;have hcz39_1:w37.cell? ⟨gb108,1,none⟩=some (.int .i64 0):=(blk_cell BK108.out 1).trans rfl;have hcz39_2:w37.cell? ⟨gb108,2,none⟩=some (.slice none 0 0):=(blk_cell BK108.out 2).trans rfl;have hfz39_0:=blk_frozen BK108.out 0;have hfz39_1:=blk_frozen BK108.out 1;have hfz39_2:=blk_frozen BK108.out 2;have hcz40_0:w37.cell? ⟨gb103,0,none⟩=some (.int .i64 a0_0):=(blk_cell BK103.out 0).trans rfl;have hcz40_1:w37.cell? ⟨gb103,1,none⟩=some (.slice (some ad107) l0_1.length c0_1):=(blk_cell BK103.out 1).trans rfl;have hfz40_0:=blk_frozen BK103.out 0;have hfz40_1:=blk_frozen BK103.out 1;have p109:0<=(0:Int):=(by omega);have q109:0<(l0_1.length:Int):=of_decide_eq_true (by(with_reducible assumption));obtain⟨ad109,A109_2,c109_2,e109,hx109_0,hx109_1,hx109_2,hl109_2,hi109_2⟩:=at_T58 HR0_1.out 0 p109 q109;obtain rfl:ad107=ad109:=(by injection e109);have qi109:(0<l0_1.length)=True:=eq_true (by omega);(try rw[show((0:Int)).toNat=0 from rfl] at hx109_0);(try rw[show 0*3=0 from rfl] at hx109_0);(try rw[Addr.add_zero'] at hx109_0);(try rw[show((0:Int)).toNat=0 from rfl] at hx109_1);(try rw[show 0*3=0 from rfl] at hx109_1);(try rw[Addr.add_zero'] at hx109_1);(try rw[show((0:Int)).toNat=0 from rfl] at hx109_2);(try rw[show 0*3=0 from rfl] at hx109_2);(try rw[Addr.add_zero'] at hx109_2);have hn109_0:ad107.block≠gb108:=Nat.ne_of_lt (Nat.lt_of_lt_of_le (by have:=World.block_lt_of_cell? _ _ hx109_0;exact this) GW108.out);have hn109_1:ad107.block≠gb108:=Nat.ne_of_lt (Nat.lt_of_lt_of_le (by have:=World.block_lt_of_cell? _ _ hx109_0;exact this) GW108.out);have hn109_2:ad107.block≠gb108:=Nat.ne_of_lt (Nat.lt_of_lt_of_le (by have:=World.block_lt_of_cell? _ _ hx109_0;exact this) GW108.out);replace hx109_0:=(HB.out.cell (World.block_lt_of_cell? w _ hx109_0)).trans hx109_0;replace hx109_1:=(HB.out.cell (World.block_lt_of_cell? w _ hx109_1)).trans hx109_1;replace hx109_2:=(HB.out.cell (World.block_lt_of_cell? w _ hx109_2)).trans hx109_2;have HR109_2:=Aside0.mk hi109_2;have HC109_2:=Aside0.mk hl109_2;clear hi109_2 hl109_2;replace hx109_0:=(cell_far (p:=⟨gb108,0,none⟩) (by exact hn109_0) (.int .i64 ((rd_T58 l0_1 x34_3).f0))).trans hx109_0;replace hx109_1:=(cell_far (p:=⟨gb108,0,none⟩) (by exact hn109_0) (.int .i64 ((rd_T58 l0_1 x34_3).f0))).trans hx109_1;replace hx109_2:=(cell_far (p:=⟨gb108,0,none⟩) (by exact hn109_0) (.int .i64 ((rd_T58 l0_1 x34_3).f0))).trans hx109_2;replace hx109_0:=(cell_far (p:=⟨gb108,1,none⟩) (by exact hn109_1) (.int .i64 ((rd_T58 l0_1 x34_3).f1))).trans hx109_0;replace hx109_1:=(cell_far (p:=⟨gb108,1,none⟩) (by exact hn109_1) (.int .i64 ((rd_T58 l0_1 x34_3).f1))).trans hx109_1;replace hx109_2:=(cell_far (p:=⟨gb108,1,none⟩) (by exact hn109_1) (.int .i64 ((rd_T58 l0_1 x34_3).f1))).trans hx109_2;replace hx109_0:=(cell_far (p:=⟨gb108,2,none⟩) (by exact hn109_2) (.slice A107_2 ((rd_T58 l0_1 x34_3).f2).length c107_2)).trans hx109_0;replace hx109_1:=(cell_far (p:=⟨gb108,2,none⟩) (by exact hn109_2) (.slice A107_2 ((rd_T58 l0_1 x34_3).f2).length c107_2)).trans hx109_1;replace hx109_2:=(cell_far (p:=⟨gb108,2,none⟩) (by exact hn109_2) (.slice A107_2 ((rd_T58 l0_1 x34_3).f2).length c107_2)).trans hx109_2;(try have hy109_0:=fun(n_:Nat)=>(show(((((w37.drewN n_).setCell ⟨gb108,0,none⟩ (.int .i64 ((rd_T58 l0_1 x34_3).f0))).setCell ⟨gb108,1,none⟩ (.int .i64 ((rd_T58 l0_1 x34_3).f1))).setCell ⟨gb108,2,none⟩ (.slice A107_2 ((rd_T58 l0_1 x34_3).f2).length c107_2))).cell? _=some _ from hx109_0));(try have hy109_1:=fun(n_:Nat)=>(show(((((w37.drewN n_).setCell ⟨gb108,0,none⟩ (.int .i64 ((rd_T58 l0_1 x34_3).f0))).setCell ⟨gb108,1,none⟩ (.int .i64 ((rd_T58 l0_1 x34_3).f1))).setCell ⟨gb108,2,none⟩ (.slice A107_2 ((rd_T58 l0_1 x34_3).f2).length c107_2))).cell? _=some _ from hx109_1));(try have hy109_2:=fun(n_:Nat)=>(show(((((w37.drewN n_).setCell ⟨gb108,0,none⟩ (.int .i64 ((rd_T58 l0_1 x34_3).f0))).setCell ⟨gb108,1,none⟩ (.int .i64 ((rd_T58 l0_1 x34_3).f1))).setCell ⟨gb108,2,none⟩ (.slice A107_2 ((rd_T58 l0_1 x34_3).f2).length c107_2))).cell? _=some _ from hx109_2));clear hn109_0;clear hn109_1;clear hn109_2;replace p109:=eq_true p109;replace q109:=eq_true q109))
              repeat(go_quiet (fail);try go_wp2_with (fail))
              go_ret
              exact⟨by rfl,by repeat((with_reducible first|exact HB.out|apply pw_below_drewN|refine below_set ?_ GE108.out))⟩
            ·rw[if_neg c26] at H
             exact absurd H (by simp)
           ·rw[if_neg c25] at H
            exact absurd H (by simp)
          ·rw[if_neg c24] at H
           exact absurd H (by simp)
         ·rw[if_neg c23] at H
          have c23b0:decide (x34_3<(l0_1.length:Int))=false:=decide_eq_false c23
          clear c23
          replace H:=Option.bind_eq_some_iff.mp H
          obtain⟨t111,A410,H⟩:=H
          replace H:(some t111)=some r:=H
          have A41:=Aside0.mk A410
          clear A410
          obtain rfl:=Option.some.inj H
          have hcz42_0:wr.cell? ⟨gb103,0,none⟩=some (.int .i64 a0_0):=(blk_cell BK103.out 0).trans rfl
          have hcz42_1:wr.cell? ⟨gb103,1,none⟩=some (.slice A0_1 l0_1.length c0_1):=(blk_cell BK103.out 1).trans rfl
          have hfz42_0:=blk_frozen BK103.out 0
          have hfz42_1:=blk_frozen BK103.out 1
          go_wp2_with ((go_at_call 68;(with_reducible refine(picture_spaceOf.calls a0_0 (l0_1.length:Int) t111 _ A41.out).mono ?_);rintro e w' ⟨rfl,⟨nd,rfl⟩⟩))
          repeat(go_quiet (fail);try go_wp2_with (fail))
          go_ret
          exact⟨by rfl,by repeat((with_reducible first|exact HB.out|apply pw_below_drewN))⟩
def bits_Key.f (a0:Int):Option (Int):=if a0<2147483648 then (some ((a0+2147483648)%4294967296)) else (some ((4294967295-a0)%4294967296))
set_option maxHeartbeats 8000000 in
set_option maxRecDepth 100000 in
theorem bits_Key.calls (a0:Int) (r:Int) (w:World) (h:bits_Key.f a0=some r) :
  Calls Tryz.prog 173 #[.int .u32 a0] w fun e w'=>e = .returned (.int .u32 r)/\Drawn0 w w':=by
 have H:(if a0<2147483648 then (some ((a0+2147483648)%4294967296)) else (some ((4294967295-a0)%4294967296)))=some r:=h
 clear h
 by_cases c2:a0<2147483648
 ·rw[if_pos c2] at H
  have c2b0:decide (a0<2147483648)=true:=decide_eq_true c2
  clear c2
  obtain rfl:=Option.some.inj H
  go_enter Tryz.func173,Tryz.ntmps173
  go_wp2
  go_ret
  exact⟨by rfl,by repeat(exact Drawn0.refl _)⟩
 ·rw[if_neg c2] at H
  have c2b0:decide (a0<2147483648)=false:=decide_eq_false c2
  clear c2
  obtain rfl:=Option.some.inj H
  go_enter Tryz.func173,Tryz.ntmps173
  go_wp2
  go_ret
  exact⟨by rfl,by repeat(exact Drawn0.refl _)⟩
def bits_FromKey.f (a0:Int):Option (Int):=if a0>=2147483648 then (some ((a0-2147483648)%4294967296)) else (some ((4294967295-a0)%4294967296))
set_option maxHeartbeats 8000000 in
set_option maxRecDepth 100000 in
theorem bits_FromKey.calls (a0:Int) (r:Int) (w:World) (h:bits_FromKey.f a0=some r) :
  Calls Tryz.prog 332 #[.int .u32 a0] w fun e w'=>e = .returned (.int .u32 r)/\Drawn0 w w':=by
 have H:(if a0>=2147483648 then (some ((a0-2147483648)%4294967296)) else (some ((4294967295-a0)%4294967296)))=some r:=h
 clear h
 by_cases c2:a0>=2147483648
 ·rw[if_pos c2] at H
  have c2b0:decide (2147483648<=a0)=true:=decide_eq_true c2
  clear c2
  obtain rfl:=Option.some.inj H
  go_enter Tryz.func332,Tryz.ntmps332
  go_wp2
  go_ret
  exact⟨by rfl,by repeat(exact Drawn0.refl _)⟩
 ·rw[if_neg c2] at H
  have c2b0:decide (2147483648<=a0)=false:=decide_eq_false c2
  clear c2
  obtain rfl:=Option.some.inj H
  go_enter Tryz.func332,Tryz.ntmps332
  go_wp2
  go_ret
  exact⟨by rfl,by repeat(exact Drawn0.refl _)⟩
def codec_middle.f (a0:Int) (a1:Int) (a2:Int):Option (Int):=some (mx (mn a0 a1) (mn (mx a0 a1) a2))
set_option maxHeartbeats 8000000 in
set_option maxRecDepth 100000 in
theorem codec_middle.calls (a0:Int) (a1:Int) (a2:Int) (r:Int) (w:World) (h:codec_middle.f a0 a1 a2=some r) :
  Calls Tryz.prog 333 #[.int .i64 a0,.int .i64 a1,.int .i64 a2] w fun e w'=>e = .returned (.int .i64 r)/\Below w.heap.size w w':=by
 have HB:=Aside0.mk (Below.refl w.heap.size w)
 have H:(some (mx (mn a0 a1) (mn (mx a0 a1) a2)))=some r:=h
 clear h
 obtain⟨ji4,hji4⟩ : ∃j_:Int,(mn a0 a1)=j_:=⟨_,rfl⟩
 replace H:(some (mx (ji4) (mn (mx a0 a1) a2)))=some r:=by(rw[hji4] at H;exact H)
 have hji4_:(if a1<a0 then a1 else a0)=ji4:=hji4
 obtain⟨ji5,hji5⟩ : ∃j_:Int,(mx a0 a1)=j_:=⟨_,rfl⟩
 replace H:(some (mx (ji4) (mn (ji5) a2)))=some r:=by(rw[hji5] at H;exact H)
 have hji5_:(if a0<a1 then a1 else a0)=ji5:=hji5
 obtain⟨ji6,hji6⟩ : ∃j_:Int,(mn (ji5) a2)=j_:=⟨_,rfl⟩
 replace H:(some (mx (ji4) (ji6)))=some r:=by(rw[hji6] at H;exact H)
 have hji6_:(if a2<(ji5) then a2 else (ji5))=ji6:=hji6
 obtain⟨ji7,hji7⟩ : ∃j_:Int,(mx (ji4) (ji6))=j_:=⟨_,rfl⟩
 replace H:(some ji7)=some r:=by(rw[hji7] at H;exact H)
 have hji7_:(if (ji4)<(ji6) then (ji6) else (ji4))=ji7:=hji7
 obtain rfl:=Option.some.inj H
 go_enter Tryz.func333,Tryz.ntmps333
 go_wp2
 go_ret
 exact⟨by rfl,by repeat((with_reducible exact HB.out))⟩
def codec_Guess.f (a0:Int) (a1:Int) (a2:Int):Option (Int):=(bits_Key.f a0).bind fun t112=>((bits_Key.f a1).bind fun t113=>((bits_Key.f a2).bind fun t114=>((codec_middle.f (wrap64 (t112)) (wrap64 (t113)) (wrap64 ((wrap64 ((wrap64 (t112))+(wrap64 (t113))))-(wrap64 (t114))))).bind fun t115=>((bits_FromKey.f ((t115)%4294967296)).bind fun t116=>(some t116)))))
set_option maxHeartbeats 8000000 in
set_option maxRecDepth 100000 in
theorem codec_Guess.calls (a0:Int) (a1:Int) (a2:Int) (r:Int) (w:World) (h:codec_Guess.f a0 a1 a2=some r) :
  Calls Tryz.prog 240 #[.int .u32 a0,.int .u32 a1,.int .u32 a2] w fun e w'=>e = .returned (.int .u32 r)/\Below w.heap.size w w':=by
 have HB:=Aside0.mk (Below.refl w.heap.size w)
 have H:((bits_Key.f a0).bind fun t112=>((bits_Key.f a1).bind fun t113=>((bits_Key.f a2).bind fun t114=>((codec_middle.f (wrap64 (t112)) (wrap64 (t113)) (wrap64 ((wrap64 ((wrap64 (t112))+(wrap64 (t113))))-(wrap64 (t114))))).bind fun t115=>((bits_FromKey.f ((t115)%4294967296)).bind fun t116=>(some t116))))))=some r:=h
 clear h
 replace H:=Option.bind_eq_some_iff.mp H
 obtain⟨t112,A40,H⟩:=H
 replace H:((bits_Key.f a1).bind fun t113=>((bits_Key.f a2).bind fun t114=>((codec_middle.f (wrap64 (t112)) (wrap64 (t113)) (wrap64 ((wrap64 ((wrap64 (t112))+(wrap64 (t113))))-(wrap64 (t114))))).bind fun t115=>((bits_FromKey.f ((t115)%4294967296)).bind fun t116=>(some t116)))))=some r:=H
 have A4:=Aside0.mk A40
 clear A40
 replace H:=Option.bind_eq_some_iff.mp H
 obtain⟨t113,A50,H⟩:=H
 replace H:((bits_Key.f a2).bind fun t114=>((codec_middle.f (wrap64 (t112)) (wrap64 (t113)) (wrap64 ((wrap64 ((wrap64 (t112))+(wrap64 (t113))))-(wrap64 (t114))))).bind fun t115=>((bits_FromKey.f ((t115)%4294967296)).bind fun t116=>(some t116))))=some r:=H
 have A5:=Aside0.mk A50
 clear A50
 replace H:=Option.bind_eq_some_iff.mp H
 obtain⟨t114,A60,H⟩:=H
 replace H:((codec_middle.f (wrap64 (t112)) (wrap64 (t113)) (wrap64 ((wrap64 ((wrap64 (t112))+(wrap64 (t113))))-(wrap64 (t114))))).bind fun t115=>((bits_FromKey.f ((t115)%4294967296)).bind fun t116=>(some t116)))=some r:=H
 have A6:=Aside0.mk A60
 clear A60
 replace H:=Option.bind_eq_some_iff.mp H
 obtain⟨t115,A70,H⟩:=H
 replace H:((bits_FromKey.f ((t115)%4294967296)).bind fun t116=>(some t116))=some r:=H
 have A7:=Aside0.mk A70
 clear A70
 replace H:=Option.bind_eq_some_iff.mp H
 obtain⟨t116,A80,H⟩:=H
 replace H:(some t116)=some r:=H
 have A8:=Aside0.mk A80
 clear A80
 obtain rfl:=Option.some.inj H
 go_enter Tryz.func240,Tryz.ntmps240
 go_wp2_with (first|((with_reducible refine gate_callee (f:=173) rfl ?_);refine goesL_ (some 11) rfl rfl Tryz.func173 (by kernel_rfl) rfl #[.int .u32 a0] rfl (by(try simp only[List.map_toArray,List.map_cons,List.map_nil]);rfl) ?_;(with_reducible refine(bits_Key.calls a0 t112 _ A4.out).mono ?_);rintro e w' ⟨rfl,⟨nd,rfl⟩⟩;refine⟨_,rfl,?_⟩)|((with_reducible refine gate_callee (f:=173) rfl ?_);refine goesL_ (some 14) rfl rfl Tryz.func173 (by kernel_rfl) rfl #[.int .u32 a1] rfl (by(try simp only[List.map_toArray,List.map_cons,List.map_nil]);rfl) ?_;(with_reducible refine(bits_Key.calls a1 t113 _ A5.out).mono ?_);rintro e w' ⟨rfl,⟨nd,rfl⟩⟩;refine⟨_,rfl,?_⟩)|((with_reducible refine gate_callee (f:=173) rfl ?_);refine goesL_ (some 17) rfl rfl Tryz.func173 (by kernel_rfl) rfl #[.int .u32 a2] rfl (by(try simp only[List.map_toArray,List.map_cons,List.map_nil]);rfl) ?_;(with_reducible refine(bits_Key.calls a2 t114 _ A6.out).mono ?_);rintro e w' ⟨rfl,⟨nd,rfl⟩⟩;refine⟨_,rfl,?_⟩)|((with_reducible refine gate_callee (f:=333) rfl ?_);refine goesL_ (some 26) rfl rfl Tryz.func333 (by kernel_rfl) rfl #[.int .i64 (wrap64 (t112)),.int .i64 (wrap64 (t113)),.int .i64 (wrap64 ((wrap64 ((wrap64 (t112))+(wrap64 (t113))))-(wrap64 (t114))))] rfl (by(try simp only[List.map_toArray,List.map_cons,List.map_nil]);rfl) ?_;(with_reducible refine(codec_middle.calls (wrap64 (t112)) (wrap64 (t113)) (wrap64 ((wrap64 ((wrap64 (t112))+(wrap64 (t113))))-(wrap64 (t114)))) t115 _ A7.out).mono ?_);rintro e w9 ⟨rfl,hb⟩;refine⟨_,rfl,?_⟩;have n0_:=Aside0.mk (below_step (by repeat((with_reducible first|exact HB.out|apply pw_below_drewN))) hb);clear HB;have HB:=n0_;clear n0_;(try clear hb))|((with_reducible refine gate_callee (f:=332) rfl ?_);refine goesL_ (some 28) rfl rfl Tryz.func332 (by kernel_rfl) rfl #[.int .u32 ((t115)%4294967296)] rfl (by(try simp only[List.map_toArray,List.map_cons,List.map_nil]);rfl) ?_;(with_reducible refine(bits_FromKey.calls ((t115)%4294967296) t116 _ A8.out).mono ?_);rintro e w' ⟨rfl,⟨nd,rfl⟩⟩;refine⟨_,rfl,?_⟩))
 go_ret
 exact⟨by rfl,by repeat((with_reducible first|exact HB.out|apply pw_below_drewN))⟩
end Go.Proofs.YtgpegjmbofgmmaaGreat.PJop
