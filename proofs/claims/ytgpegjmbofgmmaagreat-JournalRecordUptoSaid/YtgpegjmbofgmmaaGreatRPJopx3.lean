/- A part of the proof. No condition. -/
import Derived.Test.YtgpegjmbofgmmaaGreatRPu
import Derived.Test.YtgpegjmbofgmmaaGreatRPJopx1
import Derived.Test.YtgpegjmbofgmmaaGreatRPJopx2
namespace Go.Proofs.YtgpegjmbofgmmaaGreat.PJop
open Go.RowKit Go.Proofs.YtgpegjmbofgmmaaGreatW.PrintWords Go.Proofs.YtgpegjmbofgmmaaGreatW.PrintLast Go.Proofs.YtgpegjmbofgmmaaGreatW.PrintMore
attribute [local go_sem] max2_int min2_int max_two min_two max_three min_three max_four min_four
set_option linter.unusedVariables false
set_option linter.unusedSimpArgs false
def codec_grid_tiles.f (a0_0:Int) (a0_1:Int) (a0_2:Int) (a0_3:Int) (a0_4:Int):Option (Int):=(codec_grid_across.f a0_0 a0_1 a0_2 a0_3 a0_4).bind fun t134=>(if a0_4=0 then (none) else (some (wrap64 (t134*(wrap64 (Int.tdiv (wrap64 ((wrap64 (a0_3+a0_4))-1)) a0_4))))))
def codec_grid_tiles.T1:Bool×List (List Nat×List Nat):=(true,[([],[]),([0],[0]),([],[]),([2],[2]),([3],[3]),([],[]),([5],[5]),([6],[6]),([4,7],[4,7]),([8],[8]),([],[]),([10],[10]),([11],[11]),([9,12],[9,12]),([1,13],[1,13]),([14,1,0,1,2,3,4,5,6,7,8,9,10,11,12,13,14],[14])])
def codec_grid_tiles.B1:List Nat := [0,1,0,4,12,0,32,96,252,508,0,1024,3072,8188,16383,32767]
theorem codec_grid_tiles.tab1:rtab .any (opsOf Tryz.f116 1)=codec_grid_tiles.T1:=by kernel_rfl
theorem codec_grid_tiles.bits1:waitsOk codec_grid_tiles.T1.2 codec_grid_tiles.B1=true:=by kernel_rfl
set_option maxHeartbeats 8000000 in
set_option maxRecDepth 100000 in
theorem codec_grid_tiles.calls (a0_0:Int) (a0_1:Int) (a0_2:Int) (a0_3:Int) (a0_4:Int) (r:Int) (w:World) (h:codec_grid_tiles.f a0_0 a0_1 a0_2 a0_3 a0_4=some r) :
  Calls Tryz.prog 116 #[.agg #[.int .i64 a0_0,.int .i64 a0_1,.int .i64 a0_2,.int .i64 a0_3,.int .i64 a0_4]] w fun e w'=>e = .returned (.int .i64 r)/\Below w.heap.size w w':=by
 have hu177:=Tryz.underlying177
 have HB:=Aside0.mk (Below.refl w.heap.size w)
 have H:((codec_grid_across.f a0_0 a0_1 a0_2 a0_3 a0_4).bind fun t134=>(if a0_4=0 then (none) else (some (wrap64 (t134*(wrap64 (Int.tdiv (wrap64 ((wrap64 (a0_3+a0_4))-1)) a0_4)))))))=some r:=h
 clear h
 replace H:=Option.bind_eq_some_iff.mp H
 obtain⟨t134,A20,H⟩:=H
 replace H:(if a0_4=0 then (none) else (some (wrap64 (t134*(wrap64 (Int.tdiv (wrap64 ((wrap64 (a0_3+a0_4))-1)) a0_4))))))=some r:=H
 have A2:=Aside0.mk A20
 clear A20
 by_cases c3:a0_4=0
 ·rw[if_pos c3] at H
  exact absurd H (by simp)
 ·rw[if_neg c3] at H
  have c3b0:(a0_4==0)=false:=beq_eq_false_iff_ne.mpr c3
  have c3b1:(a0_4 !=0)=true:=bne_iff_ne.mpr c3
  obtain rfl:=Option.some.inj H
  go_enter Tryz.func116,Tryz.ntmps116
  try go_wp2_with (((with_reducible refine gate_dst (N:=1) rfl ?_);refine box_event ?hg (N:=1) ?hd (cs := #[.int .i64 a0_0,.int .i64 a0_1,.int .i64 a0_2,.int .i64 a0_3,.int .i64 a0_4]) (t:=177) ?hr ?_;(case hd=>rfl);(case hg=>rfl);(case hr=>(go_simp;done));intro gb133 hg w4 hbox hb;have n0_:=Aside0.mk (below_step (by repeat((with_reducible exact HB.out))) hb);have n1_:=Aside0.mk (hbox);have n2_:=Aside0.mk ((by rw[hg];exact(below_size (by repeat((with_reducible exact HB.out)))):w.heap.size<=gb133));have n3_:=Aside0.mk ((by rw[hg];exact(below_size (by repeat((with_reducible exact HB.out)))):w.heap.size<=gb133));clear HB;have HB:=n0_;have BK133:=n1_;have GW133:=n2_;have GE133:=n3_;clear n0_ n1_ n2_ n3_;clear hb hbox hg))
  have n0_:=Aside0.mk (blk_drew BK133.out)
  have n1_:=Aside0.mk (below_drew1 HB.out)
  clear BK133
  clear HB
  have BK133:=n0_
  have HB:=n1_
  clear n0_ n1_
  refine start_ (n:=16) (S:=fun w'=>w'.cell? ⟨gb133,0,none⟩=some (.int .i64 a0_0)/\w'.cell? ⟨gb133,1,none⟩=some (.int .i64 a0_1)/\w'.cell? ⟨gb133,2,none⟩=some (.int .i64 a0_2)/\w'.cell? ⟨gb133,3,none⟩=some (.int .i64 a0_3)/\w'.cell? ⟨gb133,4,none⟩=some (.int .i64 a0_4)) (ds := []) (Array.replicate 16 false) (by kernel_rfl) rfl rfl ⟨(blk_cell BK133.out 0).trans rfl,(blk_cell BK133.out 1).trans rfl,(blk_cell BK133.out 2).trans rfl,(blk_cell BK133.out 3).trans rfl,(blk_cell BK133.out 4).trans rfl⟩ (fun hHeld=>?_);refine with_tabW codec_grid_tiles.tab1 codec_grid_tiles.bits1 (fun HT_ HW_=>?_)
  generalize w4.drew=w5 at BK133 HB hHeld ⊢
  refine pu 2 5 HT_ ?_
  refine pu 3 6 HT_ ?_
  refine pu 5 8 HT_ ?_
  refine pu 6 9 HT_ ?_
  refine pu 10 13 HT_ ?_
  refine pu 11 14 HT_ ?_
  refine tk 0 3 HT_ HW_ hHeld rfl (by rintro w' ⟨s0,s1,s2,s3,s4⟩;go_simp;with_reducible rfl) ?_
  refine tk 4 7 HT_ HW_ hHeld rfl (by rintro w' ⟨s0,s1,s2,s3,s4⟩;go_simp;with_reducible rfl) ?_
  refine tk 7 10 HT_ HW_ hHeld rfl (by rintro w' ⟨s0,s1,s2,s3,s4⟩;go_simp;with_reducible rfl) ?_
  refine pu 8 11 HT_ ?_
  refine pu 9 12 HT_ ?_
  refine tk 12 15 HT_ HW_ hHeld rfl (by rintro w' ⟨s0,s1,s2,s3,s4⟩;go_simp;with_reducible rfl) ?_
  refine pu 13 16 HT_ ?_
  refine one_ (i:=1) (N:=some 4) #[true,true,true,true,true,true,true,true,true,true,true,true,true,true,false,false] rfl rfl (one_of HT_.out (by kernel_rfl)) (by decide) (fun K hK=>?_)
  refine goes_ Tryz.func169 (by kernel_rfl) rfl #[.agg #[.int .i64 a0_0,.int .i64 a0_1,.int .i64 a0_2,.int .i64 a0_3,.int .i64 a0_4]] (by rfl) rfl rfl (by(try simp only[List.map_toArray,List.map_cons,List.map_nil]);rfl) ?_
  with_reducible refine(codec_grid_across.calls a0_0 a0_1 a0_2 a0_3 a0_4 t134 _ A2.out).mono ?_
  rintro e w6 ⟨rfl,hb⟩
  refine⟨_,rfl,?_⟩
  have n0_:=Aside0.mk (blk_below (g:=gb133) (o := .cells #[.int .i64 a0_0,.int .i64 a0_1,.int .i64 a0_2,.int .i64 a0_3,.int .i64 a0_4] 177 (0,0)) (by(with_reducible repeat(fail));exact BK133.out) hb)
  have n1_:=Aside0.mk (below_step (by repeat((with_reducible exact HB.out))) hb)
  clear BK133
  clear HB
  have BK133:=n0_
  have HB:=n1_
  clear n0_ n1_
  (try clear hb)
  refine hK.out _ _ ⟨(blk_cell BK133.out 0).trans rfl,(blk_cell BK133.out 1).trans rfl,(blk_cell BK133.out 2).trans rfl,(blk_cell BK133.out 3).trans rfl,(blk_cell BK133.out 4).trans rfl⟩ (fun hHeld=>?_)
  clear hK K
  refine norm_ (a':=?_) ?_ ?_
  rotate_left
  ·show Act.put _ (some 4) _=_
   simp only[Act.put,List.setIfInBounds_toArray,List.set_cons_zero,List.set_cons_succ,i64_w,i32_w]
   rfl
  refine pu 14 17 HT_ ?_
  refine pu 15 2 HT_ ?_
  refine done_ (done_of HT_.out (by kernel_rfl)) ?_
  try go_wp2
  go_ret
  exact⟨by rfl,by repeat((with_reducible exact HB.out))⟩
def codec_grid_rect.f (a0_0:Int) (a0_1:Int) (a0_2:Int) (a0_3:Int) (a0_4:Int) (a1:Int):Option (Int×Int×Int×Int):=(codec_grid_across.f a0_0 a0_1 a0_2 a0_3 a0_4).bind fun t137=>(if t137=0 then (none) else ((codec_grid_across.f a0_0 a0_1 a0_2 a0_3 a0_4).bind fun t138=>(if t138=0 then (none) else (some (wrap64 ((Int.tmod a1 t137)*a0_4),wrap64 ((wrap64 (Int.tdiv a1 t138))*a0_4),mn (wrap64 ((wrap64 ((Int.tmod a1 t137)*a0_4))+a0_4)) a0_2,mn (wrap64 ((wrap64 ((wrap64 (Int.tdiv a1 t138))*a0_4))+a0_4)) a0_3)))))
def codec_grid_rect.T1:Bool×List (List Nat×List Nat):=(true,[([],[]),([],[]),([1],[1]),([0,2],[0,2]),([],[]),([4],[4]),([5],[5]),([3,6],[3,6]),([],[]),([],[]),([9,2],[9]),([8,10],[8,10]),([],[]),([12],[12]),([13],[13]),([11,14],[11,14]),([7,10,0,1,2,3,4,5,6,7],[7]),([15,16,0,1,2,3,4,5,6,7,8,9,10,11,12,13,14,15,16],[15])])
def codec_grid_rect.B1:List Nat := [0,0,2,7,0,16,48,127,0,0,518,1798,0,4096,12288,32518,1791,131071]
theorem codec_grid_rect.tab1:rtab .any (opsOf Tryz.f118 1)=codec_grid_rect.T1:=by kernel_rfl
theorem codec_grid_rect.bits1:waitsOk codec_grid_rect.T1.2 codec_grid_rect.B1=true:=by kernel_rfl
set_option maxHeartbeats 8000000 in
set_option maxRecDepth 100000 in
theorem codec_grid_rect.calls (a0_0:Int) (a0_1:Int) (a0_2:Int) (a0_3:Int) (a0_4:Int) (a1:Int) (r1:Int) (r2:Int) (r3:Int) (r4:Int) (w:World) (h:codec_grid_rect.f a0_0 a0_1 a0_2 a0_3 a0_4 a1=some (r1,r2,r3,r4)) :
  Calls Tryz.prog 118 #[.agg #[.int .i64 a0_0,.int .i64 a0_1,.int .i64 a0_2,.int .i64 a0_3,.int .i64 a0_4],.int .i64 a1] w fun e w'=>e = .returned (.agg #[.int .i64 r1,.int .i64 r2,.int .i64 r3,.int .i64 r4])/\Below w.heap.size w w':=by
 have hu177:=Tryz.underlying177
 have hu29:=Tryz.underlying29
 have HB:=Aside0.mk (Below.refl w.heap.size w)
 have H:((codec_grid_across.f a0_0 a0_1 a0_2 a0_3 a0_4).bind fun t137=>(if t137=0 then (none) else ((codec_grid_across.f a0_0 a0_1 a0_2 a0_3 a0_4).bind fun t138=>(if t138=0 then (none) else (some (wrap64 ((Int.tmod a1 t137)*a0_4),wrap64 ((wrap64 (Int.tdiv a1 t138))*a0_4),mn (wrap64 ((wrap64 ((Int.tmod a1 t137)*a0_4))+a0_4)) a0_2,mn (wrap64 ((wrap64 ((wrap64 (Int.tdiv a1 t138))*a0_4))+a0_4)) a0_3))))))=some (r1,r2,r3,r4):=h
 clear h
 replace H:=Option.bind_eq_some_iff.mp H
 obtain⟨t137,A30,H⟩:=H
 replace H:(if t137=0 then (none) else ((codec_grid_across.f a0_0 a0_1 a0_2 a0_3 a0_4).bind fun t138=>(if t138=0 then (none) else (some (wrap64 ((Int.tmod a1 t137)*a0_4),wrap64 ((wrap64 (Int.tdiv a1 t138))*a0_4),mn (wrap64 ((wrap64 ((Int.tmod a1 t137)*a0_4))+a0_4)) a0_2,mn (wrap64 ((wrap64 ((wrap64 (Int.tdiv a1 t138))*a0_4))+a0_4)) a0_3)))))=some (r1,r2,r3,r4):=H
 have A3:=Aside0.mk A30
 clear A30
 by_cases c4:t137=0
 ·rw[if_pos c4] at H
  exact absurd H (by simp)
 ·rw[if_neg c4] at H
  have c4b0:(t137==0)=false:=beq_eq_false_iff_ne.mpr c4
  have c4b1:(t137 !=0)=true:=bne_iff_ne.mpr c4
  replace H:=Option.bind_eq_some_iff.mp H
  obtain⟨t138,A50,H⟩:=H
  replace H:(if t138=0 then (none) else (some (wrap64 ((Int.tmod a1 t137)*a0_4),wrap64 ((wrap64 (Int.tdiv a1 t138))*a0_4),mn (wrap64 ((wrap64 ((Int.tmod a1 t137)*a0_4))+a0_4)) a0_2,mn (wrap64 ((wrap64 ((wrap64 (Int.tdiv a1 t138))*a0_4))+a0_4)) a0_3)))=some (r1,r2,r3,r4):=H
  have A5:=Aside0.mk A50
  clear A50
  by_cases c6:t138=0
  ·rw[if_pos c6] at H
   exact absurd H (by simp)
  ·rw[if_neg c6] at H
   have c6b0:(t138==0)=false:=beq_eq_false_iff_ne.mpr c6
   have c6b1:(t138 !=0)=true:=bne_iff_ne.mpr c6
   obtain⟨ji7,hji7⟩ : ∃j_:Int,(mn (wrap64 ((wrap64 ((Int.tmod a1 t137)*a0_4))+a0_4)) a0_2)=j_:=⟨_,rfl⟩
   replace H:(some (wrap64 ((Int.tmod a1 t137)*a0_4),wrap64 ((wrap64 (Int.tdiv a1 t138))*a0_4),ji7,mn (wrap64 ((wrap64 ((wrap64 (Int.tdiv a1 t138))*a0_4))+a0_4)) a0_3))=some (r1,r2,r3,r4):=by(rw[hji7] at H;exact H)
   have hji7_:(if a0_2<(wrap64 ((wrap64 ((Int.tmod a1 t137)*a0_4))+a0_4)) then a0_2 else (wrap64 ((wrap64 ((Int.tmod a1 t137)*a0_4))+a0_4)))=ji7:=hji7
   obtain⟨ji8,hji8⟩ : ∃j_:Int,(mn (wrap64 ((wrap64 ((wrap64 (Int.tdiv a1 t138))*a0_4))+a0_4)) a0_3)=j_:=⟨_,rfl⟩
   replace H:(some (wrap64 ((Int.tmod a1 t137)*a0_4),wrap64 ((wrap64 (Int.tdiv a1 t138))*a0_4),ji7,ji8))=some (r1,r2,r3,r4):=by(rw[hji8] at H;exact H)
   have hji8_:(if a0_3<(wrap64 ((wrap64 ((wrap64 (Int.tdiv a1 t138))*a0_4))+a0_4)) then a0_3 else (wrap64 ((wrap64 ((wrap64 (Int.tdiv a1 t138))*a0_4))+a0_4)))=ji8:=hji8
   simp only[Option.some.injEq,Prod.mk.injEq] at H
   obtain⟨rfl,rfl,rfl,rfl⟩:=H
   go_enter Tryz.func118,Tryz.ntmps118
   try go_wp2_with (first|((with_reducible refine gate_dst (N:=2) rfl ?_);refine box_event ?hg (N:=2) ?hd (cs := #[.int .i64 a0_0,.int .i64 a0_1,.int .i64 a0_2,.int .i64 a0_3,.int .i64 a0_4]) (t:=177) ?hr ?_;(case hd=>rfl);(case hg=>rfl);(case hr=>(go_simp;done));intro gb135 hg w9 hbox hb;have n0_:=Aside0.mk (below_step (by repeat((with_reducible exact HB.out))) hb);have n1_:=Aside0.mk (hbox);have n2_:=Aside0.mk ((by rw[hg];exact(below_size (by repeat((with_reducible exact HB.out)))):w.heap.size<=gb135));have n3_:=Aside0.mk ((by rw[hg];exact(below_size (by repeat((with_reducible exact HB.out)))):w.heap.size<=gb135));clear HB;have HB:=n0_;have BK135:=n1_;have GW135:=n2_;have GE135:=n3_;clear n0_ n1_ n2_ n3_;clear hb hbox hg)|((with_reducible refine gate_dst (N:=4) rfl ?_);refine box_event ?hg (N:=4) ?hd (cs := #[.int .i64 0,.int .i64 0,.int .i64 0,.int .i64 0]) (t:=29) ?hr ?_;(case hd=>rfl);(case hg=>rfl);(case hr=>(go_simp;done));intro gb136 hg w10 hbox hb;have n0_:=Aside0.mk (blk_below (g:=gb135) (o := .cells #[.int .i64 a0_0,.int .i64 a0_1,.int .i64 a0_2,.int .i64 a0_3,.int .i64 a0_4] 177 (0,0)) (by(with_reducible repeat(fail));exact BK135.out) hb);have n1_:=Aside0.mk (below_step (by repeat((with_reducible exact HB.out))) hb);have n2_:=Aside0.mk (hbox);have n3_:=Aside0.mk ((by rw[hg];exact(below_size (by repeat((with_reducible exact HB.out)))):w.heap.size<=gb136));have n4_:=Aside0.mk ((by rw[hg];exact(below_size (by repeat((with_reducible exact HB.out)))):w.heap.size<=gb136));have n5_:=Aside0.mk ((by rw[hg];exact Nat.ne_of_lt (blk_lt (g:=gb135) (o := .cells #[.int .i64 a0_0,.int .i64 a0_1,.int .i64 a0_2,.int .i64 a0_3,.int .i64 a0_4] 177 (0,0)) (by(with_reducible repeat(fail));exact BK135.out)):gb135≠gb136));have n6_:=Aside0.mk ((by rw[hg];exact Nat.ne_of_gt (blk_lt (g:=gb135) (o := .cells #[.int .i64 a0_0,.int .i64 a0_1,.int .i64 a0_2,.int .i64 a0_3,.int .i64 a0_4] 177 (0,0)) (by(with_reducible repeat(fail));exact BK135.out)):gb136≠gb135));clear BK135;clear HB;have BK135:=n0_;have HB:=n1_;have BK136:=n2_;have GW136:=n3_;have GE136:=n4_;have NB135_136:=n5_;have NB136_135:=n6_;clear n0_ n1_ n2_ n3_ n4_ n5_ n6_;clear hb hbox hg))
   have n0_:=Aside0.mk (blk_drew BK135.out)
   have n1_:=Aside0.mk (blk_drew BK136.out)
   have n2_:=Aside0.mk (below_drew1 HB.out)
   clear BK135
   clear BK136
   clear HB
   have BK135:=n0_
   have BK136:=n1_
   have HB:=n2_
   clear n0_ n1_ n2_
   refine start_ (n:=18) (S:=fun w'=>w'.cell? ⟨gb135,0,none⟩=some (.int .i64 a0_0)/\w'.cell? ⟨gb135,1,none⟩=some (.int .i64 a0_1)/\w'.cell? ⟨gb135,2,none⟩=some (.int .i64 a0_2)/\w'.cell? ⟨gb135,3,none⟩=some (.int .i64 a0_3)/\w'.cell? ⟨gb135,4,none⟩=some (.int .i64 a0_4)) (ds := []) (Array.replicate 18 false) (by kernel_rfl) rfl rfl ⟨(blk_cell BK135.out 0).trans rfl,(blk_cell BK135.out 1).trans rfl,(blk_cell BK135.out 2).trans rfl,(blk_cell BK135.out 3).trans rfl,(blk_cell BK135.out 4).trans rfl⟩ (fun hHeld=>?_);refine with_tabW codec_grid_rect.tab1 codec_grid_rect.bits1 (fun HT_ HW_=>?_)
   generalize w10.drew=w11 at BK135 BK136 HB hHeld ⊢
   refine pu 0 7 HT_ ?_
   refine pu 4 11 HT_ ?_
   refine pu 5 12 HT_ ?_
   refine pu 8 15 HT_ ?_
   refine pu 12 19 HT_ ?_
   refine pu 13 20 HT_ ?_
   refine tk 1 8 HT_ HW_ hHeld rfl (by rintro w' ⟨s0,s1,s2,s3,s4⟩;go_simp;with_reducible rfl) ?_
   refine tk 6 13 HT_ HW_ hHeld rfl (by rintro w' ⟨s0,s1,s2,s3,s4⟩;go_simp;with_reducible rfl) ?_
   refine tk 9 16 HT_ HW_ hHeld rfl (by rintro w' ⟨s0,s1,s2,s3,s4⟩;go_simp;with_reducible rfl) ?_
   refine tk 14 21 HT_ HW_ hHeld rfl (by rintro w' ⟨s0,s1,s2,s3,s4⟩;go_simp;with_reducible rfl) ?_
   refine one_ (i:=2) (N:=some 9) #[true,true,true,false,true,true,true,false,true,true,false,false,true,true,true,false,false,false] rfl rfl (one_of HT_.out (by kernel_rfl)) (by decide) (fun K hK=>?_)
   refine goes_ Tryz.func169 (by kernel_rfl) rfl #[.agg #[.int .i64 a0_0,.int .i64 a0_1,.int .i64 a0_2,.int .i64 a0_3,.int .i64 a0_4]] (by rfl) rfl rfl (by(try simp only[List.map_toArray,List.map_cons,List.map_nil]);rfl) ?_
   with_reducible refine(codec_grid_across.calls a0_0 a0_1 a0_2 a0_3 a0_4 t137 _ A3.out).mono ?_
   rintro e w12 ⟨rfl,hb⟩
   refine⟨_,rfl,?_⟩
   have n0_:=Aside0.mk (blk_below (g:=gb135) (o := .cells #[.int .i64 a0_0,.int .i64 a0_1,.int .i64 a0_2,.int .i64 a0_3,.int .i64 a0_4] 177 (0,0)) (by(with_reducible repeat(fail));exact BK135.out) hb)
   have n1_:=Aside0.mk (blk_below (g:=gb136) (o := .cells #[.int .i64 0,.int .i64 0,.int .i64 0,.int .i64 0] 29 (0,0)) (by(with_reducible repeat(fail));exact BK136.out) hb)
   have n2_:=Aside0.mk (below_step (by repeat((with_reducible exact HB.out))) hb)
   clear BK135
   clear BK136
   clear HB
   have BK135:=n0_
   have BK136:=n1_
   have HB:=n2_
   clear n0_ n1_ n2_
   (try clear hb)
   refine hK.out _ _ ⟨(blk_cell BK135.out 0).trans rfl,(blk_cell BK135.out 1).trans rfl,(blk_cell BK135.out 2).trans rfl,(blk_cell BK135.out 3).trans rfl,(blk_cell BK135.out 4).trans rfl⟩ (fun hHeld=>?_)
   clear hK K
   refine norm_ (a':=?_) ?_ ?_
   rotate_left
   ·show Act.put _ (some 9) _=_
    simp only[Act.put,List.setIfInBounds_toArray,List.set_cons_zero,List.set_cons_succ,i64_w,i32_w]
    rfl
   refine pu 3 10 HT_ ?_
   refine pu 7 14 HT_ ?_
   refine one_ (i:=10) (N:=some 17) #[true,true,true,true,true,true,true,true,true,true,true,false,true,true,true,false,false,false] rfl rfl (one_of HT_.out (by kernel_rfl)) (by decide) (fun K hK=>?_)
   refine goes_ Tryz.func169 (by kernel_rfl) rfl #[.agg #[.int .i64 a0_0,.int .i64 a0_1,.int .i64 a0_2,.int .i64 a0_3,.int .i64 a0_4]] (by rfl) rfl rfl (by(try simp only[List.map_toArray,List.map_cons,List.map_nil]);rfl) ?_
   with_reducible refine(codec_grid_across.calls a0_0 a0_1 a0_2 a0_3 a0_4 t138 _ A5.out).mono ?_
   rintro e w13 ⟨rfl,hb⟩
   refine⟨_,rfl,?_⟩
   have n0_:=Aside0.mk (blk_below (g:=gb135) (o := .cells #[.int .i64 a0_0,.int .i64 a0_1,.int .i64 a0_2,.int .i64 a0_3,.int .i64 a0_4] 177 (0,0)) (by(with_reducible repeat(fail));exact BK135.out) hb)
   have n1_:=Aside0.mk (blk_below (g:=gb136) (o := .cells #[.int .i64 0,.int .i64 0,.int .i64 0,.int .i64 0] 29 (0,0)) (by(with_reducible repeat(fail));exact BK136.out) hb)
   have n2_:=Aside0.mk (below_step (by repeat((with_reducible exact HB.out))) hb)
   clear BK135
   clear BK136
   clear HB
   have BK135:=n0_
   have BK136:=n1_
   have HB:=n2_
   clear n0_ n1_ n2_
   (try clear hb)
   refine hK.out _ _ ⟨(blk_cell BK135.out 0).trans rfl,(blk_cell BK135.out 1).trans rfl,(blk_cell BK135.out 2).trans rfl,(blk_cell BK135.out 3).trans rfl,(blk_cell BK135.out 4).trans rfl⟩ (fun hHeld=>?_)
   clear hK K
   refine norm_ (a':=?_) ?_ ?_
   rotate_left
   ·show Act.put _ (some 17) _=_
    simp only[Act.put,List.setIfInBounds_toArray,List.set_cons_zero,List.set_cons_succ,i64_w,i32_w]
    rfl
   refine pu 11 18 HT_ ?_
   refine pu 15 22 HT_ ?_
   refine pu 16 5 HT_ ?_
   refine pu 17 6 HT_ ?_
   refine done_ (done_of HT_.out (by kernel_rfl)) ?_
   have hnb14:=NB135_136.out
   have hnc14:=NB136_135.out
   have hcz15_0:w13.cell? ⟨gb135,0,none⟩=some (.int .i64 a0_0):=(blk_cell BK135.out 0).trans rfl
   have hcz15_1:w13.cell? ⟨gb135,1,none⟩=some (.int .i64 a0_1):=(blk_cell BK135.out 1).trans rfl
   have hcz15_2:w13.cell? ⟨gb135,2,none⟩=some (.int .i64 a0_2):=(blk_cell BK135.out 2).trans rfl
   have hcz15_3:w13.cell? ⟨gb135,3,none⟩=some (.int .i64 a0_3):=(blk_cell BK135.out 3).trans rfl
   have hcz15_4:w13.cell? ⟨gb135,4,none⟩=some (.int .i64 a0_4):=(blk_cell BK135.out 4).trans rfl
   have hfz15_0:=blk_frozen BK135.out 0
   have hfz15_1:=blk_frozen BK135.out 1
   have hfz15_2:=blk_frozen BK135.out 2
   have hfz15_3:=blk_frozen BK135.out 3
   have hfz15_4:=blk_frozen BK135.out 4
   have hcz16_0:w13.cell? ⟨gb136,0,none⟩=some (.int .i64 0):=(blk_cell BK136.out 0).trans rfl
   have hcz16_1:w13.cell? ⟨gb136,1,none⟩=some (.int .i64 0):=(blk_cell BK136.out 1).trans rfl
   have hcz16_2:w13.cell? ⟨gb136,2,none⟩=some (.int .i64 0):=(blk_cell BK136.out 2).trans rfl
   have hcz16_3:w13.cell? ⟨gb136,3,none⟩=some (.int .i64 0):=(blk_cell BK136.out 3).trans rfl
   have hfz16_0:=blk_frozen BK136.out 0
   have hfz16_1:=blk_frozen BK136.out 1
   have hfz16_2:=blk_frozen BK136.out 2
   have hfz16_3:=blk_frozen BK136.out 3
   try go_wp2
   refine bodyPost_ret (results_cell_row rfl _ _ gb136 29 #[.int .i64 (wrap64 ((Int.tmod a1 t137)*a0_4)),.int .i64 (wrap64 ((wrap64 (Int.tdiv a1 t138))*a0_4)),.int .i64 ji7,.int .i64 ji8] (0,0) _ rfl (by(with_reducible repeat(fail));refine blk_put (cs := #[.int .i64 (wrap64 ((Int.tmod a1 t137)*a0_4)),.int .i64 (wrap64 ((wrap64 (Int.tdiv a1 t138))*a0_4)),.int .i64 ji7,.int .i64 0]) ?_ 3 _ rfl;(with_reducible repeat(fail));refine blk_put (cs := #[.int .i64 (wrap64 ((Int.tmod a1 t137)*a0_4)),.int .i64 (wrap64 ((wrap64 (Int.tdiv a1 t138))*a0_4)),.int .i64 0,.int .i64 0]) ?_ 2 _ rfl;(with_reducible repeat(fail));refine blk_put (cs := #[.int .i64 (wrap64 ((Int.tmod a1 t137)*a0_4)),.int .i64 0,.int .i64 0,.int .i64 0]) ?_ 1 _ rfl;(with_reducible repeat(fail));refine blk_put (cs := #[.int .i64 0,.int .i64 0,.int .i64 0,.int .i64 0]) ?_ 0 _ rfl;(with_reducible repeat(fail));exact BK136.out) Tryz.underlying29 rfl (by kernel_rfl)) rfl ?_
   exact⟨by rfl,by repeat((with_reducible first|exact HB.out|refine below_set ?_ GE136.out))⟩
def coder_begins.f:Option (Int×Int):=some (16,1)
set_option maxHeartbeats 8000000 in
set_option maxRecDepth 100000 in
theorem coder_begins.calls (r1:Int) (r2:Int) (w:World) (h:coder_begins.f=some (r1,r2)) :
  Calls Tryz.prog 241 #[] w fun e w'=>e = .returned (.agg #[.int .u64 r1,.int .u64 r2])/\Below w.heap.size w w':=by
 have hu283:=Tryz.underlying283
 have HB:=Aside0.mk (Below.refl w.heap.size w)
 have H:(some (16,1))=some (r1,r2):=h
 clear h
 simp only[Option.some.injEq,Prod.mk.injEq] at H
 obtain⟨rfl,rfl⟩:=H
 go_enter Tryz.func241,Tryz.ntmps241
 go_wp2_with (((with_reducible refine gate_dst (N:=0) rfl ?_);refine box_event ?hg (N:=0) ?hd (cs := #[.int .u64 0,.int .u64 0]) (t:=283) ?hr ?_;(case hd=>rfl);(case hg=>rfl);(case hr=>(go_simp;done));intro gb139 hg w1 hbox hb;have n0_:=Aside0.mk (below_step (by repeat((with_reducible exact HB.out))) hb);have n1_:=Aside0.mk (hbox);have n2_:=Aside0.mk ((by rw[hg];exact(below_size (by repeat((with_reducible exact HB.out)))):w.heap.size<=gb139));have n3_:=Aside0.mk ((by rw[hg];exact(below_size (by repeat((with_reducible exact HB.out)))):w.heap.size<=gb139));clear HB;have HB:=n0_;have BK139:=n1_;have GW139:=n2_;have GE139:=n3_;clear n0_ n1_ n2_ n3_;clear hb hbox hg;have hcz2_0:w1.cell? ⟨gb139,0,none⟩=some (.int .u64 0):=(blk_cell BK139.out 0).trans rfl;have hcz2_1:w1.cell? ⟨gb139,1,none⟩=some (.int .u64 0):=(blk_cell BK139.out 1).trans rfl;have hfz2_0:=blk_frozen BK139.out 0;have hfz2_1:=blk_frozen BK139.out 1))
 refine bodyPost_ret (results_cell_row rfl _ _ gb139 283 #[.int .u64 16,.int .u64 1] (0,0) _ rfl (by(with_reducible repeat(fail));refine blk_put (cs := #[.int .u64 16,.int .u64 0]) ?_ 1 _ rfl;(with_reducible repeat(fail));refine blk_put (cs := #[.int .u64 0,.int .u64 0]) ?_ 0 _ rfl;(with_reducible repeat(fail));exact BK139.out) Tryz.underlying283 rfl (by kernel_rfl)) rfl ?_
 exact⟨by rfl,by repeat((with_reducible first|exact HB.out|refine below_set ?_ GE139.out))⟩
def coder_Fold.f (a0:Int):Option (Int):=some (Go.bits .xor .u32 ((a0*2)%4294967296) (((wrap32 (a0))/2147483648)%4294967296))
set_option maxHeartbeats 8000000 in
set_option maxRecDepth 100000 in
theorem coder_Fold.calls (a0:Int) (r:Int) (w:World) (h:coder_Fold.f a0=some r) :
  Calls Tryz.prog 243 #[.int .u32 a0] w fun e w'=>e = .returned (.int .u32 r)/\Drawn0 w w':=by
 have H:(some (Go.bits .xor .u32 ((a0*2)%4294967296) (((wrap32 (a0))/2147483648)%4294967296)))=some r:=h
 clear h
 obtain rfl:=Option.some.inj H
 go_enter Tryz.func243,Tryz.ntmps243
 go_wp2
 go_ret
 exact⟨by rfl,by repeat(exact Drawn0.refl _)⟩
end Go.Proofs.YtgpegjmbofgmmaaGreat.PJop
