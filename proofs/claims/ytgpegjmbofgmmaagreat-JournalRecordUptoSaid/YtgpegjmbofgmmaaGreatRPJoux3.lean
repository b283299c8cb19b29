/- A part of the proof. No condition. -/
import Derived.Test.YtgpegjmbofgmmaaGreatRPu
import Derived.Test.YtgpegjmbofgmmaaGreatRPJoux1
import Derived.Test.YtgpegjmbofgmmaaGreatRPJoux2
namespace Go.Proofs.YtgpegjmbofgmmaaGreat.PJou
open Go.RowKit Go.Proofs.YtgpegjmbofgmmaaGreat.PJop Go.Proofs.YtgpegjmbofgmmaaGreatW.PrintWords Go.Proofs.YtgpegjmbofgmmaaGreatW.PrintLast Go.Proofs.YtgpegjmbofgmmaaGreatW.PrintMore
attribute [local go_sem] max2_int min2_int max_two min_two max_three min_three max_four min_four
set_option linter.unusedVariables false
set_option linter.unusedSimpArgs false
def halideref18_Rests.l0:Nat->List Int->Int->Int->Int->List Int->Option (List Int×Int)
 | 0,_,_,_,_,_=>none
 | k+1,x5,x6,x122000,x122001,x122002=>if x6<(x122002.length:Int) then (if 0<=x6 then ((halideref7_Key.f (rd x122002 x6)).bind fun t124=>((halideref18_guess.f x122000 x122002 x6).bind fun t125=>((halideref7_Key.f t125).bind fun t126=>(if x5.length<35184372088832 then (halideref18_Rests.l0 k (x5 ++ [(t124-t126)%4294967296]) (wrap64 (x6+1)) x122000 x122001 x122002) else (none))))) else (none)) else (some (x5,0))
def halideref18_Rests.f (k:Nat) (a0_0:Int) (a0_1:Int) (l0_2:List Int):Option (List Int×Int):=(halideref5_Check.f a0_0 a0_1 l0_2).bind fun t122=>(if t122=0 then (halideref18_Rests.l0 k ([]:List Int) 0 a0_0 a0_1 l0_2) else (some (([]:List Int),t122)))
def halideref18_Rests.T8:Bool×List (List Nat×List Nat):=(true,[([],[]),([],[]),([1],[1]),([],[]),([2,3],[2,3]),([4],[4]),([5],[5]),([],[]),([7],[7]),([],[]),([9],[9]),([],[]),([8,10,11,6],[8,10,11]),([12,12],[12]),([6,13],[6,13]),([14],[14]),([0,15,13],[0,15]),([16,16,0,1,2,3,4,5,6,7,8,9,10,11,12,13,14,15,16],[0,16])])
def halideref18_Rests.B8:List Nat := [0,0,2,0,14,30,62,0,128,0,512,0,4094,8190,16382,32766,65535,131071]
theorem halideref18_Rests.tab8:rtab .any (opsOf Tryz.f108 8)=halideref18_Rests.T8:=by kernel_rfl
theorem halideref18_Rests.bits8:waitsOk halideref18_Rests.T8.2 halideref18_Rests.B8=true:=by kernel_rfl
set_option maxHeartbeats 8000000 in
set_option maxRecDepth 100000 in
theorem halideref18_Rests.calls (k:Nat) (a0_0:Int) (a0_1:Int) (A0_2:Option Addr) (c0_2:Nat) (l0_2:List Int) (r1:List Int) (r2:Int) (w:World) (hr0_2:Kd.C (Kd.int .u32) w A0_2 l0_2.length l0_2) (hc0_2:l0_2.length<=c0_2) (h:halideref18_Rests.f k a0_0 a0_1 l0_2=some (r1,r2)) :
  Calls Tryz.prog 108 #[.agg #[.int .i64 a0_0,.int .i64 a0_1,.slice A0_2 l0_2.length c0_2]] w fun e w' => ∃v0_:Value,e = .returned (.tuple #[v0_,.int .i64 r2])/\Kd.R (Kd.int .u32) 56 w' w.heap.size (fun _=>True) v0_ r1/\Below w.heap.size w w':=by
 have hu58:=Tryz.underlying58
 have HR0_2:=Aside0.mk hr0_2
 have HC0_2:=Aside0.mk hc0_2
 clear hr0_2 hc0_2
 have HB:=Aside0.mk (Below.refl w.heap.size w)
 have H:((halideref5_Check.f a0_0 a0_1 l0_2).bind fun t122=>(if t122=0 then (halideref18_Rests.l0 k ([]:List Int) 0 a0_0 a0_1 l0_2) else (some (([]:List Int),t122))))=some (r1,r2):=h
 clear h
 replace H:=Option.bind_eq_some_iff.mp H
 obtain⟨t122,A20,H⟩:=H
 replace H:(if t122=0 then (halideref18_Rests.l0 k ([]:List Int) 0 a0_0 a0_1 l0_2) else (some (([]:List Int),t122)))=some (r1,r2):=H
 have A2:=Aside0.mk A20
 clear A20
 by_cases c3:t122=0
 ·rw[if_pos c3] at H
  have c3b0:(t122==0)=true:=beq_iff_eq.mpr c3
  have c3b1:(t122 !=0)=false:=bne_eq_false_iff_eq.mpr c3
  clear c3
  have H':=Aside0.mk H
  clear H
  go_enter Tryz.func108,Tryz.ntmps108
  go_wp2_with (first|((with_reducible refine gate_dst (N:=1) rfl ?_);refine box_event ?hg (N:=1) ?hd (cs := #[.int .i64 a0_0,.int .i64 a0_1,.slice A0_2 l0_2.length c0_2]) (t:=58) ?hr ?_;(case hd=>rfl);(case hg=>rfl);(case hr=>(go_simp;done));intro gb121 hg w4 hbox hb;have n0_:=Aside0.mk (below_step (by repeat((with_reducible exact HB.out))) hb);have n1_:=Aside0.mk (hbox);have n2_:=Aside0.mk ((by rw[hg];exact(below_size (by repeat((with_reducible exact HB.out)))):w.heap.size<=gb121));have n3_:=Aside0.mk ((by rw[hg];exact(below_size (by repeat((with_reducible exact HB.out)))):w.heap.size<=gb121));clear HB;have HB:=n0_;have BK121:=n1_;have GW121:=n2_;have GE121:=n3_;clear n0_ n1_ n2_ n3_;clear hb hbox hg;have hcz5_0:w4.cell? ⟨gb121,0,none⟩=some (.int .i64 a0_0):=(blk_cell BK121.out 0).trans rfl;have hcz5_1:w4.cell? ⟨gb121,1,none⟩=some (.int .i64 a0_1):=(blk_cell BK121.out 1).trans rfl;have hcz5_2:w4.cell? ⟨gb121,2,none⟩=some (.slice A0_2 l0_2.length c0_2):=(blk_cell BK121.out 2).trans rfl;have hfz5_0:=blk_frozen BK121.out 0;have hfz5_1:=blk_frozen BK121.out 1;have hfz5_2:=blk_frozen BK121.out 2)|((with_reducible refine gate_callee (f:=62) rfl ?_);refine goesL_ (some 8) rfl rfl Tryz.func62 (by kernel_rfl) rfl #[.agg #[.int .i64 a0_0,.int .i64 a0_1,.slice A0_2 l0_2.length c0_2]] rfl (by(try simp only[List.map_toArray,List.map_cons,List.map_nil]);rfl) ?_;(with_reducible refine(halideref5_Check.calls a0_0 a0_1 _ _ l0_2 t122 _ ?side1 ?side2 A2.out).mono ?_);(case side1=>repeat((exact(Kd.C_below HR0_2.out HB.out))));(case side2=>exact HC0_2.out);rintro e w6 ⟨rfl,hb⟩;refine⟨_,rfl,?_⟩;have n0_:=Aside0.mk (blk_below (g:=gb121) (o := .cells #[.int .i64 a0_0,.int .i64 a0_1,.slice A0_2 l0_2.length c0_2] 58 (0,0)) (by(with_reducible repeat(fail));exact BK121.out) hb);have n1_:=Aside0.mk (below_step (by repeat((with_reducible exact HB.out))) hb);clear BK121;clear HB;have BK121:=n0_;have HB:=n1_;clear n0_ n1_;(try clear hb)))
  go_loopg [5,6] k (fun kq v5 v6 w' => ∃(x5_1:List Int) (x6_1:Int),v6 = .int .i64 x6_1/\Aside0 (halideref18_Rests.l0 kq x5_1 x6_1 a0_0 a0_1 l0_2=some (r1,r2))/\Aside0 (kq<=k)/\Aside0 (Kd.R (Kd.int .u32) 56 w' w.heap.size (fun _=>True) v5 x5_1)/\Aside0 (w'.heap[gb121]?=some (.cells #[.int .i64 a0_0,.int .i64 a0_1,(.slice A0_2 l0_2.length c0_2)] 58 (0,0)))/\Aside0 (Below w.heap.size w w'))
  case atStart=>exact⟨(([]:List Int)),(0),(by rfl),H',⟨Nat.le_refl _⟩,⟨by exact Kd.R_nil _ _ _ _ _⟩,⟨by(with_reducible repeat(fail));exact BK121.out⟩,⟨by repeat((with_reducible exact HB.out))⟩⟩
  case round =>
   clear H'
   (try clear c3b0)
   (try clear c3b1)
   (try clear hcz5_0)
   (try clear hcz5_1)
   (try clear hcz5_2)
   (try clear hfz5_0)
   (try clear hfz5_1)
   (try clear hfz5_2)
   obtain⟨x5_1,x6_1,rfl,HA,HK1,HO_5,BK121,HB⟩:=hrel
   cases gk with
   | zero=>exact absurd HA.out (by simp[halideref18_Rests.l0])
   | succ k1 =>
    have H:=HA.out
    clear HA
    simp only[halideref18_Rests.l0] at H
    by_cases c7:x6_1<(l0_2.length:Int)
    ·rw[if_pos c7] at H
     have c7b0:decide (x6_1<(l0_2.length:Int))=true:=decide_eq_true c7
     clear c7
     by_cases c8:0<=x6_1
     ·rw[if_pos c8] at H
      have c8b0:decide (0<=x6_1)=true:=decide_eq_true c8
      clear c8
      replace H:=Option.bind_eq_some_iff.mp H
      obtain⟨t124,A90,H⟩:=H
      replace H:((halideref18_guess.f a0_0 l0_2 x6_1).bind fun t125=>((halideref7_Key.f t125).bind fun t126=>(if x5_1.length<35184372088832 then (halideref18_Rests.l0 k1 (x5_1 ++ [(t124-t126)%4294967296]) (wrap64 (x6_1+1)) a0_0 a0_1 l0_2) else (none))))=some (r1,r2):=H
      have A9:=Aside0.mk A90
      clear A90
      replace H:=Option.bind_eq_some_iff.mp H
      obtain⟨t125,A100,H⟩:=H
      replace H:((halideref7_Key.f t125).bind fun t126=>(if x5_1.length<35184372088832 then (halideref18_Rests.l0 k1 (x5_1 ++ [(t124-t126)%4294967296]) (wrap64 (x6_1+1)) a0_0 a0_1 l0_2) else (none)))=some (r1,r2):=H
      have A10:=Aside0.mk A100
      clear A100
      replace H:=Option.bind_eq_some_iff.mp H
      obtain⟨t126,A110,H⟩:=H
      replace H:(if x5_1.length<35184372088832 then (halideref18_Rests.l0 k1 (x5_1 ++ [(t124-t126)%4294967296]) (wrap64 (x6_1+1)) a0_0 a0_1 l0_2) else (none))=some (r1,r2):=H
      have A11:=Aside0.mk A110
      clear A110
      by_cases c12:x5_1.length<35184372088832
      ·rw[if_pos c12] at H
       have LMc12:=Aside0.mk c12
       clear c12
       obtain⟨y127,hy127⟩ : ∃y_:List Int,y_=(x5_1 ++ [(t124-t126)%4294967296]):=⟨_,rfl⟩
       replace H:(halideref18_Rests.l0 k1 y127 (wrap64 (x6_1+1)) a0_0 a0_1 l0_2)=some (r1,r2):=by(rw[hy127];with_reducible exact H)
       have Ny127:=Aside0.mk hy127
       clear hy127
       have H':=Aside0.mk H
       clear H
       have hcz13_0:wr.cell? ⟨gb121,0,none⟩=some (.int .i64 a0_0):=(blk_cell BK121.out 0).trans rfl
       have hcz13_1:wr.cell? ⟨gb121,1,none⟩=some (.int .i64 a0_1):=(blk_cell BK121.out 1).trans rfl
       have hcz13_2:wr.cell? ⟨gb121,2,none⟩=some (.slice A0_2 l0_2.length c0_2):=(blk_cell BK121.out 2).trans rfl
       have hfz13_0:=blk_frozen BK121.out 0
       have hfz13_1:=blk_frozen BK121.out 1
       have hfz13_2:=blk_frozen BK121.out 2
       try go_wp2
       have n0_:=Aside0.mk (Kd.R_drew HO_5.out)
       have n1_:=Aside0.mk (blk_drew BK121.out)
       have n2_:=Aside0.mk (below_drew1 HB.out)
       clear HO_5
       clear BK121
       clear HB
       have HO_5:=n0_
       have BK121:=n1_
       have HB:=n2_
       clear n0_ n1_ n2_
       have p123:0<=(x6_1:Int):=of_decide_eq_true (by(with_reducible assumption))
       have q123:x6_1<(l0_2.length:Int):=of_decide_eq_true (by(with_reducible assumption))
       obtain⟨ad123,e123,hx123_0⟩:=Kd.at_int HR0_2.out x6_1 p123 q123
       have hw123_0:=hx123_0
       cases e123
       replace hx123_0:=(HB.out.cell (World.block_lt_of_cell? w _ hx123_0)).trans hx123_0
       replace p123:=eq_true p123
       replace q123:=eq_true q123
       refine start_ (n:=18) (S:=fun w'=>w'.cell? ⟨gb121,0,none⟩=some (.int .i64 a0_0)/\w'.cell? ⟨gb121,1,none⟩=some (.int .i64 a0_1)/\w'.cell? ⟨gb121,2,none⟩=some (.slice (some ad123) l0_2.length c0_2)/\w'.cell? (ad123.add (x6_1).toNat)=some (.int .u32 (rd l0_2 x6_1))) (ds := []) (Array.replicate 18 false) (by kernel_rfl) rfl rfl ⟨(blk_cell BK121.out 0).trans rfl,(blk_cell BK121.out 1).trans rfl,(blk_cell BK121.out 2).trans rfl,((HB.out.cell (World.block_lt_of_cell? w _ hw123_0)).trans hw123_0)⟩ (fun hHeld=>?_);refine with_tabW halideref18_Rests.tab8 halideref18_Rests.bits8 (fun HT_ HW_=>?_)
       generalize wr.drew=w14 at HO_5 BK121 HB hx123_0 hHeld ⊢
       refine pu 0 19 HT_ ?_
       refine pu 1 20 HT_ ?_
       refine pu 3 22 HT_ ?_
       refine pu 7 26 HT_ ?_
       refine pu 9 28 HT_ ?_
       refine pu 11 30 HT_ ?_
       refine tk 2 21 HT_ HW_ hHeld rfl (by rintro w' ⟨s0,s1,s2,s3⟩;go_simp;with_reducible rfl) ?_
       refine pu 4 23 HT_ ?_
       refine tk 5 24 HT_ HW_ hHeld rfl (by rintro w' ⟨s0,s1,s2,s3⟩;go_simp;with_reducible rfl) ?_
       refine tk 8 27 HT_ HW_ hHeld rfl (by rintro w' ⟨s0,s1,s2,s3⟩;go_simp;with_reducible rfl) ?_
       refine tk 10 29 HT_ HW_ hHeld rfl (by rintro w' ⟨s0,s1,s2,s3⟩;go_simp;with_reducible rfl) ?_
       refine one_ (i:=6) (N:=some 25) #[true,true,true,true,true,true,true,true,true,true,true,true,false,false,false,false,false,false] rfl rfl (one_of HT_.out (by kernel_rfl)) (by decide) (fun K hK=>?_)
       refine goes_ Tryz.func165 (by kernel_rfl) rfl #[.int .u32 (rd l0_2 x6_1)] (by rfl) rfl rfl (by(try simp only[List.map_toArray,List.map_cons,List.map_nil]);rfl) ?_
       with_reducible refine(halideref7_Key.calls (rd l0_2 x6_1) t124 _ A9.out).mono ?_
       rintro e w' ⟨rfl,⟨nd,rfl⟩⟩
       refine⟨_,rfl,?_⟩
       refine hK.out _ _ ⟨(blk_cell BK121.out 0).trans rfl,(blk_cell BK121.out 1).trans rfl,(blk_cell BK121.out 2).trans rfl,((HB.out.cell (World.block_lt_of_cell? w _ hw123_0)).trans hw123_0)⟩ (fun hHeld=>?_)
       clear hK K
       refine norm_ (a':=?_) ?_ ?_
       rotate_left
       ·show Act.put _ (some 25) _=_
        simp only[Act.put,List.setIfInBounds_toArray,List.set_cons_zero,List.set_cons_succ,i64_w,i32_w]
        rfl
       refine one_ (i:=12) (N:=some 31) #[true,true,true,true,true,true,true,true,true,true,true,true,true,false,false,false,false,false] rfl rfl (one_of HT_.out (by kernel_rfl)) (by decide) (fun K hK=>?_)
       refine goes_ Tryz.func166 (by kernel_rfl) rfl #[.int .i64 a0_0,.slice (some ad123) l0_2.length c0_2,.int .i64 x6_1] (by rfl) rfl rfl (by(try simp only[List.map_toArray,List.map_cons,List.map_nil]);rfl) ?_
       with_reducible refine(halideref18_guess.calls a0_0 _ _ l0_2 x6_1 t125 _ ?side1 ?side2 A10.out).mono ?_
       (case side1=>repeat((exact(Kd.C_below HR0_2.out (by repeat((with_reducible first|exact HB.out|apply pw_below_drewN)))))))
       (case side2=>exact HC0_2.out)
       rintro e w15 ⟨rfl,hb⟩
       refine⟨_,rfl,?_⟩
       have n0_:=Aside0.mk (Kd.R_below (by(with_reducible repeat(apply Kd.R_drewN));exact HO_5.out) hb)
       have n1_:=Aside0.mk (blk_below (g:=gb121) (o := .cells #[.int .i64 a0_0,.int .i64 a0_1,.slice (some ad123) l0_2.length c0_2] 58 (0,0)) (by(with_reducible repeat((refine blk_drewN ?_ _)));exact BK121.out) hb)
       have n2_:=Aside0.mk (below_step (by repeat((with_reducible first|exact HB.out|apply pw_below_drewN))) hb)
       clear HO_5
       clear BK121
       clear HB
       have HO_5:=n0_
       have BK121:=n1_
       have HB:=n2_
       clear n0_ n1_ n2_
       (try clear hb)
       refine hK.out _ _ ⟨(blk_cell BK121.out 0).trans rfl,(blk_cell BK121.out 1).trans rfl,(blk_cell BK121.out 2).trans rfl,((HB.out.cell (World.block_lt_of_cell? w _ hw123_0)).trans hw123_0)⟩ (fun hHeld=>?_)
       clear hK K
       refine norm_ (a':=?_) ?_ ?_
       rotate_left
       ·show Act.put _ (some 31) _=_
        simp only[Act.put,List.setIfInBounds_toArray,List.set_cons_zero,List.set_cons_succ,i64_w,i32_w]
        rfl
       refine one_ (i:=13) (N:=some 32) #[true,true,true,true,true,true,true,true,true,true,true,true,true,true,false,false,false,false] rfl rfl (one_of HT_.out (by kernel_rfl)) (by decide) (fun K hK=>?_)
       refine goes_ Tryz.func165 (by kernel_rfl) rfl #[.int .u32 t125] (by rfl) rfl rfl (by(try simp only[List.map_toArray,List.map_cons,List.map_nil]);rfl) ?_
       with_reducible refine(halideref7_Key.calls t125 t126 _ A11.out).mono ?_
       rintro e w' ⟨rfl,⟨nd,rfl⟩⟩
       refine⟨_,rfl,?_⟩
       refine hK.out _ _ ⟨(blk_cell BK121.out 0).trans rfl,(blk_cell BK121.out 1).trans rfl,(blk_cell BK121.out 2).trans rfl,((HB.out.cell (World.block_lt_of_cell? w _ hw123_0)).trans hw123_0)⟩ (fun hHeld=>?_)
       clear hK K
       refine norm_ (a':=?_) ?_ ?_
       rotate_left
       ·show Act.put _ (some 32) _=_
        simp only[Act.put,List.setIfInBounds_toArray,List.set_cons_zero,List.set_cons_succ,i64_w,i32_w]
        rfl
       refine pu 14 33 HT_ ?_
       refine one_ (i:=15) (N:=some 34) #[true,true,true,true,true,true,true,true,true,true,true,true,true,true,true,true,false,false] rfl rfl (one_of HT_.out (by kernel_rfl)) (by decide) (fun K hK=>?_)
       refine value_ (w1:=?_) (v:=?_) (by rfl) rfl ?_ ?_
       rotate_left 2
       ·go_simp
        constructor
        ·rfl
        ·rfl
       refine hK.out _ _ ⟨(blk_cell (blk_alloc BK121.out _) 0).trans rfl,(blk_cell (blk_alloc BK121.out _) 1).trans rfl,(blk_cell (blk_alloc BK121.out _) 2).trans rfl,(World.cell?_alloc_lt _ _ _ (World.block_lt_of_cell? _ _ (((HB.out.cell (World.block_lt_of_cell? w _ hw123_0)).trans hw123_0)))).trans (((HB.out.cell (World.block_lt_of_cell? w _ hw123_0)).trans hw123_0))⟩ (fun hHeld=>?_)
       clear hK K
       refine norm_ (a':=?_) ?_ ?_
       rotate_left
       ·show Act.put _ (some 34) _=_
        simp only[Act.put,List.setIfInBounds_toArray,List.set_cons_zero,List.set_cons_succ,i64_w,i32_w]
        rfl
       refine one_ (i:=16) (N:=some 35) #[true,true,true,true,true,true,true,true,true,true,true,true,true,true,true,true,true,false] rfl rfl (one_of HT_.out (by kernel_rfl)) (by decide) (fun K hK=>?_)
       refine Kd.R_append_step (Kd.int .u32) (w0:=w) w.heap.size (by rfl) (.tmp 19) (.tmp 34) 27 56 (.int .u32 0) 4 rfl Tryz.underlying27 info56 rfl (by decide) (by omega) u5 x5_1 ((t124-t126)%4294967296) [.int .u32 ((t124-t126)%4294967296)] (fun _=>True) (fun _=>False) rfl rfl ?aP (fun _ hk=>hk.elim) ?aF ?aO ?aB ?aS ?aL ?_
       (case aP=>exact rfl)
       (case aB=>exact(by repeat((with_reducible first|exact HB.out|apply pw_below_drewN))))
       (case aF=>exact(fun _ _=>trivial))
       (case aO=>exact(by(with_reducible repeat(apply Kd.R_drewN));exact HO_5.out))
       (case aS=>exact(below_size (by repeat((with_reducible first|exact HB.out|apply pw_below_drewN)))))
       (case aL=>have:=LMc12.out;omega)
       intro v128 w16 ho hb hg hat
       rw[<- Ny127.out] at ho
       have n0_:=Aside0.mk (blk_grown (g:=gb121) (o := .cells #[.int .i64 a0_0,.int .i64 a0_1,.slice (some ad123) l0_2.length c0_2] 58 (0,0)) (by(with_reducible repeat((refine blk_drewN ?_ _)));exact BK121.out) hg (Kd.R_ne HO_5.out BK121.out (by decide)))
       have n1_:=Aside0.mk (hb)
       have n2_:=Aside0.mk (ho)
       clear BK121
       clear HB
       clear HO_5
       have BK121:=n0_
       have HB:=n1_
       have HO129:=n2_
       clear n0_ n1_ n2_
       clear ho hb hg hat
       refine hK.out _ _ ⟨(blk_cell BK121.out 0).trans rfl,(blk_cell BK121.out 1).trans rfl,(blk_cell BK121.out 2).trans rfl,((HB.out.cell (World.block_lt_of_cell? w _ hw123_0)).trans hw123_0)⟩ (fun hHeld=>?_)
       clear hK K
       refine norm_ (a':=?_) ?_ ?_
       rotate_left
       ·show Act.put _ (some 35) _=_
        simp only[Act.put,List.setIfInBounds_toArray,List.set_cons_zero,List.set_cons_succ,i64_w,i32_w]
        rfl
       refine pu 17 5 HT_ ?_
       refine done_ (done_of HT_.out (by kernel_rfl)) ?_
       try go_wp2
       go_roundg k1
       case measure=>have:=HK1.out;omega
       case rel=>exact⟨(y127),(wrap64 (x6_1+1)),(by rfl),H',⟨by have:=HK1.out;omega⟩,⟨by(with_reducible repeat(fail));exact HO129.out⟩,⟨by(with_reducible repeat(fail));exact BK121.out⟩,⟨by repeat((with_reducible exact HB.out))⟩⟩
      ·rw[if_neg c12] at H
       exact absurd H (by simp)
     ·rw[if_neg c8] at H
      exact absurd H (by simp)
    ·rw[if_neg c7] at H
     have c7b0:decide (x6_1<(l0_2.length:Int))=false:=decide_eq_false c7
     clear c7
     simp only[Option.some.injEq,Prod.mk.injEq] at H
     obtain⟨rfl,rfl⟩:=H
     have hcz17_0:wr.cell? ⟨gb121,0,none⟩=some (.int .i64 a0_0):=(blk_cell BK121.out 0).trans rfl
     have hcz17_1:wr.cell? ⟨gb121,1,none⟩=some (.int .i64 a0_1):=(blk_cell BK121.out 1).trans rfl
     have hcz17_2:wr.cell? ⟨gb121,2,none⟩=some (.slice A0_2 l0_2.length c0_2):=(blk_cell BK121.out 2).trans rfl
     have hfz17_0:=blk_frozen BK121.out 0
     have hfz17_1:=blk_frozen BK121.out 1
     have hfz17_2:=blk_frozen BK121.out 2
     go_wp2
     go_ret2
     exact⟨_,by rfl,by(with_reducible repeat(fail));exact HO_5.out,by repeat((with_reducible exact HB.out))⟩
 ·rw[if_neg c3] at H
  have c3b0:(t122==0)=false:=beq_eq_false_iff_ne.mpr c3
  have c3b1:(t122 !=0)=true:=bne_iff_ne.mpr c3
  simp only[Option.some.injEq,Prod.mk.injEq] at H
  obtain⟨rfl,rfl⟩:=H
  go_enter Tryz.func108,Tryz.ntmps108
  go_wp2_with (first|((with_reducible refine gate_dst (N:=1) rfl ?_);refine box_event ?hg (N:=1) ?hd (cs := #[.int .i64 a0_0,.int .i64 a0_1,.slice A0_2 l0_2.length c0_2]) (t:=58) ?hr ?_;(case hd=>rfl);(case hg=>rfl);(case hr=>(go_simp;done));intro gb121 hg w18 hbox hb;have n0_:=Aside0.mk (below_step (by repeat((with_reducible exact HB.out))) hb);have n1_:=Aside0.mk (hbox);have n2_:=Aside0.mk ((by rw[hg];exact(below_size (by repeat((with_reducible exact HB.out)))):w.heap.size<=gb121));have n3_:=Aside0.mk ((by rw[hg];exact(below_size (by repeat((with_reducible exact HB.out)))):w.heap.size<=gb121));clear HB;have HB:=n0_;have BK121:=n1_;have GW121:=n2_;have GE121:=n3_;clear n0_ n1_ n2_ n3_;clear hb hbox hg;have hcz19_0:w18.cell? ⟨gb121,0,none⟩=some (.int .i64 a0_0):=(blk_cell BK121.out 0).trans rfl;have hcz19_1:w18.cell? ⟨gb121,1,none⟩=some (.int .i64 a0_1):=(blk_cell BK121.out 1).trans rfl;have hcz19_2:w18.cell? ⟨gb121,2,none⟩=some (.slice A0_2 l0_2.length c0_2):=(blk_cell BK121.out 2).trans rfl;have hfz19_0:=blk_frozen BK121.out 0;have hfz19_1:=blk_frozen BK121.out 1;have hfz19_2:=blk_frozen BK121.out 2)|((with_reducible refine gate_callee (f:=62) rfl ?_);refine goesL_ (some 8) rfl rfl Tryz.func62 (by kernel_rfl) rfl #[.agg #[.int .i64 a0_0,.int .i64 a0_1,.slice A0_2 l0_2.length c0_2]] rfl (by(try simp only[List.map_toArray,List.map_cons,List.map_nil]);rfl) ?_;(with_reducible refine(halideref5_Check.calls a0_0 a0_1 _ _ l0_2 t122 _ ?side1 ?side2 A2.out).mono ?_);(case side1=>repeat((exact(Kd.C_below HR0_2.out HB.out))));(case side2=>exact HC0_2.out);rintro e w20 ⟨rfl,hb⟩;refine⟨_,rfl,?_⟩;have n0_:=Aside0.mk (blk_below (g:=gb121) (o := .cells #[.int .i64 a0_0,.int .i64 a0_1,.slice A0_2 l0_2.length c0_2] 58 (0,0)) (by(with_reducible repeat(fail));exact BK121.out) hb);have n1_:=Aside0.mk (below_step (by repeat((with_reducible exact HB.out))) hb);clear BK121;clear HB;have BK121:=n0_;have HB:=n1_;clear n0_ n1_;(try clear hb)))
  go_ret2
  exact⟨_,by rfl,by exact Kd.R_nil _ _ _ _ _,by repeat((with_reducible exact HB.out))⟩
def halideref17_Fold.f (a0:Int):Option (Int):=if a0<2147483648 then (some ((2*a0)%4294967296)) else (some ((wrap64 ((wrap64 (2*(wrap64 (4294967296-(wrap64 (a0))))))-1))%4294967296))
set_option maxHeartbeats 8000000 in
set_option maxRecDepth 100000 in
theorem halideref17_Fold.calls (a0:Int) (r:Int) (w:World) (h:halideref17_Fold.f a0=some r) :
  Calls Tryz.prog 235 #[.int .u32 a0] w fun e w'=>e = .returned (.int .u32 r)/\Drawn0 w w':=by
 have H:(if a0<2147483648 then (some ((2*a0)%4294967296)) else (some ((wrap64 ((wrap64 (2*(wrap64 (4294967296-(wrap64 (a0))))))-1))%4294967296)))=some r:=h
 clear h
 by_cases c2:a0<2147483648
 ·rw[if_pos c2] at H
  have c2b0:decide (a0<2147483648)=true:=decide_eq_true c2
  clear c2
  obtain rfl:=Option.some.inj H
  go_enter Tryz.func235,Tryz.ntmps235
  go_wp2
  go_ret
  exact⟨by rfl,by repeat(exact Drawn0.refl _)⟩
 ·rw[if_neg c2] at H
  have c2b0:decide (a0<2147483648)=false:=decide_eq_false c2
  clear c2
  obtain rfl:=Option.some.inj H
  go_enter Tryz.func235,Tryz.ntmps235
  go_wp2
  go_ret
  exact⟨by rfl,by repeat(exact Drawn0.refl _)⟩
def halideref17_state_k.l0:Nat->Int->Int->Int->Option (Int)
 | 0,_,_,_=>none
 | k+1,x3,x131000,x131001=>if x3<31 then (if 0<=x3 then (if (shl .i64 x131001 x3)<x131000 then (halideref17_state_k.l0 k (wrap64 (x3+1)) x131000 x131001) else (some x3)) else (none)) else (some x3)
def halideref17_state_k.f (k:Nat) (a0_0:Int) (a0_1:Int):Option (Int):=halideref17_state_k.l0 k 0 a0_0 a0_1
set_option maxHeartbeats 8000000 in
set_option maxRecDepth 100000 in
theorem halideref17_state_k.calls (k:Nat) (a0_0:Int) (a0_1:Int) (r:Int) (w:World) (h:halideref17_state_k.f k a0_0 a0_1=some r) :
  Calls Tryz.prog 237 #[.agg #[.int .i64 a0_0,.int .i64 a0_1]] w fun e w'=>e = .returned (.int .i64 r)/\Below w.heap.size w w':=by
 have hu368:=Tryz.underlying368
 have HB:=Aside0.mk (Below.refl w.heap.size w)
 have H:(halideref17_state_k.l0 k 0 a0_0 a0_1)=some r:=h
 clear h
 have H':=Aside0.mk H
 clear H
 go_enter Tryz.func237,Tryz.ntmps237
 go_wp2_with (((with_reducible refine gate_dst (N:=1) rfl ?_);refine box_event ?hg (N:=1) ?hd (cs := #[.int .i64 a0_0,.int .i64 a0_1]) (t:=368) ?hr ?_;(case hd=>rfl);(case hg=>rfl);(case hr=>(go_simp;done));intro gb130 hg w2 hbox hb;have n0_:=Aside0.mk (below_step (by repeat((with_reducible exact HB.out))) hb);have n1_:=Aside0.mk (hbox);have n2_:=Aside0.mk ((by rw[hg];exact(below_size (by repeat((with_reducible exact HB.out)))):w.heap.size<=gb130));have n3_:=Aside0.mk ((by rw[hg];exact(below_size (by repeat((with_reducible exact HB.out)))):w.heap.size<=gb130));clear HB;have HB:=n0_;have BK130:=n1_;have GW130:=n2_;have GE130:=n3_;clear n0_ n1_ n2_ n3_;clear hb hbox hg))
 repeat(go_quiet (fail);try go_wp2_with (fail))
 go_loopg [3] k (fun kq v3 w' => ∃(x3_1:Int),v3 = .int .i64 x3_1/\Aside0 (halideref17_state_k.l0 kq x3_1 a0_0 a0_1=some r)/\Aside0 (kq<=k)/\Aside0 (w'.heap[gb130]?=some (.cells #[.int .i64 a0_0,.int .i64 a0_1] 368 (0,0)))/\Aside0 (Below w.heap.size w w'))
 case atStart=>exact⟨(0),(by rfl),H',⟨Nat.le_refl _⟩,⟨by(with_reducible repeat(fail));exact BK130.out⟩,⟨by repeat((with_reducible exact HB.out))⟩⟩
 case round =>
  clear H'
  obtain⟨x3_1,rfl,HA,HK1,BK130,HB⟩:=hrel
  cases gk with
  | zero=>exact absurd HA.out (by simp[halideref17_state_k.l0])
  | succ k1 =>
   have H:=HA.out
   clear HA
   simp only[halideref17_state_k.l0] at H
   by_cases c3:x3_1<31
   ·rw[if_pos c3] at H
    have c3b0:decide (x3_1<31)=true:=decide_eq_true c3
    clear c3
    by_cases c4:0<=x3_1
    ·rw[if_pos c4] at H
     have c4b0:=eq_true c4
     have c4b1:decide (0<=x3_1)=true:=decide_eq_true c4
     clear c4
     obtain⟨ji5,hji5⟩ : ∃j_:Int,(shl .i64 a0_1 x3_1)=j_:=⟨_,rfl⟩
     replace H:(if (ji5)<a0_0 then (halideref17_state_k.l0 k1 (wrap64 (x3_1+1)) a0_0 a0_1) else (some x3_1))=some r:=by(rw[hji5] at H;exact H)
     have hji5_:(IntKind.i64.wrap (a0_1*2^min x3_1.toNat 64))=ji5:=hji5
     have hji5z:x3_1<=64->(IntKind.i64.wrap (a0_1*2^x3_1.toNat))=ji5:=shl_small hji5
     have hji5y:(wrap64 (a0_1*2^min x3_1.toNat 64))=ji5:=(i64_w _).symm.trans hji5_
     have hji5x:x3_1<=64->(wrap64 (a0_1*2^x3_1.toNat))=ji5:=fun h_=>(i64_w _).symm.trans (hji5z h_)
     by_cases c6:(ji5)<a0_0
     ·rw[if_pos c6] at H
      have c6b0:decide ((ji5)<a0_0)=true:=decide_eq_true c6
      clear c6
      have H':=Aside0.mk H
      clear H
      have hcz7_0:wr.cell? ⟨gb130,0,none⟩=some (.int .i64 a0_0):=(blk_cell BK130.out 0).trans rfl
      have hcz7_1:wr.cell? ⟨gb130,1,none⟩=some (.int .i64 a0_1):=(blk_cell BK130.out 1).trans rfl
      have hfz7_0:=blk_frozen BK130.out 0
      have hfz7_1:=blk_frozen BK130.out 1
      go_wp2
      repeat(go_quiet (fail);try go_wp2)
      go_roundg k1
      case measure=>have:=HK1.out;omega
      case rel=>exact⟨(wrap64 (x3_1+1)),(by rfl),H',⟨by have:=HK1.out;omega⟩,⟨by(with_reducible repeat((refine blk_drewN ?_ _)));exact BK130.out⟩,⟨by repeat((with_reducible first|exact HB.out|apply pw_below_drewN))⟩⟩
     ·rw[if_neg c6] at H
      have c6b0:decide ((ji5)<a0_0)=false:=decide_eq_false c6
      clear c6
      obtain rfl:=Option.some.inj H
      have hcz8_0:wr.cell? ⟨gb130,0,none⟩=some (.int .i64 a0_0):=(blk_cell BK130.out 0).trans rfl
      have hcz8_1:wr.cell? ⟨gb130,1,none⟩=some (.int .i64 a0_1):=(blk_cell BK130.out 1).trans rfl
      have hfz8_0:=blk_frozen BK130.out 0
      have hfz8_1:=blk_frozen BK130.out 1
      go_wp2
      repeat(go_quiet (fail);try go_wp2)
      go_ret
      exact⟨by rfl,by repeat((with_reducible first|exact HB.out|apply pw_below_drewN))⟩
    ·rw[if_neg c4] at H
     exact absurd H (by simp)
   ·rw[if_neg c3] at H
    have c3b0:decide (x3_1<31)=false:=decide_eq_false c3
    clear c3
    obtain rfl:=Option.some.inj H
    go_wp2
    repeat(go_quiet (fail);try go_wp2)
    go_ret
    exact⟨by rfl,by repeat((with_reducible first|exact HB.out|apply pw_below_drewN))⟩
end Go.Proofs.YtgpegjmbofgmmaaGreat.PJou
