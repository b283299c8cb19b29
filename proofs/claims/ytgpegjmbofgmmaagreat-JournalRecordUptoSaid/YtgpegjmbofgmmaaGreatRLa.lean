/- A part of the proof. No condition. -/
import Derived.Test.YtgpegjmbofgmmaaGreatRPu
import Derived.Test.YtgpegjmbofgmmaaGreatRFf
namespace Go.Proofs.YtgpegjmbofgmmaaGreat.jou
open Go.RowKit Go.Proofs.YtgpegjmbofgmmaaGreatW.PrintWords Go.Proofs.YtgpegjmbofgmmaaGreatW.PrintLast Go.Proofs.YtgpegjmbofgmmaaGreat.PJop Go.Cod
set_option linter.unusedVariables false
set_option linter.unusedSimpArgs false
def copyT:Bool×List (List Nat×List Nat):=(true,[([],[]),([0],[0]),([],[]),([2],[2]),([],[]),([4],[4]),([5],[5]),([1,3,6],[1,3,6]),([7,6,0,1,2,3,4,5,6,7],[7])])
def copyB:List Nat := [0,1,0,4,0,16,48,127,255]
theorem copy_tab:rtab .any (opsOf Tryz.f61 1)=copyT:=by kernel_rfl
theorem copy_bits:waitsOk copyT.2 copyB=true:=by kernel_rfl
set_option maxHeartbeats 1600000 in
set_option maxRecDepth 100000 in
theorem copy_any (w:World) (a b:Int) (A:Option Addr) (cap:Nat) (xs:List Int) (hx:Kd.C (Kd.int .u32) w A xs.length xs) (hc:xs.length<=cap) (hn:xs.length<=2000000) :
  Calls Tryz.prog 61 #[.agg #[.int .i64 a,.int .i64 b,.slice A xs.length cap]] w fun e w' => ∃v,e = .returned (.agg #[.int .i64 a,.int .i64 b,v])/\Kd.R (Kd.int .u32) 56 w' w.heap.size (fun _=>True) v xs/\Below w.heap.size w w':=by
 have HX:=Aside0.mk hx
 clear hx
 go_enter Tryz.func61,Tryz.ntmps61
 go_wp2_with fail
 have HB0:=below_alloc (below_alloc (Below.refl w.heap.size w) (.cells #[.int .i64 a,.int .i64 b,.slice A xs.length cap] 58 (0,0))) (.cells #[.int .i64 0,.int .i64 0,.slice none 0 0] 58 (0,0))
 have HB:=Aside0.mk (below_drew1 HB0)
 have BK1:=Aside0.mk (blk_drew (blk_alloc (blk_new w (.cells #[.int .i64 a,.int .i64 b,.slice A xs.length cap] 58 (0,0))) (.cells #[.int .i64 0,.int .i64 0,.slice none 0 0] 58 (0,0))))
 have BK2:=Aside0.mk (blk_drew (blk_new (w.alloc (.cells #[.int .i64 a,.int .i64 b,.slice A xs.length cap] 58 (0,0))) (.cells #[.int .i64 0,.int .i64 0,.slice none 0 0] 58 (0,0))))
 have HX1:=Aside0.mk (Kd.C_below HX.out HB.out)
 clear HB0
 rw[show(w.alloc (.cells #[.int .i64 a,.int .i64 b,.slice A xs.length cap] 58 (0,0))).heap.size=w.heap.size+1 by simp] at BK2
 generalize (w.alloc (.cells #[.int .i64 a,.int .i64 b,.slice A xs.length cap] 58 (0,0))).alloc (.cells #[.int .i64 0,.int .i64 0,.slice none 0 0] 58 (0,0))=W at BK1 BK2 HB HX1 ⊢
 have hg12:w.heap.size≠w.heap.size+1:=by omega
 have GE2:=Aside0.mk (show w.heap.size<=w.heap.size+1 by omega)
 generalize w.heap.size+1=g2 at BK2 GE2 ⊢
 clear hg12
 refine start_ (n:=9) (S:=fun w'=>w'.cell? ⟨w.heap.size,0,none⟩=some (.int .i64 a)/\w'.cell? ⟨w.heap.size,1,none⟩=some (.int .i64 b)/\w'.cell? ⟨w.heap.size,2,none⟩=some (.slice A xs.length cap)) (ds := [8]) (Array.replicate 9 false) (by kernel_rfl) rfl rfl ⟨(blk_cell BK1.out 0).trans rfl,(blk_cell BK1.out 1).trans rfl,(blk_cell BK1.out 2).trans rfl⟩ (fun hHeld=>?_);refine with_tabW copy_tab copy_bits (fun HT_ HW_=>?_)
 generalize W.drew=w4 at BK1 BK2 HB HX1 hHeld ⊢
 refine pu 0 3 HT_ ?_
 refine pu 2 5 HT_ ?_
 refine pu 4 7 HT_ ?_
 refine tk 1 4 HT_ HW_ hHeld rfl (by rintro w' ⟨s0,s1,s2⟩;go_simp;with_reducible rfl) ?_
 refine tk 3 6 HT_ HW_ hHeld rfl (by rintro w' ⟨s0,s1,s2⟩;go_simp;with_reducible rfl) ?_
 refine tk 5 8 HT_ HW_ hHeld rfl (by rintro w' ⟨s0,s1,s2⟩;go_simp;with_reducible rfl) ?_
 refine one_ (i:=6) (N:=some 9) #[true,true,true,true,true,true,true,false,false] rfl rfl (one_of HT_.out (by kernel_rfl)) (by decide) (fun K hK=>?_)
 refine Kd.R_append_rows_step (Kd.int .u32) (w0:=w) w.heap.size (by rfl) (.const (.slice none 0 0)) (.tmp 8) 27 56 (.int .u32 0) 4 rfl Tryz.underlying27 info56 rfl (by decide) (by omega) (.slice none 0 0) [] xs A xs.length cap (fun _=>True) (fun _=>False) rfl rfl (Kd.R_nil _ _ _ _ _) ?aX (fun x cs h=>h) (fun _ hk=>hk.elim) (fun _ _=>trivial) HB.out HB.out.size ?aL ?_
 (case aX=>exact HX1.out)
 (case aL=>simp;omega)
 intro v w5 ho hb hg hat
 have n0_:=Aside0.mk (blk_grown BK1.out hg (by intro e;cases e))
 have n1_:=Aside0.mk (blk_grown BK2.out hg (by intro e;cases e))
 have HO:=Aside0.mk (show Kd.R (Kd.int .u32) 56 w5 w.heap.size (fun _=>True) v xs from ho)
 have n2_:=Aside0.mk hb
 clear BK1 BK2 HB HX1
 have BK1:=n0_
 have BK2:=n1_
 have HB:=n2_
 clear n0_ n1_ n2_ ho hb hg hat
 refine hK.out _ _ ⟨(blk_cell BK1.out 0).trans rfl,(blk_cell BK1.out 1).trans rfl,(blk_cell BK1.out 2).trans rfl⟩ (fun hHeld=>?_)
 clear hK K
 refine norm_ (a':=?_) ?_ ?_
 rotate_left
 ·show Act.put _ (some 9) _=_
  simp only[Act.put,List.setIfInBounds_toArray,List.set_cons_zero,List.set_cons_succ,i64_w,i32_w]
  rfl
 obtain⟨A',c',rfl⟩:=Kd.R_slice HO.out
 refine pu 7 10 HT_ ?_
 have hcz0:w5.cell? ⟨g2,0,none⟩=some (.int .i64 0):=(blk_cell BK2.out 0).trans rfl
 have hcz1:w5.cell? ⟨g2,1,none⟩=some (.int .i64 0):=(blk_cell BK2.out 1).trans rfl
 have hcz2:w5.cell? ⟨g2,2,none⟩=some (.slice none 0 0):=(blk_cell BK2.out 2).trans rfl
 have hfz0:=blk_frozen BK2.out 0
 have hfz1:=blk_frozen BK2.out 1
 have hfz2:=blk_frozen BK2.out 2
 refine last_ (i:=8) (N:=none) #[true,true,true,true,true,true,true,true,true] rfl rfl (one_of HT_.out (by kernel_rfl)) (by decide) (fun K hK=>?_)
 refine skip_ (w1:=?_) (by rfl) rfl ?_ ?_
 rotate_left
 ·go_simp
  rfl
 refine hK.out _ _ ?_
 clear hK K
 refine done_ (done_of HT_.out (by kernel_rfl)) ?_
 try go_wp2
 have hp:=blk_put (blk_put (blk_put BK2.out 0 (.int .i64 a) rfl) 1 (.int .i64 b) rfl) 2 (.slice A' xs.length c') rfl
 refine bodyPost_ret (results_cell_row rfl _ _ g2 58 #[.int .i64 a,.int .i64 b,.slice A' xs.length c'] (0,0) _ rfl hp Tryz.underlying58 rfl (by kernel_rfl)) rfl ?_
 refine⟨_,rfl,?_,below_set (below_set (below_set HB.out GE2.out) GE2.out) GE2.out⟩
 have h1:=Kd.R_set HO.out BK2.out (by decide) 0 (.int .i64 a)
 have h2:=Kd.R_set h1 (blk_put BK2.out 0 (.int .i64 a) rfl) (by decide) 1 (.int .i64 b)
 exact Kd.R_set h2 (blk_put (blk_put BK2.out 0 (.int .i64 a) rfl) 1 (.int .i64 b) rfl) (by decide) 2 _
end Go.Proofs.YtgpegjmbofgmmaaGreat.jou
namespace Go.Proofs.YtgpegjmbofgmmaaGreat.jou
open Go.RowKit Go.Proofs.YtgpegjmbofgmmaaGreatW.PrintWords Go.Proofs.YtgpegjmbofgmmaaGreatW.PrintLast Go.Proofs.YtgpegjmbofgmmaaGreat.PJop Go.Cod
set_option linter.unusedVariables false
set_option linter.unusedSimpArgs false
theorem info58:(Tryz.prog.info? 58).map (fun i=>(i.zero,i.size,i.bytes))=some (some (.agg #[(.int .i64 0),(.int .i64 0),(.slice none 0 0)]),3,40):=by kernel_rfl
def copyPT:Bool×List (List Nat×List Nat):=(true,[([],[]),([0],[0]),([],[]),([2],[2]),([],[]),([3,4],[3,4]),([5],[5]),([6],[6]),([7],[7]),([1,8,7],[1,8]),([0,1,2,3,4,5,6,7,8,9],[]),([10,9,9,0,1,2,3,4,5,6,7,8,9],[9,10])])
def copyPB:List Nat := [0,1,0,4,0,28,60,124,252,511,1023,2047]
theorem copyP_tab:rtab .any (opsOf Tryz.f29 5)=copyPT:=by kernel_rfl
theorem copyP_bits:waitsOk copyPT.2 copyPB=true:=by kernel_rfl
theorem take_rd (l:List S58) (k:Nat) (h:k<l.length):l.take k ++ [rd_T58 l k]=l.take (k+1):=by
 rw[List.take_add_one]
 simp[rd_T58,List.getD_eq_getElem?_getD,h]
set_option maxHeartbeats 4000000 in
set_option maxRecDepth 100000 in
theorem copyP_any (w:World) (sp:Int) (A:Option Addr) (cap:Nat) (l:List S58) (hr:Kd.C k58 w A l.length l) (hn:l.length<=2000000) (hs : ∀j:Nat,j<l.length->(rd_T58 l j).f2.length<=2000000) :
  Calls Tryz.prog 29 #[.agg #[.int .i64 sp,.slice A l.length cap]] w fun e w' => ∃A' c',e = .returned (.agg #[.int .i64 sp,.slice A' l.length c'])/\Kd.R k58 58 w' w.heap.size (fun _=>True) (.slice A' l.length c') l/\Below w.heap.size w w':=by
 have HX:=Aside0.mk hr
 have HS:=Aside0.mk hs
 clear hr hs
 go_enter Tryz.func29,Tryz.ntmps29
 go_wp2_with fail
 have HB0:=below_alloc (below_alloc (below_alloc (Below.refl w.heap.size w) (.cells #[.int .i64 sp,.slice A l.length cap] 25 (0,0))) (.cells #[.int .i64 0,.slice none 0 0] 25 (0,0))) (.cells #[.int .i64 sp,.slice none 0 0] 25 (0,0))
 have HB1:=Aside0.mk HB0
 have BK1:=Aside0.mk (blk_alloc (blk_alloc (blk_new w (.cells #[.int .i64 sp,.slice A l.length cap] 25 (0,0))) (.cells #[.int .i64 0,.slice none 0 0] 25 (0,0))) (.cells #[.int .i64 sp,.slice none 0 0] 25 (0,0)))
 have BK2:=Aside0.mk (blk_alloc (blk_new (w.alloc (.cells #[.int .i64 sp,.slice A l.length cap] 25 (0,0))) (.cells #[.int .i64 0,.slice none 0 0] 25 (0,0))) (.cells #[.int .i64 sp,.slice none 0 0] 25 (0,0)))
 have BK3:=Aside0.mk (blk_new ((w.alloc (.cells #[.int .i64 sp,.slice A l.length cap] 25 (0,0))).alloc (.cells #[.int .i64 0,.slice none 0 0] 25 (0,0))) (.cells #[.int .i64 sp,.slice none 0 0] 25 (0,0)))
 clear HB0
 rw[show(w.alloc (.cells #[.int .i64 sp,.slice A l.length cap] 25 (0,0))).heap.size=w.heap.size+1 by simp] at BK2
 rw[show((w.alloc (.cells #[.int .i64 sp,.slice A l.length cap] 25 (0,0))).alloc (.cells #[.int .i64 0,.slice none 0 0] 25 (0,0))).heap.size=w.heap.size+2 by simp] at BK3
 go_loopw [4] (fun v4 wr => ∃k:Nat,k<=l.length/\v4 = .int .i64 k /\ ∃(Ao:Option Addr) (co:Nat),Aside0 (wr.heap[w.heap.size]?=some (.cells #[.int .i64 sp,.slice A l.length cap] 25 (0,0)))/\Aside0 (wr.heap[w.heap.size+1]?=some (.cells #[.int .i64 0,.slice none 0 0] 25 (0,0)))/\Aside0 (wr.heap[w.heap.size+2]?=some (.cells #[.int .i64 sp,.slice Ao k co] 25 (0,0)))/\Aside0 (Kd.R k58 58 wr w.heap.size (fun _=>True) (.slice Ao k co) (l.take k))/\Aside0 (Below w.heap.size w wr)) (fun v4 _=>l.length-(intOf v4).toNat)
 case atStart=>exact⟨0,Nat.zero_le _,rfl,none,0,BK1,BK2,BK3,⟨Kd.R_nil _ _ _ _ _⟩,HB1⟩
 case round =>
  clear BK1 BK2 BK3 HB1
  obtain⟨k,hk,rfl,Ao,co,BK1,BK2,BK3,HO,HB⟩:=hrel
  have GE3:=Aside0.mk (show w.heap.size<=w.heap.size+2 by omega)
  have hg23:w.heap.size+1≠w.heap.size+2:=by omega
  have hg13:w.heap.size≠w.heap.size+2:=by omega
  have hcz1:wr.cell? ⟨w.heap.size,1,none⟩=some (.slice A l.length cap):=(blk_cell BK1.out 1).trans rfl
  by_cases hlt:k<l.length
  ·have b1:decide ((k:Int)<(l.length:Int))=true:=decide_eq_true (by omega)
   obtain⟨ad,A2,c2,rfl,hw0,hw1,hw2,hl2,hc2⟩:=at_T58 HX.out k (by omega) (by omega)
   simp only[Int.toNat_natCast] at hw0 hw1 hw2
   have HC2:=Aside0.mk hc2
   have HL2:=Aside0.mk hl2
   have HS2:=Aside0.mk (show(rd_T58 l k).f2.length<=2000000 by have:=HS.out k hlt;omega)
   have HT1:=Aside0.mk (take_rd l k hlt)
   have HL1:=Aside0.mk (show(List.take (k+1) l).length=k+1 by rw[List.length_take];omega)
   clear hl2 hc2
   have p1:(0:Int)<=k:=by omega
   have p2:(k:Int)<(l.length:Int):=by omega
   try go_wp2
   have n0_:=Aside0.mk (blk_drew BK1.out)
   have n1_:=Aside0.mk (blk_drew BK2.out)
   have n2_:=Aside0.mk (blk_drew BK3.out)
   have n3_:=Aside0.mk (below_drew1 HB.out)
   have n4_:=Aside0.mk (Kd.R_drew HO.out)
   clear BK1 BK2 BK3 HB HO hcz1
   have BK1:=n0_
   have BK2:=n1_
   have BK3:=n2_
   have HB:=n3_
   have HO:=n4_
   clear n0_ n1_ n2_ n3_ n4_
   refine start_ (n:=12) (S:=fun w'=>w'.cell? ⟨w.heap.size,0,none⟩=some (.int .i64 sp)/\w'.cell? ⟨w.heap.size,1,none⟩=some (.slice (some ad) l.length cap)/\w'.cell? ⟨w.heap.size+2,1,none⟩=some (.slice Ao k co)/\w'.cell? (ad.add (k*3))=some (.int .i64 (rd_T58 l k).f0)/\w'.cell? ⟨(ad.add (k*3)).block,(ad.add (k*3)).off+1,none⟩=some (.int .i64 (rd_T58 l k).f1)/\w'.cell? ⟨(ad.add (k*3)).block,(ad.add (k*3)).off+2,none⟩=some (.slice A2 (rd_T58 l k).f2.length c2)) (ds := [11]) (Array.replicate 12 false) (by kernel_rfl) rfl rfl ⟨(blk_cell BK1.out 0).trans rfl,(blk_cell BK1.out 1).trans rfl,(blk_cell BK3.out 1).trans rfl,((HB.out.cell (World.block_lt_of_cell? w _ hw0)).trans hw0),((HB.out.cell (World.block_lt_of_cell? w _ hw1)).trans hw1),((HB.out.cell (World.block_lt_of_cell? w _ hw2)).trans hw2)⟩ (fun hHeld=>?_);refine with_tabW copyP_tab copyP_bits (fun HT_ HW_=>?_)
   generalize wr.drew=w4 at BK1 BK2 BK3 HB HO hHeld ⊢
   refine pu 0 15 HT_ ?_
   refine pu 2 17 HT_ ?_
   refine pu 4 19 HT_ ?_
   refine tk 1 16 HT_ HW_ hHeld rfl (by rintro w' ⟨s0,s1,s2,s3,s4,s5⟩;go_simp;with_reducible rfl) ?_
   refine tk 3 18 HT_ HW_ hHeld rfl (by rintro w' ⟨s0,s1,s2,s3,s4,s5⟩;go_simp;with_reducible rfl) ?_
   refine pu 5 20 HT_ ?_
   refine tk 6 21 HT_ HW_ hHeld rfl (by rintro w' ⟨s0,s1,s2,s3,s4,s5⟩;go_simp;with_reducible rfl) ?_
   refine one_ (i:=7) (N:=some 22) #[true,true,true,true,true,true,true,true,false,false,false,false] rfl rfl (one_of HT_.out (by kernel_rfl)) (by decide) (fun K hK=>?_)
   refine goes_ Tryz.func61 (by kernel_rfl) rfl #[.agg #[.int .i64 (rd_T58 l k).f0,.int .i64 (rd_T58 l k).f1,.slice A2 (rd_T58 l k).f2.length c2]] (by rfl) rfl rfl (by(try simp only[List.map_toArray,List.map_cons,List.map_nil]);first|done|rfl) ?_
   refine(copy_any w4 (rd_T58 l k).f0 (rd_T58 l k).f1 A2 c2 (rd_T58 l k).f2 (Kd.C_below HC2.out HB.out) HL2.out HS2.out).mono ?_
   rintro e w6 ⟨v,rfl,ho,hb⟩
   refine⟨_,rfl,?_⟩
   have n0_:=Aside0.mk (blk_below BK1.out hb)
   have n1_:=Aside0.mk (blk_below BK2.out hb)
   have n2_:=Aside0.mk (blk_below BK3.out hb)
   have n3_:=Aside0.mk (below_step HB.out hb)
   have n4_:=Aside0.mk (Kd.R_below HO.out hb)
   have HV:=Aside0.mk (Kd.R_lower (Kd.R_newR ho HO.out) HB.out.size)
   clear BK1 BK2 BK3 HB HO
   have BK1:=n0_
   have BK2:=n1_
   have BK3:=n2_
   have HB:=n3_
   have HO:=n4_
   clear n0_ n1_ n2_ n3_ n4_ ho hb
   refine hK.out _ _ ⟨(blk_cell BK1.out 0).trans rfl,(blk_cell BK1.out 1).trans rfl,(blk_cell BK3.out 1).trans rfl,((HB.out.cell (World.block_lt_of_cell? w _ hw0)).trans hw0),((HB.out.cell (World.block_lt_of_cell? w _ hw1)).trans hw1),((HB.out.cell (World.block_lt_of_cell? w _ hw2)).trans hw2)⟩ (fun hHeld=>?_)
   clear hK K
   refine norm_ (a':=?_) ?_ ?_
   rotate_left
   ·show Act.put _ (some 22) _=_
    simp only[Act.put,List.setIfInBounds_toArray,List.set_cons_zero,List.set_cons_succ,i64_w,i32_w]
    rfl
   obtain⟨A',c',rfl⟩:=Kd.R_slice HV.out
   refine one_ (i:=8) (N:=some 23) #[true,true,true,true,true,true,true,true,true,false,false,false] rfl rfl (one_of HT_.out (by kernel_rfl)) (by decide) (fun K hK=>?_)
   refine value_ (w1:=?_) (v:=?_) (by rfl) rfl ?_ ?_
   rotate_left 2
   ·go_simp
    constructor
    ·rfl
    ·rfl
   refine hK.out _ _ ⟨(blk_cell (blk_alloc BK1.out _) 0).trans rfl,(blk_cell (blk_alloc BK1.out _) 1).trans rfl,(blk_cell (blk_alloc BK3.out _) 1).trans rfl,(World.cell?_alloc_lt _ _ _ (World.block_lt_of_cell? _ _ (((HB.out.cell (World.block_lt_of_cell? w _ hw0)).trans hw0)))).trans (((HB.out.cell (World.block_lt_of_cell? w _ hw0)).trans hw0)),(World.cell?_alloc_lt _ _ _ (World.block_lt_of_cell? _ _ (((HB.out.cell (World.block_lt_of_cell? w _ hw1)).trans hw1)))).trans (((HB.out.cell (World.block_lt_of_cell? w _ hw1)).trans hw1)),(World.cell?_alloc_lt _ _ _ (World.block_lt_of_cell? _ _ (((HB.out.cell (World.block_lt_of_cell? w _ hw2)).trans hw2)))).trans (((HB.out.cell (World.block_lt_of_cell? w _ hw2)).trans hw2))⟩ (fun hHeld=>?_)
   clear hK K
   refine norm_ (a':=?_) ?_ ?_
   rotate_left
   ·show Act.put _ (some 23) _=_
    simp only[Act.put,List.setIfInBounds_toArray,List.set_cons_zero,List.set_cons_succ,i64_w,i32_w]
    rfl
   refine one_ (i:=9) (N:=some 24) #[true,true,true,true,true,true,true,true,true,true,false,false] rfl rfl (one_of HT_.out (by kernel_rfl)) (by decide) (fun K hK=>?_)
   refine Kd.R_append_step k58 (w0:=w) w.heap.size (by rfl) (.tmp 16) (.tmp 23) 23 58 (.agg #[.int .i64 0,.int .i64 0,.slice none 0 0]) 40 rfl Tryz.underlying23 info58 rfl (by decide) (by omega) (.slice Ao k co) (l.take k) (rd_T58 l k) [.int .i64 (rd_T58 l k).f0,.int .i64 (rd_T58 l k).f1,.slice A' (rd_T58 l k).f2.length c'] (fun _=>True) (fun q=>True/\some q≠(Value.slice Ao k co).ownBlock) rfl rfl ?aP (fun _ hk=>hk) (fun _ _=>trivial) HO.out HB.out HB.out.size ?aL ?_
   (case aP=>exact k58_mkM _ _ _ _ HV.out)
   (case aL=>rw[List.length_take];omega)
   intro v1 w7 ho hb hg hat
   have hne1:=Kd.R_ne HO.out BK1.out (by decide)
   have hne2:=Kd.R_ne HO.out BK2.out (by decide)
   have hne3:=Kd.R_ne HO.out BK3.out (by decide)
   have n0_:=Aside0.mk (blk_grown BK1.out hg hne1)
   have n1_:=Aside0.mk (blk_grown BK2.out hg hne2)
   have n2_:=Aside0.mk (blk_grown BK3.out hg hne3)
   have n3_:=Aside0.mk hb
   rw[HT1.out] at ho
   have n4_:=Aside0.mk ho
   clear BK1 BK2 BK3 HB HO HV
   have BK1:=n0_
   have BK2:=n1_
   have BK3:=n2_
   have HB:=n3_
   have HO:=n4_
   clear n0_ n1_ n2_ n3_ n4_ ho hb hg hat hne1 hne2 hne3
   refine hK.out _ _ ⟨(blk_cell BK1.out 0).trans rfl,(blk_cell BK1.out 1).trans rfl,(blk_cell BK3.out 1).trans rfl,((HB.out.cell (World.block_lt_of_cell? w _ hw0)).trans hw0),((HB.out.cell (World.block_lt_of_cell? w _ hw1)).trans hw1),((HB.out.cell (World.block_lt_of_cell? w _ hw2)).trans hw2)⟩ (fun hHeld=>?_)
   clear hK K
   refine norm_ (a':=?_) ?_ ?_
   rotate_left
   ·show Act.put _ (some 24) _=_
    simp only[Act.put,List.setIfInBounds_toArray,List.set_cons_zero,List.set_cons_succ,i64_w,i32_w]
    rfl
   refine pu 10 25 HT_ ?_
   obtain⟨A1,c1,rfl⟩:=Kd.R_slice HO.out
   have hfz1:=blk_frozen BK3.out 1
   have hcz1:w7.cell? ⟨w.heap.size+2,1,none⟩=some (.slice Ao k co):=(blk_cell BK3.out 1).trans rfl
   refine last_ (i:=11) (N:=none) #[true,true,true,true,true,true,true,true,true,true,true,true] rfl rfl (one_of HT_.out (by kernel_rfl)) (by decide) (fun K hK=>?_)
   refine skip_ (w1:=?_) (by rfl) rfl ?_ ?_
   rotate_left
   ·go_simp
    rfl
   refine hK.out _ _ ?_
   clear hK K
   refine done_ (done_of HT_.out (by kernel_rfl)) ?_
   try go_wp2
   go_roundw
   case rel =>
    have hL:min (k+1) l.length=k+1:=by omega
    have e2:w.heap.size+1+1=w.heap.size+2:=rfl
    rw[HL1.out] at HO
    rw[hL]
    exact⟨k+1,by omega,by go_num,A1,c1,⟨blk_far BK1.out hg13 _⟩,⟨blk_far BK2.out hg23 _⟩,⟨blk_put BK3.out 1 (.slice A1 (k+1) c1) rfl⟩,⟨Kd.R_set HO.out BK3.out (by decide) 1 (.slice A1 (k+1) c1)⟩,⟨below_set HB.out GE3.out⟩⟩
   case measure=>simp[intOf];omega
  ·obtain rfl:k=l.length:=by omega
   have hcz3:wr.cell? ⟨w.heap.size+2,0,none⟩=some (.int .i64 sp):=(blk_cell BK3.out 0).trans rfl
   have hcz4:wr.cell? ⟨w.heap.size+2,1,none⟩=some (.slice Ao l.length co):=(blk_cell BK3.out 1).trans rfl
   have hcz5:wr.cell? ⟨w.heap.size+1,0,none⟩=some (.int .i64 0):=(blk_cell BK2.out 0).trans rfl
   have hcz6:wr.cell? ⟨w.heap.size+1,1,none⟩=some (.slice none 0 0):=(blk_cell BK2.out 1).trans rfl
   have hf5:=blk_frozen BK2.out 0
   have hf6:=blk_frozen BK2.out 1
   have GE2:=Aside0.mk (show w.heap.size<=w.heap.size+1 by omega)
   go_wp2
   have hp:=blk_put (blk_put BK2.out 0 (.int .i64 sp) rfl) 1 (.slice Ao l.length co) rfl
   refine bodyPost_ret (results_cell_row rfl _ _ (w.heap.size+1) 25 #[.int .i64 sp,.slice Ao l.length co] (0,0) _ rfl hp Tryz.underlying25 rfl (by kernel_rfl)) rfl ?_
   have h0:=HO.out
   rw[List.take_length] at h0
   exact⟨Ao,co,rfl,Kd.R_set (Kd.R_set h0 BK2.out (by decide) 0 _) (blk_put BK2.out 0 (.int .i64 sp) rfl) (by decide) 1 _,below_set (below_set HB.out GE2.out) GE2.out⟩
end Go.Proofs.YtgpegjmbofgmmaaGreat.jou
namespace Go.Proofs.YtgpegjmbofgmmaaGreat.jou
open Go.RowKit Go.Proofs.YtgpegjmbofgmmaaGreatW.PrintWords Go.Proofs.YtgpegjmbofgmmaaGreatW.PrintLast Go.Proofs.YtgpegjmbofgmmaaGreat.PJop Go.Cod
set_option linter.unusedVariables false
set_option linter.unusedSimpArgs false
theorem info3i:(Tryz.prog.info? 3).map (fun i=>(i.zero,i.size,i.bytes))=some (some (.int .i64 0),1,8):=by kernel_rfl
section
variable {ops:Array Oper} {rest:List Oper} {o:Oper} {a:Act} {Q:Exit->Act->World->Prop}
theorem copy_ints {W w0:World} (hgd:o.guard=none) (s x:Operand) (ho:o.op = .call {callee := .builtin .append,args := #[s,x],argTypes := #[26,26]})
  (xs:List Int) (A:Option Addr) (c:Nat) (hs:a.eval s = .slice none 0 0) (hx:a.eval x = .slice A xs.length c) (HR:Kd.C (Kd.int .i64) W A xs.length xs) (HB:Below w0.heap.size w0 W) (hl:xs.length<=2000000)
  (h : ∀A' c' w1,Kd.R (Kd.int .i64) 3 w1 w0.heap.size (fun _=>True) (.slice A' xs.length c') xs->Below w0.heap.size w0 w1->W.grownBy w1 none->wpList Tryz.prog ops Q rest (a.put o.dst (.slice A' xs.length c')) w1):wpList Tryz.prog ops Q (o::rest) a W:=by
 refine Kd.R_append_row (fun z:Int=>Value.int .i64 z) 0 (w0:=w0) w0.heap.size hgd s x 26 3 (.int .i64 0) 8 ho Tryz.underlying26 info3i rfl (by omega) (.slice none 0 0) [] xs A xs.length c (fun _=>True) hs hx (fun _ _=>trivial) (Kd.R_nil _ _ _ _ _) HR HB HB.size (by simp;omega) ?_
 intro v w1 ho hb hg hat
 obtain⟨A',c',rfl⟩:=Kd.R_slice ho
 exact h A' c' w1 ho hb hg
theorem copy_words {W w0:World} (hgd:o.guard=none) (s x:Operand) (ho:o.op = .call {callee := .builtin .append,args := #[s,x],argTypes := #[27,27]})
  (xs:List Int) (A:Option Addr) (c:Nat) (hs:a.eval s = .slice none 0 0) (hx:a.eval x = .slice A xs.length c) (HR:Kd.C (Kd.int .u32) W A xs.length xs) (HB:Below w0.heap.size w0 W) (hl:xs.length<=2000000)
  (h : ∀A' c' w1,Kd.R (Kd.int .u32) 56 w1 w0.heap.size (fun _=>True) (.slice A' xs.length c') xs->Below w0.heap.size w0 w1->W.grownBy w1 none->wpList Tryz.prog ops Q rest (a.put o.dst (.slice A' xs.length c')) w1):wpList Tryz.prog ops Q (o::rest) a W:=by
 refine Kd.R_append_row (fun z:Int=>Value.int .u32 z) 0 (w0:=w0) w0.heap.size hgd s x 27 56 (.int .u32 0) 4 ho Tryz.underlying27 info56 rfl (by omega) (.slice none 0 0) [] xs A xs.length c (fun _=>True) hs hx (fun _ _=>trivial) (Kd.R_nil _ _ _ _ _) HR HB HB.size (by simp;omega) ?_
 intro v w1 ho hb hg hat
 obtain⟨A',c',rfl⟩:=Kd.R_slice ho
 exact h A' c' w1 ho hb hg
end
section
variable {W w:World} {g:Nat} {a0 a1 a2 a3 a4 a5 a6 a7 a8 a9 a10 a11 b0 b1 b2 b3 b4 b5 b6 b7 b8 b9 b10 b11:Value}
theorem put12_0 (h:W.heap[g]?=some (.cells #[a0,a1,a2,a3,a4,a5,a6,a7,a8,a9,a10,a11] 31 (0,0))):(W.setCell ⟨g,0,none⟩ b0).heap[g]?=some (.cells #[b0,a1,a2,a3,a4,a5,a6,a7,a8,a9,a10,a11] 31 (0,0)):=blk_put h 0 b0 rfl
theorem put12_1 (h:(W.setCell ⟨g,0,none⟩ b0).heap[g]?=some (.cells #[b0,a1,a2,a3,a4,a5,a6,a7,a8,a9,a10,a11] 31 (0,0))):((W.setCell ⟨g,0,none⟩ b0).setCell ⟨g,1,none⟩ b1).heap[g]?=some (.cells #[b0,b1,a2,a3,a4,a5,a6,a7,a8,a9,a10,a11] 31 (0,0)):=blk_put h 1 b1 rfl
theorem put12_2 (h:((W.setCell ⟨g,0,none⟩ b0).setCell ⟨g,1,none⟩ b1).heap[g]?=some (.cells #[b0,b1,a2,a3,a4,a5,a6,a7,a8,a9,a10,a11] 31 (0,0))):(((W.setCell ⟨g,0,none⟩ b0).setCell ⟨g,1,none⟩ b1).setCell ⟨g,2,none⟩ b2).heap[g]?=some (.cells #[b0,b1,b2,a3,a4,a5,a6,a7,a8,a9,a10,a11] 31 (0,0)):=blk_put h 2 b2 rfl
theorem put12_3 (h:(((W.setCell ⟨g,0,none⟩ b0).setCell ⟨g,1,none⟩ b1).setCell ⟨g,2,none⟩ b2).heap[g]?=some (.cells #[b0,b1,b2,a3,a4,a5,a6,a7,a8,a9,a10,a11] 31 (0,0))):((((W.setCell ⟨g,0,none⟩ b0).setCell ⟨g,1,none⟩ b1).setCell ⟨g,2,none⟩ b2).setCell ⟨g,3,none⟩ b3).heap[g]?=some (.cells #[b0,b1,b2,b3,a4,a5,a6,a7,a8,a9,a10,a11] 31 (0,0)):=blk_put h 3 b3 rfl
theorem put12_4 (h:((((W.setCell ⟨g,0,none⟩ b0).setCell ⟨g,1,none⟩ b1).setCell ⟨g,2,none⟩ b2).setCell ⟨g,3,none⟩ b3).heap[g]?=some (.cells #[b0,b1,b2,b3,a4,a5,a6,a7,a8,a9,a10,a11] 31 (0,0))):(((((W.setCell ⟨g,0,none⟩ b0).setCell ⟨g,1,none⟩ b1).setCell ⟨g,2,none⟩ b2).setCell ⟨g,3,none⟩ b3).setCell ⟨g,4,none⟩ b4).heap[g]?=some (.cells #[b0,b1,b2,b3,b4,a5,a6,a7,a8,a9,a10,a11] 31 (0,0)):=blk_put h 4 b4 rfl
theorem put12_5 (h:(((((W.setCell ⟨g,0,none⟩ b0).setCell ⟨g,1,none⟩ b1).setCell ⟨g,2,none⟩ b2).setCell ⟨g,3,none⟩ b3).setCell ⟨g,4,none⟩ b4).heap[g]?=some (.cells #[b0,b1,b2,b3,b4,a5,a6,a7,a8,a9,a10,a11] 31 (0,0))):((((((W.setCell ⟨g,0,none⟩ b0).setCell ⟨g,1,none⟩ b1).setCell ⟨g,2,none⟩ b2).setCell ⟨g,3,none⟩ b3).setCell ⟨g,4,none⟩ b4).setCell ⟨g,5,none⟩ b5).heap[g]?=some (.cells #[b0,b1,b2,b3,b4,b5,a6,a7,a8,a9,a10,a11] 31 (0,0)):=blk_put h 5 b5 rfl
theorem put12_6 (h:((((((W.setCell ⟨g,0,none⟩ b0).setCell ⟨g,1,none⟩ b1).setCell ⟨g,2,none⟩ b2).setCell ⟨g,3,none⟩ b3).setCell ⟨g,4,none⟩ b4).setCell ⟨g,5,none⟩ b5).heap[g]?=some (.cells #[b0,b1,b2,b3,b4,b5,a6,a7,a8,a9,a10,a11] 31 (0,0))):(((((((W.setCell ⟨g,0,none⟩ b0).setCell ⟨g,1,none⟩ b1).setCell ⟨g,2,none⟩ b2).setCell ⟨g,3,none⟩ b3).setCell ⟨g,4,none⟩ b4).setCell ⟨g,5,none⟩ b5).setCell ⟨g,6,none⟩ b6).heap[g]?=some (.cells #[b0,b1,b2,b3,b4,b5,b6,a7,a8,a9,a10,a11] 31 (0,0)):=blk_put h 6 b6 rfl
theorem put12_7 (h:(((((((W.setCell ⟨g,0,none⟩ b0).setCell ⟨g,1,none⟩ b1).setCell ⟨g,2,none⟩ b2).setCell ⟨g,3,none⟩ b3).setCell ⟨g,4,none⟩ b4).setCell ⟨g,5,none⟩ b5).setCell ⟨g,6,none⟩ b6).heap[g]?=some (.cells #[b0,b1,b2,b3,b4,b5,b6,a7,a8,a9,a10,a11] 31 (0,0))):((((((((W.setCell ⟨g,0,none⟩ b0).setCell ⟨g,1,none⟩ b1).setCell ⟨g,2,none⟩ b2).setCell ⟨g,3,none⟩ b3).setCell ⟨g,4,none⟩ b4).setCell ⟨g,5,none⟩ b5).setCell ⟨g,6,none⟩ b6).setCell ⟨g,7,none⟩ b7).heap[g]?=some (.cells #[b0,b1,b2,b3,b4,b5,b6,b7,a8,a9,a10,a11] 31 (0,0)):=blk_put h 7 b7 rfl
theorem put12_8 (h:((((((((W.setCell ⟨g,0,none⟩ b0).setCell ⟨g,1,none⟩ b1).setCell ⟨g,2,none⟩ b2).setCell ⟨g,3,none⟩ b3).setCell ⟨g,4,none⟩ b4).setCell ⟨g,5,none⟩ b5).setCell ⟨g,6,none⟩ b6).setCell ⟨g,7,none⟩ b7).heap[g]?=some (.cells #[b0,b1,b2,b3,b4,b5,b6,b7,a8,a9,a10,a11] 31 (0,0))):(((((((((W.setCell ⟨g,0,none⟩ b0).setCell ⟨g,1,none⟩ b1).setCell ⟨g,2,none⟩ b2).setCell ⟨g,3,none⟩ b3).setCell ⟨g,4,none⟩ b4).setCell ⟨g,5,none⟩ b5).setCell ⟨g,6,none⟩ b6).setCell ⟨g,7,none⟩ b7).setCell ⟨g,8,none⟩ b8).heap[g]?=some (.cells #[b0,b1,b2,b3,b4,b5,b6,b7,b8,a9,a10,a11] 31 (0,0)):=blk_put h 8 b8 rfl
theorem put12_9 (h:(((((((((W.setCell ⟨g,0,none⟩ b0).setCell ⟨g,1,none⟩ b1).setCell ⟨g,2,none⟩ b2).setCell ⟨g,3,none⟩ b3).setCell ⟨g,4,none⟩ b4).setCell ⟨g,5,none⟩ b5).setCell ⟨g,6,none⟩ b6).setCell ⟨g,7,none⟩ b7).setCell ⟨g,8,none⟩ b8).heap[g]?=some (.cells #[b0,b1,b2,b3,b4,b5,b6,b7,b8,a9,a10,a11] 31 (0,0))):((((((((((W.setCell ⟨g,0,none⟩ b0).setCell ⟨g,1,none⟩ b1).setCell ⟨g,2,none⟩ b2).setCell ⟨g,3,none⟩ b3).setCell ⟨g,4,none⟩ b4).setCell ⟨g,5,none⟩ b5).setCell ⟨g,6,none⟩ b6).setCell ⟨g,7,none⟩ b7).setCell ⟨g,8,none⟩ b8).setCell ⟨g,9,none⟩ b9).heap[g]?=some (.cells #[b0,b1,b2,b3,b4,b5,b6,b7,b8,b9,a10,a11] 31 (0,0)):=blk_put h 9 b9 rfl
theorem put12_10 (h:((((((((((W.setCell ⟨g,0,none⟩ b0).setCell ⟨g,1,none⟩ b1).setCell ⟨g,2,none⟩ b2).setCell ⟨g,3,none⟩ b3).setCell ⟨g,4,none⟩ b4).setCell ⟨g,5,none⟩ b5).setCell ⟨g,6,none⟩ b6).setCell ⟨g,7,none⟩ b7).setCell ⟨g,8,none⟩ b8).setCell ⟨g,9,none⟩ b9).heap[g]?=some (.cells #[b0,b1,b2,b3,b4,b5,b6,b7,b8,b9,a10,a11] 31 (0,0))):(((((((((((W.setCell ⟨g,0,none⟩ b0).setCell ⟨g,1,none⟩ b1).setCell ⟨g,2,none⟩ b2).setCell ⟨g,3,none⟩ b3).setCell ⟨g,4,none⟩ b4).setCell ⟨g,5,none⟩ b5).setCell ⟨g,6,none⟩ b6).setCell ⟨g,7,none⟩ b7).setCell ⟨g,8,none⟩ b8).setCell ⟨g,9,none⟩ b9).setCell ⟨g,10,none⟩ b10).heap[g]?=some (.cells #[b0,b1,b2,b3,b4,b5,b6,b7,b8,b9,b10,a11] 31 (0,0)):=blk_put h 10 b10 rfl
theorem put12_11 (h:(((((((((((W.setCell ⟨g,0,none⟩ b0).setCell ⟨g,1,none⟩ b1).setCell ⟨g,2,none⟩ b2).setCell ⟨g,3,none⟩ b3).setCell ⟨g,4,none⟩ b4).setCell ⟨g,5,none⟩ b5).setCell ⟨g,6,none⟩ b6).setCell ⟨g,7,none⟩ b7).setCell ⟨g,8,none⟩ b8).setCell ⟨g,9,none⟩ b9).setCell ⟨g,10,none⟩ b10).heap[g]?=some (.cells #[b0,b1,b2,b3,b4,b5,b6,b7,b8,b9,b10,a11] 31 (0,0))):((((((((((((W.setCell ⟨g,0,none⟩ b0).setCell ⟨g,1,none⟩ b1).setCell ⟨g,2,none⟩ b2).setCell ⟨g,3,none⟩ b3).setCell ⟨g,4,none⟩ b4).setCell ⟨g,5,none⟩ b5).setCell ⟨g,6,none⟩ b6).setCell ⟨g,7,none⟩ b7).setCell ⟨g,8,none⟩ b8).setCell ⟨g,9,none⟩ b9).setCell ⟨g,10,none⟩ b10).setCell ⟨g,11,none⟩ b11).heap[g]?=some (.cells #[b0,b1,b2,b3,b4,b5,b6,b7,b8,b9,b10,b11] 31 (0,0)):=blk_put h 11 b11 rfl
theorem put12 (h:W.heap[g]?=some (.cells #[a0,a1,a2,a3,a4,a5,a6,a7,a8,a9,a10,a11] 31 (0,0))):((((((((((((W.setCell ⟨g,0,none⟩ b0).setCell ⟨g,1,none⟩ b1).setCell ⟨g,2,none⟩ b2).setCell ⟨g,3,none⟩ b3).setCell ⟨g,4,none⟩ b4).setCell ⟨g,5,none⟩ b5).setCell ⟨g,6,none⟩ b6).setCell ⟨g,7,none⟩ b7).setCell ⟨g,8,none⟩ b8).setCell ⟨g,9,none⟩ b9).setCell ⟨g,10,none⟩ b10).setCell ⟨g,11,none⟩ b11).heap[g]?=some (.cells #[b0,b1,b2,b3,b4,b5,b6,b7,b8,b9,b10,b11] 31 (0,0)):=put12_11 (put12_10 (put12_9 (put12_8 (put12_7 (put12_6 (put12_5 (put12_4 (put12_3 (put12_2 (put12_1 (put12_0 h)))))))))))
theorem R_put12 {α:Type} {d:Kd α} {e base:Nat} {ok:Nat->Prop} {v:Value} {xs:List α} (hr:d.R e W base ok v xs) (ht : ∀q,q∈e::d.E->q≠31) (h:W.heap[g]?=some (.cells #[a0,a1,a2,a3,a4,a5,a6,a7,a8,a9,a10,a11] 31 (0,0))):d.R e ((((((((((((W.setCell ⟨g,0,none⟩ b0).setCell ⟨g,1,none⟩ b1).setCell ⟨g,2,none⟩ b2).setCell ⟨g,3,none⟩ b3).setCell ⟨g,4,none⟩ b4).setCell ⟨g,5,none⟩ b5).setCell ⟨g,6,none⟩ b6).setCell ⟨g,7,none⟩ b7).setCell ⟨g,8,none⟩ b8).setCell ⟨g,9,none⟩ b9).setCell ⟨g,10,none⟩ b10).setCell ⟨g,11,none⟩ b11) base ok v xs:=by
 have r0:=Kd.R_set hr h ht 0 b0
 have h1:(W.setCell ⟨g,0,none⟩ b0).heap[g]?=some (.cells #[b0,a1,a2,a3,a4,a5,a6,a7,a8,a9,a10,a11] 31 (0,0)):=put12_0 h
 have r1:=Kd.R_set r0 h1 ht 1 b1
 have h2:((W.setCell ⟨g,0,none⟩ b0).setCell ⟨g,1,none⟩ b1).heap[g]?=some (.cells #[b0,b1,a2,a3,a4,a5,a6,a7,a8,a9,a10,a11] 31 (0,0)):=put12_1 h1
 have r2:=Kd.R_set r1 h2 ht 2 b2
 have h3:(((W.setCell ⟨g,0,none⟩ b0).setCell ⟨g,1,none⟩ b1).setCell ⟨g,2,none⟩ b2).heap[g]?=some (.cells #[b0,b1,b2,a3,a4,a5,a6,a7,a8,a9,a10,a11] 31 (0,0)):=put12_2 h2
 have r3:=Kd.R_set r2 h3 ht 3 b3
 have h4:((((W.setCell ⟨g,0,none⟩ b0).setCell ⟨g,1,none⟩ b1).setCell ⟨g,2,none⟩ b2).setCell ⟨g,3,none⟩ b3).heap[g]?=some (.cells #[b0,b1,b2,b3,a4,a5,a6,a7,a8,a9,a10,a11] 31 (0,0)):=put12_3 h3
 have r4:=Kd.R_set r3 h4 ht 4 b4
 have h5:(((((W.setCell ⟨g,0,none⟩ b0).setCell ⟨g,1,none⟩ b1).setCell ⟨g,2,none⟩ b2).setCell ⟨g,3,none⟩ b3).setCell ⟨g,4,none⟩ b4).heap[g]?=some (.cells #[b0,b1,b2,b3,b4,a5,a6,a7,a8,a9,a10,a11] 31 (0,0)):=put12_4 h4
 have r5:=Kd.R_set r4 h5 ht 5 b5
 have h6:((((((W.setCell ⟨g,0,none⟩ b0).setCell ⟨g,1,none⟩ b1).setCell ⟨g,2,none⟩ b2).setCell ⟨g,3,none⟩ b3).setCell ⟨g,4,none⟩ b4).setCell ⟨g,5,none⟩ b5).heap[g]?=some (.cells #[b0,b1,b2,b3,b4,b5,a6,a7,a8,a9,a10,a11] 31 (0,0)):=put12_5 h5
 have r6:=Kd.R_set r5 h6 ht 6 b6
 have h7:(((((((W.setCell ⟨g,0,none⟩ b0).setCell ⟨g,1,none⟩ b1).setCell ⟨g,2,none⟩ b2).setCell ⟨g,3,none⟩ b3).setCell ⟨g,4,none⟩ b4).setCell ⟨g,5,none⟩ b5).setCell ⟨g,6,none⟩ b6).heap[g]?=some (.cells #[b0,b1,b2,b3,b4,b5,b6,a7,a8,a9,a10,a11] 31 (0,0)):=put12_6 h6
 have r7:=Kd.R_set r6 h7 ht 7 b7
 have h8:((((((((W.setCell ⟨g,0,none⟩ b0).setCell ⟨g,1,none⟩ b1).setCell ⟨g,2,none⟩ b2).setCell ⟨g,3,none⟩ b3).setCell ⟨g,4,none⟩ b4).setCell ⟨g,5,none⟩ b5).setCell ⟨g,6,none⟩ b6).setCell ⟨g,7,none⟩ b7).heap[g]?=some (.cells #[b0,b1,b2,b3,b4,b5,b6,b7,a8,a9,a10,a11] 31 (0,0)):=put12_7 h7
 have r8:=Kd.R_set r7 h8 ht 8 b8
 have h9:(((((((((W.setCell ⟨g,0,none⟩ b0).setCell ⟨g,1,none⟩ b1).setCell ⟨g,2,none⟩ b2).setCell ⟨g,3,none⟩ b3).setCell ⟨g,4,none⟩ b4).setCell ⟨g,5,none⟩ b5).setCell ⟨g,6,none⟩ b6).setCell ⟨g,7,none⟩ b7).setCell ⟨g,8,none⟩ b8).heap[g]?=some (.cells #[b0,b1,b2,b3,b4,b5,b6,b7,b8,a9,a10,a11] 31 (0,0)):=put12_8 h8
 have r9:=Kd.R_set r8 h9 ht 9 b9
 have h10:((((((((((W.setCell ⟨g,0,none⟩ b0).setCell ⟨g,1,none⟩ b1).setCell ⟨g,2,none⟩ b2).setCell ⟨g,3,none⟩ b3).setCell ⟨g,4,none⟩ b4).setCell ⟨g,5,none⟩ b5).setCell ⟨g,6,none⟩ b6).setCell ⟨g,7,none⟩ b7).setCell ⟨g,8,none⟩ b8).setCell ⟨g,9,none⟩ b9).heap[g]?=some (.cells #[b0,b1,b2,b3,b4,b5,b6,b7,b8,b9,a10,a11] 31 (0,0)):=put12_9 h9
 have r10:=Kd.R_set r9 h10 ht 10 b10
 have h11:(((((((((((W.setCell ⟨g,0,none⟩ b0).setCell ⟨g,1,none⟩ b1).setCell ⟨g,2,none⟩ b2).setCell ⟨g,3,none⟩ b3).setCell ⟨g,4,none⟩ b4).setCell ⟨g,5,none⟩ b5).setCell ⟨g,6,none⟩ b6).setCell ⟨g,7,none⟩ b7).setCell ⟨g,8,none⟩ b8).setCell ⟨g,9,none⟩ b9).setCell ⟨g,10,none⟩ b10).heap[g]?=some (.cells #[b0,b1,b2,b3,b4,b5,b6,b7,b8,b9,b10,a11] 31 (0,0)):=put12_10 h10
 have r11:=Kd.R_set r10 h11 ht 11 b11
 exact r11
theorem below12 (h:Below w.heap.size w W) (hg:w.heap.size<=g):Below w.heap.size w ((((((((((((W.setCell ⟨g,0,none⟩ b0).setCell ⟨g,1,none⟩ b1).setCell ⟨g,2,none⟩ b2).setCell ⟨g,3,none⟩ b3).setCell ⟨g,4,none⟩ b4).setCell ⟨g,5,none⟩ b5).setCell ⟨g,6,none⟩ b6).setCell ⟨g,7,none⟩ b7).setCell ⟨g,8,none⟩ b8).setCell ⟨g,9,none⟩ b9).setCell ⟨g,10,none⟩ b10).setCell ⟨g,11,none⟩ b11):=(below_set (below_set (below_set (below_set (below_set (below_set (below_set (below_set (below_set (below_set (below_set (below_set h hg) hg) hg) hg) hg) hg) hg) hg) hg) hg) hg) hg)
end
theorem below_none {W W':World} (h:W.grownBy W' none):Below W.heap.size W W':=⟨h.os,h.tape,h.output,h.size,fun i hi=>h.block i hi (by simp)⟩
set_option maxHeartbeats 4000000 in
set_option maxRecDepth 100000 in
theorem copied_9 (w:World) (kind node x y sp:Int) (AP:Option Addr) (cP:Nat) (l:List S58) (AN:Option Addr) (cN:Nat) (xs:List Int) (AB:Option Addr) (cB:Nat) (zs:List Int) (r0 r1 r2 r3:Int) (hP:Kd.C k58 w AP l.length l) (hN:Kd.C (Kd.int .i64) w AN xs.length xs) (hB:Kd.C (Kd.int .u32) w AB zs.length zs) (hl:l.length<=2000000) (hls : ∀j:Nat,j<l.length->(rd_T58 l j).f2.length<=2000000) (hxl:xs.length<=2000000) (hzl:zs.length<=2000000) :
  Calls Tryz.prog 9 #[.agg #[.int .i64 kind,.int .i64 node,.int .i64 x,.int .i64 y,.int .i64 sp,.slice AP l.length cP,.slice AN xs.length cN,.slice AB zs.length cB,.int .i64 r0,.int .i64 r1,.int .i64 r2,.int .i64 r3]] w fun e W' => ∃AQ cQ AM cM AW cW,e = .returned (.agg #[.int .i64 kind,.int .i64 node,.int .i64 x,.int .i64 y,.int .i64 sp,.slice AQ l.length cQ,.slice AM xs.length cM,.slice AW zs.length cW,.int .i64 r0,.int .i64 r1,.int .i64 r2,.int .i64 r3])/\(Kd.C k58 W' AQ l.length l/\l.length<=cQ)/\(Kd.C (Kd.int .i64) W' AM xs.length xs/\xs.length<=cM)/\(Kd.C (Kd.int .u32) W' AW zs.length zs/\zs.length<=cW)/\Below w.heap.size w W':=by
 have HN:=Aside0.mk hN
 have HZ:=Aside0.mk hB
 have HB0:=Aside0.mk (below_alloc (below_alloc (Below.refl w.heap.size w) (.cells #[.int .i64 kind,.int .i64 node,.int .i64 x,.int .i64 y,.int .i64 sp,.slice AP l.length cP,.slice AN xs.length cN,.slice AB zs.length cB,.int .i64 r0,.int .i64 r1,.int .i64 r2,.int .i64 r3] 31 (0,0))) (.cells #[.int .i64 0,.int .i64 0,.int .i64 0,.int .i64 0,.int .i64 0,.slice none 0 0,.slice none 0 0,.slice none 0 0,.int .i64 0,.int .i64 0,.int .i64 0,.int .i64 0] 31 (0,0)))
 have BK0:=Aside0.mk (blk_alloc (blk_new w (.cells #[.int .i64 kind,.int .i64 node,.int .i64 x,.int .i64 y,.int .i64 sp,.slice AP l.length cP,.slice AN xs.length cN,.slice AB zs.length cB,.int .i64 r0,.int .i64 r1,.int .i64 r2,.int .i64 r3] 31 (0,0))) (.cells #[.int .i64 0,.int .i64 0,.int .i64 0,.int .i64 0,.int .i64 0,.slice none 0 0,.slice none 0 0,.slice none 0 0,.int .i64 0,.int .i64 0,.int .i64 0,.int .i64 0] 31 (0,0)))
 have BR0:=Aside0.mk (heap_alloc2_new w (.cells #[.int .i64 kind,.int .i64 node,.int .i64 x,.int .i64 y,.int .i64 sp,.slice AP l.length cP,.slice AN xs.length cN,.slice AB zs.length cB,.int .i64 r0,.int .i64 r1,.int .i64 r2,.int .i64 r3] 31 (0,0)) (.cells #[.int .i64 0,.int .i64 0,.int .i64 0,.int .i64 0,.int .i64 0,.slice none 0 0,.slice none 0 0,.slice none 0 0,.int .i64 0,.int .i64 0,.int .i64 0,.int .i64 0] 31 (0,0)))
 have HC:=Aside0.mk (copyP_any _ sp AP cP l (Kd.C_below hP HB0.out) hl hls)
 have GE:=Aside0.mk (show w.heap.size<=w.heap.size+1 by omega)
 clear hP hN hB hls
 go_enter Tryz.func9,Tryz.ntmps9
 go_wp2_with fail
 generalize (w.alloc (.cells #[.int .i64 kind,.int .i64 node,.int .i64 x,.int .i64 y,.int .i64 sp,.slice AP l.length cP,.slice AN xs.length cN,.slice AB zs.length cB,.int .i64 r0,.int .i64 r1,.int .i64 r2,.int .i64 r3] 31 (0,0))).alloc (.cells #[.int .i64 0,.int .i64 0,.int .i64 0,.int .i64 0,.int .i64 0,.slice none 0 0,.slice none 0 0,.slice none 0 0,.int .i64 0,.int .i64 0,.int .i64 0,.int .i64 0] 31 (0,0))=W at HB0 BK0 BR0 HC ⊢
 refine HC.out.mono ?_
 rintro e w1 ⟨AQ,cQ,rfl,hR,hb⟩
 have HQ:=Aside0.mk (Kd.R_lower hR HB0.out.size)
 have BK1:=Aside0.mk (blk_below BK0.out hb)
 have BR1:=Aside0.mk (blk_below BR0.out hb)
 have HB1:=Aside0.mk (below_step HB0.out hb)
 clear hR hb HC HB0 BK0 BR0
 have z4:w1.cell? ⟨w.heap.size,4,none⟩=some (.int .i64 sp):=(blk_cell BK1.out 4).trans rfl
 have z5:w1.cell? ⟨w.heap.size,5,none⟩=some (.slice AP l.length cP):=(blk_cell BK1.out 5).trans rfl
 have y4:=blk_frozen BK1.out 4
 have y5:=blk_frozen BK1.out 5
 have BK2:=Aside0.mk (show((w1.setCell ⟨w.heap.size,4,none⟩ (.int .i64 sp)).setCell ⟨w.heap.size,5,none⟩ (.slice AQ l.length cQ)).heap[w.heap.size]?=some (.cells #[.int .i64 kind,.int .i64 node,.int .i64 x,.int .i64 y,.int .i64 sp,.slice AQ l.length cQ,.slice AN xs.length cN,.slice AB zs.length cB,.int .i64 r0,.int .i64 r1,.int .i64 r2,.int .i64 r3] 31 (0,0)) from blk_put (blk_put BK1.out 4 (.int .i64 sp) rfl) 5 (.slice AQ l.length cQ) rfl)
 have BR2:=Aside0.mk ((Below.heap_setCell _ ⟨w.heap.size,5,none⟩ (.slice AQ l.length cQ) (w.heap.size+1) (show ¬w.heap.size+1=w.heap.size by omega)).trans ((Below.heap_setCell w1 ⟨w.heap.size,4,none⟩ (.int .i64 sp) (w.heap.size+1) (show ¬w.heap.size+1=w.heap.size by omega)).trans BR1.out))
 have HB2:=Aside0.mk (below_set (j:=5) (v := .slice AQ l.length cQ) (below_set (j:=4) (v := .int .i64 sp) HB1.out (Nat.le_refl _)) (Nat.le_refl _))
 have HQ2:=Aside0.mk (Kd.R_set (Kd.R_set HQ.out BK1.out (by decide) 4 (.int .i64 sp)) (blk_put BK1.out 4 (.int .i64 sp) rfl) (by decide) 5 (.slice AQ l.length cQ))
 have q6:((w1.setCell ⟨w.heap.size,4,none⟩ (.int .i64 sp)).setCell ⟨w.heap.size,5,none⟩ (.slice AQ l.length cQ)).cell? ⟨w.heap.size,6,none⟩=some (.slice AN xs.length cN):=(blk_cell BK2.out 6).trans rfl
 clear BK1 BR1 HB1 HQ
 go_wp2_with (first
  | ((with_reducible refine gate_builtin (b := .append) (xs := #[.const (.slice none 0 0),.tmp 8]) rfl ?_);at_builtin;refine copy_ints (w0:=w) rfl (.const (.slice none 0 0)) (.tmp 8) rfl xs AN cN rfl rfl (Kd.C_below HN.out HB2.out) HB2.out hxl ?_;intro AM cM w3 hm hb hg;have hbx:=below_none hg;have BK3:=Aside0.mk (blk_below BK2.out hbx);have BR3:=Aside0.mk (blk_below BR2.out hbx);have HQ3:=Aside0.mk (Kd.R_below HQ2.out hbx);have HB3:=Aside0.mk hb;have HM3:=Aside0.mk hm;clear hm hb hg hbx q6 z4 z5 y4 y5;have z6:w3.cell? ⟨w.heap.size,6,none⟩=some (.slice AN xs.length cN):=(blk_cell BK3.out 6).trans rfl;have y6:=blk_frozen BK3.out 6;have BK4:=Aside0.mk (show(w3.setCell ⟨w.heap.size,6,none⟩ (.slice AM xs.length cM)).heap[w.heap.size]?=some (.cells #[.int .i64 kind,.int .i64 node,.int .i64 x,.int .i64 y,.int .i64 sp,.slice AQ l.length cQ,.slice AM xs.length cM,.slice AB zs.length cB,.int .i64 r0,.int .i64 r1,.int .i64 r2,.int .i64 r3] 31 (0,0)) from blk_put BK3.out 6 (.slice AM xs.length cM) rfl);have BR4:=Aside0.mk ((Below.heap_setCell w3 ⟨w.heap.size,6,none⟩ (.slice AM xs.length cM) (w.heap.size+1) (show ¬w.heap.size+1=w.heap.size by omega)).trans BR3.out);have HB4:=Aside0.mk (below_set (j:=6) (v := .slice AM xs.length cM) HB3.out (Nat.le_refl _));have HQ4:=Aside0.mk (Kd.R_set HQ3.out BK3.out (by decide) 6 (.slice AM xs.length cM));have HM4:=Aside0.mk (Kd.R_set HM3.out BK3.out (by decide) 6 (.slice AM xs.length cM));have q7:(w3.setCell ⟨w.heap.size,6,none⟩ (.slice AM xs.length cM)).cell? ⟨w.heap.size,7,none⟩=some (.slice AB zs.length cB):=(blk_cell BK4.out 7).trans rfl)
  | ((with_reducible refine gate_builtin (b := .append) (xs := #[.const (.slice none 0 0),.tmp 12]) rfl ?_);at_builtin;refine copy_words (w0:=w) rfl (.const (.slice none 0 0)) (.tmp 12) rfl zs AB cB rfl rfl (Kd.C_below HZ.out HB4.out) HB4.out hzl ?_;intro AW cW w5 hm hb hg;have hbx:=below_none hg;have BK5:=Aside0.mk (blk_below BK4.out hbx);have BR5:=Aside0.mk (blk_below BR4.out hbx);have HQ5:=Aside0.mk (Kd.R_below HQ4.out hbx);have HM5:=Aside0.mk (Kd.R_below HM4.out hbx);have HB5:=Aside0.mk hb;have HW5:=Aside0.mk hm;clear hm hb hg hbx q7 z6 y6;have z7:w5.cell? ⟨w.heap.size,7,none⟩=some (.slice AB zs.length cB):=(blk_cell BK5.out 7).trans rfl;have y7:=blk_frozen BK5.out 7;have BK6:=Aside0.mk (show(w5.setCell ⟨w.heap.size,7,none⟩ (.slice AW zs.length cW)).heap[w.heap.size]?=some (.cells #[.int .i64 kind,.int .i64 node,.int .i64 x,.int .i64 y,.int .i64 sp,.slice AQ l.length cQ,.slice AM xs.length cM,.slice AW zs.length cW,.int .i64 r0,.int .i64 r1,.int .i64 r2,.int .i64 r3] 31 (0,0)) from blk_put BK5.out 7 (.slice AW zs.length cW) rfl);have BR6:=Aside0.mk ((Below.heap_setCell w5 ⟨w.heap.size,7,none⟩ (.slice AW zs.length cW) (w.heap.size+1) (show ¬w.heap.size+1=w.heap.size by omega)).trans BR5.out);have HB6:=Aside0.mk (below_set (j:=7) (v := .slice AW zs.length cW) HB5.out (Nat.le_refl _));have HQ6:=Aside0.mk (Kd.R_set HQ5.out BK5.out (by decide) 7 (.slice AW zs.length cW));have HM6:=Aside0.mk (Kd.R_set HM5.out BK5.out (by decide) 7 (.slice AW zs.length cW));have HW6:=Aside0.mk (Kd.R_set HW5.out BK5.out (by decide) 7 (.slice AW zs.length cW));have ca0:(w5.setCell ⟨w.heap.size,7,none⟩ (.slice AW zs.length cW)).cell? ⟨w.heap.size,0,none⟩=some (.int .i64 kind):=(blk_cell BK6.out 0).trans rfl;have ca1:(w5.setCell ⟨w.heap.size,7,none⟩ (.slice AW zs.length cW)).cell? ⟨w.heap.size,1,none⟩=some (.int .i64 node):=(blk_cell BK6.out 1).trans rfl;have ca2:(w5.setCell ⟨w.heap.size,7,none⟩ (.slice AW zs.length cW)).cell? ⟨w.heap.size,2,none⟩=some (.int .i64 x):=(blk_cell BK6.out 2).trans rfl;have ca3:(w5.setCell ⟨w.heap.size,7,none⟩ (.slice AW zs.length cW)).cell? ⟨w.heap.size,3,none⟩=some (.int .i64 y):=(blk_cell BK6.out 3).trans rfl;have ca4:(w5.setCell ⟨w.heap.size,7,none⟩ (.slice AW zs.length cW)).cell? ⟨w.heap.size,4,none⟩=some (.int .i64 sp):=(blk_cell BK6.out 4).trans rfl;have ca5:(w5.setCell ⟨w.heap.size,7,none⟩ (.slice AW zs.length cW)).cell? ⟨w.heap.size,5,none⟩=some (.slice AQ l.length cQ):=(blk_cell BK6.out 5).trans rfl;have ca6:(w5.setCell ⟨w.heap.size,7,none⟩ (.slice AW zs.length cW)).cell? ⟨w.heap.size,6,none⟩=some (.slice AM xs.length cM):=(blk_cell BK6.out 6).trans rfl;have ca7:(w5.setCell ⟨w.heap.size,7,none⟩ (.slice AW zs.length cW)).cell? ⟨w.heap.size,7,none⟩=some (.slice AW zs.length cW):=(blk_cell BK6.out 7).trans rfl;have ca8:(w5.setCell ⟨w.heap.size,7,none⟩ (.slice AW zs.length cW)).cell? ⟨w.heap.size,8,none⟩=some (.int .i64 r0):=(blk_cell BK6.out 8).trans rfl;have ca9:(w5.setCell ⟨w.heap.size,7,none⟩ (.slice AW zs.length cW)).cell? ⟨w.heap.size,9,none⟩=some (.int .i64 r1):=(blk_cell BK6.out 9).trans rfl;have ca10:(w5.setCell ⟨w.heap.size,7,none⟩ (.slice AW zs.length cW)).cell? ⟨w.heap.size,10,none⟩=some (.int .i64 r2):=(blk_cell BK6.out 10).trans rfl;have ca11:(w5.setCell ⟨w.heap.size,7,none⟩ (.slice AW zs.length cW)).cell? ⟨w.heap.size,11,none⟩=some (.int .i64 r3):=(blk_cell BK6.out 11).trans rfl;have cb0:(w5.setCell ⟨w.heap.size,7,none⟩ (.slice AW zs.length cW)).cell? ⟨w.heap.size+1,0,none⟩=some (.int .i64 0):=(blk_cell BR6.out 0).trans rfl;have cb1:(w5.setCell ⟨w.heap.size,7,none⟩ (.slice AW zs.length cW)).cell? ⟨w.heap.size+1,1,none⟩=some (.int .i64 0):=(blk_cell BR6.out 1).trans rfl;have cb2:(w5.setCell ⟨w.heap.size,7,none⟩ (.slice AW zs.length cW)).cell? ⟨w.heap.size+1,2,none⟩=some (.int .i64 0):=(blk_cell BR6.out 2).trans rfl;have cb3:(w5.setCell ⟨w.heap.size,7,none⟩ (.slice AW zs.length cW)).cell? ⟨w.heap.size+1,3,none⟩=some (.int .i64 0):=(blk_cell BR6.out 3).trans rfl;have cb4:(w5.setCell ⟨w.heap.size,7,none⟩ (.slice AW zs.length cW)).cell? ⟨w.heap.size+1,4,none⟩=some (.int .i64 0):=(blk_cell BR6.out 4).trans rfl;have cb5:(w5.setCell ⟨w.heap.size,7,none⟩ (.slice AW zs.length cW)).cell? ⟨w.heap.size+1,5,none⟩=some (.slice none 0 0):=(blk_cell BR6.out 5).trans rfl;have cb6:(w5.setCell ⟨w.heap.size,7,none⟩ (.slice AW zs.length cW)).cell? ⟨w.heap.size+1,6,none⟩=some (.slice none 0 0):=(blk_cell BR6.out 6).trans rfl;have cb7:(w5.setCell ⟨w.heap.size,7,none⟩ (.slice AW zs.length cW)).cell? ⟨w.heap.size+1,7,none⟩=some (.slice none 0 0):=(blk_cell BR6.out 7).trans rfl;have cb8:(w5.setCell ⟨w.heap.size,7,none⟩ (.slice AW zs.length cW)).cell? ⟨w.heap.size+1,8,none⟩=some (.int .i64 0):=(blk_cell BR6.out 8).trans rfl;have cb9:(w5.setCell ⟨w.heap.size,7,none⟩ (.slice AW zs.length cW)).cell? ⟨w.heap.size+1,9,none⟩=some (.int .i64 0):=(blk_cell BR6.out 9).trans rfl;have cb10:(w5.setCell ⟨w.heap.size,7,none⟩ (.slice AW zs.length cW)).cell? ⟨w.heap.size+1,10,none⟩=some (.int .i64 0):=(blk_cell BR6.out 10).trans rfl;have cb11:(w5.setCell ⟨w.heap.size,7,none⟩ (.slice AW zs.length cW)).cell? ⟨w.heap.size+1,11,none⟩=some (.int .i64 0):=(blk_cell BR6.out 11).trans rfl;have cf0:=blk_frozen BR6.out 0;have cf1:=blk_frozen BR6.out 1;have cf2:=blk_frozen BR6.out 2;have cf3:=blk_frozen BR6.out 3;have cf4:=blk_frozen BR6.out 4;have cf5:=blk_frozen BR6.out 5;have cf6:=blk_frozen BR6.out 6;have cf7:=blk_frozen BR6.out 7;have cf8:=blk_frozen BR6.out 8;have cf9:=blk_frozen BR6.out 9;have cf10:=blk_frozen BR6.out 10;have cf11:=blk_frozen BR6.out 11))
 have hq:=R_put12 (b0 := .int .i64 kind) (b1 := .int .i64 node) (b2 := .int .i64 x) (b3 := .int .i64 y) (b4 := .int .i64 sp) (b5 := .slice AQ l.length cQ) (b6 := .slice AM xs.length cM) (b7 := .slice AW zs.length cW) (b8 := .int .i64 r0) (b9 := .int .i64 r1) (b10 := .int .i64 r2) (b11 := .int .i64 r3) HQ6.out (by decide) BR6.out
 have hm:=R_put12 (b0 := .int .i64 kind) (b1 := .int .i64 node) (b2 := .int .i64 x) (b3 := .int .i64 y) (b4 := .int .i64 sp) (b5 := .slice AQ l.length cQ) (b6 := .slice AM xs.length cM) (b7 := .slice AW zs.length cW) (b8 := .int .i64 r0) (b9 := .int .i64 r1) (b10 := .int .i64 r2) (b11 := .int .i64 r3) HM6.out (by decide) BR6.out
 have hw:=R_put12 (b0 := .int .i64 kind) (b1 := .int .i64 node) (b2 := .int .i64 x) (b3 := .int .i64 y) (b4 := .int .i64 sp) (b5 := .slice AQ l.length cQ) (b6 := .slice AM xs.length cM) (b7 := .slice AW zs.length cW) (b8 := .int .i64 r0) (b9 := .int .i64 r1) (b10 := .int .i64 r2) (b11 := .int .i64 r3) HW6.out (by decide) BR6.out
 have bk:=put12 (b0 := .int .i64 kind) (b1 := .int .i64 node) (b2 := .int .i64 x) (b3 := .int .i64 y) (b4 := .int .i64 sp) (b5 := .slice AQ l.length cQ) (b6 := .slice AM xs.length cM) (b7 := .slice AW zs.length cW) (b8 := .int .i64 r0) (b9 := .int .i64 r1) (b10 := .int .i64 r2) (b11 := .int .i64 r3) BR6.out
 have hB:=below12 (b0 := .int .i64 kind) (b1 := .int .i64 node) (b2 := .int .i64 x) (b3 := .int .i64 y) (b4 := .int .i64 sp) (b5 := .slice AQ l.length cQ) (b6 := .slice AM xs.length cM) (b7 := .slice AW zs.length cW) (b8 := .int .i64 r0) (b9 := .int .i64 r1) (b10 := .int .i64 r2) (b11 := .int .i64 r3) HB6.out GE.out
 clear BK6 HQ6 HM6 HW6 BR6 HB6
 refine bodyPost_ret (results_cell_row rfl _ _ (w.heap.size+1) 31 #[.int .i64 kind,.int .i64 node,.int .i64 x,.int .i64 y,.int .i64 sp,.slice AQ l.length cQ,.slice AM xs.length cM,.slice AW zs.length cW,.int .i64 r0,.int .i64 r1,.int .i64 r2,.int .i64 r3] (0,0) _ rfl bk Tryz.underlying31 rfl (by kernel_rfl)) rfl ?_
 obtain⟨_,c1,d1⟩:=Kd.R_reads' hq
 obtain⟨_,c2,d2⟩:=Kd.R_reads' hm
 obtain⟨_,c3,d3⟩:=Kd.R_reads' hw
 exact⟨AQ,cQ,AM,cM,AW,cW,rfl,⟨d1,c1⟩,⟨d2,c2⟩,⟨d3,c3⟩,hB⟩
end Go.Proofs.YtgpegjmbofgmmaaGreat.jou
