/- A part of the proof. No condition. -/
import Derived.Test.YtgpegjmbofgmmaaGreatRPu
import Derived.Test.YtgpegjmbofgmmaaGreatRCg
import Derived.Laws.EntriesVeiled
namespace Go.Proofs.YtgpegjmbofgmmaaGreat.jou
open Go.RowKit Go.Proofs.YtgpegjmbofgmmaaGreatW.PrintWords Go.Proofs.YtgpegjmbofgmmaaGreatW.PrintLast Go.Proofs.YtgpegjmbofgmmaaGreat.PJop Go.Cod
set_option linter.unusedVariables false
set_option linter.unusedSimpArgs false
abbrev OW (W:World) (base:Nat) (v:Value) (xs:List Int):Prop:=(Kd.int .u32).R 56 W base (fun _=>True) v xs
structure MS (w:World) (cw ch:Nat) (fv:Value) (gp r:Nat) (g:Nat->Int) (k:Nat) (W:World):Prop where
 row : ∃v,W.heap[gp]?=some (.cells #[.int .i64 cw,.int .i64 ch,v] 58 (0,0))/\OW W w.heap.size v ((List.range k).map g)
 below:Below w.heap.size w W
 maker:W.heap[w.heap.size]?=some (.cells #[.int .i64 cw,.int .i64 ch,fv] 276 (0,0))
 res:W.heap[r]?=some (.cells #[.int .i64 0,.int .i64 0,.slice none 0 0] 58 (0,0))
theorem MS.cw {w:World} {cw ch:Nat} {fv:Value} {gp r:Nat} {g:Nat->Int} {k:Nat} {W:World} (h:MS w cw ch fv gp r g k W):W.cell? ⟨w.heap.size,0,none⟩=some (.int .i64 cw):=(blk_cell h.maker 0).trans rfl
theorem MS.ch {w:World} {cw ch:Nat} {fv:Value} {gp r:Nat} {g:Nat->Int} {k:Nat} {W:World} (h:MS w cw ch fv gp r g k W):W.cell? ⟨w.heap.size,1,none⟩=some (.int .i64 ch):=(blk_cell h.maker 1).trans rfl
theorem MS.fn {w:World} {cw ch:Nat} {fv:Value} {gp r:Nat} {g:Nat->Int} {k:Nat} {W:World} (h:MS w cw ch fv gp r g k W):W.cell? ⟨w.heap.size,2,none⟩=some fv:=(blk_cell h.maker 2).trans rfl
section
variable {P:Program} {ops:Array Oper} {Q:Exit->Act->World->Prop}
theorem vgoes_ {oi:Oper} {N:Option Tmp} {a:Act} {w:World} {K:Act->World->Prop} {f:FuncId} {fn:Func} {os:Array Operand} {ts:Array TypeId} {x:Tmp} {caps:Array Value} (hf:P.funcs[f]?=some fn) (hname:(fn.name == "runtime.NumGoroutine")=false) (hb:fn.body.isSome=true) (args:Array Value)
  (hw:Region.wanted oi (yielded ops a.tmps)=true) (hN:oi.dst=N) (hop:oi.op = .call {callee := .value (.tmp x),args:=os,argTypes:=ts}) (hv:a.eval (.tmp x) = .func (.func f) #[] caps) (hargs:os.map a.eval++caps=args)
  (h:Calls P f args w fun e w' => ∃v,e = .returned v/\K (a.put N v) w'):if Region.wanted oi (yielded ops a.tmps)=true then Oper.wp P oi a w K Q else K (a.put N undef) w:=by
 refine call_ f args hw hN ?_ h
 have he:=enters_ hf hname hb args w
 unfold execOp
 simp[hop,resolve,Deferred.ofValue,invoke,hv,hargs,he]
end
def made1T:Bool×List (List Nat×List Nat):=(true,[([],[]),([0],[0]),([],[]),([2],[2]),([],[]),([4],[4]),([],[]),([6],[6]),([5,7],[5,7]),([8],[8]),([1,3,9],[1,3,9]),([],[]),([11,10,0,1,2,3,4,5,6,7,8,9,10,11],[10,11])])
def made1B:List Nat := [0,1,0,4,0,16,0,64,240,496,1023,0,4095]
theorem made1_tab:rtab .any (opsOf Tryz.f172 1)=made1T:=by kernel_rfl
theorem made1_bits:waitsOk made1T.2 made1B=true:=by kernel_rfl
def made8T:Bool×List (List Nat×List Nat):=(true,[([],[]),([0],[0]),([],[]),([2],[2]),([],[]),([],[]),([3,4,5],[3,4,5]),([6],[6]),([1,7,6],[1,7]),([0,1,2,3,4,5,6,7,8],[]),([9,8,8,0,1,2,3,4,5,6,7,8],[8,9])])
def made8B:List Nat := [0,1,0,4,0,0,60,124,255,511,1023]
theorem made8_tab:rtab .any (opsOf Tryz.f172 8)=made8T:=by kernel_rfl
theorem made8_bits:waitsOk made8T.2 made8B=true:=by kernel_rfl
set_option maxHeartbeats 4000000 in
set_option maxRecDepth 100000 in
theorem made_171 (w:World) (cw ch n:Nat) (c0 c1:Value) (g:Nat->Int) (hn:n=cw*ch) (hn1:n<=100000000) (hcw:cw<=100000) (hch:ch<=100000)
  (hf : ∀(W':World) (x y:Nat),Below w.heap.size w W'->x<cw->y<ch->Calls Tryz.prog 171 #[.int .i64 x,.int .i64 y,c0,c1] W' fun e W''=>e = .returned (.int .u32 (g (y*cw+x)))/\Below W'.heap.size W' W'') :
  Calls Tryz.prog 172 #[.agg #[.int .i64 cw,.int .i64 ch,.func (.func 171) #[] #[c0,c1]]] w fun e w' => ∃v,e = .returned (.agg #[.int .i64 cw,.int .i64 ch,v])/\OW w' w.heap.size v ((List.range n).map g)/\Below w.heap.size w w':=by
 obtain⟨i0,hi,hz0,hz1,hz2⟩:=info_parts info56
 have HF:=Aside0.mk hf
 have hwh:wrap64 ((cw:Int)*(ch:Int))=(n:Int):=by rw[show(cw:Int)*(ch:Int)=(n:Int) by rw[hn];push_cast;rfl];unfold wrap64;omega
 have HN:=Aside0.mk hn
 clear hf hn
 go_enter Tryz.func172,Tryz.ntmps172
 go_wp2_with fail
 have BM:=Aside0.mk (blk_drew (blk_alloc (blk_new w (.cells #[.int .i64 cw,.int .i64 ch,.func (.func 171) #[] #[c0,c1]] 276 (0,0))) (.cells #[.int .i64 0,.int .i64 0,.slice none 0 0] 58 (0,0))))
 have BR:=Aside0.mk (blk_drew (heap_alloc2_new w (.cells #[.int .i64 cw,.int .i64 ch,.func (.func 171) #[] #[c0,c1]] 276 (0,0)) (.cells #[.int .i64 0,.int .i64 0,.slice none 0 0] 58 (0,0))))
 have HB:=Aside0.mk (below_drew1 (below_alloc (below_alloc (Below.refl w.heap.size w) (.cells #[.int .i64 cw,.int .i64 ch,.func (.func 171) #[] #[c0,c1]] 276 (0,0))) (.cells #[.int .i64 0,.int .i64 0,.slice none 0 0] 58 (0,0))))
 generalize (w.alloc (.cells #[.int .i64 cw,.int .i64 ch,.func (.func 171) #[] #[c0,c1]] 276 (0,0))).alloc (.cells #[.int .i64 0,.int .i64 0,.slice none 0 0] 58 (0,0))=W at BM BR HB ⊢
 have GE:=Aside0.mk (show w.heap.size<=w.heap.size+1 by omega)
 have hr1:w.heap.size+1≠w.heap.size:=by omega
 generalize w.heap.size+1=r at BR GE hr1 ⊢
 refine start_ (n:=13) (S:=fun w'=>w'.cell? ⟨w.heap.size,0,none⟩=some (.int .i64 cw)/\w'.cell? ⟨w.heap.size,1,none⟩=some (.int .i64 ch)) (ds := [12]) (Array.replicate 13 false) (by kernel_rfl) rfl rfl ⟨(blk_cell BM.out 0).trans rfl,(blk_cell BM.out 1).trans rfl⟩ (fun hHeld=>?_);refine with_tabW made1_tab made1_bits (fun HT_ HW_=>?_)
 generalize W.drew=w4 at BM BR HB hHeld ⊢
 refine pu 0 6 HT_ ?_
 refine pu 2 8 HT_ ?_
 refine pu 4 10 HT_ ?_
 refine pu 6 12 HT_ ?_
 refine tk 1 7 HT_ HW_ hHeld rfl (by rintro w' ⟨s0,s1⟩;go_simp;with_reducible rfl) ?_
 refine tk 3 9 HT_ HW_ hHeld rfl (by rintro w' ⟨s0,s1⟩;go_simp;with_reducible rfl) ?_
 refine tk 5 11 HT_ HW_ hHeld rfl (by rintro w' ⟨s0,s1⟩;go_simp;with_reducible rfl) ?_
 refine tk 7 13 HT_ HW_ hHeld rfl (by rintro w' ⟨s0,s1⟩;go_simp;with_reducible rfl) ?_
 refine pu 8 14 HT_ ?_
 rw[hwh]
 refine join_ (σ:=Nat×Nat) 1 #[true,true,true,true,true,true,true,true,true,true,true,true,false] (fun s => [(15,.slice (some ⟨s.1,0,none⟩) 0 n),(16,.agg #[.int .i64 cw,.int .i64 ch,.slice (some ⟨s.1,0,none⟩) 0 n]),(3,.pointer (some ⟨s.2,0,none⟩))])
  (fun s w'=>OW w' w.heap.size (.slice (some ⟨s.1,0,none⟩) 0 n) []/\w'.heap[s.2]?=some (.cells #[.int .i64 0,.int .i64 0,.slice none 0 0] 58 (0,0))/\w.heap.size<=s.2/\s.1≠s.2/\Below w.heap.size w w'/\w'.heap[w.heap.size]?=some (.cells #[.int .i64 cw,.int .i64 ch,.func (.func 171) #[] #[c0,c1]] 276 (0,0))/\w'.heap[r]?=some (.cells #[.int .i64 0,.int .i64 0,.slice none 0 0] 58 (0,0))/\s.2≠w.heap.size/\s.2≠r) ?tail (fun hcont=>?head)
 case head =>
  refine two_ (i:=9) (j:=11) (Ni:=some 15) (Nj:=some 3) #[true,true,true,true,true,true,true,true,true,true,false,false,false] #[true,true,true,true,true,true,true,true,true,false,false,true,false] rfl rfl rfl rfl (two_of HT_.out (by kernel_rfl)) (by decide) (by decide) (fun K hK=>?_) (fun K hK=>?_)
  ·obtain⟨w5,hr5,ho5,hg5⟩:=run_make_own (P:=Tryz.prog) w4 w.heap.size 27 56 i0 (.int .u32 0) 1 Tryz.underlying27 hi hz0 hz1 .i64 .i64 n (by rw[hz2];omega) (by unfold maxLen;omega) HB.out.size
   have hb5:Below w4.heap.size w4 w5:=⟨hg5.os,hg5.tape,hg5.output,hg5.size,fun i hi=>hg5.block i hi (by simp)⟩
   refine event_step (v := .slice (some ⟨w4.heap.size,0,none⟩) 0 n) (w1:=w5) (by rfl) ?_ ?_
   ·go_simp
   refine hK.out _ _ ⟨(blk_cell (blk_below BM.out hb5) 0).trans rfl,(blk_cell (blk_below BM.out hb5) 1).trans rfl⟩ (fun hHeld=>?_)
   clear hK K
   refine norm_ (a':=?_) ?_ ?_
   rotate_left
   ·show Act.put _ (some 15) _=_
    simp only[Act.put,List.setIfInBounds_toArray,List.set_cons_zero,List.set_cons_succ,i64_w,i32_w]
    rfl
   refine pu 10 16 HT_ ?_
   refine one_ (i:=11) (N:=some 3) #[true,true,true,true,true,true,true,true,true,true,true,true,false] rfl rfl (one_of HT_.out (by kernel_rfl)) (by decide) (fun K hK=>?_)
   refine box_step (cs := #[.int .i64 0,.int .i64 0,.slice none 0 0]) (t:=58) (by rfl) rfl (by go_simp) ?_
   intro g6 hg6 w6 h6 hb6
   refine hK.out _ _ ⟨(blk_cell (blk_below (blk_below BM.out hb5) hb6) 0).trans rfl,(blk_cell (blk_below (blk_below BM.out hb5) hb6) 1).trans rfl⟩ (fun hHeld=>?_)
   clear hK K
   refine norm_ (a':=?_) ?_ ?_
   rotate_left
   ·show Act.put _ (some 3) _=_
    simp only[Act.put,List.setIfInBounds_toArray,List.set_cons_zero,List.set_cons_succ,i64_w,i32_w]
    rfl
   have HO6:=Kd.R_below (Kd.R_of_own (h1:=fun _=>rfl) (enc:=fun x:Int=>Value.int .u32 x) (xs := []) (ok:=fun _=>True) ho5 (fun _ _=>trivial)) hb6
   have hw5:=hg5.size
   refine hcont (w4.heap.size,g6) _ ⟨HO6,h6,?_,?_,below_step (below_step HB.out hb5) hb6,blk_below (blk_below BM.out hb5) hb6,blk_below (blk_below BR.out hb5) hb6,?_,?_⟩
   ·have:=HB.out.size;show w.heap.size<=g6;omega
   ·show w4.heap.size≠g6;have:=own_lt ho5 w4.heap.size rfl;omega
   ·show g6≠w.heap.size;have:=blk_lt BM.out;omega
   ·show g6≠r;have:=blk_lt BR.out;omega
  ·refine box_step (cs := #[.int .i64 0,.int .i64 0,.slice none 0 0]) (t:=58) (by rfl) rfl (by go_simp) ?_
   intro g6 hg6 w6 h6 hb6
   refine hK.out _ _ ⟨(blk_cell (blk_below BM.out hb6) 0).trans rfl,(blk_cell (blk_below BM.out hb6) 1).trans rfl⟩ (fun hHeld=>?_)
   clear hK K
   refine norm_ (a':=?_) ?_ ?_
   rotate_left
   ·show Act.put _ (some 3) _=_
    simp only[Act.put,List.setIfInBounds_toArray,List.set_cons_zero,List.set_cons_succ,i64_w,i32_w]
    rfl
   refine one_ (i:=9) (N:=some 15) #[true,true,true,true,true,true,true,true,true,true,false,true,false] rfl rfl (one_of HT_.out (by kernel_rfl)) (by decide) (fun K hK=>?_)
   obtain⟨w5,hr5,ho5,hg5⟩:=run_make_own (P:=Tryz.prog) w6 w.heap.size 27 56 i0 (.int .u32 0) 1 Tryz.underlying27 hi hz0 hz1 .i64 .i64 n (by rw[hz2];omega) (by unfold maxLen;omega) (Nat.le_trans HB.out.size hb6.size)
   have hb5:Below w6.heap.size w6 w5:=⟨hg5.os,hg5.tape,hg5.output,hg5.size,fun i hi=>hg5.block i hi (by simp)⟩
   refine event_step (v := .slice (some ⟨w6.heap.size,0,none⟩) 0 n) (w1:=w5) (by rfl) ?_ ?_
   ·go_simp
   refine hK.out _ _ ⟨(blk_cell (blk_below (blk_below BM.out hb6) hb5) 0).trans rfl,(blk_cell (blk_below (blk_below BM.out hb6) hb5) 1).trans rfl⟩ (fun hHeld=>?_)
   clear hK K
   refine norm_ (a':=?_) ?_ ?_
   rotate_left
   ·show Act.put _ (some 15) _=_
    simp only[Act.put,List.setIfInBounds_toArray,List.set_cons_zero,List.set_cons_succ,i64_w,i32_w]
    rfl
   refine pu 10 16 HT_ ?_
   have HO6:=Kd.R_of_own (h1:=fun _=>rfl) (enc:=fun x:Int=>Value.int .u32 x) (xs := []) (ok:=fun _=>True) ho5 (fun _ _=>trivial)
   refine hcont (w6.heap.size,g6) _ ⟨HO6,blk_below h6 hb5,?_,?_,below_step (below_step HB.out hb6) hb5,blk_below (blk_below BM.out hb6) hb5,blk_below (blk_below BR.out hb6) hb5,?_,?_⟩
   ·have:=HB.out.size;show w.heap.size<=g6;omega
   ·show w6.heap.size≠g6;have:=blk_lt h6;omega
   ·show g6≠w.heap.size;have:=blk_lt BM.out;omega
   ·show g6≠r;have:=blk_lt BR.out;omega
 case tail =>
  rintro⟨gs,gp⟩ w5 ⟨ho,hp,hp1,hp2,hb,hm,hrr,hp3,hp4⟩
  replace ho:OW w5 w.heap.size (.slice (some ⟨gs,0,none⟩) 0 n) []:=ho
  replace hp:w5.heap[gp]?=some (.cells #[.int .i64 0,.int .i64 0,.slice none 0 0] 58 (0,0)):=hp
  replace hp1:w.heap.size<=gp:=hp1
  replace hp3:gp≠w.heap.size:=hp3
  replace hp4:gp≠r:=hp4
  clear BM BR HB hHeld hp2
  refine norm_ (a':=?_) ?_ ?_
  rotate_left
  ·simp only[putAll,Act.put,List.setIfInBounds_toArray,List.set_cons_zero,List.set_cons_succ,i64_w,i32_w]
   rfl
  have hcz0:w5.cell? ⟨gp,0,none⟩=some (.int .i64 0):=(blk_cell hp 0).trans rfl
  have hcz1:w5.cell? ⟨gp,1,none⟩=some (.int .i64 0):=(blk_cell hp 1).trans rfl
  have hcz2:w5.cell? ⟨gp,2,none⟩=some (.slice none 0 0):=(blk_cell hp 2).trans rfl
  have hfz0:=blk_frozen hp 0
  have hfz1:=blk_frozen hp 1
  have hfz2:=blk_frozen hp 2
  have HP1:=Aside0.mk hp1
  have HP3:=Aside0.mk hp3
  have HP4:=Aside0.mk hp4
  have HS:=Aside0.mk (show MS w cw ch (.func (.func 171) #[] #[c0,c1]) gp r g 0 (((w5.setCell ⟨gp,0,none⟩ (.int .i64 cw)).setCell ⟨gp,1,none⟩ (.int .i64 ch)).setCell ⟨gp,2,none⟩ (.slice (some ⟨gs,0,none⟩) 0 n)) from
   ⟨⟨_,blk_put (blk_put (blk_put hp 0 _ rfl) 1 _ rfl) 2 _ rfl,Kd.R_set (Kd.R_set (Kd.R_set ho hp (by decide) 0 _) (blk_put hp 0 _ rfl) (by decide) 1 _) (blk_put (blk_put hp 0 _ rfl) 1 _ rfl) (by decide) 2 _⟩,below_set (below_set (below_set hb hp1) hp1) hp1,blk_far (blk_far (blk_far hm (Ne.symm hp3) _) (Ne.symm hp3) _) (Ne.symm hp3) _,blk_far (blk_far (blk_far hrr (Ne.symm hp4) _) (Ne.symm hp4) _) (Ne.symm hp4) _⟩)
  clear hp1 hp3 hp4 ho hb hm hrr
  refine last_ (i:=12) (N:=none) #[true,true,true,true,true,true,true,true,true,true,true,true,true] rfl rfl (one_of HT_.out (by kernel_rfl)) (by decide) (fun K hK=>?_)
  refine skip_ (w1:=?_) (by rfl) rfl ?_ ?_
  rotate_left
  ·go_simp
   rfl
  refine hK.out _ _ ?_
  clear hK K
  refine done_ (done_of HT_.out (by kernel_rfl)) ?_
  clear hcz0 hcz1 hcz2 hfz0 hfz1 hfz2 hp
  generalize ((w5.setCell ⟨gp,0,none⟩ (.int .i64 cw)).setCell ⟨gp,1,none⟩ (.int .i64 ch)).setCell ⟨gp,2,none⟩ (.slice (some ⟨gs,0,none⟩) 0 n)=w6 at HS ⊢
  have hcm1:=HS.out.ch
  go_wp2
  go_loopw [19] (fun v19 wr => ∃y:Nat,y<=ch/\v19 = .int .i64 y/\Aside0 (MS w cw ch (.func (.func 171) #[] #[c0,c1]) gp r g (y*cw) wr)) (fun v19 _=>ch-(intOf v19).toNat)
  case atStart=>exact⟨0,Nat.zero_le _,rfl,⟨by simpa using HS.out⟩⟩
  case round =>
   clear HS hcm1
   obtain⟨y,hy,rfl,HM⟩:=hrel
   by_cases hlt:y<ch
   ·have hcw:=HM.out.cw
    have b1:decide ((y:Int)<(ch:Int))=true:=decide_eq_true (by omega)
    go_wp2
    go_loopw [24] (fun v24 wr => ∃x:Nat,x<=cw/\v24 = .int .i64 x/\Aside0 (MS w cw ch (.func (.func 171) #[] #[c0,c1]) gp r g (y*cw+x) wr)) (fun v24 _=>cw-(intOf v24).toNat)
    case atStart=>exact⟨0,Nat.zero_le _,rfl,HM⟩
    case round =>
     clear HM hcw
     obtain⟨x,hx,rfl,HX⟩:=hrel
     by_cases hxl:x<cw
     ·have b2:decide ((x:Int)<(cw:Int))=true:=decide_eq_true (by omega)
      obtain⟨⟨v,hrow,how⟩,hbb,hmk,hres⟩:=HX.out
      have HRW:=Aside0.mk (blk_drew hrow)
      have HOW:=Aside0.mk (Kd.R_drew how)
      have HBB:=Aside0.mk (below_drew1 hbb)
      have HMK:=Aside0.mk (blk_drew hmk)
      have HRS:=Aside0.mk (blk_drew hres)
      clear HX hrow how hbb hmk hres
      go_wp2_with fail
      refine start_ (n:=11) (S:=fun w'=>w'.cell? ⟨gp,2,none⟩=some v/\w'.cell? ⟨w.heap.size,2,none⟩=some (.func (.func 171) #[] #[c0,c1])) (ds := [10]) (Array.replicate 11 false) (by kernel_rfl) rfl rfl ⟨(blk_cell HRW.out 2).trans rfl,(blk_cell HMK.out 2).trans rfl⟩ (fun hHeld=>?_);refine with_tabW made8_tab made8_bits (fun HT_ HW_=>?_)
      generalize wr.drew=u4 at HRW HOW HBB HMK HRS hHeld ⊢
      refine pu 0 27 HT_ ?_
      refine pu 2 29 HT_ ?_
      refine pu 4 31 HT_ ?_
      refine pu 5 32 HT_ ?_
      refine tk 1 28 HT_ HW_ hHeld rfl (by rintro w' ⟨s0,s1⟩;go_simp;with_reducible rfl) ?_
      refine tk 3 30 HT_ HW_ hHeld rfl (by rintro w' ⟨s0,s1⟩;go_simp;with_reducible rfl) ?_
      refine one_ (i:=6) (N:=some 33) #[true,true,true,true,true,true,true,false,false,false,false] rfl rfl (one_of HT_.out (by kernel_rfl)) (by decide) (fun K hK=>?_)
      have hbd:y*cw+x<n:=by
       have h1:=Nat.mul_le_mul_right cw (show y+1<=ch by omega)
       have h2:=HN.out
       rw[Nat.mul_comm cw ch] at h2
       rw[Nat.add_mul,Nat.one_mul] at h1
       omega
      refine vgoes_ (x:=30) (caps := #[c0,c1]) Tryz.func171 (by kernel_rfl) rfl #[.int .i64 x,.int .i64 y,c0,c1] (by rfl) rfl rfl (by rfl) (by simp[Act.eval]) ?_
      refine(HF.out u4 x y HBB.out hxl hlt).mono ?_
      rintro e u5 ⟨rfl,hb⟩
      refine⟨_,rfl,?_⟩
      have HRW1:=Aside0.mk (blk_below HRW.out hb)
      have HMK1:=Aside0.mk (blk_below HMK.out hb)
      have HRS1:=Aside0.mk (blk_below HRS.out hb)
      have HBB1:=Aside0.mk (below_step HBB.out hb)
      have HOW1:=Aside0.mk (Kd.R_below HOW.out hb)
      clear hb HRW HMK HRS HBB HOW hHeld
      obtain⟨z,hz⟩ : ∃z,z=g (y*cw+x):=⟨_,rfl⟩
      rw[<- hz]
      have HZ:=Aside0.mk hz
      clear hz
      refine hK.out _ _ ⟨(blk_cell HRW1.out 2).trans rfl,(blk_cell HMK1.out 2).trans rfl⟩ (fun hHeld=>?_)
      clear hK K
      refine norm_ (a':=?_) ?_ ?_
      rotate_left
      ·show Act.put _ (some 33) _=_
       simp only[Act.put,List.setIfInBounds_toArray,List.set_cons_zero,List.set_cons_succ,i64_w,i32_w]
       rfl
      refine one_ (i:=7) (N:=some 34) #[true,true,true,true,true,true,true,true,false,false,false] rfl rfl (one_of HT_.out (by kernel_rfl)) (by decide) (fun K hK=>?_)
      refine event_step (v := .slice (some ⟨u5.heap.size,0,none⟩) 1 1) (w1:=u5.alloc (.cells #[.int .u32 z] 56)) (by rfl) (by go_simp) ?_
      refine hK.out _ _ ⟨(blk_cell (blk_alloc HRW1.out _) 2).trans rfl,(blk_cell (blk_alloc HMK1.out _) 2).trans rfl⟩ (fun hHeld=>?_)
      clear hK K
      refine norm_ (a':=?_) ?_ ?_
      rotate_left
      ·show Act.put _ (some 34) _=_
       simp only[Act.put,List.setIfInBounds_toArray,List.set_cons_zero,List.set_cons_succ,i64_w,i32_w]
       rfl
      refine one_ (i:=8) (N:=some 35) #[true,true,true,true,true,true,true,true,true,false,false] rfl rfl (one_of HT_.out (by kernel_rfl)) (by decide) (fun K hK=>?_)
      refine Kd.R_append_step (Kd.int .u32) (w0:=w) w.heap.size (by rfl) (.tmp 28) (.tmp 34) 27 56 (.int .u32 0) 4 rfl Tryz.underlying27 info56 rfl (by decide) (by omega) v ((List.range (y*cw+x)).map g) z [.int .u32 z] (fun _=>True) (fun _=>False) rfl rfl rfl (fun _ hk=>hk.elim) (fun _ _=>trivial) HOW1.out HBB1.out HBB1.out.size (by simp;omega) ?_
      intro v1 u6 ho hb6 hg hat
      obtain⟨A1,k1,rfl,_,_⟩:=Kd.R_reads ho
      rw[show((List.range (y*cw+x)).map g ++ [z]).length=y*cw+x+1 by simp] at ho ⊢
      have hne58 : ∀q cs,u5.heap[q]?=some (.cells cs 58 (0,0))->some q≠v.ownBlock:=fun q cs hq e=>by
       obtain⟨cells,hc⟩:=Kd.R_typed HOW1.out q e.symm
       rw[hq] at hc
       injection hc with hc;injection hc with _ hc;exact absurd hc (by decide)
      have hne276 : ∀q cs,u5.heap[q]?=some (.cells cs 276 (0,0))->some q≠v.ownBlock:=fun q cs hq e=>by
       obtain⟨cells,hc⟩:=Kd.R_typed HOW1.out q e.symm
       rw[hq] at hc
       injection hc with hc;injection hc with _ hc;exact absurd hc (by decide)
      have HRW2:=Aside0.mk (blk_grown HRW1.out hg (hne58 _ _ HRW1.out))
      have HMK2:=Aside0.mk (blk_grown HMK1.out hg (hne276 _ _ HMK1.out))
      have HRS2:=Aside0.mk (blk_grown HRS1.out hg (hne58 _ _ HRS1.out))
      have HO2:=Aside0.mk ho
      have HB2:=Aside0.mk hb6
      clear ho hb6 hg hat hne58 hne276 HRW1 HMK1 HRS1 HOW1 HBB1 hHeld
      refine hK.out _ _ ⟨(blk_cell HRW2.out 2).trans rfl,(blk_cell HMK2.out 2).trans rfl⟩ (fun hHeld=>?_)
      clear hK K
      refine norm_ (a':=?_) ?_ ?_
      rotate_left
      ·show Act.put _ (some 35) _=_
       simp only[Act.put,List.setIfInBounds_toArray,List.set_cons_zero,List.set_cons_succ,i64_w,i32_w]
       rfl
      refine pu 9 36 HT_ ?_
      have hcz2:u6.cell? ⟨gp,2,none⟩=some v:=(blk_cell HRW2.out 2).trans rfl
      have hfz2:=blk_frozen HRW2.out 2
      refine last_ (i:=10) (N:=none) #[true,true,true,true,true,true,true,true,true,true,true] rfl rfl (one_of HT_.out (by kernel_rfl)) (by decide) (fun K hK=>?_)
      refine skip_ (w1:=?_) (by rfl) rfl ?_ ?_
      rotate_left
      ·go_simp
       rfl
      refine hK.out _ _ ?_
      clear hK K
      refine done_ (done_of HT_.out (by kernel_rfl)) ?_
      clear hcz2 hfz2 hHeld
      have HM9:=Aside0.mk (show MS w cw ch (.func (.func 171) #[] #[c0,c1]) gp r g (y*cw+(x+1)) (u6.setCell ⟨gp,2,none⟩ (.slice A1 (y*cw+x+1) k1)) from
       ⟨⟨_,blk_put HRW2.out 2 _ rfl,by rw[<- Nat.add_assoc,List.range_succ,List.map_append];simp only[List.map_cons,List.map_nil];rw[<- HZ.out];exact Kd.R_set HO2.out HRW2.out (by decide) 2 _⟩,below_set HB2.out HP1.out,blk_far HMK2.out (Ne.symm HP3.out) _,blk_far HRS2.out (Ne.symm HP4.out) _⟩)
      clear HRW2 HMK2 HRS2 HO2 HB2
      go_wp2
      go_roundw
      case rel=>exact⟨x+1,by omega,by go_num,HM9⟩
      case measure=>simp[intOf];omega
     ·obtain rfl:x=cw:=by omega
      have HM9:=HX
      clear HX
      go_wp2
      go_roundw
      case rel=>exact⟨y+1,by omega,by go_num,⟨by rw[Nat.add_mul,Nat.one_mul];exact HM9.out⟩⟩
      case measure=>simp[intOf];omega
   ·obtain rfl:y=ch:=by omega
    obtain⟨⟨v,hrow,how⟩,hbb,hmk,hres⟩:=HM.out
    have HL:=Aside0.mk (show y*cw=n by rw[Nat.mul_comm];exact HN.out.symm)
    rw[HL.out] at how
    obtain⟨A1,k1,rfl,_,_⟩:=Kd.R_reads how
    have hcz0:wr.cell? ⟨gp,0,none⟩=some (.int .i64 cw):=(blk_cell hrow 0).trans rfl
    have hcz1:wr.cell? ⟨gp,1,none⟩=some (.int .i64 y):=(blk_cell hrow 1).trans rfl
    have hcz2:wr.cell? ⟨gp,2,none⟩=some (.slice A1 ((List.range n).map g).length k1):=(blk_cell hrow 2).trans rfl
    have hcr0:wr.cell? ⟨r,0,none⟩=some (.int .i64 0):=(blk_cell hres 0).trans rfl
    have hcr1:wr.cell? ⟨r,1,none⟩=some (.int .i64 0):=(blk_cell hres 1).trans rfl
    have hcr2:wr.cell? ⟨r,2,none⟩=some (.slice none 0 0):=(blk_cell hres 2).trans rfl
    have hfr0:=blk_frozen hres 0
    have hfr1:=blk_frozen hres 1
    have hfr2:=blk_frozen hres 2
    have HRES:=Aside0.mk hres
    have HOW:=Aside0.mk how
    have HBB:=Aside0.mk hbb
    clear hrow how hbb hmk hres HM
    generalize hxs:(List.range n).map g=xs at *
    have HXS:=Aside0.mk hxs
    clear hxs
    go_wp2
    have hp:=blk_put (blk_put (blk_put HRES.out 0 (.int .i64 cw) rfl) 1 (.int .i64 y) rfl) 2 (.slice A1 xs.length k1) rfl
    refine bodyPost_ret (results_cell_row rfl _ _ r 58 #[.int .i64 cw,.int .i64 y,.slice A1 xs.length k1] (0,0) _ rfl hp Tryz.underlying58 rfl (by kernel_rfl)) rfl ⟨_,rfl,?_,?_⟩
    ·rw[HXS.out]
     exact Kd.R_set (Kd.R_set (Kd.R_set HOW.out HRES.out (by decide) 0 _) (blk_put HRES.out 0 _ rfl) (by decide) 1 _) (blk_put (blk_put HRES.out 0 _ rfl) 1 _ rfl) (by decide) 2 _
    ·exact below_set (below_set (below_set HBB.out GE.out) GE.out) GE.out
end Go.Proofs.YtgpegjmbofgmmaaGreat.jou
namespace Go.Proofs.YtgpegjmbofgmmaaGreat.jou
open Go.RowKit Go.Proofs.YtgpegjmbofgmmaaGreatW.PrintWords Go.Proofs.YtgpegjmbofgmmaaGreatW.PrintLast Go.Proofs.YtgpegjmbofgmmaaGreat.PJop Go.Cod
set_option linter.unusedVariables false
set_option linter.unusedSimpArgs false
theorem of1_any (W:World) (q:Nat) (a b:Int) (A:Option Addr) (c:Nat) (xs:List Int) (x y:Int) (hq:W.heap[q]?=some (.cells #[.int .i64 a,.int .i64 b,.slice A xs.length c] 58 (0,0))) (hC:Kd.C (Kd.int .u32) W A xs.length xs)
  (i:Nat) (hi:y*a+x=i) (hil:i<xs.length) (hx0:0<=x) (hya:0<=y*a) (hl:xs.length<=100000000) :
  Calls Tryz.prog 239 #[.int .i64 x,.int .i64 y,.pointer (some ⟨q,0,none⟩)] W fun e W'=>e = .returned (.int .u32 (rd xs i))/\Below W.heap.size W W':=by
 have c0:=blk_cell hq 0
 have c1:=blk_cell hq 1
 have c2:=blk_cell hq 2
 simp at c0 c1 c2
 obtain⟨ad,rfl,hx⟩:=Kd.at_int hC i (by omega) (by omega)
 simp only[Int.toNat_natCast] at hx
 have w1:wrap64 (y*a)=y*a:=by unfold wrap64;omega
 have w2:wrap64 (y*a+x)=(i:Int):=by rw[hi];unfold wrap64;omega
 have p1:(0:Int)<=i:=by omega
 have p2:(i:Int)<xs.length:=by omega
 clear hi hya hq hC
 go_enter Tryz.func239,Tryz.ntmps239
 go_wp2
 go_ret
 exact⟨rfl,Below.refl _ _⟩
theorem of_any (W:World) (a b:Int) (v:Value):Calls Tryz.prog 170 #[.agg #[.int .i64 a,.int .i64 b,v]] W fun e W'=>e = .returned (.func (.func 239) #[] #[.pointer (some ⟨W.heap.size,0,none⟩)])/\W'=W.alloc (.cells #[.int .i64 a,.int .i64 b,v] 58 (0,0)):=by
 have hmf : ∀(fn:Fn) (first cap:Array Value) (w:World),(Instr.makeFunc fn first cap).run Tryz.prog w = .ok (.func fn first cap) w:=fun _ _ _ _=>rfl
 go_enter Tryz.func170,Tryz.ntmps170
 go_wp2
 go_ret
 exact⟨rfl,rfl⟩
theorem crop1_any (W:World) (q ga gr:Nat) (a b:Int) (A:Option Addr) (c:Nat) (xs:List Int) (x y x0 y0:Nat) (r2 r3:Value) (hq:W.heap[q]?=some (.cells #[.int .i64 a,.int .i64 b,.slice A xs.length c] 58 (0,0)))
  (hga:W.heap[ga]?=some (.cells #[.func (.func 239) #[] #[.pointer (some ⟨q,0,none⟩)]] 273 (0,0))) (hgr:W.heap[gr]?=some (.cells #[.int .i64 x0,.int .i64 y0,r2,r3] 29 (0,0))) (hC:Kd.C (Kd.int .u32) W A xs.length xs)
  (i:Nat) (hi:((y0:Int)+y)*a+((x0:Int)+x)=i) (hil:i<xs.length) (hya:0<=((y0:Int)+y)*a) (hl:xs.length<=100000000) (hx:x0+x<=1000000) (hy:y0+y<=1000000) :
  Calls Tryz.prog 171 #[.int .i64 x,.int .i64 y,.pointer (some ⟨ga,0,none⟩),.pointer (some ⟨gr,0,none⟩)] W fun e W'=>e = .returned (.int .u32 (rd xs i))/\Below W.heap.size W W':=by
 have c0:=blk_cell hga 0
 have c1:=blk_cell hgr 0
 have c2:=blk_cell hgr 1
 simp at c0 c1 c2
 have w1:wrap64 ((x0:Int)+x)=(x0:Int)+x:=by unfold wrap64;omega
 have w2:wrap64 ((y0:Int)+y)=(y0:Int)+y:=by unfold wrap64;omega
 have HO:=Aside0.mk (of1_any W q a b A c xs ((x0:Int)+x) ((y0:Int)+y) hq hC i hi hil (by omega) hya hl)
 clear hq hga hgr hC hi hya
 go_enter Tryz.func171,Tryz.ntmps171
 go_wp2_with fail
 refine HO.out.mono ?_
 rintro e w1 ⟨rfl,hb⟩
 have HB:=Aside0.mk hb
 clear hb HO
 go_wp2
 go_ret
 exact⟨rfl,HB.out⟩
set_option maxHeartbeats 4000000 in
set_option maxRecDepth 100000 in
theorem crop_any (w:World) (a b x0 y0 x1 y1:Nat) (A:Option Addr) (c:Nat) (xs:List Int) (hC:Kd.C (Kd.int .u32) w A xs.length xs) (hc:xs.length<=c) (hlen:xs.length=a*b) (hck:plane_Check.f a b xs=some 0)
  (hx:x0<x1) (hy:y0<y1) (hx1:x1<=a) (hy1:y1<=b) (ha:a<=10000) (hb:b<=10000) :
  Calls Tryz.prog 117 #[.agg #[.int .i64 a,.int .i64 b,.slice A xs.length c],.agg #[.int .i64 x0,.int .i64 y0,.int .i64 x1,.int .i64 y1]] w fun e W' => ∃v,e = .returned (.tuple #[.agg #[.int .i64 (x1-x0:Nat),.int .i64 (y1-y0:Nat),v],.int .i64 0]) /\
   OW W' w.heap.size v ((List.range ((x1-x0)*(y1-y0))).map fun k=>rd xs (((y0+k/(x1-x0))*a+(x0+k%(x1-x0)):Nat):Int))/\Below w.heap.size w W':=by
 have hmf : ∀(fn:Fn) (first cap:Array Value) (w:World),(Instr.makeFunc fn first cap).run Tryz.prog w = .ok (.func fn first cap) w:=fun _ _ _ _=>rfl
 go_enter Tryz.func117,Tryz.ntmps117
 have HL:=Aside0.mk hlen
 clear hlen
 go_wp2_with fail
 have HC:=Aside0.mk (plane_Check.calls a b A c xs 0 _ (Kd.C_alloc (Kd.C_alloc (Kd.C_alloc hC (.cells #[.int .i64 a,.int .i64 b,.slice A xs.length c] 58 (0,0))) (.cells #[.int .i64 x0,.int .i64 y0,.int .i64 x1,.int .i64 y1] 29 (0,0))) (.cells #[.int .i64 0,.int .i64 0,.slice none 0 0] 58 (0,0))) hc hck)
 have HX:=Aside0.mk hC
 clear hC hck
 refine HC.out.mono ?_
 rintro e w1 ⟨rfl,hb1⟩
 have BK0:=Aside0.mk (blk_below (blk_alloc (blk_alloc (blk_new w (.cells #[.int .i64 a,.int .i64 b,.slice A xs.length c] 58 (0,0))) (.cells #[.int .i64 x0,.int .i64 y0,.int .i64 x1,.int .i64 y1] 29 (0,0))) (.cells #[.int .i64 0,.int .i64 0,.slice none 0 0] 58 (0,0))) hb1)
 have BK1:=Aside0.mk (blk_below (blk_alloc (heap_alloc2_new w (.cells #[.int .i64 a,.int .i64 b,.slice A xs.length c] 58 (0,0)) (.cells #[.int .i64 x0,.int .i64 y0,.int .i64 x1,.int .i64 y1] 29 (0,0))) (.cells #[.int .i64 0,.int .i64 0,.slice none 0 0] 58 (0,0))) hb1)
 have BK2:=Aside0.mk (blk_below (heap_alloc2_new (w.alloc (.cells #[.int .i64 a,.int .i64 b,.slice A xs.length c] 58 (0,0))) (.cells #[.int .i64 x0,.int .i64 y0,.int .i64 x1,.int .i64 y1] 29 (0,0)) (.cells #[.int .i64 0,.int .i64 0,.slice none 0 0] 58 (0,0))) hb1)
 have HB1:=Aside0.mk (below_step (below_alloc (below_alloc (below_alloc (Below.refl w.heap.size w) (.cells #[.int .i64 a,.int .i64 b,.slice A xs.length c] 58 (0,0))) (.cells #[.int .i64 x0,.int .i64 y0,.int .i64 x1,.int .i64 y1] 29 (0,0))) (.cells #[.int .i64 0,.int .i64 0,.slice none 0 0] 58 (0,0))) hb1)
 rw[show(w.alloc (.cells #[.int .i64 a,.int .i64 b,.slice A xs.length c] 58 (0,0))).heap.size=w.heap.size+1 by simp] at BK2
 clear hb1 HC
 have g2:w.heap.size<=w.heap.size+1+1:=by omega
 have g3:w.heap.size+1+1≠w.heap.size:=by omega
 have g4:w.heap.size+1+1≠w.heap.size+1:=by omega
 generalize w.heap.size+1+1=q2 at BK2 g2 g3 g4 ⊢
 have g1:w.heap.size<=w.heap.size+1:=by omega
 have g5:w.heap.size+1≠w.heap.size:=by omega
 generalize w.heap.size+1=q1 at BK1 g1 g4 g5 ⊢
 have G2:=Aside0.mk g2
 have G3:=Aside0.mk g3
 have G4:=Aside0.mk g4
 clear g1 g2 g3 g4 g5
 have c0:w1.cell? ⟨w.heap.size,0,none⟩=some (.int .i64 a):=(blk_cell BK0.out 0).trans rfl
 have c1:w1.cell? ⟨w.heap.size,1,none⟩=some (.int .i64 b):=(blk_cell BK0.out 1).trans rfl
 have c2:w1.cell? ⟨w.heap.size,2,none⟩=some (.slice A xs.length c):=(blk_cell BK0.out 2).trans rfl
 have d0:w1.cell? ⟨q1,0,none⟩=some (.int .i64 x0):=(blk_cell BK1.out 0).trans rfl
 have d1:w1.cell? ⟨q1,1,none⟩=some (.int .i64 y0):=(blk_cell BK1.out 1).trans rfl
 have d2:w1.cell? ⟨q1,2,none⟩=some (.int .i64 x1):=(blk_cell BK1.out 2).trans rfl
 have d3:w1.cell? ⟨q1,3,none⟩=some (.int .i64 y1):=(blk_cell BK1.out 3).trans rfl
 have n1:decide ((x0:Int)<0)=false:=decide_eq_false (by omega)
 have n2:decide ((y0:Int)<0)=false:=decide_eq_false (by omega)
 have n3:decide (x1<=x0)=false:=decide_eq_false (by omega)
 have n4:decide (y1<=y0)=false:=decide_eq_false (by omega)
 have n5:decide (a<x1)=false:=decide_eq_false (by omega)
 have n6:decide (b<y1)=false:=decide_eq_false (by omega)
 go_wp2_with fail
 refine(of_any w1 a b (.slice A xs.length c)).mono ?_
 rintro e w2 ⟨rfl,rfl⟩
 have e1':=heap_alloc2_new w1 (.cells #[.int .i64 a,.int .i64 b,.slice A xs.length c] 58 (0,0)) (.cells #[.nilFunc] 273 (0,0))
 have e0:=(blk_cell e1' 0).trans rfl
 have f0:=blk_frozen e1' 0
 clear e1'
 have Q0:=Aside0.mk (blk_alloc (blk_new w1 (.cells #[.int .i64 a,.int .i64 b,.slice A xs.length c] 58 (0,0))) (.cells #[.func (.func 239) #[] #[.pointer (some ⟨w1.heap.size,0,none⟩)]] 273 (0,0)))
 have P0:=Aside0.mk (heap_alloc2_new w1 (.cells #[.int .i64 a,.int .i64 b,.slice A xs.length c] 58 (0,0)) (.cells #[.func (.func 239) #[] #[.pointer (some ⟨w1.heap.size,0,none⟩)]] 273 (0,0)))
 have BB2:=Aside0.mk (below_alloc (below_alloc (Below.refl w1.heap.size w1) (.cells #[.int .i64 a,.int .i64 b,.slice A xs.length c] 58 (0,0))) (.cells #[.func (.func 239) #[] #[.pointer (some ⟨w1.heap.size,0,none⟩)]] 273 (0,0)))
 have Q1:=Aside0.mk (blk_below BK1.out BB2.out)
 have Q2:=Aside0.mk (blk_below BK2.out BB2.out)
 have k1:IntKind.i64.wrap ((x1:Int)-x0)=((x1-x0:Nat):Int):=by rw[IntWalk.i64_in _ (by omega)];omega
 have k2:IntKind.i64.wrap ((y1:Int)-y0)=((y1-y0:Nat):Int):=by rw[IntWalk.i64_in _ (by omega)];omega
 have dd0:=show _=some (Value.int .i64 x0) from (blk_cell Q1.out 0).trans rfl
 have dd1:=show _=some (Value.int .i64 y0) from (blk_cell Q1.out 1).trans rfl
 have dd2:=show _=some (Value.int .i64 x1) from (blk_cell Q1.out 2).trans rfl
 have dd3:=show _=some (Value.int .i64 y1) from (blk_cell Q1.out 3).trans rfl
 have HX3:=Aside0.mk (Kd.C_below (Kd.C_below HX.out HB1.out) BB2.out)
 clear c0 c1 c2 d0 d1 d2 d3 n1 n2 n3 n4 n5 n6
 go_wp2_with fail
 have HP:=Aside0.mk (Nat.mul_le_mul_right a (show y1<=b from hy1))
 refine(made_171 _ (x1-x0) (y1-y0) ((x1-x0)*(y1-y0)) _ _ (fun k=>rd xs (((y0+k/(x1-x0))*a+(x0+k%(x1-x0)):Nat):Int)) rfl ?hn1 (by omega) (by omega) ?hf).mono ?_
 case hn1=>exact Nat.le_trans (Nat.mul_le_mul (show x1-x0<=10000 by omega) (show y1-y0<=10000 by omega)) (by decide)
 case hf =>
  intro W' x y hbW hxl hyl
  have e1:(y*(x1-x0)+x)/(x1-x0)=y:=by rw[Nat.mul_comm,Nat.mul_add_div (by omega),Nat.div_eq_of_lt hxl];omega
  have e2:(y*(x1-x0)+x)%(x1-x0)=x:=by rw[Nat.mul_comm,Nat.mul_add_mod,Nat.mod_eq_of_lt hxl]
  have hle:(y0+y)*a+(x0+x)<a*b:=by
   have h1:=Nat.mul_le_mul_right a (show y0+y+1<=b by omega)
   rw[Nat.add_mul,Nat.one_mul] at h1
   rw[Nat.mul_comm a b]
   omega
  simp only[e1,e2]
  have h0:a*b<=100000000:=Nat.le_trans (Nat.mul_le_mul ha hb) (by decide)
  have hya:0<=((y0:Int)+y)*a:=Int.mul_nonneg (by omega) (by omega)
  refine crop1_any W' _ _ _ a b A c xs x y x0 y0 (.int .i64 x1) (.int .i64 y1) (blk_below Q0.out hbW) (blk_below P0.out hbW) (blk_below Q1.out hbW) (Kd.C_below HX3.out hbW) ((y0+y)*a+(x0+x)) (by push_cast;rfl) (by rw[HL.out];exact hle) hya (by rw[HL.out];exact h0) (by omega) (by omega)
 rintro e w4 ⟨v,rfl,ho,hb4⟩
 obtain⟨A2,k2,rfl,_,_⟩:=Kd.R_reads ho
 have hres:=blk_below Q2.out hb4
 have HRES:=Aside0.mk hres
 have HOW:=Aside0.mk (Kd.R_lower ho (show w.heap.size<=_ from Nat.le_trans HB1.out.size (by simp;omega)))
 have HB4:=Aside0.mk (below_step (below_step HB1.out BB2.out) hb4)
 clear ho hb4 HP dd0 dd1 dd2 dd3 e0 f0
 generalize hxs:(List.range ((x1-x0)*(y1-y0))).map (fun k=>rd xs (((y0+k/(x1-x0))*a+(x0+k%(x1-x0)):Nat):Int))=ys at HOW ⊢
 have HXS:=Aside0.mk hxs
 clear hxs
 have hcr0:w4.cell? ⟨q2,0,none⟩=some (.int .i64 0):=(blk_cell hres 0).trans rfl
 have hcr1:w4.cell? ⟨q2,1,none⟩=some (.int .i64 0):=(blk_cell hres 1).trans rfl
 have hcr2:w4.cell? ⟨q2,2,none⟩=some (.slice none 0 0):=(blk_cell hres 2).trans rfl
 have hfr0:=blk_frozen hres 0
 have hfr1:=blk_frozen hres 1
 have hfr2:=blk_frozen hres 2
 clear hres
 go_wp2
 have hp:=blk_put (blk_put (blk_put HRES.out 0 (.int .i64 (x1-x0:Nat)) rfl) 1 (.int .i64 (y1-y0:Nat)) rfl) 2 (.slice A2 ys.length k2) rfl
 refine bodyPost_ret (results_ct rfl _ _ q2 58 #[.int .i64 (x1-x0:Nat),.int .i64 (y1-y0:Nat),.slice A2 ys.length k2] (0,0) _ rfl hp Tryz.underlying58 rfl (by kernel_rfl)) rfl ⟨_,rfl,?_,?_⟩
 ·rw[HXS.out]
  exact Kd.R_set (Kd.R_set (Kd.R_set HOW.out HRES.out (by decide) 0 _) (blk_put HRES.out 0 _ rfl) (by decide) 1 _) (blk_put (blk_put HRES.out 0 _ rfl) 1 _ rfl) (by decide) 2 _
 ·exact below_set (below_set (below_set HB4.out G2.out) G2.out) G2.out
end Go.Proofs.YtgpegjmbofgmmaaGreat.jou
