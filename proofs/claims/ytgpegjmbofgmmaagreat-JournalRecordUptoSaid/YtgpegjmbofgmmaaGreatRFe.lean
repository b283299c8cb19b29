/- A part of the proof. No condition. -/
import Derived.Test.YtgpegjmbofgmmaaGreatRPu
import Derived.Test.YtgpegjmbofgmmaaGreatRFc
namespace Go.Proofs.YtgpegjmbofgmmaaGreat.jou
open Go.RowKit Go.Proofs.YtgpegjmbofgmmaaGreatW.PrintWords Go.Proofs.YtgpegjmbofgmmaaGreatW.PrintLast Go.Proofs.YtgpegjmbofgmmaaGreat.PJop Go.Proofs.YtgpegjmbofgmmaaGreat.PJou Go.Proofs.YtgpegjmbofgmmaaGreat.PJot Go.Cod
set_option linter.unusedVariables false
set_option linter.unusedSimpArgs false
def rpT:Bool×List (List Nat×List Nat):=(true,[([],[]),([0],[0]),([],[]),([1,2],[1,2]),([3],[3]),([],[]),([],[]),([5,6],[5,6]),([7],[7]),([4,8],[4,8]),([9,9],[9]),([10],[10]),([11],[11]),([11],[11]),([12,10,0,1,2,3,4,5,6,7,8,9,10,11,12],[12]),([13,14,0,1,2,3,4,5,6,7,8,9,10,11,12,13,14],[13])])
def rpB:List Nat := [0,1,0,6,8,0,0,96,128,272,512,1024,2048,2048,8191,32767]
theorem rp_tab:rtab .any (opsOf Tryz.f64 17)=rpT:=by kernel_rfl
theorem rp_bits:waitsOk rpT.2 rpB=true:=by kernel_rfl
theorem chk_105 (k:Nat) (sp:Int) (A:Option Addr) (c:Nat) (l:List S58) (r:Int) (w:World) (hr:Kd.C k58 w A l.length l) (hc:l.length<=c) (h:halideref8_Check.f k sp l=some r) :
  Calls Tryz.prog 105 #[.agg #[.int .i64 sp,.slice A l.length c]] w fun e w'=>e = .returned (.int .i64 r)/\Below w.heap.size w w':=by
 have HX:=Aside0.mk hr
 clear hr
 go_enter Tryz.func105,Tryz.ntmps105
 go_wp2_with fail
 refine(halideref8_Check.calls k sp A c l r _ (Kd.C_alloc HX.out _) hc h).mono ?_
 rintro e w1 ⟨rfl,hb⟩
 have HB:=Aside0.mk (below_step (below_alloc (Below.refl w.heap.size w) _) hb)
 clear hb
 go_wp2
 go_ret
 exact⟨rfl,HB.out⟩
theorem tiles_one (wd ht:Nat) (h1:0<wd) (h2:0<ht) (h3:wd<=1024) (h4:ht<=1024):halideref18_Tiles.f 5 wd ht 1024=some [⟨0,0,wd,ht⟩]:=by
 have e1:wrap64 (0+1024)=1024:=by unfold wrap64;omega
 have m1:mn 1024 (wd:Int)=wd:=by unfold mn;split<;>omega
 have m2:mn 1024 (ht:Int)=ht:=by unfold mn;split<;>omega
 unfold halideref18_Tiles.f
 rw[halideref18_Tiles.l0,if_pos (by omega),halideref18_Tiles.l1,if_pos (by omega),if_pos (by simp),e1,m1,m2,halideref18_Tiles.l1,if_neg (by omega),e1,halideref18_Tiles.l0,if_neg (by omega)]
 rfl
structure EF (w:World) (spn:Nat) (ad:Addr) (n cap:Nat) (B9 B10:List Nat) (v9 v10:Value) (W:World):Prop where
 below:Below w.heap.size w W
 box:W.heap[w.heap.size]?=some (.cells #[.int .i64 spn,.slice (some ad) n cap] 25 (0,0))
 out:OB W w.heap.size v9 B9
 parts:OB W w.heap.size v10 B10
 sep:Sep v9 v10
section
variable {w:World} {spn:Nat} {ad:Addr} {n cap:Nat} {B9 B10 B:List Nat} {v9 v10 v:Value} {W W':World}
theorem EF.mono (h:EF w spn ad n cap B9 B10 v9 v10 W) (hb:Below W.heap.size W W'):EF w spn ad n cap B9 B10 v9 v10 W' :=
 ⟨below_step h.below hb,blk_below h.box hb,Kd.R_below h.out hb,Kd.R_below h.parts hb,h.sep⟩
theorem EF.outG (h:EF w spn ad n cap B9 B10 v9 v10 W) (k:Grw W W' v9 v) (ho:OB W' w.heap.size v B):EF w spn ad n cap B B10 v v10 W' :=
 ⟨k.below h.below h.below.size h.out,blk_grown h.box k.grown (ne_own h.out h.box (by decide)),ho,h.parts.other k h.sep.symm,(h.sep.symm.grw k h.parts).symm⟩
theorem EF.parG (h:EF w spn ad n cap B9 B10 v9 v10 W) (k:Grw W W' v10 v) (ho:OB W' w.heap.size v B):EF w spn ad n cap B9 B v9 v W' :=
 ⟨k.below h.below h.below.size h.parts,blk_grown h.box k.grown (ne_own h.parts h.box (by decide)),h.out.other k h.sep,ho,h.sep.grw k h.out⟩
end
theorem head6 (W1:World) (base:Nat) (hb:base<=W1.heap.size) (spn n:Nat):OB (W1.alloc (.cells #[.int .u8 72,.int .u8 76,.int .u8 68,.int .u8 49,.int .u8 spn,.int .u8 n] 5)) base (.slice (some ⟨W1.heap.size,0,none⟩) 6 6) [72,76,68,49,spn,n] :=
 Kd.R_of_own (h1:=fun _=>rfl) (enc:=fun z:Int=>Value.int .u8 z) (xs:=ints [72,76,68,49,spn,n]) (ok:=fun _=>True) (World.ownsRow_lit W1 (base:=base) (e:=5) (size:=1) #[.int .u8 72,.int .u8 76,.int .u8 68,.int .u8 49,.int .u8 spn,.int .u8 n] 6 hb (by decide) rfl) (fun _ _=>trivial)
theorem OB.toRd {W:World} {base:Nat} {v:Value} {ns:List Nat} (h:OB W base v ns):Rd W base v ns:=by
 obtain⟨A,c,rfl,hc,hC⟩:=h.rd
 exact⟨A,c,rfl,hC,hc,fun ad had=>by subst had;exact Kd.R_base h ad.block rfl⟩
def partsOf (rs:Nat->List Int) (j:Nat):List (List Nat):=(List.range j).map fun j=>encL (rs j)
theorem partsOf_succ (rs:Nat->List Int) (j:Nat):partsOf rs (j+1)=partsOf rs j ++ [encL (rs j)]:=by simp[partsOf,List.range_succ]
set_option maxHeartbeats 4000000 in
set_option maxRecDepth 100000 in
theorem encode_64 {K spn:Nat} {l:List S58} {wd ht:Nat} {rs:Nat->List Int} (hp:Pic K spn l wd ht rs) (hck:halideref8_Check.f K spn l=some 0) (hrf : ∀j:Nat,j<l.length->halideref18_Rests.f K wd ht (rd_T58 l j).f2=some (rs j,0)/\pln.AllU (rs j)) (hsm : ∀j:Nat,j<l.length->(rd_T58 l j).f2.length<=65536)
  (w:World) (A:Option Addr) (cap:Nat) (hr:Kd.C k58 w A l.length l) (hcap:l.length<=cap) :
  Calls Tryz.prog 64 #[.agg #[.int .i64 spn,.slice A l.length cap],.int .i64 (1024:Nat)] w fun e w' => ∃v,e = .returned (.tuple #[v,.int .i64 0])/\OB w' w.heap.size v (picF spn l wd ht rs)/\Below w.heap.size w w':=by
 obtain⟨ad,A2,c2,rfl,hw0,hw1,hw2,hl2,hc2⟩:=at_T58 hr 0 (by omega) (by have:=hp.n0;omega)
 obtain⟨p0,p1,_,_⟩:=hp.pl 0 hp.n0
 rw[show rd_T58 l ((0:Nat):Int)=rd_T58 l 0 from rfl] at p0 p1
 rw[p0] at hw0
 rw[p1] at hw1
 rw[show ad.add (Int.toNat 0*3)=ad from rfl] at hw0 hw1
 have hn:=hp.n
 have hn0:=hp.n0
 have hsp:=hp.sp
 have hwd1:=hp.wd1
 have hht1:=hp.ht1
 have hwd0:=hp.wd0
 have hht0:=hp.ht0
 have HP:=Aside0.mk hp
 have HSML:=Aside0.mk (show ∀j:Nat,j<l.length->(rd_T58 l j).f2.length<=65536 from hsm)
 have HRF:=Aside0.mk hrf
 have HX:=Aside0.mk hr
 have HW0:=Aside0.mk hw0
 have HW1:=Aside0.mk hw1
 have HCK:=Aside0.mk (chk_105 K spn (some ad) cap l 0 _ (Kd.C_alloc hr (.cells #[.int .i64 spn,.slice (some ad) l.length cap] 25 (0,0))) hcap hck)
 clear hp hrf hr hck hw2 hl2 hc2 p0 p1 hw0 hw1
 go_enter Tryz.func64,Tryz.ntmps64
 go_wp2_with fail
 refine HCK.out.mono ?_
 rintro e w1 ⟨rfl,hb⟩
 have BK:=Aside0.mk (blk_below (blk_new w (.cells #[.int .i64 spn,.slice (some ad) l.length cap] 25 (0,0))) hb)
 have HB:=Aside0.mk (below_step (below_alloc (Below.refl w.heap.size w) (.cells #[.int .i64 spn,.slice (some ad) l.length cap] 25 (0,0))) hb)
 clear hb HCK
 have q0:w1.cell? ⟨w.heap.size,0,none⟩=some (.int .i64 spn):=(blk_cell BK.out 0).trans rfl
 have q1:w1.cell? ⟨w.heap.size,1,none⟩=some (.slice (some ad) l.length cap):=(blk_cell BK.out 1).trans rfl
 have q2:=(HB.out.cell (World.block_lt_of_cell? w _ HW0.out)).trans HW0.out
 have q3:=(HB.out.cell (World.block_lt_of_cell? w _ HW1.out)).trans HW1.out
 have p1:(0:Int)<(l.length:Int):=by omega
 have ms:((spn:Int)%256)=spn:=by omega
 have ml:((l.length:Int)%256)=l.length:=by omega
 go_wp2_with fail
 go_quiet (fail)
 go_wp2_with fail
 have E0:=Aside0.mk (fun m=>(show EF w spn ad l.length cap [72,76,68,49,spn,l.length] [] (.slice (some ⟨w1.heap.size,0,none⟩) 6 6) (.slice none 0 0) ((w1.drewN m).alloc (.cells #[.int .u8 72,.int .u8 76,.int .u8 68,.int .u8 49,.int .u8 spn,.int .u8 l.length] 5)) from
  ⟨below_alloc (pw_below_drewN HB.out m) _,blk_alloc (blk_drewN BK.out m) _,head6 (w1.drewN m) w.heap.size HB.out.size spn l.length,Kd.R_nil _ _ _ _ _,Sep.nil _⟩))
 clear q0 q1 q2 q3 BK HB p1 ms ml
 refine(two_106 _ w.heap.size wd _ _ (E0.out _).out (E0.out _).below.size (by omega) (by simp)).mono ?_
 rintro e w2 ⟨v2,rfl,ho2,hg2⟩
 have E2:=Aside0.mk ((E0.out _).outG hg2 ho2)
 clear ho2 hg2 E0
 go_wp2_with fail
 refine(two_106 _ w.heap.size ht _ _ E2.out.out E2.out.below.size (by omega) (by simp[be_length])).mono ?_
 rintro e w3 ⟨v3,rfl,ho3,hg3⟩
 have E3:=Aside0.mk (E2.out.outG hg3 ho3)
 clear ho3 hg3 E2
 go_wp2_with fail
 refine(two_106 _ w.heap.size 1024 _ _ E3.out.out E3.out.below.size (by omega) (by simp[be_length])).mono ?_
 rintro e w4 ⟨v4,rfl,ho4,hg4⟩
 have E4:=Aside0.mk (show EF w spn ad l.length cap (hdL spn l.length wd ht 1024) [] v4 (.slice none 0 0) w4 by
  have h:=E3.out.outG hg4 ho4
  rw[show hdL spn l.length wd ht 1024=(([72,76,68,49,spn,l.length]++be 2 wd)++be 2 ht)++be 2 1024 by simp[hdL,hdrB,List.range_succ,hdrV]]
  exact h)
 clear ho4 hg4 E3
 go_wp2_with fail
 refine(halideref18_Tiles.calls 5 wd ht 1024 _ _ (tiles_one wd ht hwd0 hht0 hwd1 hht1)).mono ?_
 rintro e w5 ⟨vt,rfl,hot,hbt⟩
 have E5:=Aside0.mk (E4.out.mono hbt)
 obtain⟨gt,cT,rfl,hgt,hgt2,cells,hcells⟩:=Kd.R_form hot (by simp)
 obtain⟨_,_,hCT⟩:=Kd.R_reads' hot
 obtain⟨adt,eadt,h0,h1,h2,h3⟩:=at_T29 hCT 0 (by omega) (by simp)
 injection eadt with eadt
 subst eadt
 have C0:=Aside0.mk ((blk_cell hcells 0).symm.trans h0)
 have C1:=Aside0.mk ((blk_cell hcells 1).symm.trans h1)
 have C2:=Aside0.mk ((blk_cell hcells 2).symm.trans h2)
 have C3:=Aside0.mk ((blk_cell hcells 3).symm.trans h3)
 have HT:=Aside0.mk hcells
 clear hot hbt E4 hCT h0 h1 h2 h3 hcells hgt hgt2
 go_wp2_with fail
 have EI:=Aside0.mk (show EF w spn ad l.length cap (hdL spn l.length wd ht 1024++indexB (partsOf rs (0*l.length))) (frameB (partsOf rs (0*l.length))) v4 (.slice none 0 0) w5 by rw[Nat.zero_mul];simpa [partsOf,indexB,frameB] using E5.out)
 clear E5
 go_loopw [9,10,12] (fun v9 v10 v12 wr => ∃i:Nat,i<=1/\v12 = .int .i64 i/\Aside0 (EF w spn ad l.length cap (hdL spn l.length wd ht 1024++indexB (partsOf rs (i*l.length))) (frameB (partsOf rs (i*l.length))) v9 v10 wr)/\Aside0 (wr.heap[gt]?=some (.cells cells 29 (0,0)))) (fun _ _ v12 _=>1-(intOf v12).toNat)
 case atStart=>exact⟨0,Nat.zero_le _,rfl,EI,HT⟩
 case round =>
  clear EI HT
  obtain⟨i,hi,rfl,EI,HT⟩:=hrel
  by_cases hi1:i<1
  ·have hi0:i=0:=by omega
   have hi0':(i:Int)=0:=by omega
   rw[hi0']
   rw[hi0,Nat.zero_mul] at EI
   clear hi0 hi0' hi
   have b1:decide ((0:Int)<1)=true:=by decide
   go_wp2_with fail
   go_loopw [9,10,13] (fun v9 v10 v13 wr => ∃j:Nat,j<=l.length/\v13 = .int .i64 j/\Aside0 (EF w spn ad l.length cap (hdL spn l.length wd ht 1024++indexB (partsOf rs j)) (frameB (partsOf rs j)) v9 v10 wr)/\Aside0 (wr.heap[gt]?=some (.cells cells 29 (0,0)))) (fun _ _ v13 _=>l.length-(intOf v13).toNat)
   case atStart=>exact⟨0,Nat.zero_le _,rfl,EI,HT⟩
   case round =>
    clear EI HT
    obtain⟨j,hj,rfl,EI,HT⟩:=hrel
    have qb:wr.cell? ⟨w.heap.size,1,none⟩=some (.slice (some ad) l.length cap):=(blk_cell EI.out.box 1).trans rfl
    by_cases hjl:j<l.length
    ·have b2:decide ((j:Int)<(l.length:Int))=true:=decide_eq_true (by omega)
     obtain⟨ad2,A2,c2,hade,hw0,hw1,hw2,hl2,hc2⟩:=at_T58 HX.out j (by omega) (by omega)
     injection hade with hade
     subst hade
     obtain⟨hp0,hp1,hp2,hp3⟩:=HP.out.pl j hjl
     rw[hp0] at hw0
     rw[hp1] at hw1
     simp only[Int.toNat_natCast] at hw0 hw1 hw2
     have hv0:=(EI.out.below.cell (World.block_lt_of_cell? w _ hw0)).trans hw0
     have hv1:=(EI.out.below.cell (World.block_lt_of_cell? w _ hw1)).trans hw1
     have hv2:=(EI.out.below.cell (World.block_lt_of_cell? w _ hw2)).trans hw2
     have HC2:=Aside0.mk (Kd.C_below hc2 EI.out.below)
     have HP2:=Aside0.mk hp2
     have HR:=Aside0.mk (HRF.out j hjl)
     have HR2:=Aside0.mk (HP.out.rest j hjl)
     have HRC:=Aside0.mk (fun(A:Option Addr) (c:Nat) (W:World) (h1:Kd.C (Kd.int .u32) W A (rd_T58 l j).f2.length (rd_T58 l j).f2) (h2:(rd_T58 l j).f2.length<=c)=>halideref18_Rests.calls K wd ht A c (rd_T58 l j).f2 (rs j) 0 W h1 h2 (HRF.out j hjl).1)
     have HL2:=Aside0.mk hl2
     have t0:wr.cell? ⟨gt,0,none⟩=some (.int .i64 0):=(blk_cell HT.out 0).trans C0.out
     have t1:wr.cell? ⟨gt,1,none⟩=some (.int .i64 0):=(blk_cell HT.out 1).trans C1.out
     have t2:wr.cell? ⟨gt,2,none⟩=some (.int .i64 wd):=(blk_cell HT.out 2).trans C2.out
     have t3:wr.cell? ⟨gt,3,none⟩=some (.int .i64 ht):=(blk_cell HT.out 3).trans C3.out
     have p1:(0:Int)<=j:=by omega
     have p2:(j:Int)<(l.length:Int):=by omega
     have HWa:=Aside0.mk hw0
     have HWb:=Aside0.mk hw1
     have HWc:=Aside0.mk hw2
     have HJ:=Aside0.mk (show plane_Check.f wd ht (rd_T58 l j).f2=some 0 from hp3)
     have hlen:(rd_T58 l j).f2.length<=65536:=HSML.out j hjl
     clear hw0 hw1 hw2 hp0 hp1 hp2 hp3 hl2 hc2
     go_wp2_with fail
     refine start_ (n:=16) (S:=fun w'=>w'.cell? ⟨w.heap.size,1,none⟩=some (.slice (some ad) l.length cap)/\w'.cell? (ad.add (j*3))=some (.int .i64 wd)/\w'.cell? ⟨(ad.add (j*3)).block,(ad.add (j*3)).off+1,none⟩=some (.int .i64 ht)/\w'.cell? ⟨(ad.add (j*3)).block,(ad.add (j*3)).off+2,none⟩=some (.slice A2 (rd_T58 l j).f2.length c2)/\w'.cell? ⟨gt,0,none⟩=some (.int .i64 0)/\w'.cell? ⟨gt,1,none⟩=some (.int .i64 0)/\w'.cell? ⟨gt,2,none⟩=some (.int .i64 wd)/\w'.cell? ⟨gt,3,none⟩=some (.int .i64 ht)) (ds := []) (Array.replicate 16 false) (by kernel_rfl) rfl rfl ⟨qb,hv0,hv1,hv2,t0,t1,t2,t3⟩ (fun hHeld=>?_);refine with_tabW rp_tab rp_bits (fun HT_ HW_=>?_)
     replace EI:=Aside0.mk (EI.out.mono (below_drew1 (Below.refl wr.heap.size wr)))
     replace HT:=Aside0.mk (blk_drew HT.out)
     replace HC2:=Aside0.mk (Kd.C_drew HC2.out)
     clear qb hv0 hv1 hv2 t0 t1 t2 t3
     generalize wr.drew=w2 at EI HT HC2 hHeld ⊢
     refine pu 0 72 HT_ ?_
     refine tk 1 73 HT_ HW_ hHeld rfl (by rintro w' ⟨s0,s1,s2,s3,s4,s5,s6,s7⟩;go_simp;with_reducible rfl) ?_
     refine pu 2 74 HT_ ?_
     refine pu 3 75 HT_ ?_
     refine tk 4 76 HT_ HW_ hHeld rfl (by rintro w' ⟨s0,s1,s2,s3,s4,s5,s6,s7⟩;go_simp;with_reducible rfl) ?_
     refine pu 5 77 HT_ ?_
     refine pu 6 78 HT_ ?_
     refine pu 7 79 HT_ ?_
     refine tk 8 80 HT_ HW_ hHeld rfl (by rintro w' ⟨s0,s1,s2,s3,s4,s5,s6,s7⟩;go_simp;with_reducible rfl) ?_
     refine one_ (i:=9) (N:=some 81) #[true,true,true,true,true,true,true,true,true,true,false,false,false,false,false,false] rfl rfl (one_of HT_.out (by kernel_rfl)) (by decide) (fun K hK=>?_)
     refine goes_ Tryz.func109 (by kernel_rfl) rfl #[.agg #[.int .i64 wd,.int .i64 ht,.slice A2 (rd_T58 l j).f2.length c2],.agg #[.int .i64 0,.int .i64 0,.int .i64 wd,.int .i64 ht]] (by rfl) rfl rfl (by simp[Act.eval]) ?_
     refine(crop_109 w2 wd ht A2 c2 (rd_T58 l j).f2 HC2.out HL2.out HP2.out hwd0 (by omega) (by omega) (by omega)).mono ?_
     rintro e wc ⟨vc,rfl,hoc,hb⟩
     obtain⟨Ac,cc,rfl,hlc,hCc⟩:=Kd.R_reads hoc
     refine⟨_,rfl,?_⟩
     replace EI:=Aside0.mk (EI.out.mono hb)
     replace HT:=Aside0.mk (blk_below HT.out hb)
     have HCc:=Aside0.mk hCc
     clear hb hoc hCc hHeld HC2
     refine hK.out _ _ ⟨(blk_cell EI.out.box 1).trans rfl,(EI.out.below.cell (World.block_lt_of_cell? w _ HWa.out)).trans HWa.out,(EI.out.below.cell (World.block_lt_of_cell? w _ HWb.out)).trans HWb.out,(EI.out.below.cell (World.block_lt_of_cell? w _ HWc.out)).trans HWc.out,(blk_cell HT.out 0).trans C0.out,(blk_cell HT.out 1).trans C1.out,(blk_cell HT.out 2).trans C2.out,(blk_cell HT.out 3).trans C3.out⟩ (fun hHeld=>?_)
     clear hK K
     refine norm_ (a':=?_) ?_ ?_
     rotate_left
     ·show Act.put _ (some 81) _=_
      simp only[Act.put,List.setIfInBounds_toArray,List.set_cons_zero,List.set_cons_succ,i64_w,i32_w]
      rfl
     refine one_ (i:=10) (N:=some 82) #[true,true,true,true,true,true,true,true,true,true,true,false,false,false,false,false] rfl rfl (one_of HT_.out (by kernel_rfl)) (by decide) (fun K hK=>?_)
     refine goes_ Tryz.func108 (by kernel_rfl) rfl #[.agg #[.int .i64 wd,.int .i64 ht,.slice Ac (rd_T58 l j).f2.length cc]] (by rfl) rfl rfl (by simp[Act.eval]) ?_
     refine(HRC.out Ac cc wc HCc.out hlc).mono ?_
     rintro e wd_ ⟨vr,rfl,hor,hb⟩
     obtain⟨Ar,cr,rfl,hlr,hCr⟩:=Kd.R_reads hor
     refine⟨_,rfl,?_⟩
     replace EI:=Aside0.mk (EI.out.mono hb)
     replace HT:=Aside0.mk (blk_below HT.out hb)
     have HCr:=Aside0.mk hCr
     clear hb hor hCr hHeld HCc
     refine hK.out _ _ ⟨(blk_cell EI.out.box 1).trans rfl,(EI.out.below.cell (World.block_lt_of_cell? w _ HWa.out)).trans HWa.out,(EI.out.below.cell (World.block_lt_of_cell? w _ HWb.out)).trans HWb.out,(EI.out.below.cell (World.block_lt_of_cell? w _ HWc.out)).trans HWc.out,(blk_cell HT.out 0).trans C0.out,(blk_cell HT.out 1).trans C1.out,(blk_cell HT.out 2).trans C2.out,(blk_cell HT.out 3).trans C3.out⟩ (fun hHeld=>?_)
     clear hK K
     refine norm_ (a':=?_) ?_ ?_
     rotate_left
     ·show Act.put _ (some 82) _=_
      simp only[Act.put,List.setIfInBounds_toArray,List.set_cons_zero,List.set_cons_succ,i64_w,i32_w]
      rfl
     refine pu 11 71 HT_ ?_
     refine pu 12 83 HT_ ?_
     refine pu 13 84 HT_ ?_
     refine pu 14 14 HT_ ?_
     refine pu 15 15 HT_ ?_
     refine done_ (done_of HT_.out (by kernel_rfl)) ?_
     clear HT_ HW_ hHeld HWa HWb HWc
     have HE:=Aside0.mk (enc_110 wd_ Ar cr (rs j) HCr.out HR.out.2 HR2.out.2.2)
     clear hlr
     go_wp2_with fail
     refine HE.out.mono ?_
     rintro e we ⟨vb,rfl,hob,hb⟩
     have HOW:=Aside0.mk (show ∀a,u9.ownBlock=some a->a<wd_.heap.size from fun a ha=>Kd.R_lt EI.out.out a ha)
     have HOW2:=Aside0.mk (show ∀a,u10.ownBlock=some a->a<wd_.heap.size from fun a ha=>Kd.R_lt EI.out.parts a ha)
     replace EI:=Aside0.mk (EI.out.mono hb)
     replace HT:=Aside0.mk (blk_below HT.out hb)
     have HRD:=Aside0.mk (OB.toRd hob)
     clear hob hb HE HCr HRC
     obtain⟨Ab,cb,rfl,hCb,hlb,hAb⟩:=HRD.out.form
     have hel:(encL (rs j)).length<=1000000:=by have:=encL_le (rs j);have:=HR2.out.2.2;omega
     have hlt:=encL_lt (rs j)
     have hpl:(partsOf rs j).length=j:=by simp[partsOf]
     have hpm : ∀p∈partsOf rs j,p.length<=458753:=by
      intro p hp
      obtain⟨b,hb,rfl⟩:=List.mem_map.1 hp
      have:=encL_le (rs b);have:=(HP.out.rest b (by have:=List.mem_range.1 hb;omega)).2.2;omega
     have hfl:=frameB_le 458753 _ hpm
     rw[hpl] at hfl
     have hfl2:(frameB (partsOf rs j)).length<=8*458757:=Nat.le_trans hfl (Nat.mul_le_mul_right _ (by omega))
     have hil:(hdL spn l.length wd ht 1024++indexB (partsOf rs j)).length<=1000:=by rw[List.length_append,hdL_length,indexB_length,hpl];omega
     have HEQ9:hdL spn l.length wd ht 1024++indexB (partsOf rs (j+1))=(hdL spn l.length wd ht 1024++indexB (partsOf rs j))++be 4 (encL (rs j)).length:=by rw[partsOf_succ,indexB_snoc,List.append_assoc]
     have HEQ10:frameB (partsOf rs (j+1))=(frameB (partsOf rs j)++encL (rs j))++be 4 (crcOf (encL (rs j))):=by rw[partsOf_succ,frameB_snoc]
     clear hfl hpm hpl
     generalize hdL spn l.length wd ht 1024++indexB (partsOf rs j)=B9 at EI hil HEQ9
     generalize frameB (partsOf rs j)=B10 at EI hfl2 HEQ10
     generalize encL (rs j)=bs at HRD hCb hlb hel hlt HEQ9 HEQ10 ⊢
     have HQ9:=Aside0.mk HEQ9
     have HQ10:=Aside0.mk HEQ10
     have HLT:=Aside0.mk hlt
     have HN1:=Aside0.mk hil
     have HN2:=Aside0.mk hfl2
     have HN3:=Aside0.mk hel
     have m8:((bs.length:Int)%4294967296)=bs.length:=by omega
     clear HEQ9 HEQ10 hlt hCb hlb hAb hil hfl2
     go_wp2_with fail
     refine(four_111 we w.heap.size bs.length u9 B9 EI.out.out EI.out.below.size (by omega) (by have:=HN1.out;omega)).mono ?_
     rintro e wf ⟨v9',rfl,ho9,hg9⟩
     have RD2:=Aside0.mk (HRD.out.grw hg9 HOW.out)
     replace HT:=Aside0.mk (blk_grown HT.out hg9.grown (ne_own EI.out.out HT.out (by decide)))
     replace EI:=Aside0.mk (EI.out.outG hg9 ho9)
     obtain⟨A7,c7,e7,hC7,_,_⟩:=RD2.out.form
     injection e7 with e7a _ e7b
     subst e7a e7b
     have HC7:=Aside0.mk hC7
     have HL7:=Aside0.mk (show B10.length+bs.length<=200000000 by have:=HN2.out;omega)
     have HS7:=Aside0.mk EI.out.below.size
     clear ho9 hg9 hC7 HRD
     go_wp2_with ((with_reducible refine gate_builtin (b := .append) (xs := #[.tmp 95,.tmp 96]) rfl ?_);at_builtin;refine append_bytes w.heap.size rfl (.tmp 95) (.tmp 96) rfl u10 B10 bs Ab cb rfl rfl EI.out.parts HC7.out HS7.out HL7.out ?_;intro v1 wk ho1 hg1;have RD3:=Aside0.mk (RD2.out.grw hg1 HOW2.out);have HT3:=Aside0.mk (blk_grown HT.out hg1.grown (ne_own EI.out.parts HT.out (by decide)));have EI3:=Aside0.mk (EI.out.parG hg1 ho1);clear ho1 hg1 RD2 HT EI)
     obtain⟨A8,c8,e8,hC8,_,_⟩:=RD3.out.form
     injection e8 with e8a _ e8b
     subst e8a e8b
     refine(sum_66 wk Ab cb bs hC8 HLT.out (by omega)).mono ?_
     rintro e wm ⟨rfl,nd,rfl⟩
     have hcl:=crcOf_lt HLT.out
     have EI4:=Aside0.mk (EI3.out.mono (pw_below_drewN (Below.refl wk.heap.size wk) nd))
     have HT4:=Aside0.mk (blk_drewN HT3.out nd)
     clear hC8 RD3 EI3 HT3 HC7
     generalize wk.drewN nd=wn at EI4 HT4 ⊢
     go_wp2_with fail
     refine(four_111 wn w.heap.size (crcOf bs) v1 (B10++bs) EI4.out.parts EI4.out.below.size hcl (by rw[List.length_append];have:=HN2.out;omega)).mono ?_
     rintro e wo ⟨v2,rfl,ho2,hg2⟩
     have HT5:=Aside0.mk (blk_grown HT4.out hg2.grown (ne_own EI4.out.parts HT4.out (by decide)))
     have EI5:=Aside0.mk (EI4.out.parG hg2 ho2)
     clear ho2 hg2 EI4 HT4
     go_wp2
     go_roundw
     case rel=>exact⟨j+1,by omega,by go_num,⟨by rw[HQ9.out,HQ10.out];exact EI5.out⟩,HT5⟩
     case measure=>simp[intOf];omega
    ·obtain rfl:j=l.length:=by omega
     go_wp2
     go_roundw
     case rel=>exact⟨1,by omega,rfl,⟨by rw[Nat.one_mul];exact EI.out⟩,HT⟩
     case measure=>simp[intOf]
  ·obtain rfl:i=1:=by omega
   rw[Nat.one_mul] at EI
   have hpl:(partsOf rs l.length).length=l.length:=by simp[partsOf]
   have hpm : ∀p∈partsOf rs l.length,p.length<=458753:=by
    intro p hp
    obtain⟨b,hb,rfl⟩:=List.mem_map.1 hp
    have:=encL_le (rs b);have:=(HP.out.rest b (List.mem_range.1 hb)).2.2;omega
   have hfl:=frameB_le 458753 _ hpm
   rw[hpl] at hfl
   have hfl2:(frameB (partsOf rs l.length)).length<=8*458757:=Nat.le_trans hfl (Nat.mul_le_mul_right _ (by omega))
   have hil:(hdL spn l.length wd ht 1024++indexB (partsOf rs l.length)).length<=1000:=by rw[List.length_append,hdL_length,indexB_length,hpl];omega
   have hlt9 : ∀b∈hdL spn l.length wd ht 1024++indexB (partsOf rs l.length),b<256:=by intro b hb;rcases List.mem_append.1 hb with h|h;exact hdL_lt hsp (by omega) _ _ _ b h;exact indexB_lt _ b h
   have HFL:=Aside0.mk (show picF spn l wd ht rs=((hdL spn l.length wd ht 1024++indexB (partsOf rs l.length))++be 4 (crcOf (hdL spn l.length wd ht 1024++indexB (partsOf rs l.length))))++frameB (partsOf rs l.length) from rfl)
   clear hfl hpm hpl HT
   generalize hdL spn l.length wd ht 1024++indexB (partsOf rs l.length)=B9 at EI hil hlt9 HFL
   generalize frameB (partsOf rs l.length)=B10 at EI hfl2 HFL
   obtain⟨A9,c9,rfl,hcl9,hC9⟩:=EI.out.out.rd
   obtain⟨A10,c10,rfl,hcl10,hC10⟩:=EI.out.parts.rd
   have HSU:=Aside0.mk (sum_66 wr A9 c9 B9 hC9 hlt9 (by omega))
   have hcl:=crcOf_lt hlt9
   have HN1:=Aside0.mk hil
   have HN2:=Aside0.mk hfl2
   clear hC9 hC10 hlt9 hcl9 hcl10 hil hfl2
   have b1:decide (((1:Nat):Int)<1)=false:=by decide
   go_wp2_with fail
   refine HSU.out.mono ?_
   rintro e wm ⟨rfl,nd,rfl⟩
   have EI4:=Aside0.mk (EI.out.mono (pw_below_drewN (Below.refl wr.heap.size wr) nd))
   clear HSU EI
   generalize wr.drewN nd=wn at EI4 ⊢
   go_wp2_with fail
   refine(four_111 wn w.heap.size (crcOf B9) _ B9 EI4.out.out EI4.out.below.size hcl (by have:=HN1.out;omega)).mono ?_
   rintro e wo ⟨v2,rfl,ho2,hg2⟩
   have EI5:=Aside0.mk (EI4.out.outG hg2 ho2)
   clear ho2 hg2 EI4
   obtain⟨A10',c10',e10,_,hC10⟩:=EI5.out.parts.rd
   injection e10 with e10a _ e10b
   subst e10a e10b
   have HC10:=Aside0.mk hC10
   have HS5:=Aside0.mk EI5.out.below.size
   have HL5:=Aside0.mk (show(B9++be 4 (crcOf B9)).length+B10.length<=200000000 by rw[List.length_append,be_length];have:=HN1.out;have:=HN2.out;omega)
   clear hC10
   go_wp2_with ((with_reducible refine gate_builtin (b := .append) (xs := #[.tmp 106,.tmp 107]) rfl ?_);at_builtin;refine append_bytes w.heap.size rfl (.tmp 106) (.tmp 107) rfl v2 _ B10 A10 c10 rfl rfl EI5.out.out HC10.out HS5.out HL5.out ?_;intro v5 w5b ho5 hg5;have HO5:=Aside0.mk ho5;have HB5:=Aside0.mk (hg5.below EI5.out.below HS5.out EI5.out.out);clear ho5 hg5)
   go_ret2
   refine⟨v5,rfl,?_,HB5.out⟩
   rw[HFL.out]
   exact HO5.out
end Go.Proofs.YtgpegjmbofgmmaaGreat.jou
