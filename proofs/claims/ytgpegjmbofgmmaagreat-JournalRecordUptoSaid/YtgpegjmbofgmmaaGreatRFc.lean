/- A part of the proof. No condition. -/
import Derived.Test.YtgpegjmbofgmmaaGreatRPu
import Derived.Test.YtgpegjmbofgmmaaGreatRGa
import Derived.Test.YtgpegjmbofgmmaaGreatRCk
import Derived.Test.YtgpegjmbofgmmaaGreatRPt
namespace Go.Proofs.YtgpegjmbofgmmaaGreat.jou
open Go.RowKit Go.Proofs.YtgpegjmbofgmmaaGreatW.PrintWords Go.Proofs.YtgpegjmbofgmmaaGreatW.PrintLast Go.Proofs.YtgpegjmbofgmmaaGreat.PJop Go.Proofs.YtgpegjmbofgmmaaGreat.PJou Go.Cod
set_option linter.unusedVariables false
set_option linter.unusedSimpArgs false
set_option maxHeartbeats 1600000 in
set_option maxRecDepth 100000 in
theorem bits_168 (w:World) (A:Option Addr) (cap:Nat) (xs:List Int) (hx:Kd.C (Kd.int .u32) w A xs.length xs) (hU:pln.AllU xs) (hn:xs.length<=65536) :
  Calls Tryz.prog 168 #[.slice A xs.length cap] w fun e W' => ∃v,e = .returned v/\OB W' w.heap.size v (b01 (bitsN (xs.map fdN) xs.length))/\Below w.heap.size w W':=by
 have HX:=Aside0.mk hx
 have HU:=Aside0.mk hU
 have HF:=Aside0.mk (show ∀z∈xs.map fdN,z<=4294967295 by intro z hz;obtain⟨x,_,rfl⟩:=List.mem_map.1 hz;exact fdN_hi x)
 clear hx hU
 go_enter Tryz.func168,Tryz.ntmps168
 go_wp2_with fail
 refine(begin_234 w).mono ?_
 rintro e w1 ⟨rfl,hb⟩
 have HS1:=Aside0.mk hb.size
 have HB:=Aside0.mk (below_alloc hb (.cells #[.int .i64 16,.int .i64 1] 368 (0,0)))
 have BK:=Aside0.mk (blk_new w1 (.cells #[.int .i64 16,.int .i64 1] 368 (0,0)))
 clear hb
 go_wp2_with fail
 generalize w1.heap.size=G at HS1 BK ⊢
 generalize w1.alloc (.cells #[.int .i64 16,.int .i64 1] 368 (0,0))=wa at HB BK ⊢
 go_loopw [3,5] (fun v3 v5 wr => ∃k:Nat,k<=xs.length/\v5 = .int .i64 k/\Aside0 (wr.heap[G]?=some (.cells #[.int .i64 (stN (xs.map fdN) k).1,.int .i64 (stN (xs.map fdN) k).2] 368 (0,0)))/\Aside0 (OB wr w.heap.size v3 (b01 (bitsN (xs.map fdN) k)))/\Aside0 (Below w.heap.size w wr)) (fun _ v5 _=>xs.length-(intOf v5).toNat)
 case atStart=>exact⟨0,Nat.zero_le _,rfl,BK,⟨Kd.R_nil _ _ _ _ _⟩,HB⟩
 case round =>
  clear BK HB
  obtain⟨k,hk,rfl,BK,HO,HB⟩:=hrel
  by_cases hlt:k<xs.length
  ·obtain⟨ad,rfl,hc0⟩:=Kd.at_int HX.out k (by omega) (by omega)
   have hc1:=(HB.out.cell (World.block_lt_of_cell? w _ hc0)).trans hc0
   simp only[Int.toNat_natCast] at hc1
   clear hc0
   have b1:decide ((k:Int)<(xs.length:Int))=true:=decide_eq_true (by omega)
   have b2:(0:Int)<=k:=by omega
   have HS:=Aside0.mk (stN_ok (xs.map fdN) HF.out k)
   have HN:=Aside0.mk (fds_at xs k hlt)
   have HUk:=Aside0.mk (pln.rd_u HU.out (k:Int))
   have hlen:=bitsN_le (xs.map fdN) k
   have f1:=fd_lo (rd xs k)
   have f2:=fd_hi (rd xs k)
   go_wp2_with fail
   refine(halideref17_Fold.calls (rd xs k) (fd (rd xs k)) _ (pln.fold_g HUk.out)).mono ?_
   rintro e w2 ⟨rfl,nd,rfl⟩
   have BK2:=Aside0.mk (blk_drewN BK.out nd)
   have HO2:=Aside0.mk (Kd.R_drewN HO.out nd)
   have HB2:=Aside0.mk (pw_below_drewN HB.out nd)
   generalize wr.drewN nd=w2 at BK2 HO2 HB2 ⊢
   clear BK HO HB hc1
   rw[fdN_eq] at f1 f2 ⊢
   have e1:=stN_succ _ _ _ HN.out
   have e2:=bitsN_succ _ _ _ HN.out
   have hst:=HS.out
   generalize hs1:(stN (xs.map fdN) k).1=sum at *
   generalize hs2:(stN (xs.map fdN) k).2=cnt at *
   generalize fdN (rd xs k)=z at *
   have q0:w2.cell? ⟨G,0,none⟩=some (.int .i64 sum):=(blk_cell BK2.out 0).trans rfl
   have q1:w2.cell? ⟨G,1,none⟩=some (.int .i64 cnt):=(blk_cell BK2.out 1).trans rfl
   have E1:=Aside0.mk (show(stN (xs.map fdN) (k+1)).1=nxS sum cnt z/\(stN (xs.map fdN) (k+1)).2=nxC cnt by rw[e1];unfold nS;rw[hs1,hs2];exact⟨rfl,rfl⟩)
   have E2:=Aside0.mk e2
   have HST:=Aside0.mk hst
   clear e1 e2 hst HS HN hs1 hs2
   go_wp2_with fail
   refine(halideref17_state_k.calls 100 sum cnt (kOf sum cnt:Int) _ (pln.k_big HST.out 100 (by omega))).mono ?_
   rintro e w3 ⟨rfl,hb⟩
   have BK3:=Aside0.mk (blk_below BK2.out hb)
   have HO3:=Aside0.mk (Kd.R_below HO2.out hb)
   have HB3:=Aside0.mk (below_step HB2.out hb)
   clear hb q0 q1 BK2 HO2 HB2
   have hk31:=kOf_le sum cnt
   go_wp2_with fail
   refine(code_236 w3 z (kOf sum cnt) (by omega) hk31).mono ?_
   rintro e w4 ⟨vc,rfl,hoc,hb⟩
   have BK4:=Aside0.mk (blk_below BK3.out hb)
   have HO4:=Aside0.mk (Kd.R_below HO3.out hb)
   have HB4:=Aside0.mk (below_step HB3.out hb)
   obtain⟨Ac,cc,rfl,hcc,hCC⟩:=hoc.rd
   have HCC:=Aside0.mk hCC
   have HSZ:=Aside0.mk HB4.out.size
   have hcl:=code_le (z:=z) hk31
   have HLL:=Aside0.mk (show(b01 (bitsN (xs.map fdN) k)).length+(b01 (code z (kOf sum cnt))).length<=200000000 by rw[b01_length,b01_length];omega)
   clear hb hoc hCC hcc hcl BK3 HO3 HB3
   go_wp2_with ((with_reducible refine gate_builtin (b := .append) (xs := #[.tmp 20,.tmp 24]) rfl ?_);at_builtin;refine append_bytes w.heap.size rfl (.tmp 20) (.tmp 24) rfl u3 (b01 (bitsN (xs.map fdN) k)) (b01 (code z (kOf sum cnt))) Ac cc rfl rfl HO4.out HCC.out HSZ.out HLL.out ?_;intro v1 w5 ho1 hg1;have BK5:=Aside0.mk (blk_grown BK4.out hg1.grown (ne_own HO4.out BK4.out (by decide)));have HB5:=Aside0.mk (hg1.below HB4.out HSZ.out HO4.out);have HO5:=Aside0.mk (show OB w5 w.heap.size v1 (b01 (bitsN (xs.map fdN) (k+1))) by rw[E2.out,b01_append];exact ho1);clear ho1 hg1 HO4 HB4 BK4;have q0:w5.cell? ⟨G,0,none⟩=some (.int .i64 sum):=(blk_cell BK5.out 0).trans rfl;have q1:w5.cell? ⟨G,1,none⟩=some (.int .i64 cnt):=(blk_cell BK5.out 1).trans rfl)
   refine(next_238 w5 sum cnt z HST.out f1 f2).mono ?_
   rintro e w6 ⟨rfl,hb⟩
   have BK6:=Aside0.mk (blk_below BK5.out hb)
   have HO6:=Aside0.mk (Kd.R_below HO5.out hb)
   have HB6:=Aside0.mk (below_step HB5.out hb)
   clear hb q0 q1 BK5 HO5 HB5
   have z0:w6.cell? ⟨G,0,none⟩=some (.int .i64 sum):=(blk_cell BK6.out 0).trans rfl
   have z1:w6.cell? ⟨G,1,none⟩=some (.int .i64 cnt):=(blk_cell BK6.out 1).trans rfl
   have y0:=blk_frozen BK6.out 0
   have y1:=blk_frozen BK6.out 1
   go_wp2
   go_roundw
   case rel =>
    refine⟨k+1,by omega,by go_num,⟨?_⟩,⟨?_⟩,⟨below_set (below_set HB6.out HS1.out) HS1.out⟩⟩
    ·rw[E1.out.1,E1.out.2]
     exact blk_put (blk_put BK6.out 0 (.int .i64 (nxS sum cnt z)) rfl) 1 (.int .i64 (nxC cnt)) rfl
    ·exact Kd.R_set (Kd.R_set HO6.out BK6.out (by decide) 0 _) (blk_put BK6.out 0 _ rfl) (by decide) 1 _
   case measure=>simp[intOf];omega
  ·obtain rfl:k=xs.length:=by omega
   go_wp2
   go_ret
   exact⟨_,rfl,HO.out,HB.out⟩
def pkT:Bool×List (List Nat×List Nat):=(true,[([],[]),([],[]),([1],[1]),([],[]),([],[]),([4],[4]),([3,5],[3,5]),([6],[6]),([],[]),([],[]),
 ([8,9],[8,9]),([10],[10]),([],[]),([12],[12]),([13],[13]),([11,14],[11,14]),([7,15],[7,15]),
 ([0,2,0,1,2,3,4,5,6,7,8,9,10,11,12,13,14,15,16],[0,2]),
 ([17,16,0,1,2,3,4,5,6,7,8,9,10,11,12,13,14,15,16],[16,17])])
def pkB:List Nat := [0,0,2,0,0,16,40,64,0,0,768,1024,0,4096,8192,18432,32896,131071,262143]
theorem pk_tab:rtab .any (opsOf Tryz.f167 5)=pkT:=by kernel_rfl
theorem pk_bits:waitsOk pkT.2 pkB=true:=by kernel_rfl
theorem ints_rep (m:Nat):ints (List.replicate m 0)=List.replicate m 0:=by simp[ints]
theorem ints_set (l:List Nat) (i x:Nat):ints (l.set i x)=(ints l).set i (x:Int):=by simp[ints,List.map_set]
theorem rd_ints (l:List Nat) (i:Nat):rd (ints l) (i:Int)=(l.getD i 0:Nat):=by
 simp only[rd,ints,List.getD_eq_getElem?_getD,Int.toNat_natCast,List.getElem?_map]
 cases l[i]?<;>rfl
set_option maxHeartbeats 1600000 in
set_option maxRecDepth 100000 in
theorem packed_167 (w:World) (A:Option Addr) (cap:Nat) (L:List Bool) (hx:Kd.C (Kd.int .u8) w A L.length (ints (b01 L))) (hn:L.length<=10000000) (N:Nat) (hN:N=(L.length+7)/8) :
  Calls Tryz.prog 167 #[.slice A L.length cap] w fun e W' => ∃v,e = .returned v/\OB W' w.heap.size v (packN N L)/\Below w.heap.size w W':=by
 have HX:=Aside0.mk hx
 clear hx
 have hdiv:((L.length:Int)+7)/8=(N:Int):=by omega
 have hN0:(0:Int)<=N:=by omega
 clear hN
 obtain⟨i5,hi,hz0,hz1,hz2⟩:=info_parts info5
 have hmc:(madeCells (Value.int .u8 0).cells (N*1)).toList=nums .u8 (ints (packN N (L.take 0))):=by
  rw[List.take_zero,packN_nil,ints_rep]
  apply List.ext_getElem
  ·simp[nums,madeCells]
  ·intro i h1 h2
   simp[nums,madeCells,Value.cells,Nat.mod_one]
 go_enter Tryz.func167,Tryz.ntmps167
 go_wp2_with (at_make;refine wpList_make_full _ rfl _ _ 35 rfl w.heap.size 5 i5 (.int .u8 0) 1 Tryz.underlying35 hi hz0 hz1 .i64 .i64 _ _ N rfl rfl hdiv hdiv (by rw[hz2];omega) (by unfold maxLen;omega) (Nat.le_refl _) ?_;intro wm hown hgrow;have HO0:=Aside0.mk (show wm.ownsRow w.heap.size 5 1 (.slice (some ⟨w.heap.size,0,none⟩) N N) N (nums .u8 (ints (packN N (L.take 0)))) from hmc▸hown);have HB0:=Aside0.mk (show Below w.heap.size w wm from ⟨hgrow.os,hgrow.tape,hgrow.output,hgrow.size,fun i hi=>hgrow.block i hi (by simp)⟩);clear hown hgrow)
 go_loopw [4] (fun v4 wr => ∃k:Nat,k<=L.length/\v4 = .int .i64 k/\Aside0 (wr.ownsRow w.heap.size 5 1 (.slice (some ⟨w.heap.size,0,none⟩) N N) N (nums .u8 (ints (packN N (L.take k)))))/\Aside0 (Below w.heap.size w wr)) (fun v4 _=>L.length-(intOf v4).toNat)
 case atStart=>exact⟨0,Nat.zero_le _,rfl,HO0,HB0⟩
 case round =>
  clear HO0 HB0 hmc hi hz0 hz1 hz2
  obtain⟨k,hk,rfl,HO,HB⟩:=hrel
  by_cases hlt:k<L.length
  ·have b1:decide ((k:Int)<(L.length:Int))=true:=decide_eq_true (by omega)
   obtain⟨b,hb⟩ : ∃b,L[k]?=some b:=⟨_,List.getElem?_eq_getElem hlt⟩
   obtain⟨ad,rfl,hc0⟩:=Kd.at_int HX.out k (by omega) (by omega)
   have hc1:=(HB.out.cell (World.block_lt_of_cell? w _ hc0)).trans hc0
   rw[rd_ints,show(b01 L).getD k 0=b.toNat by rw[List.getD_eq_getElem?_getD,b01_get L k b hb];rfl] at hc1
   simp only[Int.toNat_natCast] at hc1
   clear hc0
   have k8:k/8<N:=by omega
   have hr:=packN_room N k L b hb (by omega)
   have HN:=Aside0.mk (packN_next N k L b hb (by omega))
   have hlb:b.toNat<2:=by cases b<;>decide
   obtain⟨h1,h2⟩:=own_at HO.out ((k/8:Nat):Int) (by omega) (by omega)
   rw[rd_ints] at h1
   simp only[Int.toNat_natCast] at h1 h2
   generalize hy:(packN N (L.take k)).getD (k/8) 0=y at *
   have HY:=Aside0.mk hy
   have p1:(0:Int)<=k:=by omega
   have p2:(k:Int)/8=((k/8:Nat):Int):=by omega
   have p3:(k:Int)%8=((k%8:Nat):Int):=by omega
   have p4:(0:Int)<=((k/8:Nat):Int):=by omega
   have p5:((k/8:Nat):Int)<(N:Int):=by omega
   clear hy hb
   generalize k/8=j at *
   have m7:k%8<8:=Nat.mod_lt _ (by decide)
   generalize k%8=r at *
   have p6:wrap64 ((j:Nat):Int)=(j:Int):=by unfold wrap64;omega
   have t1:wrap64 (7-(k:Int).tmod 8)=((7-r:Nat):Int):=by rw[Int.tmod_eq_emod_of_nonneg (by omega),p3];unfold wrap64;omega
   have p8:(0:Int)<=((7-r:Nat):Int):=by omega
   go_wp2_with fail
   refine start_ (n:=19) (S:=fun w'=>w'.cell? ⟨w.heap.size,j,none⟩=some (.int .u8 y)/\w'.cell? (ad.add k)=some (.int .u8 b.toNat)) (ds := [18]) (Array.replicate 19 false) (by kernel_rfl) rfl rfl ⟨h1,hc1⟩ (fun hHeld=>?_);refine with_tabW pk_tab pk_bits (fun HT_ HW_=>?_)
   refine pu 0 16 HT_ ?_
   refine pu 1 17 HT_ ?_
   refine pu 2 18 HT_ ?_
   refine pu 3 19 HT_ ?_
   refine pu 4 20 HT_ ?_
   refine pu 5 21 HT_ ?_
   refine pu 6 22 HT_ ?_
   refine pu 8 24 HT_ ?_
   refine pu 9 25 HT_ ?_
   refine pu 10 26 HT_ ?_
   refine pu 12 28 HT_ ?_
   refine pu 13 29 HT_ ?_
   refine pu 14 30 HT_ ?_
   refine tk 7 23 HT_ HW_ hHeld rfl (by rintro w' ⟨s0,s1⟩;go_simp;with_reducible rfl) ?_
   refine tk 11 27 HT_ HW_ hHeld rfl (by rintro w' ⟨s0,s1⟩;go_simp;with_reducible rfl) ?_
   rw[t1]
   refine pu 15 31 HT_ ?_
   refine pu 16 32 HT_ ?_
   refine pu 17 33 HT_ ?_
   have hpw:(b.toNat*2^(7-r):Nat)<256:=by omega
   rw[show IntKind.u8.wrap ((y:Int)+IntKind.u8.wrap ((b.toNat:Int)*2^(7-r)))=((y+b.toNat*2^(7-r):Nat):Int) by
    have e1:(b.toNat:Int)*2^(7-r)=((b.toNat*2^(7-r):Nat):Int):=by push_cast;rfl
    rw[e1,IntKind.wrap_u8',IntKind.wrap_u8'];omega]
   have HO2:=Aside0.mk (show wr.drew.ownsRow w.heap.size 5 1 (.slice (some ⟨w.heap.size,0,none⟩) N N) N (nums .u8 (ints (packN N (L.take k)))) from ⟨HO.out.1,HO.out.2⟩)
   have HB2:=Aside0.mk (below_drew1 HB.out)
   have z0:wr.drew.cell? ⟨w.heap.size,j,none⟩=some (.int .u8 y):=h1
   have y0:wr.drew.frozen? ⟨w.heap.size,j,none⟩=false:=h2
   generalize wr.drew=w2 at HO2 HB2 hHeld z0 y0 ⊢
   refine last_ (i:=18) (N:=none) #[true,true,true,true,true,true,true,true,true,true,true,true,true,true,true,true,true,true,true] rfl rfl (one_of HT_.out (by kernel_rfl)) (by decide) (fun K hK=>?_)
   refine skip_ (w1:=?_) (by rfl) rfl ?_ ?_
   rotate_left
   ·go_simp
    rfl
   refine hK.out _ _ ?_
   clear hK K
   refine done_ (done_of HT_.out (by kernel_rfl)) ?_
   clear z0 y0 HT_ HW_ hHeld
   have HO3:=Aside0.mk (own_store HO2.out ((j:Nat):Int) ((y+b.toNat*2^(7-r):Nat):Int)).1
   rw[Int.toNat_natCast,<-ints_set,<-HN.out] at HO3
   have HB3:=Aside0.mk (below_set (j:=j) (v := .int .u8 ((y+b.toNat*2^(7-r):Nat):Int)) HB2.out (Nat.le_refl _))
   have hv:((y+b.toNat*2^(7-r):Nat):Int)=(y:Int)+(b.toNat:Int)*2^(7-r):=by push_cast;rfl
   rw[hv] at HO3 HB3
   generalize w2.setCell ⟨w.heap.size,j,none⟩ (.int .u8 ((y:Int)+(b.toNat:Int)*2^(7-r)))=w3 at HO3 HB3 ⊢
   clear hv p2 p3 p4 p5 p6 p8 t1 hpw hr m7 hlb k8 HN HY hdiv hN0
   have p9:wrap64 ((k:Int)+1)=(k:Int)+1:=by unfold wrap64;omega
   go_wp2
   go_roundw
   case rel=>exact⟨k+1,by omega,by go_num,HO3,HB3⟩
   case measure=>simp[intOf];omega
  ·obtain rfl:k=L.length:=by omega
   go_wp2
   go_ret
   refine⟨_,rfl,?_,HB.out⟩
   have h:=HO.out
   rw[List.take_of_length_le (Nat.le_refl _)] at h
   have e:N=(ints (packN N L)).length:=by rw[ints_length,packN_length]
   have h2:wr.ownsRow w.heap.size 5 1 (.slice (some ⟨w.heap.size,0,none⟩) N N) (ints (packN N L)).length (nums .u8 (ints (packN N L))):=e▸h
   exact Kd.R_of_own (h1:=fun _=>rfl) (enc:=fun z:Int=>Value.int .u8 z) (ok:=fun _=>True) h2 (fun _ _=>trivial)
theorem bitsEnc (xs:List Int):packN (((bitsN (xs.map fdN) xs.length).length+7)/8) (bitsN (xs.map fdN) xs.length)=encL xs:=by
 have e:bitsN (xs.map fdN) xs.length=codeL kS nS (16,1) (xs.map fdN):=by unfold bitsN;rw[List.take_of_length_le (by simp)]
 unfold encL encB packB
 rw[e]
set_option maxHeartbeats 800000 in
theorem enc_110 (w:World) (A:Option Addr) (cap:Nat) (xs:List Int) (hx:Kd.C (Kd.int .u32) w A xs.length xs) (hU:pln.AllU xs) (hn:xs.length<=65536) :
  Calls Tryz.prog 110 #[.slice A xs.length cap] w fun e W' => ∃v,e = .returned (.tuple #[v,.int .i64 0])/\OB W' w.heap.size v (encL xs)/\Below w.heap.size w W':=by
 have b0:decide (65536<(xs.length:Int))=false:=decide_eq_false (by omega)
 have b1:decide (65536<xs.length)=false:=decide_eq_false (by omega)
 have HW:=Aside0.mk (bits_168 w A cap xs hx hU hn)
 clear hx hU
 go_enter Tryz.func110,Tryz.ntmps110
 go_wp2_with fail
 refine HW.out.mono ?_
 rintro e w1 ⟨v,rfl,ho,hb⟩
 obtain⟨Ab,cb,rfl,hcb,hCb⟩:=ho.rd
 have hl:=bitsN_le (xs.map fdN) xs.length
 rw[b01_length] at hCb ⊢
 have HB:=Aside0.mk hb
 have HP:=Aside0.mk (packed_167 w1 Ab cb (bitsN (xs.map fdN) xs.length) hCb (by omega) _ rfl)
 clear ho hCb hb HW
 go_wp2_with fail
 refine HP.out.mono ?_
 rintro e w2 ⟨v2,rfl,ho2,hb2⟩
 have HO2:=Aside0.mk (Kd.R_lower ho2 HB.out.size)
 have HB2:=Aside0.mk (below_step HB.out hb2)
 clear ho2 hb2
 go_wp2
 go_ret2
 refine⟨v2,rfl,?_,HB2.out⟩
 rw[<- bitsEnc]
 exact HO2.out
end Go.Proofs.YtgpegjmbofgmmaaGreat.jou
namespace Go.Proofs.YtgpegjmbofgmmaaGreat.jou
open Go.RowKit Go.Proofs.YtgpegjmbofgmmaaGreatW.PrintWords Go.Proofs.YtgpegjmbofgmmaaGreatW.PrintLast Go.Proofs.YtgpegjmbofgmmaaGreat.PJop Go.Proofs.YtgpegjmbofgmmaaGreat.PJou Go.Cod
set_option linter.unusedVariables false
set_option linter.unusedSimpArgs false
def crpT:Bool×List (List Nat×List Nat):=(true,[([],[]),([0],[0]),([],[]),([2],[2]),([],[]),([],[]),([5],[5]),([4,6],[4,6]),([],[]),([8],[8]),([7,9],[7,9]),([],[]),([],[]),([12],[12]),([11,13],[11,13]),([],[]),([15],[15]),([14,16],[14,16]),([3,10,17],[3,10,17]),([1,18],[1,18]),([0,1,2,3,4,5,6,7,8,9,10,11,12,13,14,15,16,17,18,19],[]),([20,19,19,0,1,2,3,4,5,6,7,8,9,10,11,12,13,14,15,16,17,18,19],[19,20])])
def crpB:List Nat := [0,1,0,4,0,0,32,80,0,256,640,0,0,4096,10240,0,32768,81920,132104,262146,1048575,2097151]
theorem crp_tab:rtab .any (opsOf Tryz.f109 5)=crpT:=by kernel_rfl
theorem crp_bits:waitsOk crpT.2 crpB=true:=by kernel_rfl
theorem seg_next (xs:List Int) (lo a:Nat):xs.take lo++(xs.take (lo+a)).drop lo=xs.take (lo+a):=by
 have h:=List.take_append_drop lo (xs.take (lo+a))
 rwa [List.take_take,Nat.min_eq_left (by omega)] at h
set_option maxHeartbeats 1600000 in
set_option maxRecDepth 100000 in
theorem crop_109 (w:World) (a b:Nat) (A:Option Addr) (cap:Nat) (xs:List Int) (hC:Kd.C (Kd.int .u32) w A xs.length xs) (hcap:xs.length<=cap) (hlen:xs.length=a*b) (ha:0<a) (ha2:a<=100000) (hb2:b<=100000) (hn:xs.length<=1000000) :
  Calls Tryz.prog 109 #[.agg #[.int .i64 a,.int .i64 b,.slice A xs.length cap],.agg #[.int .i64 0,.int .i64 0,.int .i64 a,.int .i64 b]] w fun e W' => ∃v,e = .returned (.agg #[.int .i64 a,.int .i64 b,v])/\OW W' w.heap.size v xs/\Below w.heap.size w W':=by
 have HX:=Aside0.mk hC
 have HLN:=Aside0.mk hlen
 clear hC hlen
 go_enter Tryz.func109,Tryz.ntmps109
 go_wp2_with fail
 have BK0:=Aside0.mk (blk_alloc (blk_alloc (blk_alloc (blk_new w (.cells #[.int .i64 a,.int .i64 b,.slice A xs.length cap] 58 (0,0))) (.cells #[.int .i64 0,.int .i64 0,.int .i64 a,.int .i64 b] 29 (0,0))) (.cells #[.int .i64 0,.int .i64 0,.slice none 0 0] 58 (0,0))) (.cells #[.int .i64 a,.int .i64 b,.slice none 0 0] 58 (0,0)))
 have BK1:=Aside0.mk (blk_alloc (blk_alloc (heap_alloc2_new w (.cells #[.int .i64 a,.int .i64 b,.slice A xs.length cap] 58 (0,0)) (.cells #[.int .i64 0,.int .i64 0,.int .i64 a,.int .i64 b] 29 (0,0))) (.cells #[.int .i64 0,.int .i64 0,.slice none 0 0] 58 (0,0))) (.cells #[.int .i64 a,.int .i64 b,.slice none 0 0] 58 (0,0)))
 have bk2:=blk_alloc (heap_alloc2_new (w.alloc (.cells #[.int .i64 a,.int .i64 b,.slice A xs.length cap] 58 (0,0))) (.cells #[.int .i64 0,.int .i64 0,.int .i64 a,.int .i64 b] 29 (0,0)) (.cells #[.int .i64 0,.int .i64 0,.slice none 0 0] 58 (0,0))) (.cells #[.int .i64 a,.int .i64 b,.slice none 0 0] 58 (0,0))
 have bk3:=heap_alloc2_new ((w.alloc (.cells #[.int .i64 a,.int .i64 b,.slice A xs.length cap] 58 (0,0))).alloc (.cells #[.int .i64 0,.int .i64 0,.int .i64 a,.int .i64 b] 29 (0,0))) (.cells #[.int .i64 0,.int .i64 0,.slice none 0 0] 58 (0,0)) (.cells #[.int .i64 a,.int .i64 b,.slice none 0 0] 58 (0,0))
 rw[show(w.alloc (.cells #[.int .i64 a,.int .i64 b,.slice A xs.length cap] 58 (0,0))).heap.size=w.heap.size+1 by simp] at bk2
 rw[show((w.alloc (.cells #[.int .i64 a,.int .i64 b,.slice A xs.length cap] 58 (0,0))).alloc (.cells #[.int .i64 0,.int .i64 0,.int .i64 a,.int .i64 b] 29 (0,0))).heap.size=w.heap.size+1+1 by simp] at bk3
 have BK2:=Aside0.mk bk2
 have BK3:=Aside0.mk bk3
 have HB:=Aside0.mk (below_alloc (below_alloc (below_alloc (below_alloc (Below.refl w.heap.size w) (.cells #[.int .i64 a,.int .i64 b,.slice A xs.length cap] 58 (0,0))) (.cells #[.int .i64 0,.int .i64 0,.int .i64 a,.int .i64 b] 29 (0,0))) (.cells #[.int .i64 0,.int .i64 0,.slice none 0 0] 58 (0,0))) (.cells #[.int .i64 a,.int .i64 b,.slice none 0 0] 58 (0,0)))
 clear bk2 bk3
 generalize (((w.alloc (.cells #[.int .i64 a,.int .i64 b,.slice A xs.length cap] 58 (0,0))).alloc (.cells #[.int .i64 0,.int .i64 0,.int .i64 a,.int .i64 b] 29 (0,0))).alloc (.cells #[.int .i64 0,.int .i64 0,.slice none 0 0] 58 (0,0))).alloc (.cells #[.int .i64 a,.int .i64 b,.slice none 0 0] 58 (0,0))=W at BK0 BK1 BK2 BK3 HB ⊢
 go_loopw [6] (fun v6 wr => ∃y:Nat,y<=b/\v6 = .int .i64 y /\ ∃v:Value,Aside0 (wr.heap[w.heap.size]?=some (.cells #[.int .i64 a,.int .i64 b,.slice A xs.length cap] 58 (0,0)))/\Aside0 (wr.heap[w.heap.size+1]?=some (.cells #[.int .i64 0,.int .i64 0,.int .i64 a,.int .i64 b] 29 (0,0)))/\Aside0 (wr.heap[w.heap.size+1+1]?=some (.cells #[.int .i64 0,.int .i64 0,.slice none 0 0] 58 (0,0)))/\Aside0 (wr.heap[w.heap.size+1+1+1]?=some (.cells #[.int .i64 a,.int .i64 b,v] 58 (0,0)))/\Aside0 (OW wr w.heap.size v (xs.take (a*y)))/\Aside0 (Below w.heap.size w wr)) (fun v6 _=>b-(intOf v6).toNat)
 case atStart=>exact⟨0,Nat.zero_le _,rfl,_,BK0,BK1,BK2,BK3,⟨Kd.R_nil _ _ _ _ _⟩,HB⟩
 case round =>
  clear BK0 BK1 BK2 BK3 HB
  obtain⟨y,hy,rfl,v,BK0,BK1,BK2,BK3,HO,HB⟩:=hrel
  have qb:wr.cell? ⟨w.heap.size+1,3,none⟩=some (.int .i64 b):=(blk_cell BK1.out 3).trans rfl
  by_cases hlt:y<b
  ·have b1:decide ((y:Int)<(b:Int))=true:=decide_eq_true (by omega)
   have hm1:a*y+a<=xs.length:=by rw[HLN.out,<-Nat.mul_succ];exact Nat.mul_le_mul_left _ hlt
   have HM:=Aside0.mk (show a*(y+1)=a*y+a from Nat.mul_succ _ _)
   have e7:wrap64 ((y:Int)*(a:Int))=((a*y:Nat):Int):=by
    rw[Int.mul_comm,<-Int.natCast_mul];unfold wrap64;omega
   generalize hlo:a*y=lo at *
   clear hlo
   have e10:wrap64 (lo:Int)=(lo:Int):=by unfold wrap64;omega
   obtain⟨hi,hhi⟩ : ∃hi:Nat,hi=lo+a:=⟨_,rfl⟩
   have e17:wrap64 ((lo:Int)+(a:Int))=(hi:Int):=by unfold wrap64;omega
   have hmid:=Kd.C_mid (lo:=lo) HX.out (by omega) hm1 hcap
   have hl2:((xs.take (lo+a)).drop lo).length=a:=by rw[List.length_drop,List.length_take];omega
   have c0 : ¬cap=lo:=by omega
   have c1:(0:Int)<=(hi:Int):=by omega
   have c2:(hi:Int)<=(cap:Int):=by omega
   have c3:lo<=hi:=by omega
   have c4:hi-lo=a:=by omega
   have HHI:=Aside0.mk hhi
   clear hhi
   rw[show(lo*(Kd.int IntKind.u32).sz)=lo from Nat.mul_one lo,if_neg c0] at hmid
   have HSEG:=Aside0.mk (seg_next xs lo a)
   have HTL:=Aside0.mk (show(xs.take lo).length+a<=1000000 by rw[List.length_take];omega)
   rw[hl2] at hmid
   have HMID:=Aside0.mk hmid
   generalize (xs.take (lo+a)).drop lo=seg at HSEG HMID hl2
   clear hmid
   go_wp2_with fail
   refine start_ (n:=22) (S:=fun w'=>w'.cell? ⟨w.heap.size+1+1+1,2,none⟩=some v/\w'.cell? ⟨w.heap.size,2,none⟩=some (.slice A xs.length cap)/\w'.cell? ⟨w.heap.size,0,none⟩=some (.int .i64 a)/\w'.cell? ⟨w.heap.size+1,0,none⟩=some (.int .i64 0)/\w'.cell? ⟨w.heap.size+1,2,none⟩=some (.int .i64 a)/\True) (ds := [20,21]) (Array.replicate 22 false) (by kernel_rfl) rfl rfl ⟨(blk_cell BK3.out 2).trans rfl,(blk_cell BK0.out 2).trans rfl,(blk_cell BK0.out 0).trans rfl,(blk_cell BK1.out 0).trans rfl,(blk_cell BK1.out 2).trans rfl,trivial⟩ (fun hHeld=>?_);refine with_tabW crp_tab crp_bits (fun HT_ HW_=>?_)
   replace BK0:=Aside0.mk (blk_drew BK0.out)
   replace BK1:=Aside0.mk (blk_drew BK1.out)
   replace BK2:=Aside0.mk (blk_drew BK2.out)
   replace BK3:=Aside0.mk (blk_drew BK3.out)
   replace HO:=Aside0.mk (Kd.R_drew HO.out)
   replace HB:=Aside0.mk (below_drew1 HB.out)
   generalize wr.drew=w2 at BK0 BK1 BK2 BK3 HO HB hHeld ⊢
   clear qb
   refine pu 0 26 HT_ ?_
   refine tk 1 27 HT_ HW_ hHeld rfl (by rintro w' ⟨s0,s1,s2,s3,s4,s5⟩;go_simp;with_reducible rfl) ?_
   refine pu 2 28 HT_ ?_
   refine tk 3 29 HT_ HW_ hHeld rfl (by rintro w' ⟨s0,s1,s2,s3,s4,s5⟩;go_simp;with_reducible rfl) ?_
   refine pu 4 30 HT_ ?_
   refine pu 5 31 HT_ ?_
   refine tk 6 32 HT_ HW_ hHeld rfl (by rintro w' ⟨s0,s1,s2,s3,s4,s5⟩;go_simp;with_reducible rfl) ?_
   refine pu 7 33 HT_ ?_
   rw[e7]
   refine pu 8 34 HT_ ?_
   refine tk 9 35 HT_ HW_ hHeld rfl (by rintro w' ⟨s0,s1,s2,s3,s4,s5⟩;go_simp;with_reducible rfl) ?_
   refine pu 10 36 HT_ ?_
   rw[e10]
   refine pu 11 37 HT_ ?_
   refine pu 12 38 HT_ ?_
   refine tk 13 39 HT_ HW_ hHeld rfl (by rintro w' ⟨s0,s1,s2,s3,s4,s5⟩;go_simp;with_reducible rfl) ?_
   refine pu 14 40 HT_ ?_
   rw[e7]
   refine pu 15 41 HT_ ?_
   refine tk 16 42 HT_ HW_ hHeld rfl (by rintro w' ⟨s0,s1,s2,s3,s4,s5⟩;go_simp;with_reducible rfl) ?_
   refine pu 17 43 HT_ ?_
   rw[e17]
   refine pu 18 44 HT_ ?_
   refine one_ (i:=19) (N:=some 45) #[true,true,true,true,true,true,true,true,true,true,true,true,true,true,true,true,true,true,true,true,false,false] rfl rfl (one_of HT_.out (by kernel_rfl)) (by decide) (fun K hK=>?_)
   refine Kd.R_append_rows_step (Kd.int .u32) (w0:=w) w.heap.size (by rfl) (.tmp 27) (.tmp 44) 27 56 (.int .u32 0) 4 rfl Tryz.underlying27 info56 rfl (by decide) (by omega) v (xs.take lo) seg (Option.map (fun x=>x.add lo) A) a (cap-lo) (fun _=>True) (fun _=>False) rfl rfl HO.out ?aX (fun x cs h=>h) (fun _ hk=>hk.elim) (fun _ _=>trivial) HB.out HB.out.size ?aL ?_
   (case aX=>exact Kd.C_below HMID.out HB.out)
   (case aL=>have:=HTL.out;omega)
   intro v2 w3 ho hb3 hg hat
   replace BK0:=Aside0.mk (blk_grown BK0.out hg (own_ne (Kd.own_of_R HO.out) BK0.out (by decide)))
   replace BK1:=Aside0.mk (blk_grown BK1.out hg (own_ne (Kd.own_of_R HO.out) BK1.out (by decide)))
   replace BK2:=Aside0.mk (blk_grown BK2.out hg (own_ne (Kd.own_of_R HO.out) BK2.out (by decide)))
   replace BK3:=Aside0.mk (blk_grown BK3.out hg (own_ne (Kd.own_of_R HO.out) BK3.out (by decide)))
   replace HO:=Aside0.mk (show OW w3 w.heap.size v2 (xs.take (lo+a)) by rw[<- HSEG.out];exact ho)
   replace HB:=Aside0.mk hb3
   clear ho hb3 hg hat hHeld
   obtain⟨A2,c2,rfl⟩:=Kd.R_slice HO.out
   generalize (xs.take (lo+a)).length=mm at HO ⊢
   refine hK.out _ _ ⟨(blk_cell BK3.out 2).trans rfl,(blk_cell BK0.out 2).trans rfl,(blk_cell BK0.out 0).trans rfl,(blk_cell BK1.out 0).trans rfl,(blk_cell BK1.out 2).trans rfl,trivial⟩ (fun hHeld=>?_)
   clear hK K
   refine norm_ (a':=?_) ?_ ?_
   rotate_left
   ·show Act.put _ (some 45) _=_
    simp only[Act.put,List.setIfInBounds_toArray,List.set_cons_zero,List.set_cons_succ,i64_w,i32_w]
    rfl
   refine pu 20 46 HT_ ?_
   have z2:w3.cell? ⟨w.heap.size+1+1+1,2,none⟩=some v:=(blk_cell BK3.out 2).trans rfl
   have y2:=blk_frozen BK3.out 2
   refine last_ (i:=21) (N:=none) #[true,true,true,true,true,true,true,true,true,true,true,true,true,true,true,true,true,true,true,true,true,true] rfl rfl (one_of HT_.out (by kernel_rfl)) (by decide) (fun K hK=>?_)
   refine skip_ (w1:=?_) (by rfl) rfl ?_ ?_
   rotate_left
   ·go_simp
    rfl
   refine hK.out _ _ ?_
   clear hK K
   refine done_ (done_of HT_.out (by kernel_rfl)) ?_
   clear z2 y2 HT_ HW_ hHeld
   have k0:=Aside0.mk ((Below.heap_setCell w3 ⟨w.heap.size+1+1+1,2,none⟩ (.slice A2 mm c2) w.heap.size (show ¬w.heap.size=w.heap.size+1+1+1 by omega)).trans BK0.out)
   have k1:=Aside0.mk ((Below.heap_setCell w3 ⟨w.heap.size+1+1+1,2,none⟩ (.slice A2 mm c2) (w.heap.size+1) (show ¬w.heap.size+1=w.heap.size+1+1+1 by omega)).trans BK1.out)
   have k2:=Aside0.mk ((Below.heap_setCell w3 ⟨w.heap.size+1+1+1,2,none⟩ (.slice A2 mm c2) (w.heap.size+1+1) (show ¬w.heap.size+1+1=w.heap.size+1+1+1 by omega)).trans BK2.out)
   have k3:=Aside0.mk (blk_put BK3.out 2 (.slice A2 mm c2) rfl)
   have k4:=Aside0.mk (Kd.R_set HO.out BK3.out (by decide) 2 (.slice A2 mm c2))
   have k5:=Aside0.mk (below_set (j:=2) (v:=(.slice A2 mm c2)) HB.out (show w.heap.size<=w.heap.size+1+1+1 by omega))
   generalize w3.setCell ⟨w.heap.size+1+1+1,2,none⟩ (.slice A2 mm c2)=w4 at k0 k1 k2 k3 k4 k5 ⊢
   clear BK0 BK1 BK2 BK3 HO HB
   go_wp2
   go_roundw
   case rel=>exact⟨y+1,by omega,by go_num,_,k0,k1,k2,k3,by rw[HM.out];exact k4,k5⟩
   case measure=>simp[intOf];omega
  ·obtain rfl:y=b:=by omega
   have b1:decide ((y:Int)<(y:Int))=false:=by simp
   rw[List.take_of_length_le (by rw[HLN.out];exact Nat.le_refl _)] at HO
   obtain⟨A',c',rfl⟩:=Kd.R_slice HO.out
   have x0:wr.cell? ⟨w.heap.size+1+1+1,0,none⟩=some (.int .i64 a):=(blk_cell BK3.out 0).trans rfl
   have x1:wr.cell? ⟨w.heap.size+1+1+1,1,none⟩=some (.int .i64 y):=(blk_cell BK3.out 1).trans rfl
   have x2:wr.cell? ⟨w.heap.size+1+1+1,2,none⟩=some (.slice A' xs.length c'):=(blk_cell BK3.out 2).trans rfl
   have hcz0:wr.cell? ⟨w.heap.size+1+1,0,none⟩=some (.int .i64 0):=(blk_cell BK2.out 0).trans rfl
   have hcz1:wr.cell? ⟨w.heap.size+1+1,1,none⟩=some (.int .i64 0):=(blk_cell BK2.out 1).trans rfl
   have hcz2:wr.cell? ⟨w.heap.size+1+1,2,none⟩=some (.slice none 0 0):=(blk_cell BK2.out 2).trans rfl
   have hfz0:=blk_frozen BK2.out 0
   have hfz1:=blk_frozen BK2.out 1
   have hfz2:=blk_frozen BK2.out 2
   go_wp2
   have GE2:w.heap.size<=w.heap.size+1+1:=by omega
   have hp:=blk_put (blk_put (blk_put BK2.out 0 (.int .i64 a) rfl) 1 (.int .i64 y) rfl) 2 (.slice A' xs.length c') rfl
   refine bodyPost_ret (results_cell_row rfl _ _ (w.heap.size+1+1) 58 #[.int .i64 a,.int .i64 y,.slice A' xs.length c'] (0,0) _ rfl hp Tryz.underlying58 rfl (by kernel_rfl)) rfl ?_
   refine⟨_,rfl,?_,below_set (below_set (below_set HB.out GE2) GE2) GE2⟩
   have h1:=Kd.R_set HO.out BK2.out (by decide) 0 (.int .i64 a)
   have h2:=Kd.R_set h1 (blk_put BK2.out 0 (.int .i64 a) rfl) (by decide) 1 (.int .i64 y)
   exact Kd.R_set h2 (blk_put (blk_put BK2.out 0 (.int .i64 a) rfl) 1 (.int .i64 y) rfl) (by decide) 2 _
end Go.Proofs.YtgpegjmbofgmmaaGreat.jou
