/- A part of the proof. No condition. -/
import Derived.Test.YtgpegjmbofgmmaaGreatRFe
import Derived.Laws.Bits64b
import Derived.Test.YtgpegjmbofgmmaaGreatRPu
namespace Go.Proofs.YtgpegjmbofgmmaaGreat.jou
open Go.RowKit Go.Proofs.YtgpegjmbofgmmaaGreatW.PrintWords Go.Proofs.YtgpegjmbofgmmaaGreatW.PrintLast Go.Proofs.YtgpegjmbofgmmaaGreat.PJop Go.Proofs.YtgpegjmbofgmmaaGreat.PJou Go.Cod
set_option linter.unusedVariables false
set_option linter.unusedSimpArgs false
theorem and32 (U:Nat) (h:U<18446744073709551616):Go.bits BinOp.and IntKind.u64 (U:Int) 4294967295=((U%4294967296:Nat):Int):=by
 have e:=bits_and_u64_nat U 4294967295 h (by omega)
 rw[show U&&&4294967295=U%4294967296 from Nat.and_two_pow_sub_one_eq_mod U 32] at e
 exact e
set_option maxHeartbeats 800000 in
set_option maxRecDepth 100000 in
theorem number_32 (W:World) (base:Nat) (n:Int) (v:Value) (ns:List Nat) (ho:OB W base v ns) (hb:base<=W.heap.size) (hl:ns.length<=90000000) :
  Calls Tryz.prog 32 #[v,.int .i64 n] W fun e W' => ∃v',e = .returned v'/\OB W' base v' (ns++be 8 (u64N n))/\Grw W W' v v':=by
 have HO:=Aside0.mk ho
 have hu:=u64N_eq n
 have hlt:u64N n<18446744073709551616:=u64N_lt n
 generalize u64N n=U at hu hlt ⊢
 have h1:(U:Int)/4294967296=((U/4294967296:Nat):Int):=by omega
 have h2:=and32 U hlt
 have HE:=Aside0.mk (show be 8 U=be 4 (U/4294967296)++be 4 (U%4294967296) by rw[be8];congr 2;omega)
 have h3:U/4294967296<4294967296:=by omega
 have h4:U%4294967296<4294967296:=Nat.mod_lt _ (by decide)
 generalize U/4294967296=Uh at h1 h3 HE
 generalize U%4294967296=Ul at h2 h4 HE
 have h5:(Uh:Int)%4294967296=Uh:=by omega
 have h6:(Ul:Int)%4294967296=Ul:=by omega
 clear ho
 go_enter Tryz.func32,Tryz.ntmps32
 go_wp2_with fail
 refine(four_65 W base Uh v ns HO.out hb h3 (by omega)).mono ?_
 rintro e w1 ⟨v1,rfl,ho1,hg1⟩
 have HO1:=Aside0.mk ho1
 have HG1:=Aside0.mk hg1
 have HS1:=Aside0.mk (Nat.le_trans hb hg1.size)
 clear ho1 hg1
 go_wp2_with fail
 refine(four_65 w1 base Ul v1 _ HO1.out HS1.out h4 (by rw[List.length_append,be_length];omega)).mono ?_
 rintro e w2 ⟨v2,rfl,ho2,hg2⟩
 have HO2:=Aside0.mk ho2
 have HG2:=Aside0.mk (HG1.out.trans hg2)
 clear ho2 hg2
 go_wp2
 go_ret
 exact⟨_,rfl,by rw[HE.out,<-List.append_assoc];exact HO2.out,HG2.out⟩
set_option maxHeartbeats 1600000 in
set_option maxRecDepth 100000 in
theorem numbers_34 (W:World) (base:Nat) (v:Value) (ns:List Nat) (A:Option Addr) (c:Nat) (xs:List Int) (ho:OB W base v ns) (hb:base<=W.heap.size) (hx:Kd.C (Kd.int .i64) W A xs.length xs) (hfar : ∀a,v.ownBlock=some a -> ∀ad,A=some ad->0<xs.length->ad.block≠a) (hl:ns.length<=10000000) (hn:xs.length<=100000) :
  Calls Tryz.prog 34 #[v,.slice A xs.length c] W fun e W' => ∃v',e = .returned v'/\OB W' base v' (ns++(be 8 xs.length++seqB 8 xs xs.length))/\Grw W W' v v':=by
 have HO:=Aside0.mk ho
 have HX:=Aside0.mk hx
 have HFAR:=Aside0.mk hfar
 have HLL:=Aside0.mk (show u64N (xs.length:Int)=xs.length from u64N_nat _ (by omega))
 clear ho hx hfar
 go_enter Tryz.func34,Tryz.ntmps34
 go_wp2_with fail
 refine(number_32 W base (xs.length:Int) v ns HO.out hb (by omega)).mono ?_
 rintro e w1 ⟨v1,rfl,ho1,hg1⟩
 rw[HLL.out] at ho1
 have HR:=Aside0.mk (show OB w1 base v1 (ns++(be 8 xs.length++seqB 8 xs 0)) by simpa [seqB] using ho1)
 have HG:=Aside0.mk hg1
 clear ho1 hg1
 go_wp2
 go_loopw [0,5] (fun v0 v5 wr => ∃k:Nat,k<=xs.length/\v5 = .int .i64 k/\Aside0 (OB wr base v0 (ns++(be 8 xs.length++seqB 8 xs k)))/\Aside0 (Grw W wr v v0)) (fun _ v5 _=>xs.length-(intOf v5).toNat)
 case atStart=>exact⟨0,Nat.zero_le _,rfl,HR,HG⟩
 case round =>
  clear HR HG
  obtain⟨k,hk,rfl,HR,HG⟩:=hrel
  by_cases hlt:k<xs.length
  ·obtain⟨ad,rfl,hc0⟩:=Kd.at_int HX.out k (by omega) (by omega)
   have hblk:(ad.add k).block=ad.block:=by unfold Addr.add;split<;>rfl
   have hc1:wr.cell? (ad.add k)=some (.int .i64 (rd xs k)):=by
    refine(World.cell?_of_block (a:=ad.add k) (HG.out.grown.block (ad.add k).block (World.block_lt_of_cell? W _ hc0) ?_)).trans hc0
    rw[hblk]
    intro e
    exact HFAR.out ad.block e.symm ad rfl (by omega) rfl
   clear hc0 hblk
   have b1:decide ((k:Int)<(xs.length:Int))=true:=decide_eq_true (by omega)
   have b2:(0:Int)<=k:=by omega
   have hle:(ns++(be 8 xs.length++seqB 8 xs k)).length<=20000000:=by rw[List.length_append,List.length_append,be_length,seqB_length _ _ _ hk];omega
   have HSZ:=Aside0.mk (Nat.le_trans hb HG.out.size)
   go_wp2_with fail
   refine(number_32 wr base (rd xs k) u0 _ HR.out HSZ.out (by omega)).mono ?_
   rintro e w2 ⟨v2,rfl,ho2,hg2⟩
   have H2:=Aside0.mk (show OB w2 base v2 (ns++(be 8 xs.length++seqB 8 xs (k+1))) by rw[seqB_succ hlt,<-List.append_assoc,<-List.append_assoc];rw[<- List.append_assoc] at ho2;exact ho2)
   have HG2:=Aside0.mk (HG.out.trans hg2)
   clear ho2 hg2 HR HG
   go_wp2
   go_roundw
   case rel=>exact⟨k+1,by omega,by go_num,H2,HG2⟩
   case measure=>simp[intOf];omega
  ·obtain rfl:k=xs.length:=by omega
   go_wp2
   go_ret
   exact⟨_,rfl,HR.out,HG.out⟩
set_option maxHeartbeats 1600000 in
set_option maxRecDepth 100000 in
theorem samples_33 (W:World) (base:Nat) (v:Value) (ns:List Nat) (A:Option Addr) (c:Nat) (xs:List Int) (ho:OB W base v ns) (hb:base<=W.heap.size) (hx:Kd.C (Kd.int .u32) W A xs.length xs) (hfar : ∀a,v.ownBlock=some a -> ∀ad,A=some ad->0<xs.length->ad.block≠a) (hl:ns.length<=10000000) (hn:xs.length<=100000) (hU:pln.AllU xs) :
  Calls Tryz.prog 33 #[v,.slice A xs.length c] W fun e W' => ∃v',e = .returned v'/\OB W' base v' (ns++(be 8 xs.length++seqB 4 xs xs.length))/\Grw W W' v v':=by
 have HO:=Aside0.mk ho
 have HX:=Aside0.mk hx
 have HFAR:=Aside0.mk hfar
 have HU:=Aside0.mk hU
 clear hU
 have HLL:=Aside0.mk (show u64N (xs.length:Int)=xs.length from u64N_nat _ (by omega))
 clear ho hx hfar
 go_enter Tryz.func33,Tryz.ntmps33
 go_wp2_with fail
 refine(number_32 W base (xs.length:Int) v ns HO.out hb (by omega)).mono ?_
 rintro e w1 ⟨v1,rfl,ho1,hg1⟩
 rw[HLL.out] at ho1
 have HR:=Aside0.mk (show OB w1 base v1 (ns++(be 8 xs.length++seqB 4 xs 0)) by simpa [seqB] using ho1)
 have HG:=Aside0.mk hg1
 clear ho1 hg1
 go_wp2
 go_loopw [0,5] (fun v0 v5 wr => ∃k:Nat,k<=xs.length/\v5 = .int .i64 k/\Aside0 (OB wr base v0 (ns++(be 8 xs.length++seqB 4 xs k)))/\Aside0 (Grw W wr v v0)) (fun _ v5 _=>xs.length-(intOf v5).toNat)
 case atStart=>exact⟨0,Nat.zero_le _,rfl,HR,HG⟩
 case round =>
  clear HR HG
  obtain⟨k,hk,rfl,HR,HG⟩:=hrel
  by_cases hlt:k<xs.length
  ·obtain⟨ad,rfl,hc0⟩:=Kd.at_int HX.out k (by omega) (by omega)
   have hblk:(ad.add k).block=ad.block:=by unfold Addr.add;split<;>rfl
   have hc1:wr.cell? (ad.add k)=some (.int .u32 (rd xs k)):=by
    refine(World.cell?_of_block (a:=ad.add k) (HG.out.grown.block (ad.add k).block (World.block_lt_of_cell? W _ hc0) ?_)).trans hc0
    rw[hblk]
    intro e
    exact HFAR.out ad.block e.symm ad rfl (by omega) rfl
   clear hc0 hblk
   have b1:decide ((k:Int)<(xs.length:Int))=true:=decide_eq_true (by omega)
   have b2:(0:Int)<=k:=by omega
   have hle:(ns++(be 8 xs.length++seqB 4 xs k)).length<=20000000:=by rw[List.length_append,List.length_append,be_length,seqB_length _ _ _ hk];omega
   have HSZ:=Aside0.mk (Nat.le_trans hb HG.out.size)
   obtain⟨u1,u2⟩:=pln.rd_u HU.out (k:Int)
   obtain⟨y,hy⟩ : ∃y:Nat,rd xs k=(y:Int):=⟨(rd xs k).toNat,by omega⟩
   have HY:=Aside0.mk (show u64N (rd xs k)=y by rw[hy];exact u64N_nat _ (by omega))
   have hyl:y<4294967296:=by omega
   rw[hy] at hc1
   clear u1 u2 hy
   go_wp2_with fail
   refine(four_65 wr base y u0 _ HR.out HSZ.out hyl (by omega)).mono ?_
   rintro e w2 ⟨v2,rfl,ho2,hg2⟩
   have H2:=Aside0.mk (show OB w2 base v2 (ns++(be 8 xs.length++seqB 4 xs (k+1))) by rw[seqB_succ hlt,<-List.append_assoc,<-List.append_assoc,HY.out];rw[<- List.append_assoc] at ho2;exact ho2)
   have HG2:=Aside0.mk (HG.out.trans hg2)
   clear ho2 hg2 HR HG
   go_wp2
   go_roundw
   case rel=>exact⟨k+1,by omega,by go_num,H2,HG2⟩
   case measure=>simp[intOf];omega
  ·obtain rfl:k=xs.length:=by omega
   go_wp2
   go_ret
   exact⟨_,rfl,HR.out,HG.out⟩
set_option maxHeartbeats 1600000 in
set_option maxRecDepth 100000 in
theorem record_35 (W:World) (A:Option Addr) (c:Nat) (ns:List Nat) (hC:Kd.C (Kd.int .u8) W A ns.length (ints ns)) (hl:ns.length<=50000000) (hlt : ∀b∈ns,b<256) :
  Calls Tryz.prog 35 #[.slice A ns.length c] W fun e W' => ∃v,e = .returned v/\OB W' W.heap.size v (frameR ns)/\Below W.heap.size W W':=by
 have HC:=Aside0.mk hC
 have HLT:=Aside0.mk hlt
 have m8:((ns.length:Int)%4294967296)=ns.length:=by omega
 clear hC hlt
 go_enter Tryz.func35,Tryz.ntmps35
 go_wp2_with fail
 refine(four_65 W W.heap.size ns.length (.slice none 0 0) [] (Kd.R_nil _ _ _ _ _) (Nat.le_refl _) (by omega) (by simp)).mono ?_
 rintro e w1 ⟨v1,rfl,ho1,hg1⟩
 rw[List.nil_append] at ho1
 have HB1:=Aside0.mk (hg1.below (Below.refl W.heap.size W) (Nat.le_refl _) (show OB W W.heap.size (.slice none 0 0) [] from Kd.R_nil _ _ _ _ _))
 have HO1:=Aside0.mk ho1
 have HC1:=Aside0.mk (Kd.C_below HC.out HB1.out)
 have HS1:=Aside0.mk HB1.out.size
 have HL1:=Aside0.mk (show(be 4 ns.length).length+ns.length<=200000000 by rw[be_length];omega)
 clear ho1 hg1
 go_wp2_with ((with_reducible refine gate_builtin (b := .append) (xs := #[.tmp 6,.tmp 7]) rfl ?_);at_builtin;refine append_bytes W.heap.size rfl (.tmp 6) (.tmp 7) rfl v1 (be 4 ns.length) ns A c rfl rfl HO1.out HC1.out HS1.out HL1.out ?_;intro v2 w2 ho2 hg2;have HO2:=Aside0.mk ho2;have HB2:=Aside0.mk (hg2.below HB1.out HS1.out HO1.out);clear ho2 hg2)
 have HC2:=Aside0.mk (Kd.C_below HC.out HB2.out)
 refine(sum_66 w2 A c ns HC2.out HLT.out (by omega)).mono ?_
 rintro e w3 ⟨rfl,nd,rfl⟩
 have HB3:=Aside0.mk (pw_below_drewN HB2.out nd)
 have HO3:=Aside0.mk (Kd.R_drewN HO2.out nd)
 have hcl:=crcOf_lt HLT.out
 generalize w2.drewN nd=w3 at HB3 HO3 ⊢
 go_wp2_with fail
 refine(four_65 w3 W.heap.size (crcOf ns) v2 _ HO3.out HB3.out.size hcl (by rw[List.length_append,be_length];omega)).mono ?_
 rintro e w4 ⟨v4,rfl,ho4,hg4⟩
 have HO4:=Aside0.mk ho4
 have HB4:=Aside0.mk (hg4.below HB3.out HB3.out.size HO3.out)
 clear ho4 hg4
 go_wp2
 go_ret
 exact⟨v4,rfl,HO4.out,HB4.out⟩
set_option maxHeartbeats 1600000 in
set_option maxRecDepth 100000 in
theorem picture_31 {K spn:Nat} {l:List S58} {wd ht:Nat} {rs:Nat->List Int} (hp:Pic K spn l wd ht rs) (hck:halideref8_Check.f K spn l=some 0) (hrf : ∀j:Nat,j<l.length->halideref18_Rests.f K wd ht (rd_T58 l j).f2=some (rs j,0)/\pln.AllU (rs j)) (hsm : ∀j:Nat,j<l.length->(rd_T58 l j).f2.length<=65536)
  (W:World) (base:Nat) (v:Value) (ns:List Nat) (A:Option Addr) (cap:Nat) (ho:OB W base v ns) (hb:base<=W.heap.size) (hr:Kd.C k58 W A l.length l) (hcap:l.length<=cap) (hl:ns.length<=10000000) :
  Calls Tryz.prog 31 #[v,.agg #[.int .i64 spn,.slice A l.length cap]] W fun e W' => ∃v',e = .returned v'/\OB W' base v' (ns++(be 8 (picF spn l wd ht rs).length++picF spn l wd ht rs))/\Grw W W' v v':=by
 have HL:=Aside0.mk (picF_le hp)
 have HC:=Aside0.mk (encode_64 hp hck hrf hsm _ A cap (Kd.C_alloc hr (.cells #[.int .i64 spn,.slice A l.length cap] 25 (0,0))) hcap)
 generalize picF spn l wd ht rs=F at HL HC ⊢
 have HO:=Aside0.mk (show OB (W.alloc (.cells #[.int .i64 spn,.slice A l.length cap] 25 (0,0))) base v ns from Kd.R_alloc ho _)
 have HG0:=Aside0.mk (Grw.of_below (below_alloc (Below.refl W.heap.size W) (.cells #[.int .i64 spn,.slice A l.length cap] 25 (0,0))) v)
 clear ho hr hp hck hrf hsm
 go_enter Tryz.func31,Tryz.ntmps31
 go_wp2_with fail
 refine HC.out.mono ?_
 rintro e w1 ⟨vf,rfl,hof,hbf⟩
 have HO1:=Aside0.mk (Kd.R_below HO.out hbf)
 have HG1:=Aside0.mk (HG0.out.trans (Grw.of_below hbf v))
 have HFR:=Aside0.mk (show ∀a,v.ownBlock=some a->a<(W.alloc (.cells #[.int .i64 spn,.slice A l.length cap] 25 (0,0))).heap.size from fun a ha=>Kd.R_lt HO.out a ha)
 have HRD:=Aside0.mk (OB.toRd hof)
 have HSZ:=Aside0.mk (Nat.le_trans hb HG1.out.size)
 obtain⟨Af,cf,rfl,_,_,_⟩:=HRD.out.form
 clear hof hbf HC HO HG0
 have HLL:=Aside0.mk (show u64N (F.length:Int)=F.length from u64N_nat _ (by have:=HL.out;omega))
 go_wp2_with fail
 refine(number_32 w1 base (F.length:Int) v ns HO1.out HSZ.out (by omega)).mono ?_
 rintro e w2 ⟨v2,rfl,ho2,hg2⟩
 rw[HLL.out] at ho2
 have HRD2:=Aside0.mk (HRD.out.grw hg2 HFR.out)
 have HO2:=Aside0.mk ho2
 have HG2:=Aside0.mk (HG1.out.trans hg2)
 have HSZ2:=Aside0.mk (Nat.le_trans HSZ.out hg2.size)
 obtain⟨Af',cf',e7,hC7,_,_⟩:=HRD2.out.form
 injection e7 with e7a _ e7b
 subst e7a e7b
 have HC7:=Aside0.mk hC7
 have HL7:=Aside0.mk (show(ns++be 8 F.length).length+F.length<=200000000 by rw[List.length_append,be_length];have:=HL.out;omega)
 clear ho2 hg2 hC7
 go_wp2_with ((with_reducible refine gate_builtin (b := .append) (xs := #[.tmp 15,.tmp 16]) rfl ?_);at_builtin;refine append_bytes base rfl (.tmp 15) (.tmp 16) rfl v2 (ns++be 8 F.length) F Af cf rfl rfl HO2.out HC7.out HSZ2.out HL7.out ?_;intro v3 w3 ho3 hg3;have HO3:=Aside0.mk ho3;have HG3:=Aside0.mk (HG2.out.trans hg3);clear ho3 hg3)
 go_ret
 exact⟨v3,rfl,by rw[<- List.append_assoc];exact HO3.out,HG3.out⟩
end Go.Proofs.YtgpegjmbofgmmaaGreat.jou
namespace Go.Proofs.YtgpegjmbofgmmaaGreat.jou
open Go.RowKit Go.Proofs.YtgpegjmbofgmmaaGreatW.PrintWords Go.Proofs.YtgpegjmbofgmmaaGreatW.PrintLast Go.Proofs.YtgpegjmbofgmmaaGreat.PJop Go.Proofs.YtgpegjmbofgmmaaGreat.PJou Go.Cod
set_option linter.unusedVariables false
set_option linter.unusedSimpArgs false
def rfST:Bool×List (List Nat×List Nat):=(true,[([],[]),([],[]),([1],[1]),([0,2],[0,2]),([],[]),([4],[4]),([3,5,3],[3,5]),([],[]),([7],[7]),([6,8,6],[6,8]),([9,9,0,1,2,3,4,5,6,7,8,9],[0,9])])
def rfSB:List Nat := [0,0,2,5,0,16,40,0,128,320,1023]
theorem rfS_tab:rtab .any (opsOf Tryz.f10 10)=rfST:=by kernel_rfl
theorem rfS_bits:waitsOk rfST.2 rfSB=true:=by kernel_rfl
def rfKT:Bool×List (List Nat×List Nat):=(true,[([],[]),([],[]),([1],[1]),([0,2],[0,2]),([],[]),([4],[4]),([3,5,3],[3,5]),([],[]),([7],[7]),([6,8,6],[6,8]),([],[]),([10],[10]),([9,11,9],[9,11]),([12,12,0,1,2,3,4,5,6,7,8,9,10,11,12],[0,12])])
def rfKB:List Nat := [0,0,2,5,0,16,40,0,128,320,0,1024,2560,8191]
theorem rfK_tab:rtab .any (opsOf Tryz.f10 8)=rfKT:=by kernel_rfl
theorem rfK_bits:waitsOk rfKT.2 rfKB=true:=by kernel_rfl
theorem head1 (W1:World) (base:Nat) (hb:base<=W1.heap.size) (kb:Nat):OB (W1.alloc (.cells #[.int .u8 kb] 5)) base (.slice (some ⟨W1.heap.size,0,none⟩) 1 1) [kb] :=
 Kd.R_of_own (h1:=fun _=>rfl) (enc:=fun z:Int=>Value.int .u8 z) (xs:=ints [kb]) (ok:=fun _=>True) (World.ownsRow_lit W1 (base:=base) (e:=5) (size:=1) #[.int .u8 kb] 1 hb (by decide) rfl) (fun _ _=>trivial)
theorem far_of {w W:World} {k:IntKind} {A:Option Addr} {xs:List Int} {v:Value} {ns:List Nat} (hx:Kd.C (Kd.int k) w A xs.length xs) (ho:OB W w.heap.size v ns) : ∀a,v.ownBlock=some a -> ∀ad,A=some ad->0<xs.length->ad.block≠a:=by
 intro a ha ad had h0 e
 have h1:=Kd.R_base ho a ha
 obtain⟨ad',e2,hc⟩:=Kd.at_int hx 0 (by omega) (by omega)
 rw[had] at e2
 injection e2 with e2
 subst e2
 have h2:=World.block_lt_of_cell? w _ hc
 rw[show(ad.add (Int.toNat 0))=ad from rfl] at h2
 omega
set_option maxHeartbeats 3200000 in
set_option maxRecDepth 100000 in
theorem Ref_bad (w:World) (kind node x y sp:Int) (AP:Option Addr) (cP:Nat) (l:List S58) (AN:Option Addr) (cN:Nat) (xs:List Int) (AB:Option Addr) (cB:Nat) (zs:List Int) (r0 r1 r2 r3:Int) (h1:kind≠1) (h2:kind≠2) (h3:kind≠3) (h4:kind≠4) :
  Calls Tryz.prog 10 #[.agg #[.int .i64 kind,.int .i64 node,.int .i64 x,.int .i64 y,.int .i64 sp,.slice AP l.length cP,.slice AN xs.length cN,.slice AB zs.length cB,.int .i64 r0,.int .i64 r1,.int .i64 r2,.int .i64 r3]] w fun e W'=>e = .returned (.tuple #[.slice none 0 0,.int .i64 250])/\Below w.heap.size w W':=by
 have b1:(kind==1)=false:=by simpa using h1
 have b2:(kind==2)=false:=by simpa using h2
 have b3:(kind==3)=false:=by simpa using h3
 have b4:(kind==4)=false:=by simpa using h4
 clear h1 h2 h3 h4
 go_enter Tryz.func10,Tryz.ntmps10
 go_wp2
 go_ret2
 exact⟨rfl,by first|exact below_alloc (below_alloc (Below.refl w.heap.size w) _) _|exact below_alloc (Below.refl w.heap.size w) _⟩
set_option maxHeartbeats 3200000 in
set_option maxRecDepth 100000 in
theorem Ref_plain (w:World) (kb:Nat) (node x y sp:Int) (AP:Option Addr) (cP:Nat) (l:List S58) (AN:Option Addr) (cN:Nat) (xs:List Int) (AB:Option Addr) (cB:Nat) (zs:List Int) (r0 r1 r2 r3:Int) (hk:kb=3\/kb=4) :
  Calls Tryz.prog 10 #[.agg #[.int .i64 kb,.int .i64 node,.int .i64 x,.int .i64 y,.int .i64 sp,.slice AP l.length cP,.slice AN xs.length cN,.slice AB zs.length cB,.int .i64 r0,.int .i64 r1,.int .i64 r2,.int .i64 r3]] w fun e W' => ∃v,e = .returned (.tuple #[v,.int .i64 0])/\OB W' w.heap.size v (frameR [kb])/\Below w.heap.size w W':=by
 have b1:((kb:Int)==1)=false:=by simp;omega
 have b2:((kb:Int)==2)=false:=by simp;omega
 have m1:((kb:Int)%256)=kb:=by omega
 have HB:=Aside0.mk (below_alloc (below_alloc (Below.refl w.heap.size w) (.cells #[.int .i64 kb,.int .i64 node,.int .i64 x,.int .i64 y,.int .i64 sp,.slice AP l.length cP,.slice AN xs.length cN,.slice AB zs.length cB,.int .i64 r0,.int .i64 r1,.int .i64 r2,.int .i64 r3] 31 (0,0))) (.cells #[.int .u8 kb] 5))
 have HO:=Aside0.mk (head1 (w.alloc (.cells #[.int .i64 kb,.int .i64 node,.int .i64 x,.int .i64 y,.int .i64 sp,.slice AP l.length cP,.slice AN xs.length cN,.slice AB zs.length cB,.int .i64 r0,.int .i64 r1,.int .i64 r2,.int .i64 r3] 31 (0,0))) w.heap.size (by simp) kb)
 have hs:(w.alloc (.cells #[.int .i64 kb,.int .i64 node,.int .i64 x,.int .i64 y,.int .i64 sp,.slice AP l.length cP,.slice AN xs.length cN,.slice AB zs.length cB,.int .i64 r0,.int .i64 r1,.int .i64 r2,.int .i64 r3] 31 (0,0))).heap.size=w.heap.size+1:=by simp
 rw[hs] at HO
 clear hs
 obtain⟨A1,c1,e1,_,hC1⟩:=HO.out.rd
 injection e1 with e1a e1n e1b
 subst e1a e1b
 clear e1n
 have HR:=Aside0.mk (record_35 _ _ 1 [kb] hC1 (by simp) (by intro b hb;simp at hb;omega))
 clear hC1 HO
 rcases hk with h|h
 ·have b3:((kb:Int)==3)=true:=by simp;omega
  clear h
  go_enter Tryz.func10,Tryz.ntmps10
  go_wp2_with fail
  refine HR.out.mono ?_
  rintro e w2 ⟨v,rfl,ho,hb⟩
  have HO2:=Aside0.mk (Kd.R_lower ho HB.out.size)
  have HB2:=Aside0.mk (below_step HB.out hb)
  clear ho hb
  go_wp2
  go_ret2
  exact⟨v,rfl,HO2.out,HB2.out⟩
 ·have b3:((kb:Int)==3)=false:=by simp;omega
  have b4:((kb:Int)==4)=true:=by simp;omega
  clear h
  go_enter Tryz.func10,Tryz.ntmps10
  go_wp2_with fail
  refine HR.out.mono ?_
  rintro e w2 ⟨v,rfl,ho,hb⟩
  have HO2:=Aside0.mk (Kd.R_lower ho HB.out.size)
  have HB2:=Aside0.mk (below_step HB.out hb)
  clear ho hb
  go_wp2
  go_ret2
  exact⟨v,rfl,HO2.out,HB2.out⟩
set_option maxHeartbeats 3200000 in
set_option maxRecDepth 100000 in
theorem Ref_set (w:World) (kb:Nat) (node x y sp:Int) (AP:Option Addr) (cP:Nat) (l:List S58) (AN:Option Addr) (cN:Nat) (xs:List Int) (AB:Option Addr) (cB:Nat) (zs:List Int) (r0 r1 r2 r3:Int) (hk:kb=2) (hx:Kd.C (Kd.int .i64) w AN xs.length xs) (hz:Kd.C (Kd.int .u32) w AB zs.length zs) (hU:pln.AllU zs) (hxl:xs.length<=1000) (hzl:zs.length<=1000) :
  Calls Tryz.prog 10 #[.agg #[.int .i64 kb,.int .i64 node,.int .i64 x,.int .i64 y,.int .i64 sp,.slice AP l.length cP,.slice AN xs.length cN,.slice AB zs.length cB,.int .i64 r0,.int .i64 r1,.int .i64 r2,.int .i64 r3]] w fun e W' => ∃v,e = .returned (.tuple #[v,.int .i64 0])/\OB W' w.heap.size v (frameR (setL kb node xs zs))/\Below w.heap.size w W':=by
 have b1:((kb:Int)==1)=false:=by simp;omega
 have b2:((kb:Int)==2)=true:=by simp;omega
 have m1:((kb:Int)%256)=kb:=by omega
 have hkb:kb<256:=by omega
 clear hk
 have hs:(w.alloc (.cells #[.int .i64 kb,.int .i64 node,.int .i64 x,.int .i64 y,.int .i64 sp,.slice AP l.length cP,.slice AN xs.length cN,.slice AB zs.length cB,.int .i64 r0,.int .i64 r1,.int .i64 r2,.int .i64 r3] 31 (0,0))).heap.size=w.heap.size+1:=by simp
 have HB0:=Aside0.mk (below_alloc (below_alloc (Below.refl w.heap.size w) (.cells #[.int .i64 kb,.int .i64 node,.int .i64 x,.int .i64 y,.int .i64 sp,.slice AP l.length cP,.slice AN xs.length cN,.slice AB zs.length cB,.int .i64 r0,.int .i64 r1,.int .i64 r2,.int .i64 r3] 31 (0,0))) (.cells #[.int .u8 kb] 5))
 have HO0:=Aside0.mk (head1 (w.alloc (.cells #[.int .i64 kb,.int .i64 node,.int .i64 x,.int .i64 y,.int .i64 sp,.slice AP l.length cP,.slice AN xs.length cN,.slice AB zs.length cB,.int .i64 r0,.int .i64 r1,.int .i64 r2,.int .i64 r3] 31 (0,0))) w.heap.size (by simp) kb)
 rw[hs] at HO0
 clear hs
 have BK0:=Aside0.mk (blk_alloc (blk_new w (.cells #[.int .i64 kb,.int .i64 node,.int .i64 x,.int .i64 y,.int .i64 sp,.slice AP l.length cP,.slice AN xs.length cN,.slice AB zs.length cB,.int .i64 r0,.int .i64 r1,.int .i64 r2,.int .i64 r3] 31 (0,0))) (.cells #[.int .u8 kb] 5))
 have HX:=Aside0.mk hx
 have HZ:=Aside0.mk hz
 have HU:=Aside0.mk hU
 clear hx hz hU
 go_enter Tryz.func10,Tryz.ntmps10
 go_wp2_with fail
 generalize (w.alloc (.cells #[.int .i64 kb,.int .i64 node,.int .i64 x,.int .i64 y,.int .i64 sp,.slice AP l.length cP,.slice AN xs.length cN,.slice AB zs.length cB,.int .i64 r0,.int .i64 r1,.int .i64 r2,.int .i64 r3] 31 (0,0))).alloc (.cells #[.int .u8 kb] 5)=W at HB0 HO0 BK0 ⊢
 refine start_ (n:=11) (S:=fun w'=>w'.cell? ⟨w.heap.size,1,none⟩=some (.int .i64 node)/\w'.cell? ⟨w.heap.size,6,none⟩=some (.slice AN xs.length cN)/\w'.cell? ⟨w.heap.size,7,none⟩=some (.slice AB zs.length cB)) (ds := []) (Array.replicate 11 false) (by kernel_rfl) rfl rfl ⟨(blk_cell BK0.out 1).trans rfl,(blk_cell BK0.out 6).trans rfl,(blk_cell BK0.out 7).trans rfl⟩ (fun hHeld=>?_);refine with_tabW rfS_tab rfS_bits (fun HT_ HW_=>?_)
 replace HO0:=Aside0.mk (Kd.R_drew HO0.out)
 replace HB0:=Aside0.mk (below_drew1 HB0.out)
 replace BK0:=Aside0.mk (blk_drew BK0.out)
 generalize W.drew=w2 at HO0 HB0 BK0 hHeld ⊢
 refine pu 0 35 HT_ ?_
 refine pu 1 36 HT_ ?_
 refine tk 2 37 HT_ HW_ hHeld rfl (by rintro w' ⟨s0,s1,s2⟩;go_simp;with_reducible rfl) ?_
 refine pu 4 39 HT_ ?_
 refine tk 5 40 HT_ HW_ hHeld rfl (by rintro w' ⟨s0,s1,s2⟩;go_simp;with_reducible rfl) ?_
 refine pu 7 42 HT_ ?_
 refine tk 8 43 HT_ HW_ hHeld rfl (by rintro w' ⟨s0,s1,s2⟩;go_simp;with_reducible rfl) ?_
 refine one_ (i:=3) (N:=some 38) #[true,true,true,true,true,true,false,true,true,false,false] rfl rfl (one_of HT_.out (by kernel_rfl)) (by decide) (fun K hK=>?_)
 refine goes_ Tryz.func32 (by kernel_rfl) rfl #[.slice (some ⟨w.heap.size+1,0,none⟩) 1 1,.int .i64 node] (by rfl) rfl rfl (by simp[Act.eval]) ?_
 refine(number_32 w2 w.heap.size node _ [kb] HO0.out HB0.out.size (by simp)).mono ?_
 rintro e w3 ⟨v3,rfl,ho,hg⟩
 refine⟨_,rfl,?_⟩
 have HB3:=Aside0.mk (hg.below HB0.out HB0.out.size HO0.out)
 have BK3:=Aside0.mk (blk_grown BK0.out hg.grown (ne_own HO0.out BK0.out (by decide)))
 have HO3:=Aside0.mk ho
 clear ho hg hHeld HO0 HB0 BK0
 refine hK.out _ _ ⟨(blk_cell BK3.out 1).trans rfl,(blk_cell BK3.out 6).trans rfl,(blk_cell BK3.out 7).trans rfl⟩ (fun hHeld=>?_)
 clear hK K
 refine norm_ (a':=?_) ?_ ?_
 rotate_left
 ·show Act.put _ (some 38) _=_
  simp only[Act.put,List.setIfInBounds_toArray,List.set_cons_zero,List.set_cons_succ,i64_w,i32_w]
  rfl
 refine one_ (i:=6) (N:=some 41) #[true,true,true,true,true,true,true,true,true,false,false] rfl rfl (one_of HT_.out (by kernel_rfl)) (by decide) (fun K hK=>?_)
 refine goes_ Tryz.func34 (by kernel_rfl) rfl #[v3,.slice AN xs.length cN] (by rfl) rfl rfl (by simp[Act.eval]) ?_
 refine(numbers_34 w3 w.heap.size v3 _ AN cN xs HO3.out HB3.out.size (Kd.C_below HX.out HB3.out) (far_of HX.out HO3.out) (by rw[List.length_append,be_length];simp) (by omega)).mono ?_
 rintro e w4 ⟨v4,rfl,ho,hg⟩
 refine⟨_,rfl,?_⟩
 have HB4:=Aside0.mk (hg.below HB3.out HB3.out.size HO3.out)
 have BK4:=Aside0.mk (blk_grown BK3.out hg.grown (ne_own HO3.out BK3.out (by decide)))
 have HO4:=Aside0.mk ho
 clear ho hg hHeld HO3 HB3 BK3
 refine hK.out _ _ ⟨(blk_cell BK4.out 1).trans rfl,(blk_cell BK4.out 6).trans rfl,(blk_cell BK4.out 7).trans rfl⟩ (fun hHeld=>?_)
 clear hK K
 refine norm_ (a':=?_) ?_ ?_
 rotate_left
 ·show Act.put _ (some 41) _=_
  simp only[Act.put,List.setIfInBounds_toArray,List.set_cons_zero,List.set_cons_succ,i64_w,i32_w]
  rfl
 refine one_ (i:=9) (N:=some 44) #[true,true,true,true,true,true,true,true,true,true,false] rfl rfl (one_of HT_.out (by kernel_rfl)) (by decide) (fun K hK=>?_)
 refine goes_ Tryz.func33 (by kernel_rfl) rfl #[v4,.slice AB zs.length cB] (by rfl) rfl rfl (by simp[Act.eval]) ?_
 refine(samples_33 w4 w.heap.size v4 _ AB cB zs HO4.out HB4.out.size (Kd.C_below HZ.out HB4.out) (far_of HZ.out HO4.out) (by simp only[List.length_append,be_length,seqB_length _ _ _ (Nat.le_refl _)];simp;omega) (by omega) HU.out).mono ?_
 rintro e w5 ⟨v5,rfl,ho,hg⟩
 refine⟨_,rfl,?_⟩
 have HB5:=Aside0.mk (hg.below HB4.out HB4.out.size HO4.out)
 have BK5:=Aside0.mk (blk_grown BK4.out hg.grown (ne_own HO4.out BK4.out (by decide)))
 have HO5:=Aside0.mk (show OB w5 w.heap.size v5 (setL kb node xs zs) from ho)
 clear ho hg hHeld HO4 HB4 BK4
 obtain⟨A5,c5,rfl,_,hC5⟩:=HO5.out.rd
 have HLN:=Aside0.mk (show(setL kb node xs zs).length<=50000000 by unfold setL;simp only[List.length_append,be_length,seqB_length _ _ _ (Nat.le_refl _)];simp;omega)
 have HLT:=Aside0.mk (show ∀b∈setL kb node xs zs,b<256 by
  intro b hb
  unfold setL at hb
  simp only[List.mem_append] at hb
  rcases hb with ((hb|hb)|hb|hb)|hb|hb
  ·simp at hb;omega
  ·exact be_lt _ _ b hb
  ·exact be_lt _ _ b hb
  ·exact seqB_lt _ _ _ b hb
  ·exact be_lt _ _ b hb
  ·exact seqB_lt _ _ _ b hb)
 generalize hL:setL kb node xs zs=L at HO5 HLN HLT hC5 ⊢
 have HLe:=Aside0.mk hL
 clear hL
 have HR:=Aside0.mk (record_35 w5 A5 c5 L hC5 HLN.out HLT.out)
 clear hC5
 refine hK.out _ _ ⟨(blk_cell BK5.out 1).trans rfl,(blk_cell BK5.out 6).trans rfl,(blk_cell BK5.out 7).trans rfl⟩ (fun hHeld=>?_)
 clear hK K
 refine norm_ (a':=?_) ?_ ?_
 rotate_left
 ·show Act.put _ (some 44) _=_
  simp only[Act.put,List.setIfInBounds_toArray,List.set_cons_zero,List.set_cons_succ,i64_w,i32_w]
  rfl
 refine pu 10 4 HT_ ?_
 refine done_ (done_of HT_.out (by kernel_rfl)) ?_
 clear HT_ HW_ hHeld
 go_wp2_with fail
 refine HR.out.mono ?_
 rintro e w6 ⟨v,rfl,ho,hb⟩
 have HO6:=Aside0.mk (Kd.R_lower ho HB5.out.size)
 have HB6:=Aside0.mk (below_step HB5.out hb)
 clear ho hb
 go_wp2
 go_ret2
 exact⟨v,rfl,by rw[HLe.out];exact HO6.out,HB6.out⟩
set_option maxHeartbeats 3200000 in
set_option maxRecDepth 100000 in
theorem Ref_strokeBad (K:Nat) (er:Int) (w:World) (kb:Nat) (node x y sp:Int) (AP:Option Addr) (cP:Nat) (l:List S58) (AN:Option Addr) (cN:Nat) (xs:List Int) (AB:Option Addr) (cB:Nat) (zs:List Int) (r0 r1 r2 r3:Int) (hk:kb=1) (hck:halideref8_Check.f K sp l=some er) (her:er≠0) (hr:Kd.C k58 w AP l.length l) (hcap:l.length<=cP) :
  Calls Tryz.prog 10 #[.agg #[.int .i64 kb,.int .i64 node,.int .i64 x,.int .i64 y,.int .i64 sp,.slice AP l.length cP,.slice AN xs.length cN,.slice AB zs.length cB,.int .i64 r0,.int .i64 r1,.int .i64 r2,.int .i64 r3]] w fun e W'=>e = .returned (.tuple #[.slice none 0 0,.int .i64 er])/\Below w.heap.size w W':=by
 have b1:((kb:Int)==1)=true:=by simp;omega
 have m1:((kb:Int)%256)=kb:=by omega
 have hkb:kb<256:=by omega
 clear hk
 have hs:(w.alloc (.cells #[.int .i64 kb,.int .i64 node,.int .i64 x,.int .i64 y,.int .i64 sp,.slice AP l.length cP,.slice AN xs.length cN,.slice AB zs.length cB,.int .i64 r0,.int .i64 r1,.int .i64 r2,.int .i64 r3] 31 (0,0))).heap.size=w.heap.size+1:=by simp
 have HB0:=Aside0.mk (below_alloc (below_alloc (Below.refl w.heap.size w) (.cells #[.int .i64 kb,.int .i64 node,.int .i64 x,.int .i64 y,.int .i64 sp,.slice AP l.length cP,.slice AN xs.length cN,.slice AB zs.length cB,.int .i64 r0,.int .i64 r1,.int .i64 r2,.int .i64 r3] 31 (0,0))) (.cells #[.int .u8 kb] 5))
 have HO0:=Aside0.mk (head1 (w.alloc (.cells #[.int .i64 kb,.int .i64 node,.int .i64 x,.int .i64 y,.int .i64 sp,.slice AP l.length cP,.slice AN xs.length cN,.slice AB zs.length cB,.int .i64 r0,.int .i64 r1,.int .i64 r2,.int .i64 r3] 31 (0,0))) w.heap.size (by simp) kb)
 rw[hs] at HO0
 clear hs
 have BK0:=Aside0.mk (blk_alloc (blk_new w (.cells #[.int .i64 kb,.int .i64 node,.int .i64 x,.int .i64 y,.int .i64 sp,.slice AP l.length cP,.slice AN xs.length cN,.slice AB zs.length cB,.int .i64 r0,.int .i64 r1,.int .i64 r2,.int .i64 r3] 31 (0,0))) (.cells #[.int .u8 kb] 5))
 have b0:(er !=0)=true:=by simpa using her
 have q4:=(blk_cell BK0.out 4).trans rfl
 have q5:=(blk_cell BK0.out 5).trans rfl
 have HCK:=Aside0.mk (halideref8_Check.calls K sp AP cP l er _ (Kd.C_below hr HB0.out) hcap hck)
 clear hr hck her
 go_enter Tryz.func10,Tryz.ntmps10
 go_wp2_with fail
 refine HCK.out.mono ?_
 rintro e w1 ⟨rfl,hb1⟩
 have HB:=Aside0.mk (below_step HB0.out hb1)
 clear hb1 HCK q4 q5
 go_wp2
 go_ret2
 exact⟨rfl,HB.out⟩
set_option maxHeartbeats 3200000 in
set_option maxRecDepth 100000 in
theorem Ref_stroke {K:Nat} {wd ht:Nat} {rs:Nat->List Int} (w:World) (kb:Nat) (node x y:Int) (spn:Nat) (AP:Option Addr) (cP:Nat) (l:List S58) (AN:Option Addr) (cN:Nat) (xs:List Int) (AB:Option Addr) (cB:Nat) (zs:List Int) (r0 r1 r2 r3:Int) (hk:kb=1) (hp:Pic K spn l wd ht rs) (hck:halideref8_Check.f K spn l=some 0) (hrf : ∀j:Nat,j<l.length->halideref18_Rests.f K wd ht (rd_T58 l j).f2=some (rs j,0)/\pln.AllU (rs j)) (hsm : ∀j:Nat,j<l.length->(rd_T58 l j).f2.length<=65536) (hr:Kd.C k58 w AP l.length l) (hcap:l.length<=cP) :
  Calls Tryz.prog 10 #[.agg #[.int .i64 kb,.int .i64 node,.int .i64 x,.int .i64 y,.int .i64 spn,.slice AP l.length cP,.slice AN xs.length cN,.slice AB zs.length cB,.int .i64 r0,.int .i64 r1,.int .i64 r2,.int .i64 r3]] w fun e W' => ∃v,e = .returned (.tuple #[v,.int .i64 0])/\OB W' w.heap.size v (frameR (strokeL kb node x y (picF spn l wd ht rs)))/\Below w.heap.size w W':=by
 have b1:((kb:Int)==1)=true:=by simp;omega
 have m1:((kb:Int)%256)=kb:=by omega
 have hkb:kb<256:=by omega
 clear hk
 have hs:(w.alloc (.cells #[.int .i64 kb,.int .i64 node,.int .i64 x,.int .i64 y,.int .i64 spn,.slice AP l.length cP,.slice AN xs.length cN,.slice AB zs.length cB,.int .i64 r0,.int .i64 r1,.int .i64 r2,.int .i64 r3] 31 (0,0))).heap.size=w.heap.size+1:=by simp
 have HB0:=Aside0.mk (below_alloc (below_alloc (Below.refl w.heap.size w) (.cells #[.int .i64 kb,.int .i64 node,.int .i64 x,.int .i64 y,.int .i64 spn,.slice AP l.length cP,.slice AN xs.length cN,.slice AB zs.length cB,.int .i64 r0,.int .i64 r1,.int .i64 r2,.int .i64 r3] 31 (0,0))) (.cells #[.int .u8 kb] 5))
 have HO0:=Aside0.mk (head1 (w.alloc (.cells #[.int .i64 kb,.int .i64 node,.int .i64 x,.int .i64 y,.int .i64 spn,.slice AP l.length cP,.slice AN xs.length cN,.slice AB zs.length cB,.int .i64 r0,.int .i64 r1,.int .i64 r2,.int .i64 r3] 31 (0,0))) w.heap.size (by simp) kb)
 rw[hs] at HO0
 clear hs
 have BK0:=Aside0.mk (blk_alloc (blk_new w (.cells #[.int .i64 kb,.int .i64 node,.int .i64 x,.int .i64 y,.int .i64 spn,.slice AP l.length cP,.slice AN xs.length cN,.slice AB zs.length cB,.int .i64 r0,.int .i64 r1,.int .i64 r2,.int .i64 r3] 31 (0,0))) (.cells #[.int .u8 kb] 5))
 have q4:=(blk_cell BK0.out 4).trans rfl
 have q5:=(blk_cell BK0.out 5).trans rfl
 have HX:=Aside0.mk hr
 have HCK:=Aside0.mk (halideref8_Check.calls K spn AP cP l 0 _ (Kd.C_below hr HB0.out) hcap hck)
 have HP31:=Aside0.mk (fun(W:World) (v:Value) (ns:List Nat) (h1:OB W w.heap.size v ns) (h2:w.heap.size<=W.heap.size) (h3:Kd.C k58 W AP l.length l) (h4:ns.length<=10000000)=>picture_31 hp hck hrf hsm W w.heap.size v ns AP cP h1 h2 h3 hcap h4)
 have hF1:=picF_le hp
 have hF2:=picF_lt hp
 generalize picF spn l wd ht rs=F at HP31 hF1 hF2 ⊢
 have HF1:=Aside0.mk hF1
 have HF2:=Aside0.mk hF2
 clear hr hck hp hrf hsm hF1 hF2
 go_enter Tryz.func10,Tryz.ntmps10
 go_wp2_with fail
 refine HCK.out.mono ?_
 rintro e W ⟨rfl,hb1⟩
 have HB1:=Aside0.mk (below_step HB0.out hb1)
 have BK1:=Aside0.mk (blk_below BK0.out hb1)
 have HO1:=Aside0.mk (Kd.R_below HO0.out hb1)
 clear hb1 HCK q4 q5 HB0 BK0 HO0
 go_wp2_with fail
 refine start_ (n:=14) (S:=fun w'=>w'.cell? ⟨w.heap.size,1,none⟩=some (.int .i64 node)/\w'.cell? ⟨w.heap.size,2,none⟩=some (.int .i64 x)/\w'.cell? ⟨w.heap.size,3,none⟩=some (.int .i64 y)/\w'.cell? ⟨w.heap.size,4,none⟩=some (.int .i64 spn)/\w'.cell? ⟨w.heap.size,5,none⟩=some (.slice AP l.length cP)) (ds := []) (Array.replicate 14 false) (by kernel_rfl) rfl rfl ⟨(blk_cell BK1.out 1).trans rfl,(blk_cell BK1.out 2).trans rfl,(blk_cell BK1.out 3).trans rfl,(blk_cell BK1.out 4).trans rfl,(blk_cell BK1.out 5).trans rfl⟩ (fun hHeld=>?_);refine with_tabW rfK_tab rfK_bits (fun HT_ HW_=>?_)
 replace HO1:=Aside0.mk (Kd.R_drew HO1.out)
 replace HB1:=Aside0.mk (below_drew1 HB1.out)
 replace BK1:=Aside0.mk (blk_drew BK1.out)
 generalize W.drew=w2 at HO1 HB1 BK1 hHeld ⊢
 refine pu 0 20 HT_ ?_
 refine pu 1 21 HT_ ?_
 refine tk 2 22 HT_ HW_ hHeld rfl (by rintro w' ⟨s0,s1,s2,s3,s4⟩;go_simp;with_reducible rfl) ?_
 refine pu 4 24 HT_ ?_
 refine tk 5 25 HT_ HW_ hHeld rfl (by rintro w' ⟨s0,s1,s2,s3,s4⟩;go_simp;with_reducible rfl) ?_
 refine pu 7 27 HT_ ?_
 refine tk 8 28 HT_ HW_ hHeld rfl (by rintro w' ⟨s0,s1,s2,s3,s4⟩;go_simp;with_reducible rfl) ?_
 refine pu 10 30 HT_ ?_
 refine tk 11 31 HT_ HW_ hHeld rfl (by rintro w' ⟨s0,s1,s2,s3,s4⟩;go_simp;with_reducible rfl) ?_
 refine one_ (i:=3) (N:=some 23) #[true,true,true,true,true,true,false,true,true,false,true,true,false,false] rfl rfl (one_of HT_.out (by kernel_rfl)) (by decide) (fun K hK=>?_)
 refine goes_ Tryz.func32 (by kernel_rfl) rfl #[.slice (some ⟨w.heap.size+1,0,none⟩) 1 1,.int .i64 node] (by rfl) rfl rfl (by simp[Act.eval]) ?_
 refine(number_32 w2 w.heap.size node _ _ HO1.out HB1.out.size (by simp)).mono ?_
 rintro e w3 ⟨v2,rfl,ho,hg⟩
 refine⟨_,rfl,?_⟩
 have HB2:=Aside0.mk (hg.below HB1.out HB1.out.size HO1.out)
 have BK2:=Aside0.mk (blk_grown BK1.out hg.grown (ne_own HO1.out BK1.out (by decide)))
 have HO2:=Aside0.mk ho
 clear ho hg hHeld HO1 HB1 BK1
 refine hK.out _ _ ⟨(blk_cell BK2.out 1).trans rfl,(blk_cell BK2.out 2).trans rfl,(blk_cell BK2.out 3).trans rfl,(blk_cell BK2.out 4).trans rfl,(blk_cell BK2.out 5).trans rfl⟩ (fun hHeld=>?_)
 clear hK K
 refine norm_ (a':=?_) ?_ ?_
 rotate_left
 ·show Act.put _ (some 23) _=_
  simp only[Act.put,List.setIfInBounds_toArray,List.set_cons_zero,List.set_cons_succ,i64_w,i32_w]
  rfl
 refine one_ (i:=6) (N:=some 26) #[true,true,true,true,true,true,true,true,true,false,true,true,false,false] rfl rfl (one_of HT_.out (by kernel_rfl)) (by decide) (fun K hK=>?_)
 refine goes_ Tryz.func32 (by kernel_rfl) rfl #[v2,.int .i64 x] (by rfl) rfl rfl (by simp[Act.eval]) ?_
 refine(number_32 w3 w.heap.size x _ _ HO2.out HB2.out.size (by simp only[List.length_append,be_length];simp)).mono ?_
 rintro e w4 ⟨v3,rfl,ho,hg⟩
 refine⟨_,rfl,?_⟩
 have HB3:=Aside0.mk (hg.below HB2.out HB2.out.size HO2.out)
 have BK3:=Aside0.mk (blk_grown BK2.out hg.grown (ne_own HO2.out BK2.out (by decide)))
 have HO3:=Aside0.mk ho
 clear ho hg hHeld HO2 HB2 BK2
 refine hK.out _ _ ⟨(blk_cell BK3.out 1).trans rfl,(blk_cell BK3.out 2).trans rfl,(blk_cell BK3.out 3).trans rfl,(blk_cell BK3.out 4).trans rfl,(blk_cell BK3.out 5).trans rfl⟩ (fun hHeld=>?_)
 clear hK K
 refine norm_ (a':=?_) ?_ ?_
 rotate_left
 ·show Act.put _ (some 26) _=_
  simp only[Act.put,List.setIfInBounds_toArray,List.set_cons_zero,List.set_cons_succ,i64_w,i32_w]
  rfl
 refine one_ (i:=9) (N:=some 29) #[true,true,true,true,true,true,true,true,true,true,true,true,false,false] rfl rfl (one_of HT_.out (by kernel_rfl)) (by decide) (fun K hK=>?_)
 refine goes_ Tryz.func32 (by kernel_rfl) rfl #[v3,.int .i64 y] (by rfl) rfl rfl (by simp[Act.eval]) ?_
 refine(number_32 w4 w.heap.size y _ _ HO3.out HB3.out.size (by simp only[List.length_append,be_length];simp)).mono ?_
 rintro e w5 ⟨v4,rfl,ho,hg⟩
 refine⟨_,rfl,?_⟩
 have HB4:=Aside0.mk (hg.below HB3.out HB3.out.size HO3.out)
 have BK4:=Aside0.mk (blk_grown BK3.out hg.grown (ne_own HO3.out BK3.out (by decide)))
 have HO4:=Aside0.mk ho
 clear ho hg hHeld HO3 HB3 BK3
 refine hK.out _ _ ⟨(blk_cell BK4.out 1).trans rfl,(blk_cell BK4.out 2).trans rfl,(blk_cell BK4.out 3).trans rfl,(blk_cell BK4.out 4).trans rfl,(blk_cell BK4.out 5).trans rfl⟩ (fun hHeld=>?_)
 clear hK K
 refine norm_ (a':=?_) ?_ ?_
 rotate_left
 ·show Act.put _ (some 29) _=_
  simp only[Act.put,List.setIfInBounds_toArray,List.set_cons_zero,List.set_cons_succ,i64_w,i32_w]
  rfl
 refine one_ (i:=12) (N:=some 32) #[true,true,true,true,true,true,true,true,true,true,true,true,true,false] rfl rfl (one_of HT_.out (by kernel_rfl)) (by decide) (fun K hK=>?_)
 refine goes_ Tryz.func31 (by kernel_rfl) rfl #[v4,.agg #[.int .i64 spn,.slice AP l.length cP]] (by rfl) rfl rfl (by simp[Act.eval]) ?_
 refine(HP31.out w5 v4 _ HO4.out HB4.out.size (Kd.C_below HX.out HB4.out) (by simp only[List.length_append,be_length];simp)).mono ?_
 rintro e w6 ⟨v5,rfl,ho,hg⟩
 refine⟨_,rfl,?_⟩
 have HB5:=Aside0.mk (hg.below HB4.out HB4.out.size HO4.out)
 have BK5:=Aside0.mk (blk_grown BK4.out hg.grown (ne_own HO4.out BK4.out (by decide)))
 have HO5:=Aside0.mk (show OB w6 w.heap.size v5 (strokeL kb node x y F) from ho)
 clear ho hg hHeld HO4 HB4 BK4 HP31
 obtain⟨A5,c5,rfl,_,hC5⟩:=HO5.out.rd
 have HLN:=Aside0.mk (show(strokeL kb node x y F).length<=50000000 by unfold strokeL;simp only[List.length_append,be_length];have:=HF1.out;simp;omega)
 have HLT:=Aside0.mk (show ∀b∈strokeL kb node x y F,b<256 by
  intro b hb
  unfold strokeL at hb
  simp only[List.mem_append] at hb
  rcases hb with (((hb|hb)|hb)|hb)|hb|hb
  ·simp at hb;omega
  ·exact be_lt _ _ b hb
  ·exact be_lt _ _ b hb
  ·exact be_lt _ _ b hb
  ·exact be_lt _ _ b hb
  ·exact HF2.out b hb)
 generalize hL:strokeL kb node x y F=L at HO5 HLN HLT hC5 ⊢
 have HLe:=Aside0.mk hL
 clear hL
 have HR:=Aside0.mk (record_35 w6 A5 c5 L hC5 HLN.out HLT.out)
 clear hC5
 refine hK.out _ _ ⟨(blk_cell BK5.out 1).trans rfl,(blk_cell BK5.out 2).trans rfl,(blk_cell BK5.out 3).trans rfl,(blk_cell BK5.out 4).trans rfl,(blk_cell BK5.out 5).trans rfl⟩ (fun hHeld=>?_)
 clear hK K
 refine norm_ (a':=?_) ?_ ?_
 rotate_left
 ·show Act.put _ (some 32) _=_
  simp only[Act.put,List.setIfInBounds_toArray,List.set_cons_zero,List.set_cons_succ,i64_w,i32_w]
  rfl
 refine pu 13 4 HT_ ?_
 refine done_ (done_of HT_.out (by kernel_rfl)) ?_
 clear HT_ HW_ hHeld
 go_wp2_with fail
 refine HR.out.mono ?_
 rintro e w7 ⟨v,rfl,ho,hb⟩
 have HO6:=Aside0.mk (Kd.R_lower ho HB5.out.size)
 have HB6:=Aside0.mk (below_step HB5.out hb)
 clear ho hb
 go_wp2
 go_ret2
 exact⟨v,rfl,by rw[HLe.out];exact HO6.out,HB6.out⟩
end Go.Proofs.YtgpegjmbofgmmaaGreat.jou
