/- A part of the proof. No condition. -/
import Derived.Test.YtgpegjmbofgmmaaGreatRWd
import Derived.Test.YtgpegjmbofgmmaaGreatProg
import Derived.Test.YtgpegjmbofgmmaaGreatRCo
import Derived.RegionTactic
import Derived.ChangeAlike
import Derived.BigRegion
import Derived.LoopTactic
import Derived.IntWalk
import Derived.Lib.SmallJoins
import Derived.Laws.BitsAllLaws
import Derived.Deep.QuietTactic
import Derived.BigQuiet
namespace Go.Proofs.YtgpegjmbofgmmaaGreat.jou
open Go.RowKit Go.Proofs.YtgpegjmbofgmmaaGreatW.PrintWords Go.Cod
set_option linter.unusedVariables false
set_option linter.unusedSimpArgs false
def ints (ns:List Nat):List Int:=ns.map Int.ofNat
theorem ints_length (ns:List Nat):(ints ns).length=ns.length:=by simp[ints]
theorem ints_append (a b:List Nat):ints (a++b)=ints a++ints b:=by simp[ints]
def layB (y x bits:Int):Int:=Go.bits BinOp.or IntKind.u8 y (Go.bits BinOp.and IntKind.u32 x 1%256*2^(7-bits%8).toNat%256)
def bitOf (x:Int):Bool:=decide (x%2=1)
theorem and1 (x:Int) (h0:0<=x) (h1:x<=4294967295):Go.bits BinOp.and IntKind.u32 x 1=((bitOf x).toNat:Int):=by
 rw[u32_and x 1 h0 (by omega) (by omega) (by omega)]
 have e:((1:Int).toNat)=1:=rfl
 rw[e,Nat.and_one_is_mod]
 unfold bitOf
 by_cases h:x%2=1
 ·have:x.toNat%2=1:=by omega
  simp[h,this]
 ·have:x.toNat%2=0:=by omega
  simp[h,this]
theorem layB_nat (y n:Nat) (x:Int) (hy:y<256) (h0:0<=x) (h1:x<=4294967295):layB (y:Int) x (n:Int)=((y|||((bitOf x).toNat*2^(7-n%8)):Nat):Int):=by
 have hb:(bitOf x).toNat<=1:=by cases bitOf x<;>decide
 have hp:2^(7-n%8)<=128:=by
  have h7:7-n%8<=7:=by omega
  calc 2^(7-n%8)<=2^7:=Nat.pow_le_pow_right (by omega) h7
   _=128:=rfl
 have hm:(bitOf x).toNat*2^(7-n%8)<256:=by
  calc (bitOf x).toNat*2^(7-n%8)<=1*128:=Nat.mul_le_mul hb hp
   _<256:=by omega
 unfold layB
 rw[and1 x h0 h1]
 have e1:(7-(n:Int)%8).toNat=7-n%8:=by omega
 have e2:((bitOf x).toNat:Int)%256*2^(7-n%8)%256=(((bitOf x).toNat*2^(7-n%8):Nat):Int):=by
  have e3:((bitOf x).toNat:Int)%256=((bitOf x).toNat:Int):=by omega
  have e4:(2:Int)^(7-n%8)=((2^(7-n%8):Nat):Int):=(Int.natCast_pow 2 _).symm
  rw[e3,e4,<-Int.natCast_mul]
  generalize (bitOf x).toNat*2^(7-n%8)=q at hm
  omega
 rw[e1,e2]
 exact u8_or_nat y _ hy hm
set_option maxHeartbeats 800000 in
set_option maxRecDepth 100000 in
theorem bit_b (W:World) (G g m cap:Nat) (sum cnt bits x y:Int) (hG:W.heap[G]?=some (.cells #[.int .u64 sum,.int .u64 cnt,.slice (some ⟨g,0,none⟩) (m+1) cap,.int .i64 bits] 285 (0,0)))
  (hy:W.cell? ⟨g,m,none⟩=some (.int .u8 y)) (hfy:W.frozen? ⟨g,m,none⟩=false) (hcap:m<=100000000) (hb0:0<=bits) (hb1:bits<=100000000) (hb8:bits%8≠0) (hne:G≠g) :
  Calls Tryz.prog 336 #[.pointer (some ⟨G,0,none⟩),.int .u32 x] W fun e W'=>e = .returned undef/\W'=((W.setCell ⟨g,m,none⟩ (.int .u8 (layB y x bits))).setCell ⟨G,3,none⟩ (.int .i64 (bits+1))).drew:=by
 have c0:=blk_cell hG 0
 have c1:=blk_cell hG 1
 have c2:=blk_cell hG 2
 have c3:=blk_cell hG 3
 have f0:=blk_frozen hG 0
 have f1:=blk_frozen hG 1
 have f2:=blk_frozen hG 2
 have f3:=blk_frozen hG 3
 simp at c0 c1 c2 c3
 have e8:((bits.tmod 8)==0)=false:=by rw[Int.tmod_eq_emod_of_nonneg hb0];simpa using hb8
 have e8':((bits%8)==0)=false:=by simpa using hb8
 have HG:=Aside0.mk hG
 clear hG hb8
 go_enter Tryz.func336,Tryz.ntmps336
 go_wp2
 have i1:IntKind.i64.wrap ((m:Int)+1-1)=m:=by rw[show(m:Int)+1-1=m by omega];exact IntWalk.i64_in _ (by omega)
 have i2:(0:Int)<=m:=by omega
 have i3:(m:Int)<m+1:=by omega
 have i4:0<=7-bits%8:=by omega
 have i5:bits%8<=7:=by omega
 have i6:0<=bits%8:=by omega
 go_region
 clear i1 i2 i3 i4 i5 i6 e8 e8'
 obtain⟨z,hz⟩ : ∃z,z=layB y x bits:=⟨_,rfl⟩
 rw[show Go.bits BinOp.or IntKind.u8 y (Go.bits BinOp.and IntKind.u32 x 1%256*2^(7-bits%8).toNat%256)=z from hz.symm]
 have HZ:=Aside0.mk hz
 clear hz
 go_wp2
 go_end0
 exact⟨rfl,by rw[<- HZ.out]⟩
theorem info5:(Tryz.prog.info? 5).map (fun i=>(i.zero,i.size,i.bytes))=some (some (.int .u8 0),1,1):=by kernel_rfl
theorem nums_set (k:IntKind) (xs:List Int) (i:Nat) (x:Int):(nums k xs).set i (.int k x)=nums k (xs.set i x):=by simp[nums,List.map_set]
set_option maxHeartbeats 1600000 in
set_option maxRecDepth 100000 in
theorem bit_a (w W:World) (G n:Nat) (v:Value) (xs:List Int) (sum cnt bits x:Int) (hG:W.heap[G]?=some (.cells #[.int .u64 sum,.int .u64 cnt,v,.int .i64 bits] 285 (0,0)))
  (ho:W.ownsRow w.heap.size 5 1 v n (nums .u8 xs)) (hB:Below w.heap.size w W) (hGw:w.heap.size<=G) (hcap:n<=100000000) (hb0:0<=bits) (hb1:bits<=100000000) (hb8:bits%8=0) :
  Calls Tryz.prog 336 #[.pointer (some ⟨G,0,none⟩),.int .u32 x] W fun e W'=>e = .returned undef /\ ∃(v':Value),W'.heap[G]?=some (.cells #[.int .u64 sum,.int .u64 cnt,v',.int .i64 (bits+1)] 285 (0,0))/\W'.ownsRow w.heap.size 5 1 v' (n+1) (nums .u8 (xs ++ [layB 0 x bits]))/\Below w.heap.size w W':=by
 obtain⟨i0,hi,hz0,hz1,hz2⟩:=info_parts info5
 have c0:=blk_cell hG 0
 have c1:=blk_cell hG 1
 have c2:=blk_cell hG 2
 have c3:=blk_cell hG 3
 have f0:=blk_frozen hG 0
 have f1:=blk_frozen hG 1
 have f2:=blk_frozen hG 2
 have f3:=blk_frozen hG 3
 simp at c0 c1 c2 c3
 have e8':((bits%8)==0)=true:=by simpa using hb8
 have HG:=Aside0.mk hG
 have HO:=Aside0.mk ho
 have HB:=Aside0.mk hB
 have hbase:=hB.size
 clear hB
 have hGlt:=blk_lt hG
 clear hG hb8 ho
 go_enter Tryz.func336,Tryz.ntmps336
 go_wp2_with (at_builtin;(refine wpList_append_own _ rfl _ _ 35 rfl w.heap.size 5 i0 (.int .u8 0) 1 1 Tryz.underlying35 hi hz0 hz1 hz2 rfl (by decide) _ _ _ rfl (HO.out.alloc _) ⟨W.heap.size,0,none⟩ 1 1 [.int .u8 0] rfl rfl ?c1 ?c2 ?c3 ?c4 ?c5 ?_))
 case c1 =>
  intro j u hj
  match j,hj with
  | 0,hj =>
   simp at hj;subst hj
   simp[Addr.add]
 case c2=>intro u hu;simp at hu;subst hu;rfl
 case c3=>unfold maxLen;omega
 case c4=>omega
 case c5=>simp;omega
 intro v1 w1 ho1 hg1 hne1
 obtain⟨g,cap,rfl⟩:=Joins.ownsRow_form ho1 (by omega)
 clear hne1
 have hxl:xs.length=n:=by have:=HO.out.1;simpa [nums] using this
 have hvG:some G≠v.ownBlock:=by
  intro e
  obtain⟨cells,hc⟩:=own_typed HO.out G e.symm
  rw[HG.out] at hc
  injection hc with hc;injection hc with _ hc;exact absurd hc (by decide)
 have hG1:=blk_grown (blk_alloc HG.out (.cells #[.int .u8 0] 5)) hg1 hvG
 obtain⟨cells,hgc⟩:=own_typed ho1 g rfl
 have hgG:G≠g:=blk_ne hG1 hgc (by decide)
 have hy:w1.cell? ⟨g,n,none⟩=some (.int .u8 0):=by
  have:=ho1.cells (g:=g) rfl n (.int .u8 0) (by simp[nums,hxl])
  rwa [add_plain] at this
 have hfy:=blk_frozen hgc n
 have HG1:=Aside0.mk hG1
 have HO1:=Aside0.mk ho1
 have HGR:=Aside0.mk hg1
 clear c0 c1 c2 c3 f0 f1 f2 f3
 have c0:=blk_cell hG1 0
 have c1:=blk_cell hG1 1
 have c2:=blk_cell hG1 2
 have c3:=blk_cell hG1 3
 have f0:=blk_frozen hG1 0
 have f1:=blk_frozen hG1 1
 have f2:=blk_frozen hG1 2
 have f3:=blk_frozen hG1 3
 simp at c0 c1 c2 c3
 have HXL:=Aside0.mk hxl
 clear hG1 ho1 hg1 hgc hi hz0 hz1 hz2 hxl hvG
 go_wp2
 have i1:IntKind.i64.wrap ((n:Int)+1-1)=n:=by rw[show(n:Int)+1-1=n by omega];exact IntWalk.i64_in _ (by omega)
 have i2:(0:Int)<=n:=by omega
 have i3:(n:Int)<n+1:=by omega
 have i4:0<=7-bits%8:=by omega
 have i5:bits%8<=7:=by omega
 have i6:0<=bits%8:=by omega
 go_region
 clear i1 i2 i3 i4 i5 i6 e8'
 obtain⟨z,hz⟩ : ∃z,z=layB 0 x bits:=⟨_,rfl⟩
 rw[show Go.bits BinOp.or IntKind.u8 0 (Go.bits BinOp.and IntKind.u32 x 1%256*2^(7-bits%8).toNat%256)=z from hz.symm]
 have HZ:=Aside0.mk hz
 clear hz
 go_wp2
 go_end0
 have hgw:w.heap.size<=g:=own_base HO1.out g rfl
 have hB1:Below w.heap.size w w1:=(below_alloc HB.out _).grown HGR.out (by simp;omega) (fun k hk=>own_base HO.out k hk)
 have hst:=(own_setCell HO1.out (p:=⟨G,2,none⟩) (fun e=>hgG (by injection e)) (.slice (some ⟨g,0,none⟩) (n+1) cap)).stored n (.int .u8 z)
 rw[show nums .u8 xs ++ [Value.int .u8 0]=nums .u8 (xs ++ [0]) by simp[nums],nums_set] at hst
 have hset:(xs ++ [0]).set n z=xs ++ [z]:=by rw[<- HXL.out];simp
 rw[hset] at hst
 refine⟨rfl,.slice (some ⟨g,0,none⟩) (n+1) cap,?_,by rw[<- HZ.out];exact own_setCell hst.1 (p:=⟨G,3,none⟩) (fun e=>hgG (by injection e)) _,?_⟩
 ·exact blk_put (blk_far (blk_put HG1.out 2 _ rfl) hgG _) 3 _ rfl
 ·exact below_drew (below_set (below_set (below_set hB1 hGw) hgw) hGw)
structure WB (w:World) (G:Nat) (sum cnt:Int) (L:List Bool) (W:World):Prop where
 below:Below w.heap.size w W
 own:w.heap.size<=G
 row : ∃(v:Value) (ns:List Nat),W.heap[G]?=some (.cells #[.int .u64 sum,.int .u64 cnt,v,.int .i64 (L.length:Int)] 285 (0,0))/\W.ownsRow w.heap.size 5 1 v ns.length (nums .u8 (ints ns))/\Packed ns L
theorem bit_any (w W:World) (G:Nat) (sum cnt x:Int) (L:List Bool) (h:WB w G sum cnt L W) (h0:0<=x) (h1:x<=4294967295) (hb1:L.length<=50000000) :
  Calls Tryz.prog 336 #[.pointer (some ⟨G,0,none⟩),.int .u32 x] W fun e W'=>e = .returned undef/\WB w G sum cnt (L ++ [bitOf x]) W':=by
 obtain⟨hB,hGw,v,ns,hG,ho,hp⟩:=h
 have hn:=hp.length
 have hlen:((L ++ [bitOf x]).length:Int)=(L.length:Int)+1:=by simp
 by_cases c:L.length%8=0
 ·refine(bit_a w W G ns.length v (ints ns) sum cnt L.length x hG ho hB hGw (by omega) (by omega) (by omega) (by omega)).mono ?_
  rintro e W' ⟨he,v',k1,k2,k3⟩
  have e0:layB 0 x (L.length:Int)=(((bitOf x).toNat*128:Nat):Int):=by
   have:=layB_nat 0 L.length x (by omega) h0 h1
   simp only[Nat.zero_or] at this
   have e7:7-L.length%8=7:=by omega
   rw[e7] at this
   exact this
  refine⟨he,k3,hGw,v',ns ++ [(bitOf x).toNat*128],?_,?_,hp.snoc_new c _⟩
  ·rw[hlen];exact k1
  ·have:ints (ns ++ [(bitOf x).toNat*128])=ints ns ++ [layB 0 x (L.length:Int)]:=by rw[e0,ints_append];rfl
   rw[this,List.length_append]
   exact k2
 ·obtain⟨g,cap,rfl⟩:=Joins.ownsRow_form ho (by omega)
  obtain⟨ys,y,rfl⟩ : ∃ys y,ns=ys ++ [y]:=by
   have:ns ≠ []:=by intro e;rw[e] at hn;simp at hn;omega
   exact⟨ns.dropLast,ns.getLast this,(List.dropLast_concat_getLast this).symm⟩
  have hy256:y<256:=hp.1 y (by simp)
  obtain⟨cells,hgc⟩:=own_typed ho g rfl
  have hgG:G≠g:=blk_ne hG hgc (by decide)
  have hgw:w.heap.size<=g:=own_base ho g rfl
  have hyc:W.cell? ⟨g,ys.length,none⟩=some (.int .u8 (y:Int)):=by
   have:=ho.cells (g:=g) rfl ys.length (.int .u8 (y:Int)) (by simp[nums,ints])
   rwa [add_plain] at this
  have hG':=hG
  rw[List.length_append] at hG'
  refine(bit_b W G g ys.length cap sum cnt L.length x y hG' hyc (blk_frozen hgc _) (by simp at hn;omega) (by omega) (by omega) (by omega) hgG).mono ?_
  rintro e W' ⟨he,rfl⟩
  rw[layB_nat y L.length x hy256 h0 h1]
  have hst:=ho.stored ys.length (.int .u8 ((y|||((bitOf x).toNat*2^(7-L.length%8)):Nat):Int))
  have hset:(nums .u8 (ints (ys ++ [y]))).set ys.length (.int .u8 ((y|||((bitOf x).toNat*2^(7-L.length%8)):Nat):Int))=nums .u8 (ints (ys ++ [y|||((bitOf x).toNat*2^(7-L.length%8))])):=by
   simp[nums,ints]
  rw[hset] at hst
  refine⟨he,below_drew (below_set (below_set hB hgw) hGw),hGw,.slice (some ⟨g,0,none⟩) (ys ++ [y]).length cap,ys ++ [y|||((bitOf x).toNat*2^(7-L.length%8))],?_,?_,hp.snoc_in c _⟩
  ·rw[hlen];exact blk_put (blk_far hG hgG _) 3 _ rfl
  ·have hl2:(ys ++ [y|||((bitOf x).toNat*2^(7-L.length%8))]).length=(ys ++ [y]).length:=by simp
   rw[hl2]
   exact own_setCell hst.1 (p:=⟨G,3,none⟩) (fun e=>hgG (by injection e)) _
end Go.Proofs.YtgpegjmbofgmmaaGreat.jou
namespace Go.Proofs.YtgpegjmbofgmmaaGreat.jou
open Go.RowKit Go.Proofs.YtgpegjmbofgmmaaGreatW.PrintWords Go.Cod
set_option linter.unusedVariables false
set_option linter.unusedSimpArgs false
theorem WB.cast {w W:World} {G:Nat} {sum cnt:Int} {L L':List Bool} (h:WB w G sum cnt L W) (e:L=L'):WB w G sum cnt L' W:=e▸h
theorem bit_one:bitOf 1=true:=rfl
theorem bit_nil:bitOf 0=false:=rfl
theorem ones_next (L:List Bool) (k:Nat):(L++List.replicate k true) ++ [bitOf 1]=L++List.replicate (k+1) true:=by
 rw[bit_one,List.append_assoc,<-List.replicate_succ']
set_option maxHeartbeats 800000 in
set_option maxRecDepth 100000 in
theorem ones_any (w W:World) (G n:Nat) (sum cnt:Int) (L:List Bool) (h:WB w G sum cnt L W) (hb1:L.length<=40000000) (hn:n<=1000) :
  Calls Tryz.prog 335 #[.pointer (some ⟨G,0,none⟩),.int .i64 n] W fun e W'=>e = .returned undef/\WB w G sum cnt (L++List.replicate n true) W':=by
 have H:=Aside0.mk h
 clear h
 go_enter Tryz.func335,Tryz.ntmps335
 go_wp2
 go_loopw [5] (fun v5 wr => ∃k:Nat,k<=n/\v5 = .int .i64 k/\Aside0 (WB w G sum cnt (L++List.replicate k true) wr)) (fun v5 _=>n-(intOf v5).toNat)
 case atStart=>exact⟨0,Nat.zero_le _,rfl,⟨by simpa using H.out⟩⟩
 case round =>
  obtain⟨k,hk,rfl,HR⟩:=hrel
  by_cases hlt:k<n
  ·have hln:(L++List.replicate k true).length<=50000000:=by simp;omega
   go_wp2_with fail
   refine(bit_any w _ G sum cnt 1 (L++List.replicate k true) HR.out (by omega) (by omega) hln).mono ?_
   rintro e w2 ⟨rfl,h2⟩
   have H2:=Aside0.mk (h2.cast (ones_next L k))
   clear h2
   go_wp2
   go_roundw
   case rel=>exact⟨k+1,by omega,by go_num,H2⟩
   case measure=>simp[intOf];omega
  ·obtain rfl:k=n:=by omega
   go_wp2
   go_end0
   exact⟨rfl,HR.out⟩
theorem lowB_take (z:Nat) : ∀(n k:Nat),k<n->(lowB z n).take (k+1)=(lowB z n).take k ++ [z.testBit (n-1-k)]
 | 0,k,h=>by omega
 | n+1,0,h=>by simp[lowB]
 | n+1,k+1,h=>by
  simp only[lowB,List.take_succ_cons,List.cons_append]
  rw[lowB_take z n k (by omega),show n+1-1-(k+1)=n-1-k by omega]
theorem bitOf_shift (z n:Nat):bitOf ((z:Int)/2^n)=z.testBit n:=by
 have e:((z:Int)/2^n)=((z/2^n:Nat):Int):=by
  rw[Int.natCast_ediv,Int.natCast_pow];rfl
 rw[e]
 unfold bitOf
 rw[Nat.testBit_eq_decide_div_mod_eq]
 congr 1
 apply propext
 omega
theorem low_next (L:List Bool) (z n k:Nat) (h:k<n) (i:Int) (hi:i=(n:Int)-1-k):(L++(lowB z n).take k) ++ [bitOf ((z:Int)/2^i.toNat)]=L++(lowB z n).take (k+1):=by
 rw[bitOf_shift,lowB_take z n k h,List.append_assoc]
 have:i.toNat=n-1-k:=by omega
 rw[this]
set_option maxHeartbeats 800000 in
set_option maxRecDepth 100000 in
theorem low_any (w W:World) (G n z:Nat) (sum cnt:Int) (L:List Bool) (h:WB w G sum cnt L W) (hb1:L.length<=40000000) (hz:z<=4294967295) (hn:n<=32) :
  Calls Tryz.prog 337 #[.pointer (some ⟨G,0,none⟩),.int .u32 z,.int .i64 n] W fun e W'=>e = .returned undef/\WB w G sum cnt (L++lowB z n) W':=by
 have H:=Aside0.mk h
 clear h
 go_enter Tryz.func337,Tryz.ntmps337
 go_wp2
 go_loopw [6] (fun v6 wr => ∃k:Nat,k<=n/\v6 = .int .i64 ((n:Int)-1-k)/\Aside0 (WB w G sum cnt (L++(lowB z n).take k) wr)) (fun v6 _=>(intOf v6+1).toNat)
 case atStart=>exact⟨0,Nat.zero_le _,by simp,⟨by simpa using H.out⟩⟩
 case round =>
  obtain⟨k,hk,rfl,HR⟩:=hrel
  by_cases hlt:k<n
  ·have hge:0<=(n:Int)-1-k:=by omega
   have hln:(L++(lowB z n).take k).length<=50000000:=by simp[lowB_length];omega
   obtain⟨i,hi⟩ : ∃i:Int,i=(n:Int)-1-k:=⟨_,rfl⟩
   have hp:(0:Int)<2^i.toNat:=Int.pow_pos (by omega)
   have q0:0<=(z:Int)/2^i.toNat:=Int.ediv_nonneg (by omega) (by omega)
   have q1:(z:Int)/2^i.toNat<=z:=Int.ediv_le_self _ (by omega)
   rw[<- hi] at hge ⊢
   have emin:min i.toNat 32=i.toNat:=Nat.min_eq_left (by omega)
   have HI:=Aside0.mk hi
   clear hi hp
   go_wp2_with fail
   clear emin
   refine(bit_any w _ G sum cnt ((z:Int)/2^i.toNat) (L++(lowB z n).take k) HR.out q0 (by omega) hln).mono ?_
   rintro e w2 ⟨rfl,h2⟩
   have H2:=Aside0.mk (h2.cast (low_next L z n k hlt i HI.out))
   clear h2
   have hi:=HI.out
   subst hi
   go_wp2
   go_roundw
   case rel=>exact⟨k+1,by omega,by congr 1;push_cast;omega,H2⟩
   case measure=>simp[intOf];omega
  ·obtain rfl:k=n:=by omega
   have hlt2:((k:Int)-1-k)<0:=by omega
   go_wp2
   go_end0
   exact⟨rfl,by have:=HR.out;rwa [List.take_of_length_le (by simp[lowB_length])] at this⟩
end Go.Proofs.YtgpegjmbofgmmaaGreat.jou
namespace Go.Proofs.YtgpegjmbofgmmaaGreat.jou
open Go.RowKit Go.Proofs.YtgpegjmbofgmmaaGreatW.PrintWords
set_option linter.unusedVariables false
set_option linter.unusedSimpArgs false
def kq (sum cnt:Int):Nat->Nat->Nat
 | 0,i=>i
 | d+1,i=>if cnt*2^i<sum then kq sum cnt d (i+1) else i
def kOf (sum cnt:Int):Nat:=kq sum cnt 31 0
theorem u64_id {x:Int} (h0:0<=x) (h1:x<=9223372036854775807):IntKind.u64.wrap x=x:=by
 exact IntWalk.u64_in x ⟨h0,by omega⟩
theorem pow_bound {k:Nat} (hk:k<=31):(2:Int)^k<=2147483648:=by
 have h:(2:Nat)^k<=2^31:=Nat.pow_le_pow_right (by omega) hk
 rw[show(2:Nat)^31=2147483648 from rfl] at h
 have h2:(((2:Nat)^k:Nat):Int)=(2:Int)^k:=Int.natCast_pow 2 k
 rw[<- h2]
 omega
theorem shl_id {cnt:Int} {k:Nat} (hk:k<=31) (h0:0<cnt) (h1:cnt<=64):0<=cnt*2^k/\cnt*2^k<=137438953472:=by
 have h2:=pow_bound hk
 have h3:(0:Int)<2^k:=Int.pow_pos (by omega)
 refine⟨Int.mul_nonneg (by omega) (by omega),?_⟩
 have:cnt*2^k<=64*2147483648:=Int.mul_le_mul h1 h2 (by omega) (by omega)
 omega
set_option maxHeartbeats 800000 in
theorem k_any (W:World) (G:Nat) (sum cnt:Int) (h0:W.cell? ⟨G,0,none⟩=some (.int .u64 sum)) (h1:W.cell? ⟨G,1,none⟩=some (.int .u64 cnt)) (hc0:0<cnt) (hc1:cnt<=64) :
  Calls Tryz.prog 334 #[.pointer (some ⟨G,0,none⟩)] W fun e W'=>e = .returned (.int .i64 (kOf sum cnt:Int)) /\ ∃n,W'=W.drewN n:=by
 go_enter Tryz.func334,Tryz.ntmps334
 go_wp2
 go_loopw [3] (fun v3 wr => ∃k:Nat,k<=31/\v3 = .int .i64 k/\Aside0 (kq sum cnt (31-k) k=kOf sum cnt)/\Aside0 (∃n,wr=W.drewN n)) (fun v3 _=>31-(intOf v3).toNat)
 case atStart=>exact⟨0,Nat.zero_le _,rfl,⟨rfl⟩,⟨⟨0,rfl⟩⟩⟩
 case round =>
  obtain⟨k,hk,rfl,HK,⟨n0,rfl⟩⟩:=hrel
  by_cases hlt:k<31
  ·have b1:decide ((k:Int)<31)=true:=by simp;omega
   have hk0:(0:Int)<=k:=by omega
   have hsh:=shl_id (k:=k) hk hc0 hc1
   have hw:=u64_id hsh.1 (by omega)
   have HS:kq sum cnt (31-k) k=if cnt*2^k<sum then kq sum cnt (31-(k+1)) (k+1) else k:=by
    rw[show 31-k=(31-(k+1))+1 by omega];rfl
   by_cases c:cnt*2^k<sum
   ·have b2:decide (cnt*2^k<sum)=true:=decide_eq_true c
    rw[if_pos c] at HS
    have HS':=Aside0.mk (HS.symm.trans HK.out)
    clear HS hsh c HK
    go_wp2
    go_quiet (fail)
    go_wp2
    go_roundw
    case rel=>exact⟨k+1,by omega,by go_num,HS',⟨⟨_,rfl⟩⟩⟩
    case measure=>simp[intOf];omega
   ·have b2:decide (cnt*2^k<sum)=false:=decide_eq_false c
    rw[if_neg c] at HS
    have HS':=Aside0.mk (HS.symm.trans HK.out)
    clear HS hsh c HK
    go_wp2
    go_quiet (fail)
    go_wp2
    go_ret
    exact⟨by rw[<- HS'.out];rfl,_,World.drewN_drewN ..⟩
  ·have b1:decide ((k:Int)<31)=false:=by simp;omega
   obtain rfl:k=31:=by omega
   go_wp2
   go_quiet (fail)
   go_wp2
   go_ret
   exact⟨by rw[<- HK.out];rfl,_,World.drewN_drewN ..⟩
end Go.Proofs.YtgpegjmbofgmmaaGreat.jou
namespace Go.Proofs.YtgpegjmbofgmmaaGreat.jou
open Go.RowKit Go.Proofs.YtgpegjmbofgmmaaGreatW.PrintWords Go.Cod
set_option linter.unusedVariables false
set_option linter.unusedSimpArgs false
def nxS (sum cnt z:Int):Int:=if cnt+1=64 then (sum+z)/2 else sum+z
def nxC (cnt:Int):Int:=if cnt+1=64 then 32 else cnt+1
structure StOK (sum cnt:Int):Prop where
 c0:1<=cnt
 c1:cnt<=63
 s0:0<=sum
 s1:sum<=cnt*4294967296
theorem StOK.next {sum cnt z:Int} (h:StOK sum cnt) (h0:0<=z) (h1:z<=4294967295):StOK (nxS sum cnt z) (nxC cnt):=by
 obtain⟨a,b,c,d⟩:=h
 unfold nxS nxC
 by_cases e:cnt+1=64
 ·rw[if_pos e,if_pos e];refine⟨?_,?_,?_,?_⟩<;>omega
 ·rw[if_neg e,if_neg e];refine⟨?_,?_,?_,?_⟩<;>omega
theorem WB.setState {w W:World} {G:Nat} {sum cnt:Int} {L:List Bool} (h:WB w G sum cnt L W) (s':Int):WB w G s' cnt L (W.setCell ⟨G,0,none⟩ (.int .u64 s')):=by
 obtain⟨hB,hG,v,ns,h1,h2,h3⟩:=h
 have hv:some G≠v.ownBlock:=by
  intro e
  obtain⟨cells,hc⟩:=own_typed h2 G e.symm
  rw[h1] at hc
  injection hc with hc;injection hc with _ hc;exact absurd hc (by decide)
 exact⟨below_set hB hG,hG,v,ns,blk_put h1 0 _ rfl,own_setCell h2 hv _,h3⟩
theorem WB.setCount {w W:World} {G:Nat} {sum cnt:Int} {L:List Bool} (h:WB w G sum cnt L W) (c':Int):WB w G sum c' L (W.setCell ⟨G,1,none⟩ (.int .u64 c')):=by
 obtain⟨hB,hG,v,ns,h1,h2,h3⟩:=h
 have hv:some G≠v.ownBlock:=by
  intro e
  obtain⟨cells,hc⟩:=own_typed h2 G e.symm
  rw[h1] at hc
  injection hc with hc;injection hc with _ hc;exact absurd hc (by decide)
 exact⟨below_set hB hG,hG,v,ns,blk_put h1 1 _ rfl,own_setCell h2 hv _,h3⟩
theorem WB.drewN {w W:World} {G:Nat} {sum cnt:Int} {L:List Bool} (h:WB w G sum cnt L W) (n:Nat):WB w G sum cnt L (W.drewN n):=by
 obtain⟨hB,hG,v,ns,h1,h2,h3⟩:=h
 exact⟨pw_below_drewN hB n,hG,v,ns,h1,⟨h2.1,h2.2⟩,h3⟩
theorem WB.cells {w W:World} {G:Nat} {sum cnt:Int} {L:List Bool} (h:WB w G sum cnt L W):W.cell? ⟨G,0,none⟩=some (.int .u64 sum)/\W.cell? ⟨G,1,none⟩=some (.int .u64 cnt)/\W.frozen? ⟨G,0,none⟩=false/\W.frozen? ⟨G,1,none⟩=false:=by
 obtain⟨hB,hG,v,ns,h1,h2,h3⟩:=h
 exact⟨blk_cell h1 0,blk_cell h1 1,blk_frozen h1 0,blk_frozen h1 1⟩
set_option maxHeartbeats 800000 in
theorem learns_any (w W:World) (G:Nat) (sum cnt z:Int) (L:List Bool) (h:WB w G sum cnt L W) (hS:StOK sum cnt) (hz0:0<=z) (hz1:z<=4294967295) :
  Calls Tryz.prog 338 #[.pointer (some ⟨G,0,none⟩),.int .u32 z] W fun e W'=>e = .returned undef/\WB w G (nxS sum cnt z) (nxC cnt) L W':=by
 obtain⟨a,b,c,d⟩:=hS
 obtain⟨c0,c1,f0,f1⟩:=h.cells
 have H:=Aside0.mk h
 have u1:IntKind.u64.wrap z=z:=u64_id hz0 (by omega)
 have u2:IntKind.u64.wrap (sum+z)=sum+z:=u64_id (by omega) (by omega)
 have u3:IntKind.u64.wrap (cnt+1)=cnt+1:=u64_id (by omega) (by omega)
 have u4:0<=sum+z:=by omega
 clear h
 by_cases e:cnt+1=64
 ·have e1:(cnt+1==64)=true:=by simpa using e
  have e2:nxS sum cnt z=(sum+z)/2:=by unfold nxS;rw[if_pos e]
  have e3:nxC cnt=32:=by unfold nxC;rw[if_pos e]
  have E2:=Aside0.mk e2
  have E3:=Aside0.mk e3
  clear e e2 e3
  go_enter Tryz.func338,Tryz.ntmps338
  go_wp2
  go_end0
  exact⟨rfl,by rw[E2.out,E3.out];exact(((H.out.setState _).setCount _).setState _).setCount _⟩
 ·have e1:(cnt+1==64)=false:=by simpa using e
  have e2:nxS sum cnt z=sum+z:=by unfold nxS;rw[if_neg e]
  have e3:nxC cnt=cnt+1:=by unfold nxC;rw[if_neg e]
  have E2:=Aside0.mk e2
  have E3:=Aside0.mk e3
  clear e e2 e3
  go_enter Tryz.func338,Tryz.ntmps338
  go_wp2
  go_end0
  exact⟨rfl,by rw[E2.out,E3.out];exact(H.out.setState _).setCount _⟩
theorem kq_le (sum cnt:Int) : ∀d i,kq sum cnt d i<=i+d
 | 0,i=>by simp[kq]
 | d+1,i=>by
  simp only[kq]
  split
  ·have:=kq_le sum cnt d (i+1);omega
  ·omega
theorem kOf_le (sum cnt:Int):kOf sum cnt<=31:=by have:=kq_le sum cnt 31 0;unfold kOf;omega
theorem code_small {z k q:Nat} (hq:z/2^k=q) (h:q<24) (L:List Bool):((L++List.replicate q true) ++ [bitOf 0])++lowB z k=L++code z k:=by
 unfold code
 rw[if_pos (by omega),hq,bit_nil]
 simp[List.append_assoc]
theorem code_big {z k q:Nat} (hq:z/2^k=q) (h : ¬q<24) (L:List Bool):(L++List.replicate 24 true)++lowB z 32=L++code z k:=by
 unfold code
 rw[if_neg (by omega),List.append_assoc]
theorem code_le {z k:Nat} (hk:k<=31):(code z k).length<=56:=by
 unfold code
 split<;>simp[lowB_length]<;>omega
set_option maxHeartbeats 1600000 in
set_option maxRecDepth 100000 in
theorem number_any (w W:World) (G z:Nat) (sum cnt:Int) (L:List Bool) (h:WB w G sum cnt L W) (hS:StOK sum cnt) (hz1:z<=4294967295) (hb1:L.length<=10000000) :
  Calls Tryz.prog 242 #[.pointer (some ⟨G,0,none⟩),.int .u32 z] W fun e W'=>e = .returned undef/\WB w G (nxS sum cnt z) (nxC cnt) (L++code z (kOf sum cnt)) W':=by
 obtain⟨c0,c1,f0,f1⟩:=h.cells
 have H:=Aside0.mk h
 have HS:=Aside0.mk hS
 have hk:=kOf_le sum cnt
 have HK:=Aside0.mk (k_any W G sum cnt c0 c1 (by have:=hS.c0;omega) (by have:=hS.c1;omega))
 clear h hS c0 c1 f0 f1
 obtain⟨q,hq⟩ : ∃q:Nat,z/2^kOf sum cnt=q:=⟨_,rfl⟩
 have hqi:(z:Int)/2^kOf sum cnt=q:=by rw[<- hq,Int.natCast_ediv,Int.natCast_pow];rfl
 have q0:(0:Int)<=(q:Int):=by omega
 have q1:(q:Int)<=(z:Int):=by have:=Nat.div_le_self z (2^kOf sum cnt);omega
 have q2:(q:Int)<=4294967295:=by omega
 have HQ:=Aside0.mk hq
 clear hq
 have HL:=Aside0.mk hb1
 clear hb1
 by_cases c:(q:Int)<24
 ·have c1:decide ((q:Int)<24)=true:=decide_eq_true c
  have hq24:q<24:=by omega
  clear c
  go_enter Tryz.func242,Tryz.ntmps242
  go_wp2_with fail
  refine HK.out.mono ?_
  rintro e w1 ⟨rfl,n,rfl⟩
  clear HK
  have H1:=Aside0.mk (H.out.drewN n)
  clear H
  go_wp2_with fail
  refine(ones_any w _ G q sum cnt L H1.out (by have:=HL.out;omega) (by omega)).mono ?_
  rintro e w2 ⟨rfl,h2⟩
  have H2:=Aside0.mk h2
  clear h2 H1
  go_wp2_with fail
  refine(bit_any w _ G sum cnt 0 _ H2.out (by omega) (by omega) (by have:=HL.out;simp;omega)).mono ?_
  rintro e w3 ⟨rfl,h3⟩
  have H3:=Aside0.mk h3
  clear h3 H2
  go_wp2_with fail
  refine(low_any w _ G (kOf sum cnt) z sum cnt _ H3.out (by have:=HL.out;simp;omega) (by omega) (by omega)).mono ?_
  rintro e w4 ⟨rfl,h4⟩
  have H4:=Aside0.mk (h4.cast (code_small HQ.out hq24 L))
  clear h4 H3
  go_wp2_with fail
  refine(learns_any w _ G sum cnt z _ H4.out HS.out (by omega) (by omega)).mono ?_
  rintro e w5 ⟨rfl,h5⟩
  have H5:=Aside0.mk h5
  clear h5 H4
  go_wp2
  go_end0
  exact⟨rfl,H5.out⟩
 ·have c1:decide ((q:Int)<24)=false:=decide_eq_false c
  have hq24 : ¬q<24:=by omega
  clear c
  go_enter Tryz.func242,Tryz.ntmps242
  go_wp2_with fail
  refine HK.out.mono ?_
  rintro e w1 ⟨rfl,n,rfl⟩
  clear HK
  have H1:=Aside0.mk (H.out.drewN n)
  clear H
  go_wp2_with fail
  refine(ones_any w _ G 24 sum cnt L H1.out (by have:=HL.out;omega) (by omega)).mono ?_
  rintro e w2 ⟨rfl,h2⟩
  have H2:=Aside0.mk h2
  clear h2 H1
  go_wp2_with fail
  refine(low_any w _ G 32 z sum cnt _ H2.out (by have:=HL.out;simp;omega) (by omega) (by omega)).mono ?_
  rintro e w4 ⟨rfl,h4⟩
  have H4:=Aside0.mk (h4.cast (code_big HQ.out hq24 L))
  clear h4 H2
  go_wp2_with fail
  refine(learns_any w _ G sum cnt z _ H4.out HS.out (by omega) (by omega)).mono ?_
  rintro e w5 ⟨rfl,h5⟩
  have H5:=Aside0.mk h5
  clear h5 H4
  go_wp2
  go_end0
  exact⟨rfl,H5.out⟩
end Go.Proofs.YtgpegjmbofgmmaaGreat.jou
