/- A part of the proof. No condition. -/
import Derived.Test.YtgpegjmbofgmmaaGreatRPu
import Derived.Test.YtgpegjmbofgmmaaGreatRCj
import Derived.Test.YtgpegjmbofgmmaaGreatRPJopx4
namespace Go.Proofs.YtgpegjmbofgmmaaGreat.jou
open Go.RowKit Go.Proofs.YtgpegjmbofgmmaaGreatW.PrintWords Go.Proofs.YtgpegjmbofgmmaaGreatW.PrintLast Go.Proofs.YtgpegjmbofgmmaaGreat.PJop Go.Cod
set_option linter.unusedVariables false
set_option linter.unusedSimpArgs false
def highT:Bool×List (List Nat×List Nat):=(true,[([],[]),([],[]),([1],[1]),([2],[2]),([3],[3]),([],[]),([],[]),([6],[6]),([5,7],[5,7]),([8],[8]),([9],[9]),([4,10],[4,10]),([0,0,1,2,3,4,5,6,7,8,9,10,11],[0]),([12,0,1,2,3,4,5,6,7,8,9,10,11],[12]),([13,11,11,0,1,2,3,4,5,6,7,8,9,10,11],[11,13])])
def highB:List Nat := [0,0,2,6,14,0,0,64,224,480,992,2046,4095,8191,16383]
theorem high_tab:rtab .any (opsOf Tryz.f69 3)=highT:=by kernel_rfl
theorem high_bits:waitsOk highT.2 highB=true:=by kernel_rfl
def recT:Bool×List (List Nat×List Nat):=(true,[([],[]),([],[]),([1],[1]),([2],[2]),([3],[3]),([],[]),([5],[5]),([6],[6]),([7],[7]),([4,8],[4,8]),([0,0,1,2,3,4,5,6,7,8,9],[0]),([10,0,1,2,3,4,5,6,7,8,9],[10]),([11,9,9,0,1,2,3,4,5,6,7,8,9],[9,11])])
def recB:List Nat := [0,0,2,6,14,0,32,96,224,510,1023,2047,4095]
theorem rec_tab:rtab .any (opsOf Tryz.f42 3)=recT:=by kernel_rfl
theorem rec_bits:waitsOk recT.2 recB=true:=by kernel_rfl
structure Win where
 m:Nat
 M:Nat
 W0:World
def Win.has (X:Win) (i:Nat):Prop:=X.m<=i/\i<X.M
structure JW (w:World) (G:Nat) (X:Win) (ns:List Nat) (W:World):Prop where
 below:Below w.heap.size w W
 own:w.heap.size<=G
 far : ¬X.has G
 le:X.M<=W.heap.size
 agree : ∀i,X.has i->W.heap[i]?=X.W0.heap[i]?
 row : ∃v,W.heap[G]?=some (.cells #[v] 88 (0,0))/\OB W w.heap.size v ns /\ ∀k,v.ownBlock=some k -> ¬X.has k
theorem JW.mono {w W W':World} {G:Nat} {X:Win} {ns:List Nat} (h:JW w G X ns W) (hb:Below W.heap.size W W'):JW w G X ns W':=by
 obtain⟨v,h1,h2,h3⟩:=h.row
 exact⟨below_step h.below hb,h.own,h.far,Nat.le_trans h.le hb.size,fun i hi=>(hb.block i (Nat.lt_of_lt_of_le hi.2 h.le)).trans (h.agree i hi),v,blk_below h1 hb,Kd.R_below h2 hb,h3⟩
theorem JW.rewin {w W W':World} {G:Nat} {X:Win} {ns:List Nat} (h:JW w G X ns W) (hb:Below W.heap.size W W'):JW w G ⟨W.heap.size,W'.heap.size,W'⟩ ns W':=by
 obtain⟨v,h1,h2,h3⟩:=h.row
 refine⟨below_step h.below hb,h.own,fun e=>?_,Nat.le_refl _,fun i _=>rfl,v,blk_below h1 hb,Kd.R_below h2 hb,fun k hk e=>?_⟩
 ·have:=blk_lt h1;have:=e.1;simp at this;omega
 ·have:=Kd.R_lt h2 k hk;have:=e.1;simp at this;omega
set_option maxHeartbeats 1600000 in
set_option maxRecDepth 100000 in
theorem high_any (w W:World) (G n x:Nat) (X:Win) (ns:List Nat) (h:JW w G X ns W) (hn:n<=8) (hx:x<18446744073709551616) (hl:ns.length<=100000000) :
  Calls Tryz.prog 69 #[.pointer (some ⟨G,0,none⟩),.int .i64 n,.int .u64 x] W fun e W'=>e = .returned undef/\JW w G X (ns++be n x) W':=by
 have H:=Aside0.mk (show JW w G X (ns++(be n x).take 0) W by simpa using h)
 have hbl:(be n x).length=n:=be_length n x
 clear h
 go_enter Tryz.func69,Tryz.ntmps69
 go_wp2
 go_loopw [1] (fun v1 wr => ∃k:Nat,k<=n/\v1 = .int .i64 ((n:Int)-1-k)/\Aside0 (JW w G X (ns++(be n x).take k) wr)) (fun v1 _=>(intOf v1+1).toNat)
 case atStart=>exact⟨0,Nat.zero_le _,by simp,H⟩
 case round =>
  clear H
  obtain⟨k,hk,rfl,HR⟩:=hrel
  by_cases hlt:k<n
  ·have hge:0<=(n:Int)-1-k:=by omega
   have htk:((be n x).take k).length<=8:=by rw[List.length_take];omega
   obtain⟨hB,hGw,hfar,hle,hagr,v,hg,ho,hwin⟩:=HR.out
   have HFAR:=Aside0.mk hfar
   have HLE:=Aside0.mk hle
   have HAG:=Aside0.mk hagr
   have HWIN:=Aside0.mk hwin
   clear hfar hle hagr hwin
   have HB:=Aside0.mk hB
   have HGW:=Aside0.mk hGw
   have HG:=Aside0.mk hg
   have HO:=Aside0.mk ho
   have hw8:wrap64 (8*((n:Int)-1-k))=((8*(n-1-k):Nat):Int):=by unfold wrap64;omega
   have hz8:IntKind.u8.wrap ((x:Int)/2^(8*((n-1-k:Nat):Int)).toNat)=(x:Int)/2^(8*(n-1-k))%256:=by rw[IntKind.wrap_u8',show(8*((n-1-k:Nat):Int)).toNat=8*(n-1-k) by omega]
   have hm8:(0:Int)<=((8*(n-1-k):Nat):Int):=by omega
   clear HR hB hGw hg ho
   go_wp2_with fail
   refine start_ (n:=15) (S:=fun w'=>w'.cell? ⟨G,0,none⟩=some v) (ds := [14]) (Array.replicate 15 false) (by kernel_rfl) rfl rfl ((blk_cell HG.out 0).trans rfl) (fun hHeld=>?_);refine with_tabW high_tab high_bits (fun HT_ HW_=>?_)
   replace HG:=Aside0.mk (blk_drew HG.out)
   replace HO:=Aside0.mk (Kd.R_drew HO.out)
   replace HB:=Aside0.mk (below_drew1 HB.out)
   replace HLE:=Aside0.mk (show X.M<=wr.drew.heap.size from HLE.out)
   replace HAG:=Aside0.mk (show ∀i,X.has i->wr.drew.heap[i]?=X.W0.heap[i]? from HAG.out)
   generalize wr.drew=w2 at HG HO HB HLE HAG hHeld ⊢
   refine pu 0 12 HT_ ?_
   refine pu 1 13 HT_ ?_
   refine pu 2 14 HT_ ?_
   refine pu 3 15 HT_ ?_
   refine pu 5 17 HT_ ?_
   refine pu 6 18 HT_ ?_
   refine pu 7 19 HT_ ?_
   rw[hw8]
   refine pu 8 20 HT_ ?_
   refine pu 9 21 HT_ ?_
   refine tk 4 16 HT_ HW_ hHeld rfl (by rintro w' s0;go_simp;with_reducible rfl) ?_
   refine one_ (i:=10) (N:=some 22) #[true,true,true,true,true,true,true,true,true,true,true,false,false,false,false] rfl rfl (one_of HT_.out (by kernel_rfl)) (by decide) (fun K hK=>?_)
   refine event_step (v := .slice (some ⟨w2.heap.size,0,none⟩) 1 1) (w1:=w2.alloc (.cells #[.int .u8 ((x:Int)/2^(8*(n-1-k))%256)] 5)) (by rfl) (by go_simp) ?_
   refine hK.out _ _ ((blk_cell (blk_alloc HG.out _) 0).trans rfl) (fun hHeld=>?_)
   clear hK K
   refine norm_ (a':=?_) ?_ ?_
   rotate_left
   ·show Act.put _ (some 22) _=_
    simp only[Act.put,List.setIfInBounds_toArray,List.set_cons_zero,List.set_cons_succ,i64_w,i32_w]
    rfl
   refine one_ (i:=11) (N:=some 23) #[true,true,true,true,true,true,true,true,true,true,true,true,false,false,false] rfl rfl (one_of HT_.out (by kernel_rfl)) (by decide) (fun K hK=>?_)
   refine Kd.R_append_step (Kd.int .u8) (w0:=w) w.heap.size (by rfl) (.tmp 16) (.tmp 22) 35 5 (.int .u8 0) 1 rfl Tryz.underlying35 info5 rfl (by decide) (by omega) v (ints (ns++(be n x).take k)) ((x:Int)/2^(8*(n-1-k))%256) [.int .u8 ((x:Int)/2^(8*(n-1-k))%256)] (fun _=>True) (fun _=>False) rfl rfl rfl (fun _ hk=>hk.elim) (fun _ _=>trivial) HO.out HB.out HB.out.size (by rw[ints_length,List.length_append];omega) ?_
   intro v1 w3 ho hb3 hg hat
   have HAG1:=Aside0.mk (show ∀i,X.has i->w3.heap[i]?=X.W0.heap[i]? from fun i hi=>(hg.block i (Nat.lt_of_lt_of_le hi.2 HLE.out) (fun e=>HWIN.out i e.symm hi)).trans (HAG.out i hi))
   have HWIN1:=Aside0.mk (show ∀k,v1.ownBlock=some k -> ¬X.has k from fun k hk hi=>by
    rcases hat with e|⟨b,e,hbb⟩
    ·exact HWIN.out k (e.symm.trans hk) hi
    ·rw[e] at hk;injection hk with hk;have:=hi.2;have:=HLE.out;omega)
   have HLE1:=Aside0.mk (Nat.le_trans HLE.out hg.size)
   have HO1:=Aside0.mk (show OB w3 w.heap.size v1 (ns++(be n x).take (k+1)) by
    rw[be_byte x n k] at ho
    rw[be_take x n k hlt,<-List.append_assoc]
    unfold OB
    rw[ints_append]
    exact ho)
   have HG1:=Aside0.mk (blk_grown HG.out hg (ne_own HO.out HG.out (by decide)))
   have HB1:=Aside0.mk hb3
   clear ho hg hb3 hat HO HG HB HAG HWIN HLE hHeld
   obtain⟨A1,k1,rfl,_,_⟩:=HO1.out.rd
   have hlen:(ns++(be n x).take (k+1)).length=ns.length+(k+1):=by rw[List.length_append,List.length_take];omega
   rw[hlen] at HO1 HWIN1 ⊢
   clear hlen
   refine hK.out _ _ ((blk_cell HG1.out 0).trans rfl) (fun hHeld=>?_)
   clear hK K
   refine norm_ (a':=?_) ?_ ?_
   rotate_left
   ·show Act.put _ (some 23) _=_
    simp only[Act.put,List.setIfInBounds_toArray,List.set_cons_zero,List.set_cons_succ,i64_w,i32_w]
    rfl
   refine pu 12 24 HT_ ?_
   refine pu 13 25 HT_ ?_
   have z0:w3.cell? ⟨G,0,none⟩=some v:=(blk_cell HG1.out 0).trans rfl
   have y0:=blk_frozen HG1.out 0
   refine last_ (i:=14) (N:=none) #[true,true,true,true,true,true,true,true,true,true,true,true,true,true,true] rfl rfl (one_of HT_.out (by kernel_rfl)) (by decide) (fun K hK=>?_)
   refine skip_ (w1:=?_) (by rfl) rfl ?_ ?_
   rotate_left
   ·go_simp
    rfl
   refine hK.out _ _ ?_
   clear hK K
   refine done_ (done_of HT_.out (by kernel_rfl)) ?_
   clear z0 y0 HT_ HW_ hHeld
   have H9:=Aside0.mk (show JW w G X (ns++(be n x).take (k+1)) (w3.setCell ⟨G,0,none⟩ (.slice A1 (ns.length+(k+1)) k1)) from
    ⟨below_set HB1.out HGW.out,HGW.out,HFAR.out,by simpa using HLE1.out,fun i hi=>(Below.heap_setCell w3 ⟨G,0,none⟩ _ i (fun e=>HFAR.out ((show i=G from e)▸hi))).trans (HAG1.out i hi),_,blk_put HG1.out 0 _ rfl,Kd.R_set HO1.out HG1.out (by decide) 0 _,HWIN1.out⟩)
   clear HO1 HG1 HB1
   go_wp2
   go_roundw
   case rel=>exact⟨k+1,by omega,by congr 1;push_cast;omega,H9⟩
   case measure=>simp[intOf];omega
  ·obtain rfl:k=n:=by omega
   have hlt2:((k:Int)-1-k)<0:=by omega
   go_wp2
   go_end0
   refine⟨rfl,?_⟩
   have:=HR.out
   rwa [List.take_of_length_le (by omega)] at this
end Go.Proofs.YtgpegjmbofgmmaaGreat.jou
namespace Go.Proofs.YtgpegjmbofgmmaaGreat.jou
open Go.RowKit Go.Proofs.YtgpegjmbofgmmaaGreatW.PrintWords Go.Proofs.YtgpegjmbofgmmaaGreatW.PrintLast Go.Proofs.YtgpegjmbofgmmaaGreat.PJop Go.Cod
set_option linter.unusedVariables false
set_option linter.unusedSimpArgs false
def u64N (x:Int):Nat:=(x%18446744073709551616).toNat
theorem u64N_eq (x:Int):IntKind.u64.wrap x=(u64N x:Int):=by
 have e:IntKind.u64.wrap x=x%18446744073709551616:=by simp[IntKind.wrap,IntKind.bits,IntKind.signed]
 rw[e];unfold u64N;omega
theorem u64N_lt (x:Int):u64N x<18446744073709551616:=by unfold u64N;omega
theorem u64N_nat (n:Nat) (h:n<18446744073709551616):u64N (n:Int)=n:=by unfold u64N;omega
def seqB (n:Nat) (xs:List Int) (k:Nat):List Nat:=(xs.take k).flatMap fun x=>be n (u64N x)
theorem seqB_succ {n:Nat} {xs:List Int} {k:Nat} (h:k<xs.length):seqB n xs (k+1)=seqB n xs k++be n (u64N (rd xs k)):=by
 have:rd xs k=xs[k]:=by simp[rd,List.getD,h]
 rw[this]
 unfold seqB
 rw[List.take_add_one,List.getElem?_eq_getElem h,List.flatMap_append]
 simp only[Option.toList,List.flatMap_cons,List.flatMap_nil,List.append_nil]
theorem seqB_length (n:Nat) (xs:List Int) : ∀(k:Nat),k<=xs.length->(seqB n xs k).length=n*k
 | 0,_=>rfl
 | k+1,h=>by rw[seqB_succ (by omega),List.length_append,seqB_length n xs k (by omega),be_length,Nat.mul_succ]
theorem number_j (w W:World) (G:Nat) (X:Win) (x:Int) (ns:List Nat) (h:JW w G X ns W) (hl:ns.length<=100000000) :
  Calls Tryz.prog 37 #[.pointer (some ⟨G,0,none⟩),.int .i64 x] W fun e W'=>e = .returned undef/\JW w G X (ns++be 8 (u64N x)) W':=by
 have H:=Aside0.mk h
 clear h
 go_enter Tryz.func37,Tryz.ntmps37
 go_wp2_with fail
 rw[u64N_eq]
 refine(high_any w W G 8 (u64N x) X ns H.out (by omega) (u64N_lt x) hl).mono ?_
 rintro e w1 ⟨rfl,h1⟩
 have H1:=Aside0.mk h1
 clear h1
 go_wp2
 go_end0
 exact⟨rfl,H1.out⟩
theorem sample_j (w W:World) (G:Nat) (X:Win) (x:Int) (ns:List Nat) (h:JW w G X ns W) (hl:ns.length<=100000000) :
  Calls Tryz.prog 41 #[.pointer (some ⟨G,0,none⟩),.int .u32 x] W fun e W'=>e = .returned undef/\JW w G X (ns++be 4 (u64N x)) W':=by
 have H:=Aside0.mk h
 clear h
 go_enter Tryz.func41,Tryz.ntmps41
 go_wp2_with fail
 rw[u64N_eq]
 refine(high_any w W G 4 (u64N x) X ns H.out (by omega) (u64N_lt x) hl).mono ?_
 rintro e w1 ⟨rfl,h1⟩
 have H1:=Aside0.mk h1
 clear h1
 go_wp2
 go_end0
 exact⟨rfl,H1.out⟩
set_option maxHeartbeats 1600000 in
set_option maxRecDepth 100000 in
theorem list_ints (w W:World) (G:Nat) (X:Win) (ns:List Nat) (A:Option Addr) (c:Nat) (xs:List Int) (h:JW w G X ns W) (hx:Kd.C (Kd.int .i64) W A xs.length xs) (hxw:Kd.C (Kd.int .i64) w A xs.length xs) (hl:ns.length<=10000000) (hn:xs.length<=100000) :
  Calls Tryz.prog 39 #[.pointer (some ⟨G,0,none⟩),.slice A xs.length c,.func (.func 37) #[.pointer (some ⟨G,0,none⟩)] #[]] W fun e W'=>e = .returned undef/\JW w G X (ns++(be 8 xs.length++seqB 8 xs xs.length)) W':=by
 have H:=Aside0.mk h
 have HX:=Aside0.mk hxw
 clear h hx hxw
 go_enter Tryz.func39,Tryz.ntmps39
 go_wp2_with fail
 refine(number_j w W G X xs.length ns H.out (by omega)).mono ?_
 rintro e w1 ⟨rfl,h1⟩
 have HR:=Aside0.mk (show JW w G X (ns++(be 8 xs.length++seqB 8 xs 0)) w1 by rw[u64N_nat _ (by omega)] at h1;simpa [seqB] using h1)
 clear h1 H
 go_wp2
 go_loopw [14] (fun v14 wr => ∃k:Nat,k<=xs.length/\v14 = .int .i64 k/\Aside0 (JW w G X (ns++(be 8 xs.length++seqB 8 xs k)) wr)) (fun v14 _=>xs.length-(intOf v14).toNat)
 case atStart=>exact⟨0,Nat.zero_le _,rfl,HR⟩
 case round =>
  clear HR
  obtain⟨k,hk,rfl,HR⟩:=hrel
  by_cases hlt:k<xs.length
  ·obtain⟨ad,rfl,hc0⟩:=Kd.at_int HX.out k (by omega) (by omega)
   have hc1:=(HR.out.below.cell (World.block_lt_of_cell? w _ hc0)).trans hc0
   simp only[Int.toNat_natCast] at hc1
   clear hc0
   have b1:decide ((k:Int)<(xs.length:Int))=true:=decide_eq_true (by omega)
   have b2:(0:Int)<=k:=by omega
   have hle:(ns++(be 8 xs.length++seqB 8 xs k)).length<=20000000:=by rw[List.length_append,List.length_append,be_length,seqB_length _ _ _ hk];omega
   go_wp2_with fail
   refine(number_j w wr G X _ _ HR.out (by omega)).mono ?_
   rintro e w2 ⟨rfl,h2⟩
   have H2:=Aside0.mk (show JW w G X (ns++(be 8 xs.length++seqB 8 xs (k+1))) w2 by rw[seqB_succ hlt,<-List.append_assoc,<-List.append_assoc];rw[<- List.append_assoc] at h2;exact h2)
   clear h2 HR
   go_wp2
   go_roundw
   case rel=>exact⟨k+1,by omega,by go_num,H2⟩
   case measure=>simp[intOf];omega
  ·obtain rfl:k=xs.length:=by omega
   go_wp2
   go_end0
   exact⟨rfl,HR.out⟩
set_option maxHeartbeats 1600000 in
set_option maxRecDepth 100000 in
theorem list_words (w W:World) (G:Nat) (X:Win) (ns:List Nat) (A:Option Addr) (c:Nat) (xs:List Int) (h:JW w G X ns W) (hx:Kd.C (Kd.int .u32) W A xs.length xs) (hxw:Kd.C (Kd.int .u32) w A xs.length xs) (hl:ns.length<=10000000) (hn:xs.length<=100000) :
  Calls Tryz.prog 40 #[.pointer (some ⟨G,0,none⟩),.slice A xs.length c,.func (.func 41) #[.pointer (some ⟨G,0,none⟩)] #[]] W fun e W'=>e = .returned undef/\JW w G X (ns++(be 8 xs.length++seqB 4 xs xs.length)) W':=by
 have H:=Aside0.mk h
 have HX:=Aside0.mk hxw
 clear h hx hxw
 go_enter Tryz.func40,Tryz.ntmps40
 go_wp2_with fail
 refine(number_j w W G X xs.length ns H.out (by omega)).mono ?_
 rintro e w1 ⟨rfl,h1⟩
 have HR:=Aside0.mk (show JW w G X (ns++(be 8 xs.length++seqB 4 xs 0)) w1 by rw[u64N_nat _ (by omega)] at h1;simpa [seqB] using h1)
 clear h1 H
 go_wp2
 go_loopw [14] (fun v14 wr => ∃k:Nat,k<=xs.length/\v14 = .int .i64 k/\Aside0 (JW w G X (ns++(be 8 xs.length++seqB 4 xs k)) wr)) (fun v14 _=>xs.length-(intOf v14).toNat)
 case atStart=>exact⟨0,Nat.zero_le _,rfl,HR⟩
 case round =>
  clear HR
  obtain⟨k,hk,rfl,HR⟩:=hrel
  by_cases hlt:k<xs.length
  ·obtain⟨ad,rfl,hc0⟩:=Kd.at_int HX.out k (by omega) (by omega)
   have hc1:=(HR.out.below.cell (World.block_lt_of_cell? w _ hc0)).trans hc0
   simp only[Int.toNat_natCast] at hc1
   clear hc0
   have b1:decide ((k:Int)<(xs.length:Int))=true:=decide_eq_true (by omega)
   have b2:(0:Int)<=k:=by omega
   have hle:(ns++(be 8 xs.length++seqB 4 xs k)).length<=20000000:=by rw[List.length_append,List.length_append,be_length,seqB_length _ _ _ hk];omega
   go_wp2_with fail
   refine(sample_j w wr G X _ _ HR.out (by omega)).mono ?_
   rintro e w2 ⟨rfl,h2⟩
   have H2:=Aside0.mk (show JW w G X (ns++(be 8 xs.length++seqB 4 xs (k+1))) w2 by rw[seqB_succ hlt,<-List.append_assoc,<-List.append_assoc];rw[<- List.append_assoc] at h2;exact h2)
   clear h2 HR
   go_wp2
   go_roundw
   case rel=>exact⟨k+1,by omega,by go_num,H2⟩
   case measure=>simp[intOf];omega
  ·obtain rfl:k=xs.length:=by omega
   go_wp2
   go_end0
   exact⟨rfl,HR.out⟩
end Go.Proofs.YtgpegjmbofgmmaaGreat.jou
namespace Go.Proofs.YtgpegjmbofgmmaaGreat.jou
open Go.RowKit Go.Proofs.YtgpegjmbofgmmaaGreatW.PrintWords Go.Proofs.YtgpegjmbofgmmaaGreatW.PrintLast Go.Proofs.YtgpegjmbofgmmaaGreat.PJop Go.Cod
set_option linter.unusedVariables false
set_option linter.unusedSimpArgs false
structure Pic (K:Nat) (spn:Nat) (l:List S58) (wd ht:Nat) (rs:Nat->List Int):Prop where
 sp:spn<256
 chk:picture_Check.f K spn l=some 0
 n:l.length<=8
 n0:0<l.length
 wd1:wd<=1024
 ht1:ht<=1024
 wd0:0<wd
 ht0:0<ht
 tl:codec_grid_tiles.f spn l.length wd ht ((1024:Nat):Int)=some ((1:Nat):Int)
 rect:codec_grid_rect.f spn l.length wd ht ((1024:Nat):Int) ((0:Nat):Int)=some (((0:Nat):Int),((0:Nat):Int),(wd:Int),(ht:Int))
 pl : ∀j:Nat,j<l.length->(rd_T58 l j).f0=wd/\(rd_T58 l j).f1=ht/\(rd_T58 l j).f2.length=wd*ht/\plane_Check.f wd ht (rd_T58 l j).f2=some 0
 rest : ∀j:Nat,j<l.length->codec_Rests.f K wd ht (rd_T58 l j).f2=some (rs j,0)/\0<(rs j).length/\(rs j).length<=65536
theorem crop_whole (wd ht:Nat) (xs:List Int) (hw:0<wd) (h:xs.length=wd*ht):cropL wd xs 0 0 wd ht=xs:=by
 unfold cropL
 apply List.ext_getElem
 ·simp[h]
 ·intro k h1 h2
  have hk:k<wd*ht:=by simpa using h1
  simp only[Nat.sub_zero,List.getElem_map,List.getElem_range,Nat.zero_add]
  rw[Nat.mul_comm (k/wd) wd,Nat.div_add_mod]
  simp[rd,List.getD,h2]
theorem frameB_le (M:Nat) : ∀(ps:List (List Nat)),(∀p∈ps,p.length<=M)->(frameB ps).length<=ps.length*(M+4)
 | [],_=>by simp[frameB]
 | p::ps,h=>by
  have ih:=frameB_le M ps (fun q hq=>h q (by simp[hq]))
  have h1:=h p (by simp)
  simp only[frameB,List.flatMap_cons,List.length_append,be_length,List.length_cons] at ih ⊢
  rw[Nat.add_mul]
  omega
theorem psOf_length (P:Nat->Nat->List Nat) (n t j:Nat) (ht:t<=1):(psOf P n t j).length<=n+j:=by
 match t,ht with
 | 0,_=>simp[psOf]
 | 1,_=>simp[psOf]
theorem psOf_mem {P:Nat->Nat->List Nat} {n t j:Nat} {p:List Nat} (h:p∈psOf P n t j):(∃a b,b<n/\p=P a b) \/ ∃b,b<j/\p=P t b:=by
 unfold psOf at h
 rcases List.mem_append.1 h with h|h
 ·obtain⟨a,_,h⟩:=List.mem_flatMap.1 h
  obtain⟨b,hb,rfl⟩:=List.mem_map.1 h
  exact .inl ⟨a,b,List.mem_range.1 hb,rfl⟩
 ·obtain⟨b,hb,rfl⟩:=List.mem_map.1 h
  exact .inr ⟨b,List.mem_range.1 hb,rfl⟩
def picF (spn:Nat) (l:List S58) (wd ht:Nat) (rs:Nat->List Int):List Nat:=fileL spn l.length wd ht 1024 ((List.range l.length).map fun j=>encL (rs j))
theorem codec_pic {K spn:Nat} {l:List S58} {wd ht:Nat} {rs:Nat->List Int} (h:Pic K spn l wd ht rs) (w:World) (A:Option Addr) (cap:Nat) (hr:Kd.C k58 w A l.length l) (hcap:l.length<=cap) :
  Calls Tryz.prog 70 #[.agg #[.int .i64 spn,.slice A l.length cap],.int .i64 (1024:Nat)] w fun e w' => ∃v,e = .returned (.tuple #[v,.int .i64 0])/\OB w' w.heap.size v (picF spn l wd ht rs)/\Below w.heap.size w w':=by
 have e0:(rd_T58 l 0)=rd_T58 l ((0:Nat):Int):=rfl
 obtain⟨p0,p1,p2,p3⟩:=h.pl 0 h.n0
 have hps:psOf (fun(_ j:Nat)=>encL (rs j)) l.length 1 0=(List.range l.length).map fun j=>encL (rs j):=by simp[psOf]
 have hk:=codec_any w spn h.sp A cap l hr hcap K h.chk (by have:=h.n;omega) h.n0 1024 (by omega) (by omega) wd ht h.wd1 h.ht1 (by rw[e0];exact p0) (by rw[e0];exact p1) 1 h.tl (by omega)
  (fun _=>0) (fun _=>0) (fun _=>wd) (fun _=>ht)
  (fun t ht=>by
   have:t=0:=by omega
   subst this;exact⟨h.rect,h.wd0,h.ht0,Nat.le_refl _,Nat.le_refl _⟩)
  h.pl (fun _ j=>rs j) K
  (fun t j ht hj=>by
   obtain⟨q0,q1,q2,q3⟩:=h.pl j hj
   obtain⟨r0,r1,r2⟩:=h.rest j hj
   refine⟨?_,r1,r2⟩
   rw[crop_whole wd _ _ h.wd0 q2,Nat.sub_zero,Nat.sub_zero]
   exact r0)
  (fun t j ht hj=>by
   have hn:=h.n
   have hl:=psOf_length (fun(_ j:Nat)=>encL (rs j)) l.length t j ht
   have hm : ∀p∈psOf (fun(_ j:Nat)=>encL (rs j)) l.length t j,p.length<=458753:=by
    intro p hp
    rcases psOf_mem hp with ⟨a,b,hb,rfl⟩|⟨b,hb,rfl⟩
    ·have:=encL_le (rs b);have:=(h.rest b hb).2.2;omega
    ·have:=encL_le (rs b);have:=(h.rest b (by omega)).2.2;omega
   have h2:=frameB_le 458753 _ hm
   refine⟨by rw[indexB_length];omega,Nat.le_trans h2 ?_⟩
   exact Nat.le_trans (Nat.mul_le_mul_right _ (show _<=16 by omega)) (by decide))
 rw[hps] at hk
 exact hk
theorem picF_le {K spn:Nat} {l:List S58} {wd ht:Nat} {rs:Nat->List Int} (h:Pic K spn l wd ht rs):(picF spn l wd ht rs).length<=10000000:=by
 have hn:=h.n
 have hm : ∀p∈(List.range l.length).map (fun j=>encL (rs j)),p.length<=458753:=by
  intro p hp
  obtain⟨b,hb,rfl⟩:=List.mem_map.1 hp
  have:=encL_le (rs b);have:=(h.rest b (List.mem_range.1 hb)).2.2;omega
 have h2:=frameB_le 458753 _ hm
 have h3:((List.range l.length).map fun j=>encL (rs j)).length*(458753+4)<=8*458757:=Nat.mul_le_mul_right _ (by simpa using hn)
 unfold picF fileL
 simp only[List.length_append,be_length,hdL_length,indexB_length]
 simp only[List.length_map,List.length_range] at *
 omega
theorem picF_lt {K spn:Nat} {l:List S58} {wd ht:Nat} {rs:Nat->List Int} (h:Pic K spn l wd ht rs) : ∀b∈picF spn l wd ht rs,b<256:=by
 intro b hb
 unfold picF fileL at hb
 have hn:=h.n
 rcases List.mem_append.1 hb with hb|hb
 ·rcases List.mem_append.1 hb with hb|hb
  ·rcases List.mem_append.1 hb with hb|hb
   ·exact hdL_lt h.sp (by omega) _ _ _ b hb
   ·exact indexB_lt _ b hb
  ·exact be_lt _ _ b hb
 ·obtain⟨p,hp,hb⟩:=List.mem_flatMap.1 hb
  obtain⟨j,_,rfl⟩:=List.mem_map.1 hp
  rcases List.mem_append.1 hb with hb|hb
  ·exact encL_lt _ b hb
  ·exact be_lt _ _ b hb
theorem blk_below_lt {w w1:World} {g:Nat} {o:Obj} (h:w.heap[g]?=some o) (hb:Below w.heap.size w w1) (hlt:g<w.heap.size):w1.heap[g]?=some o:=(hb.block g hlt).trans h
theorem JW.nil {w W:World} {G:Nat} {X:Win} {ns:List Nat} (h:JW w G X ns W) (W0:World):JW w G ⟨0,0,W0⟩ ns W:=by
 obtain⟨v,h1,h2,h3⟩:=h.row
 exact⟨h.below,h.own,fun e=>by have:=e.2;simp at this,Nat.zero_le _,fun i hi=>by have:=hi.2;simp at this,v,h1,h2,fun k _ e=>by have:=e.2;simp at this⟩
theorem JW.mk0 {w W:World} {G:Nat} {ns:List Nat} {v:Value} (hb:Below w.heap.size w W) (hG:w.heap.size<=G) (h1:W.heap[G]?=some (.cells #[v] 88 (0,0))) (h2:OB W w.heap.size v ns) (W0:World):JW w G ⟨0,0,W0⟩ ns W :=
 ⟨hb,hG,fun e=>by have:=e.2;simp at this,Nat.zero_le _,fun i hi=>by have:=hi.2;simp at this,v,h1,h2,fun k _ e=>by have:=e.2;simp at this⟩
theorem OB.win {w1 w2:World} {base:Nat} {v:Value} {F:List Nat} (h:OB w1 base v F) (hag : ∀i,(Win.mk base w1.heap.size w1).has i->w2.heap[i]?=w1.heap[i]?):OB w2 base v F :=
 Kd.R_of_own (own_move (Kd.own_of_R h) (fun k hk=>hag k ⟨Kd.R_base h k hk,Kd.R_lt h k hk⟩)) (fun _ _=>trivial)
set_option maxHeartbeats 1600000 in
set_option maxRecDepth 100000 in
theorem picture_j {K spn:Nat} {l:List S58} {wd ht:Nat} {rs:Nat->List Int} (hp:Pic K spn l wd ht rs) (w W:World) (G:Nat) (X:Win) (ns:List Nat) (A:Option Addr) (cap:Nat) (h:JW w G X ns W) (hr:Kd.C k58 W A l.length l) (hcap:l.length<=cap) (hl:ns.length<=10000000) :
  Calls Tryz.prog 38 #[.pointer (some ⟨G,0,none⟩),.agg #[.int .i64 spn,.slice A l.length cap]] W fun e W'=>e = .returned (.int .i64 0)/\JW w G ⟨0,0,w⟩ (ns++(be 8 (picF spn l wd ht rs).length++picF spn l wd ht rs)) W':=by
 have HL:=Aside0.mk (picF_le hp)
 have HC:=Aside0.mk (codec_pic hp _ A cap (Kd.C_alloc hr (.cells #[.int .i64 spn,.slice A l.length cap] 25 (0,0))) hcap)
 generalize picF spn l wd ht rs=F at HL HC ⊢
 have H:=Aside0.mk (h.mono (below_alloc (Below.refl W.heap.size W) (.cells #[.int .i64 spn,.slice A l.length cap] 25 (0,0))))
 clear h hr hp
 go_enter Tryz.func38,Tryz.ntmps38
 go_wp2_with fail
 refine HC.out.mono ?_
 rintro e w1 ⟨v,rfl,ho,hb⟩
 have H1:=Aside0.mk (H.out.rewin hb)
 have HO:=Aside0.mk ho
 clear hb HC H
 obtain⟨Ab,cb,rfl,hcb,hCb⟩:=ho.rd
 clear ho hcb hCb
 go_wp2_with fail
 refine(number_j w w1 G _ F.length ns H1.out (by omega)).mono ?_
 rintro e w2 ⟨rfl,h2⟩
 rw[u64N_nat _ (by have:=HL.out;omega)] at h2
 have HO2:=Aside0.mk (HO.out.win h2.agree)
 obtain⟨v0,hg,hob,_⟩:=h2.row
 have HG:=Aside0.mk hg
 have HOB:=Aside0.mk hob
 have HB:=Aside0.mk h2.below
 have HOWN:=Aside0.mk h2.own
 have c0:w2.cell? ⟨G,0,none⟩=some v0:=(blk_cell hg 0).trans rfl
 obtain⟨Ab',cb',e7,_,hC7⟩:=HO2.out.rd
 injection e7 with e7a _ e7b
 subst e7a e7b
 have HC7:=Aside0.mk hC7
 have HS7:=Aside0.mk h2.below.size
 have HL7:=Aside0.mk (show(ns++be 8 F.length).length+F.length<=200000000 by rw[List.length_append,be_length];have:=HL.out;omega)
 clear hg hob h2 hC7 HO HO2 H1
 go_wp2_with ((with_reducible refine gate_builtin (b := .append) (xs := #[.tmp 20,.tmp 21]) rfl ?_);at_builtin;refine append_bytes w.heap.size rfl (.tmp 20) (.tmp 21) rfl v0 (ns++be 8 F.length) F Ab cb rfl rfl HOB.out HC7.out HS7.out HL7.out ?_;intro v1 w3 ho3 hg3;have HG3:=Aside0.mk (blk_grown HG.out hg3.grown (ne_own HOB.out HG.out (by decide)));have HB3:=Aside0.mk (hg3.below HB.out HS7.out HOB.out);have HO3:=Aside0.mk ho3;obtain⟨A1,k1,rfl,_,_⟩:=ho3.rd;have z0:=show w3.cell? ⟨G,0,none⟩=some v0 from (blk_cell HG3.out 0).trans rfl;have y0:=blk_frozen HG3.out 0;clear ho3 hg3 c0)
 go_ret
 refine⟨rfl,JW.mk0 (below_set HB3.out HOWN.out) HOWN.out (blk_put HG3.out 0 _ rfl) ?_ w⟩
 have h3:=HO3.out
 rw[show((ns++be 8 F.length)++F).length=ns.length+((be 8 F.length).length+F.length) by simp[Nat.add_assoc],List.append_assoc] at h3
 exact Kd.R_set h3 HG3.out (by decide) 0 _
def frameR (ns:List Nat):List Nat:=(be 4 ns.length++ns)++be 4 (crcOf ns)
set_option maxHeartbeats 3200000 in
set_option maxRecDepth 100000 in
theorem record_j (w W:World) (G:Nat) (X:Win) (ns:List Nat) (h:JW w G X ns W) (hl:ns.length<=50000000) (hlt : ∀b∈ns,b<256) :
  Calls Tryz.prog 42 #[.pointer (some ⟨G,0,none⟩)] W fun e W' => ∃v,e = .returned v/\OB W' W.heap.size v (frameR ns)/\Below W.heap.size W W':=by
 obtain⟨v0,hg,ho,_⟩:=h.row
 obtain⟨A0,k0,rfl,hk0,hC0⟩:=ho.rd
 have HG:=Aside0.mk hg
 have HC:=Aside0.mk hC0
 have HLT:=Aside0.mk hlt
 have HGL:=Aside0.mk (blk_lt hg)
 clear ho h hC0 hlt
 have J0:=Aside0.mk (JW.mk0 (w:=W) (ns := []) (below_alloc (Below.refl W.heap.size W) (.cells #[.slice none 0 0] 88 (0,0))) (Nat.le_refl _) (blk_new W (.cells #[.slice none 0 0] 88 (0,0))) (Kd.R_nil _ _ _ _ _) W)
 have c0:(W.alloc (.cells #[.slice none 0 0] 88 (0,0))).cell? ⟨G,0,none⟩=some (.slice A0 ns.length k0):=(blk_cell (blk_alloc hg _) 0).trans rfl
 clear hg
 go_enter Tryz.func42,Tryz.ntmps42
 go_wp2_with fail
 refine(high_any W _ W.heap.size 4 ns.length _ [] J0.out (by omega) (by omega) (by simp)).mono ?_
 rintro e w1 ⟨rfl,h1⟩
 rw[List.nil_append] at h1
 obtain⟨v1,hg1,ho1,_⟩:=h1.row
 have HB:=Aside0.mk h1.below
 have HG1:=Aside0.mk (blk_drew hg1)
 have HO1:=Aside0.mk (Kd.R_drew ho1)
 have HGO:=Aside0.mk (blk_drew (blk_below_lt HG.out h1.below HGL.out))
 have HC1:=Aside0.mk (Kd.C_drew (Kd.C_below HC.out h1.below))
 have HBD:=Aside0.mk (below_drew1 h1.below)
 clear h1 hg1 ho1 c0 J0
 go_wp2_with fail
 refine start_ (n:=13) (S:=fun w'=>w'.cell? ⟨W.heap.size,0,none⟩=some v1/\w'.cell? ⟨G,0,none⟩=some (.slice A0 ns.length k0)) (ds := [12]) (Array.replicate 13 false) (by kernel_rfl) rfl rfl ⟨(blk_cell HG1.out 0).trans rfl,(blk_cell HGO.out 0).trans rfl⟩ (fun hHeld=>?_);refine with_tabW rec_tab rec_bits (fun HT_ HW_=>?_)
 generalize w1.drew=w2 at HG1 HO1 HGO HC1 HBD hHeld ⊢
 refine pu 0 14 HT_ ?_
 refine pu 1 15 HT_ ?_
 refine pu 2 16 HT_ ?_
 refine pu 3 17 HT_ ?_
 refine pu 5 19 HT_ ?_
 refine pu 6 20 HT_ ?_
 refine pu 7 21 HT_ ?_
 refine tk 4 18 HT_ HW_ hHeld rfl (by rintro w' ⟨s0,s1⟩;go_simp;with_reducible rfl) ?_
 refine tk 8 22 HT_ HW_ hHeld rfl (by rintro w' ⟨s0,s1⟩;go_simp;with_reducible rfl) ?_
 refine one_ (i:=9) (N:=some 23) #[true,true,true,true,true,true,true,true,true,true,false,false,false] rfl rfl (one_of HT_.out (by kernel_rfl)) (by decide) (fun K hK=>?_)
 have hne1:some W.heap.size≠v1.ownBlock:=ne_own HO1.out HG1.out (by decide)
 have hne2:some G≠v1.ownBlock:=ne_own HO1.out HGO.out (by decide)
 refine Kd.R_append_rows_step (Kd.int .u8) (w0:=W) W.heap.size (by rfl) (.tmp 18) (.tmp 22) 35 5 (.int .u8 0) 1 rfl Tryz.underlying35 info5 rfl (by decide) (by omega) v1 (ints (be 4 ns.length)) (ints ns) A0 ns.length k0 (fun _=>True) (fun _=>False) rfl rfl HO1.out ?aX (fun x cs h=>h) (fun _ hk=>hk.elim) (fun _ _=>trivial) HBD.out HBD.out.size ?aL ?_
 (case aX=>exact HC1.out)
 (case aL=>rw[ints_length,be_length];omega)
 intro v2 w3 ho hb3 hg hat
 have HG3:=Aside0.mk (blk_grown HG1.out hg hne1)
 have HGO3:=Aside0.mk (blk_grown HGO.out hg hne2)
 have HO3:=Aside0.mk (show OB w3 W.heap.size v2 (be 4 ns.length++ns) by unfold OB;rw[ints_append];exact ho)
 have HB3:=Aside0.mk hb3
 clear ho hb3 hg hat hne1 hne2 HG1 HO1 HGO HC1 HBD hHeld
 obtain⟨A2,k2,rfl,_,_⟩:=HO3.out.rd
 refine hK.out _ _ ⟨(blk_cell HG3.out 0).trans rfl,(blk_cell HGO3.out 0).trans rfl⟩ (fun hHeld=>?_)
 clear hK K
 refine norm_ (a':=?_) ?_ ?_
 rotate_left
 ·show Act.put _ (some 23) _=_
  simp only[Act.put,List.setIfInBounds_toArray,List.set_cons_zero,List.set_cons_succ,i64_w,i32_w]
  rfl
 refine pu 10 24 HT_ ?_
 refine pu 11 25 HT_ ?_
 have z0:w3.cell? ⟨W.heap.size,0,none⟩=some v1:=(blk_cell HG3.out 0).trans rfl
 have y0:=blk_frozen HG3.out 0
 refine last_ (i:=12) (N:=none) #[true,true,true,true,true,true,true,true,true,true,true,true,true] rfl rfl (one_of HT_.out (by kernel_rfl)) (by decide) (fun K hK=>?_)
 refine skip_ (w1:=?_) (by rfl) rfl ?_ ?_
 rotate_left
 ·go_simp
  rfl
 refine hK.out _ _ ?_
 clear hK K
 refine done_ (done_of HT_.out (by kernel_rfl)) ?_
 clear z0 y0 HT_ HW_ hHeld
 have h3:=HO3.out
 rw[List.length_append] at h3
 have J4:=Aside0.mk (JW.mk0 (below_set HB3.out (Nat.le_refl _)) (Nat.le_refl _) (blk_put HG3.out 0 _ rfl) (Kd.R_set h3 HG3.out (by decide) 0 (.slice A2 ((be 4 ns.length).length+ns.length) k2)) W)
 clear h3 HO3 HG3 HGO3 HB3
 generalize w3.setCell ⟨W.heap.size,0,none⟩ (.slice A2 ((be 4 ns.length).length+ns.length) k2)=w4 at J4 ⊢
 have q0:w4.cell? ⟨G,0,none⟩=some (.slice A0 ns.length k0):=(blk_cell (blk_below_lt HG.out J4.out.below HGL.out) 0).trans rfl
 have HSU:=Aside0.mk (Sum_any w4 A0 k0 ns (Kd.C_below HC.out J4.out.below) HLT.out (by omega))
 go_wp2_with fail
 refine HSU.out.mono ?_
 rintro e w5 ⟨rfl,hb⟩
 have J5:=Aside0.mk (J4.out.mono hb)
 have hcl:=crcOf_lt HLT.out
 have hu:IntKind.u64.wrap ((crcOf ns:Nat):Int)=(crcOf ns:Nat):=by rw[u64N_eq,u64N_nat _ (by omega)]
 clear hb q0 HSU J4
 go_wp2_with fail
 refine(high_any W w5 W.heap.size 4 (crcOf ns) _ (be 4 ns.length++ns) J5.out (by omega) (by omega) (by rw[List.length_append,be_length];omega)).mono ?_
 rintro e w6 ⟨rfl,h6⟩
 obtain⟨v6,hg6,ho6,_⟩:=h6.row
 have q6:w6.cell? ⟨W.heap.size,0,none⟩=some v6:=(blk_cell hg6 0).trans rfl
 have HO6:=Aside0.mk ho6
 have HB6:=Aside0.mk h6.below
 clear h6 hg6 ho6 J5 hu
 go_wp2
 go_ret
 exact⟨_,rfl,HO6.out,HB6.out⟩
end Go.Proofs.YtgpegjmbofgmmaaGreat.jou
namespace Go.Proofs.YtgpegjmbofgmmaaGreat.jou
open Go.RowKit Go.Proofs.YtgpegjmbofgmmaaGreatW.PrintWords Go.Proofs.YtgpegjmbofgmmaaGreatW.PrintLast Go.Proofs.YtgpegjmbofgmmaaGreat.PJop Go.Cod
set_option linter.unusedVariables false
set_option linter.unusedSimpArgs false
theorem start_j (w:World) (o:Obj) (kb:Nat):JW w (w.heap.size+1+1) ⟨0,0,w⟩ [kb] (((w.alloc o).alloc (.cells #[.int .u8 kb] 5)).alloc (.cells #[.slice (some ⟨w.heap.size+1,0,none⟩) 1 1] 88)):=by
 have hs:(w.alloc o).heap.size=w.heap.size+1:=by simp
 have hs2:((w.alloc o).alloc (.cells #[.int .u8 kb] 5)).heap.size=w.heap.size+1+1:=by simp
 have hb:Below w.heap.size w (((w.alloc o).alloc (.cells #[.int .u8 kb] 5)).alloc (.cells #[.slice (some ⟨w.heap.size+1,0,none⟩) 1 1] 88)):=below_alloc (below_alloc (below_alloc (Below.refl _ _) _) _) _
 have h1:=heap_alloc2_new (w.alloc o) (.cells #[.int .u8 kb] 5) (.cells #[.slice (some ⟨w.heap.size+1,0,none⟩) 1 1] 88)
 rw[hs] at h1
 refine JW.mk0 hb (by omega) h1 ?_ w
 have hown:=World.ownsRow_lit (w.alloc o) (base:=w.heap.size) (e:=5) (size:=1) #[.int .u8 kb] 1 (by rw[hs];omega) (by decide) rfl
 rw[hs] at hown
 have hR:=Kd.R_of_own (h1:=fun _=>rfl) (enc:=fun z:Int=>Value.int .u8 z) (xs:=ints [kb]) (ok:=fun _=>True) hown (fun _ _=>trivial)
 exact Kd.R_alloc hR _
set_option maxHeartbeats 1600000 in
set_option maxRecDepth 100000 in
theorem Record_bad (w:World) (kind node x y sp:Int) (AP:Option Addr) (cP:Nat) (l:List S58) (AN:Option Addr) (cN:Nat) (xs:List Int) (AB:Option Addr) (cB:Nat) (zs:List Int) (r0 r1 r2 r3:Int) (h1:kind≠1) (h2:kind≠2) (h3:kind≠3) (h4:kind≠4) :
  Calls Tryz.prog 11 #[.agg #[.int .i64 kind,.int .i64 node,.int .i64 x,.int .i64 y,.int .i64 sp,.slice AP l.length cP,.slice AN xs.length cN,.slice AB zs.length cB,.int .i64 r0,.int .i64 r1,.int .i64 r2,.int .i64 r3]] w fun e W'=>e = .returned (.tuple #[.slice none 0 0,.int .i64 250])/\Below w.heap.size w W':=by
 have b1:(kind==1)=false:=by simpa using h1
 have b2:(kind==2)=false:=by simpa using h2
 have b3:(kind==3)=false:=by simpa using h3
 have b4:(kind==4)=false:=by simpa using h4
 have q0:(((w.alloc (.cells #[.int .i64 kind,.int .i64 node,.int .i64 x,.int .i64 y,.int .i64 sp,.slice AP l.length cP,.slice AN xs.length cN,.slice AB zs.length cB,.int .i64 r0,.int .i64 r1,.int .i64 r2,.int .i64 r3] 31 (0,0))).alloc (.cells #[.int .u8 (kind%256)] 5)).alloc (.cells #[.slice (some ⟨w.heap.size+1,0,none⟩) 1 1] 88)).cell? ⟨w.heap.size,0,none⟩=some (.int .i64 kind):=(blk_cell (blk_alloc (blk_alloc (blk_new w (.cells #[.int .i64 kind,.int .i64 node,.int .i64 x,.int .i64 y,.int .i64 sp,.slice AP l.length cP,.slice AN xs.length cN,.slice AB zs.length cB,.int .i64 r0,.int .i64 r1,.int .i64 r2,.int .i64 r3] 31 (0,0))) _) _) 0).trans rfl
 have q1:(((w.alloc (.cells #[.int .i64 kind,.int .i64 node,.int .i64 x,.int .i64 y,.int .i64 sp,.slice AP l.length cP,.slice AN xs.length cN,.slice AB zs.length cB,.int .i64 r0,.int .i64 r1,.int .i64 r2,.int .i64 r3] 31 (0,0))).alloc (.cells #[.int .u8 (IntKind.u8.wrap kind)] 5)).alloc (.cells #[.slice (some ⟨w.heap.size+1,0,none⟩) 1 1] 88)).cell? ⟨w.heap.size,0,none⟩=some (.int .i64 kind):=(blk_cell (blk_alloc (blk_alloc (blk_new w (.cells #[.int .i64 kind,.int .i64 node,.int .i64 x,.int .i64 y,.int .i64 sp,.slice AP l.length cP,.slice AN xs.length cN,.slice AB zs.length cB,.int .i64 r0,.int .i64 r1,.int .i64 r2,.int .i64 r3] 31 (0,0))) _) _) 0).trans rfl
 have HB:=Aside0.mk (below_alloc (below_alloc (below_alloc (Below.refl w.heap.size w) (.cells #[.int .i64 kind,.int .i64 node,.int .i64 x,.int .i64 y,.int .i64 sp,.slice AP l.length cP,.slice AN xs.length cN,.slice AB zs.length cB,.int .i64 r0,.int .i64 r1,.int .i64 r2,.int .i64 r3] 31 (0,0))) (.cells #[.int .u8 (IntKind.u8.wrap kind)] 5)) (.cells #[.slice (some ⟨w.heap.size+1,0,none⟩) 1 1] 88))
 clear h1 h2 h3 h4
 go_enter Tryz.func11,Tryz.ntmps11
 go_wp2
 go_ret2
 exact⟨rfl,by
  have e:IntKind.u8.wrap kind=kind%256:=IntKind.wrap_u8' kind
  rw[<- e];exact HB.out⟩
set_option maxHeartbeats 1600000 in
set_option maxRecDepth 100000 in
theorem Record_undo (w:World) (kb:Nat) (node x y sp:Int) (AP:Option Addr) (cP:Nat) (l:List S58) (AN:Option Addr) (cN:Nat) (xs:List Int) (AB:Option Addr) (cB:Nat) (zs:List Int) (r0 r1 r2 r3:Int) (hk:kb=3) :
  Calls Tryz.prog 11 #[.agg #[.int .i64 kb,.int .i64 node,.int .i64 x,.int .i64 y,.int .i64 sp,.slice AP l.length cP,.slice AN xs.length cN,.slice AB zs.length cB,.int .i64 r0,.int .i64 r1,.int .i64 r2,.int .i64 r3]] w fun e W' => ∃v,e = .returned (.tuple #[v,.int .i64 0])/\OB W' w.heap.size v (frameR [kb])/\Below w.heap.size w W':=by
 have b1:((kb:Int)==1)=false:=by simp;omega
 have b2:((kb:Int)==2)=false:=by simp;omega
 have b3:((kb:Int)==3)=true:=by simp;omega
 have b4:((kb:Int)==4)=false:=by simp;omega
 have m1:((kb:Int)%256)=kb:=by omega
 have BK:=Aside0.mk (blk_alloc (blk_alloc (blk_new w (.cells #[.int .i64 kb,.int .i64 node,.int .i64 x,.int .i64 y,.int .i64 sp,.slice AP l.length cP,.slice AN xs.length cN,.slice AB zs.length cB,.int .i64 r0,.int .i64 r1,.int .i64 r2,.int .i64 r3] 31 (0,0))) (.cells #[.int .u8 kb] 5)) (.cells #[.slice (some ⟨w.heap.size+1,0,none⟩) 1 1] 88))
 have J0:=Aside0.mk (start_j w (.cells #[.int .i64 kb,.int .i64 node,.int .i64 x,.int .i64 y,.int .i64 sp,.slice AP l.length cP,.slice AN xs.length cN,.slice AB zs.length cB,.int .i64 r0,.int .i64 r1,.int .i64 r2,.int .i64 r3] 31 (0,0)) kb)
 have q0:(((w.alloc (.cells #[.int .i64 kb,.int .i64 node,.int .i64 x,.int .i64 y,.int .i64 sp,.slice AP l.length cP,.slice AN xs.length cN,.slice AB zs.length cB,.int .i64 r0,.int .i64 r1,.int .i64 r2,.int .i64 r3] 31 (0,0))).alloc (.cells #[.int .u8 kb] 5)).alloc (.cells #[.slice (some ⟨w.heap.size+1,0,none⟩) 1 1] 88)).cell? ⟨w.heap.size,0,none⟩=some (.int .i64 kb):=(blk_cell BK.out 0).trans rfl
 have hkb:kb<256:=by omega
 clear hk
 go_enter Tryz.func11,Tryz.ntmps11
 go_wp2_with fail
 have HS:=Aside0.mk J0.out.below.size
 refine(record_j w _ (w.heap.size+1+1) _ [kb] J0.out (by simp) (by intro b hb;simp at hb;omega)).mono ?_
 rintro e w2 ⟨v,rfl,ho,hb⟩
 have HO:=Aside0.mk (Kd.R_lower ho HS.out)
 have HB:=Aside0.mk (below_step J0.out.below hb)
 clear ho hb q0
 go_wp2
 go_ret2
 exact⟨v,rfl,HO.out,HB.out⟩
set_option maxHeartbeats 1600000 in
set_option maxRecDepth 100000 in
theorem Record_redo (w:World) (kb:Nat) (node x y sp:Int) (AP:Option Addr) (cP:Nat) (l:List S58) (AN:Option Addr) (cN:Nat) (xs:List Int) (AB:Option Addr) (cB:Nat) (zs:List Int) (r0 r1 r2 r3:Int) (hk:kb=4) :
  Calls Tryz.prog 11 #[.agg #[.int .i64 kb,.int .i64 node,.int .i64 x,.int .i64 y,.int .i64 sp,.slice AP l.length cP,.slice AN xs.length cN,.slice AB zs.length cB,.int .i64 r0,.int .i64 r1,.int .i64 r2,.int .i64 r3]] w fun e W' => ∃v,e = .returned (.tuple #[v,.int .i64 0])/\OB W' w.heap.size v (frameR [kb])/\Below w.heap.size w W':=by
 have b1:((kb:Int)==1)=false:=by simp;omega
 have b2:((kb:Int)==2)=false:=by simp;omega
 have b3:((kb:Int)==3)=false:=by simp;omega
 have b4:((kb:Int)==4)=true:=by simp;omega
 have m1:((kb:Int)%256)=kb:=by omega
 have BK:=Aside0.mk (blk_alloc (blk_alloc (blk_new w (.cells #[.int .i64 kb,.int .i64 node,.int .i64 x,.int .i64 y,.int .i64 sp,.slice AP l.length cP,.slice AN xs.length cN,.slice AB zs.length cB,.int .i64 r0,.int .i64 r1,.int .i64 r2,.int .i64 r3] 31 (0,0))) (.cells #[.int .u8 kb] 5)) (.cells #[.slice (some ⟨w.heap.size+1,0,none⟩) 1 1] 88))
 have J0:=Aside0.mk (start_j w (.cells #[.int .i64 kb,.int .i64 node,.int .i64 x,.int .i64 y,.int .i64 sp,.slice AP l.length cP,.slice AN xs.length cN,.slice AB zs.length cB,.int .i64 r0,.int .i64 r1,.int .i64 r2,.int .i64 r3] 31 (0,0)) kb)
 have q0:(((w.alloc (.cells #[.int .i64 kb,.int .i64 node,.int .i64 x,.int .i64 y,.int .i64 sp,.slice AP l.length cP,.slice AN xs.length cN,.slice AB zs.length cB,.int .i64 r0,.int .i64 r1,.int .i64 r2,.int .i64 r3] 31 (0,0))).alloc (.cells #[.int .u8 kb] 5)).alloc (.cells #[.slice (some ⟨w.heap.size+1,0,none⟩) 1 1] 88)).cell? ⟨w.heap.size,0,none⟩=some (.int .i64 kb):=(blk_cell BK.out 0).trans rfl
 have hkb:kb<256:=by omega
 clear hk
 go_enter Tryz.func11,Tryz.ntmps11
 go_wp2_with fail
 have HS:=Aside0.mk J0.out.below.size
 refine(record_j w _ (w.heap.size+1+1) _ [kb] J0.out (by simp) (by intro b hb;simp at hb;omega)).mono ?_
 rintro e w2 ⟨v,rfl,ho,hb⟩
 have HO:=Aside0.mk (Kd.R_lower ho HS.out)
 have HB:=Aside0.mk (below_step J0.out.below hb)
 clear ho hb q0
 go_wp2
 go_ret2
 exact⟨v,rfl,HO.out,HB.out⟩
end Go.Proofs.YtgpegjmbofgmmaaGreat.jou
namespace Go.Proofs.YtgpegjmbofgmmaaGreat.jou
open Go.RowKit Go.Proofs.YtgpegjmbofgmmaaGreatW.PrintWords Go.Proofs.YtgpegjmbofgmmaaGreatW.PrintLast Go.Proofs.YtgpegjmbofgmmaaGreat.PJop Go.Cod
set_option linter.unusedVariables false
set_option linter.unusedSimpArgs false
theorem seqB_lt (n:Nat) (xs:List Int) (k:Nat) : ∀b∈seqB n xs k,b<256:=by
 intro b hb
 unfold seqB at hb
 obtain⟨x,_,h⟩:=List.mem_flatMap.1 hb
 exact be_lt _ _ b h
theorem start_x (w:World) (o:Obj) (kb:Nat):JW w (w.heap.size+1+1) ⟨w.heap.size,w.heap.size+1,(((w.alloc o).alloc (.cells #[.int .u8 kb] 5)).alloc (.cells #[.slice (some ⟨w.heap.size+1,0,none⟩) 1 1] 88))⟩ [kb] (((w.alloc o).alloc (.cells #[.int .u8 kb] 5)).alloc (.cells #[.slice (some ⟨w.heap.size+1,0,none⟩) 1 1] 88)):=by
 have h:=start_j w o kb
 obtain⟨v,h1,h2,h3⟩:=h.row
 have hs:(w.alloc o).heap.size=w.heap.size+1:=by simp
 have h4:=heap_alloc2_new (w.alloc o) (.cells #[.int .u8 kb] 5) (.cells #[.slice (some ⟨w.heap.size+1,0,none⟩) 1 1] 88)
 rw[hs] at h4
 rw[h4] at h1
 injection h1 with h1
 injection h1 with h1 _ _
 have hv:v = .slice (some ⟨w.heap.size+1,0,none⟩) 1 1:=by injection h1 with h1;injection h1 with h1 _;exact h1.symm
 refine⟨h.below,h.own,fun e=>by have:=e.2;simp at this;omega,by simp,fun i _=>rfl,v,by rw[h4,hv],h2,fun k hk e=>?_⟩
 rw[hv] at hk
 simp[Value.ownBlock] at hk
 have:=e.2
 simp at this
 omega
def setL (kb:Nat) (node:Int) (xs zs:List Int):List Nat:=(([kb]++be 8 (u64N node))++(be 8 xs.length++seqB 8 xs xs.length))++(be 8 zs.length++seqB 4 zs zs.length)
set_option maxHeartbeats 3200000 in
set_option maxRecDepth 100000 in
theorem Record_set (w:World) (kb:Nat) (node x y sp:Int) (AP:Option Addr) (cP:Nat) (l:List S58) (AN:Option Addr) (cN:Nat) (xs:List Int) (AB:Option Addr) (cB:Nat) (zs:List Int) (r0 r1 r2 r3:Int) (hk:kb=2) (hx:Kd.C (Kd.int .i64) w AN xs.length xs) (hz:Kd.C (Kd.int .u32) w AB zs.length zs) (hxl:xs.length<=1000) (hzl:zs.length<=1000) :
  Calls Tryz.prog 11 #[.agg #[.int .i64 kb,.int .i64 node,.int .i64 x,.int .i64 y,.int .i64 sp,.slice AP l.length cP,.slice AN xs.length cN,.slice AB zs.length cB,.int .i64 r0,.int .i64 r1,.int .i64 r2,.int .i64 r3]] w fun e W' => ∃v,e = .returned (.tuple #[v,.int .i64 0])/\OB W' w.heap.size v (frameR (setL kb node xs zs))/\Below w.heap.size w W':=by
 have hmf : ∀(fn:Fn) (first cap:Array Value) (w:World),(Instr.makeFunc fn first cap).run Tryz.prog w = .ok (.func fn first cap) w:=fun _ _ _ _=>rfl
 have b1:((kb:Int)==1)=false:=by simp;omega
 have b2:((kb:Int)==2)=true:=by simp;omega
 have m1:((kb:Int)%256)=kb:=by omega
 have BK:=Aside0.mk (blk_alloc (blk_alloc (blk_new w (.cells #[.int .i64 kb,.int .i64 node,.int .i64 x,.int .i64 y,.int .i64 sp,.slice AP l.length cP,.slice AN xs.length cN,.slice AB zs.length cB,.int .i64 r0,.int .i64 r1,.int .i64 r2,.int .i64 r3] 31 (0,0))) (.cells #[.int .u8 kb] 5)) (.cells #[.slice (some ⟨w.heap.size+1,0,none⟩) 1 1] 88))
 have J0:=Aside0.mk (start_x w (.cells #[.int .i64 kb,.int .i64 node,.int .i64 x,.int .i64 y,.int .i64 sp,.slice AP l.length cP,.slice AN xs.length cN,.slice AB zs.length cB,.int .i64 r0,.int .i64 r1,.int .i64 r2,.int .i64 r3] 31 (0,0)) kb)
 have q0:(((w.alloc (.cells #[.int .i64 kb,.int .i64 node,.int .i64 x,.int .i64 y,.int .i64 sp,.slice AP l.length cP,.slice AN xs.length cN,.slice AB zs.length cB,.int .i64 r0,.int .i64 r1,.int .i64 r2,.int .i64 r3] 31 (0,0))).alloc (.cells #[.int .u8 kb] 5)).alloc (.cells #[.slice (some ⟨w.heap.size+1,0,none⟩) 1 1] 88)).cell? ⟨w.heap.size,0,none⟩=some (.int .i64 kb):=(blk_cell BK.out 0).trans rfl
 have q1:(((w.alloc (.cells #[.int .i64 kb,.int .i64 node,.int .i64 x,.int .i64 y,.int .i64 sp,.slice AP l.length cP,.slice AN xs.length cN,.slice AB zs.length cB,.int .i64 r0,.int .i64 r1,.int .i64 r2,.int .i64 r3] 31 (0,0))).alloc (.cells #[.int .u8 kb] 5)).alloc (.cells #[.slice (some ⟨w.heap.size+1,0,none⟩) 1 1] 88)).cell? ⟨w.heap.size,1,none⟩=some (.int .i64 node):=(blk_cell BK.out 1).trans rfl
 have hkb:kb<256:=by omega
 clear hk
 have HX:=Aside0.mk hx
 have HZ:=Aside0.mk hz
 clear hx hz
 go_enter Tryz.func11,Tryz.ntmps11
 go_wp2_with fail
 refine(number_j w _ (w.heap.size+1+1) _ node [kb] J0.out (by simp)).mono ?_
 rintro e w2 ⟨rfl,h2⟩
 have BK2:=Aside0.mk ((h2.agree w.heap.size ⟨Nat.le_refl _,Nat.lt_succ_self _⟩).trans BK.out)
 have q6:w2.cell? ⟨w.heap.size,6,none⟩=some (.slice AN xs.length cN):=(blk_cell BK2.out 6).trans rfl
 have J2:=Aside0.mk h2
 clear h2 q0 q1 J0
 go_wp2_with fail
 refine(list_ints w w2 (w.heap.size+1+1) _ _ AN cN xs J2.out (Kd.C_below HX.out J2.out.below) HX.out (by rw[List.length_append,be_length];simp) (by omega)).mono ?_
 rintro e w3 ⟨rfl,h3⟩
 have BK3:=Aside0.mk ((h3.agree w.heap.size ⟨Nat.le_refl _,Nat.lt_succ_self _⟩).trans BK.out)
 have q7:w3.cell? ⟨w.heap.size,7,none⟩=some (.slice AB zs.length cB):=(blk_cell BK3.out 7).trans rfl
 have J3:=Aside0.mk h3
 clear h3 q6 J2 BK2
 go_wp2_with fail
 refine(list_words w w3 (w.heap.size+1+1) _ _ AB cB zs J3.out (Kd.C_below HZ.out J3.out.below) HZ.out (by simp only[List.length_append,be_length,seqB_length _ _ _ (Nat.le_refl _)];simp;omega) (by omega)).mono ?_
 rintro e w4 ⟨rfl,h4⟩
 have J4:=Aside0.mk (show JW w (w.heap.size+1+1) _ (setL kb node xs zs) w4 from h4)
 clear h4 q7 J3 BK3
 have HLN:=Aside0.mk (show(setL kb node xs zs).length<=50000000 by unfold setL;simp only[List.length_append,be_length,seqB_length _ _ _ (Nat.le_refl _)];simp;omega)
 have HLT:=Aside0.mk (show ∀b∈setL kb node xs zs,b<256 by
  intro b hb
  unfold setL at hb
  simp only[List.mem_append] at hb
  rcases hb with ((hb|hb)|hb|hb)|hb|hb
  ·simp at hb;omega
  ·exact be_lt _ _ b hb
  ·exact be_lt _ _ b hb
  ·exact seqB_lt _ _ _ b hb
  ·exact be_lt _ _ b hb
  ·exact seqB_lt _ _ _ b hb)
 go_wp2_with fail
 have HS:=Aside0.mk J4.out.below.size
 refine(record_j w w4 (w.heap.size+1+1) _ _ J4.out HLN.out HLT.out).mono ?_
 rintro e w5 ⟨v,rfl,ho,hb⟩
 have HO:=Aside0.mk (Kd.R_lower ho HS.out)
 have HB:=Aside0.mk (below_step J4.out.below hb)
 clear ho hb
 go_wp2
 go_ret2
 exact⟨v,rfl,HO.out,HB.out⟩
def strokeL (kb:Nat) (node x y:Int) (F:List Nat):List Nat:=((([kb]++be 8 (u64N node))++be 8 (u64N x))++be 8 (u64N y))++(be 8 F.length++F)
set_option maxHeartbeats 3200000 in
set_option maxRecDepth 100000 in
theorem Record_stroke {K:Nat} {wd ht:Nat} {rs:Nat->List Int} (w:World) (kb:Nat) (node x y:Int) (spn:Nat) (AP:Option Addr) (cP:Nat) (l:List S58) (AN:Option Addr) (cN:Nat) (xs:List Int) (AB:Option Addr) (cB:Nat) (zs:List Int) (r0 r1 r2 r3:Int) (hk:kb=1) (hp:Pic K spn l wd ht rs) (hr:Kd.C k58 w AP l.length l) (hcap:l.length<=cP) :
  Calls Tryz.prog 11 #[.agg #[.int .i64 kb,.int .i64 node,.int .i64 x,.int .i64 y,.int .i64 spn,.slice AP l.length cP,.slice AN xs.length cN,.slice AB zs.length cB,.int .i64 r0,.int .i64 r1,.int .i64 r2,.int .i64 r3]] w fun e W' => ∃v,e = .returned (.tuple #[v,.int .i64 0])/\OB W' w.heap.size v (frameR (strokeL kb node x y (picF spn l wd ht rs)))/\Below w.heap.size w W':=by
 have b1:((kb:Int)==1)=true:=by simp;omega
 have b2:((kb:Int)==2)=false:=by simp;omega
 have m1:((kb:Int)%256)=kb:=by omega
 have BK:=Aside0.mk (blk_alloc (blk_alloc (blk_new w (.cells #[.int .i64 kb,.int .i64 node,.int .i64 x,.int .i64 y,.int .i64 spn,.slice AP l.length cP,.slice AN xs.length cN,.slice AB zs.length cB,.int .i64 r0,.int .i64 r1,.int .i64 r2,.int .i64 r3] 31 (0,0))) (.cells #[.int .u8 kb] 5)) (.cells #[.slice (some ⟨w.heap.size+1,0,none⟩) 1 1] 88))
 have J0:=Aside0.mk (start_x w (.cells #[.int .i64 kb,.int .i64 node,.int .i64 x,.int .i64 y,.int .i64 spn,.slice AP l.length cP,.slice AN xs.length cN,.slice AB zs.length cB,.int .i64 r0,.int .i64 r1,.int .i64 r2,.int .i64 r3] 31 (0,0)) kb)
 have q0:(((w.alloc (.cells #[.int .i64 kb,.int .i64 node,.int .i64 x,.int .i64 y,.int .i64 spn,.slice AP l.length cP,.slice AN xs.length cN,.slice AB zs.length cB,.int .i64 r0,.int .i64 r1,.int .i64 r2,.int .i64 r3] 31 (0,0))).alloc (.cells #[.int .u8 kb] 5)).alloc (.cells #[.slice (some ⟨w.heap.size+1,0,none⟩) 1 1] 88)).cell? ⟨w.heap.size,0,none⟩=some (.int .i64 kb):=(blk_cell BK.out 0).trans rfl
 have q1:(((w.alloc (.cells #[.int .i64 kb,.int .i64 node,.int .i64 x,.int .i64 y,.int .i64 spn,.slice AP l.length cP,.slice AN xs.length cN,.slice AB zs.length cB,.int .i64 r0,.int .i64 r1,.int .i64 r2,.int .i64 r3] 31 (0,0))).alloc (.cells #[.int .u8 kb] 5)).alloc (.cells #[.slice (some ⟨w.heap.size+1,0,none⟩) 1 1] 88)).cell? ⟨w.heap.size,1,none⟩=some (.int .i64 node):=(blk_cell BK.out 1).trans rfl
 have hkb:kb<256:=by omega
 clear hk
 have q4:(((w.alloc (.cells #[.int .i64 kb,.int .i64 node,.int .i64 x,.int .i64 y,.int .i64 spn,.slice AP l.length cP,.slice AN xs.length cN,.slice AB zs.length cB,.int .i64 r0,.int .i64 r1,.int .i64 r2,.int .i64 r3] 31 (0,0))).alloc (.cells #[.int .u8 kb] 5)).alloc (.cells #[.slice (some ⟨w.heap.size+1,0,none⟩) 1 1] 88)).cell? ⟨w.heap.size,4,none⟩=some (.int .i64 spn):=(blk_cell BK.out 4).trans rfl
 have q5:(((w.alloc (.cells #[.int .i64 kb,.int .i64 node,.int .i64 x,.int .i64 y,.int .i64 spn,.slice AP l.length cP,.slice AN xs.length cN,.slice AB zs.length cB,.int .i64 r0,.int .i64 r1,.int .i64 r2,.int .i64 r3] 31 (0,0))).alloc (.cells #[.int .u8 kb] 5)).alloc (.cells #[.slice (some ⟨w.heap.size+1,0,none⟩) 1 1] 88)).cell? ⟨w.heap.size,5,none⟩=some (.slice AP l.length cP):=(blk_cell BK.out 5).trans rfl
 have HX:=Aside0.mk hr
 have HP:=Aside0.mk hp
 have HCK:=Aside0.mk (picture_Check.calls K (spn:Int) AP cP l 0 _ (Kd.C_below hr J0.out.below) hcap hp.chk)
 clear hr hp
 go_enter Tryz.func11,Tryz.ntmps11
 go_wp2_with fail
 refine HCK.out.mono ?_
 rintro e w1 ⟨rfl,hb1⟩
 have J1:=Aside0.mk (J0.out.mono hb1)
 clear hb1 HCK J0 q0 q1 q4 q5
 have BK1:=Aside0.mk ((J1.out.agree w.heap.size ⟨Nat.le_refl _,Nat.lt_succ_self _⟩).trans BK.out)
 have q1:w1.cell? ⟨w.heap.size,1,none⟩=some (.int .i64 node):=(blk_cell BK1.out 1).trans rfl
 go_wp2_with fail
 refine(number_j w w1 (w.heap.size+1+1) _ node [kb] J1.out (by simp)).mono ?_
 rintro e w2 ⟨rfl,h2⟩
 have BK2:=Aside0.mk ((h2.agree w.heap.size ⟨Nat.le_refl _,Nat.lt_succ_self _⟩).trans BK.out)
 have q2:w2.cell? ⟨w.heap.size,2,none⟩=some (.int .i64 x):=(blk_cell BK2.out 2).trans rfl
 have J2:=Aside0.mk h2
 clear h2 q1 J1 BK1
 go_wp2_with fail
 refine(number_j w w2 (w.heap.size+1+1) _ x _ J2.out (by rw[List.length_append,be_length];simp)).mono ?_
 rintro e w3 ⟨rfl,h3⟩
 have BK3:=Aside0.mk ((h3.agree w.heap.size ⟨Nat.le_refl _,Nat.lt_succ_self _⟩).trans BK.out)
 have q3:w3.cell? ⟨w.heap.size,3,none⟩=some (.int .i64 y):=(blk_cell BK3.out 3).trans rfl
 have J3:=Aside0.mk h3
 clear h3 q2 J2 BK2
 go_wp2_with fail
 refine(number_j w w3 (w.heap.size+1+1) _ y _ J3.out (by simp only[List.length_append,be_length];simp)).mono ?_
 rintro e w4 ⟨rfl,h4⟩
 have BK4:=Aside0.mk ((h4.agree w.heap.size ⟨Nat.le_refl _,Nat.lt_succ_self _⟩).trans BK.out)
 have q4:w4.cell? ⟨w.heap.size,4,none⟩=some (.int .i64 spn):=(blk_cell BK4.out 4).trans rfl
 have q5:w4.cell? ⟨w.heap.size,5,none⟩=some (.slice AP l.length cP):=(blk_cell BK4.out 5).trans rfl
 have J4:=Aside0.mk h4
 clear h4 q3 J3 BK3
 go_wp2_with fail
 refine(picture_j HP.out w w4 (w.heap.size+1+1) _ _ AP cP J4.out (Kd.C_below HX.out J4.out.below) hcap (by simp only[List.length_append,be_length];simp)).mono ?_
 rintro e w5 ⟨rfl,h5⟩
 have hF1:=picF_le HP.out
 have hF2:=picF_lt HP.out
 have J5:=Aside0.mk (show JW w (w.heap.size+1+1) _ (strokeL kb node x y (picF spn l wd ht rs)) w5 from h5)
 clear h5 q4 q5 J4 BK4
 generalize hF:picF spn l wd ht rs=F at J5 hF1 hF2
 have HF:=Aside0.mk hF
 clear hF
 have HLN:=Aside0.mk (show(strokeL kb node x y F).length<=50000000 by unfold strokeL;simp only[List.length_append,be_length];simp;omega)
 have HLT:=Aside0.mk (show ∀b∈strokeL kb node x y F,b<256 by
  intro b hb
  unfold strokeL at hb
  simp only[List.mem_append] at hb
  rcases hb with (((hb|hb)|hb)|hb)|hb|hb
  ·simp at hb;omega
  ·exact be_lt _ _ b hb
  ·exact be_lt _ _ b hb
  ·exact be_lt _ _ b hb
  ·exact be_lt _ _ b hb
  ·exact hF2 b hb)
 clear hF1 hF2
 go_wp2_with fail
 have HS:=Aside0.mk J5.out.below.size
 refine(record_j w w5 (w.heap.size+1+1) _ _ J5.out HLN.out HLT.out).mono ?_
 rintro e w6 ⟨v,rfl,ho,hb⟩
 have HO:=Aside0.mk (Kd.R_lower ho HS.out)
 have HB:=Aside0.mk (below_step J5.out.below hb)
 clear ho hb
 go_wp2
 go_ret2
 exact⟨v,rfl,by rw[HF.out];exact HO.out,HB.out⟩
set_option maxHeartbeats 3200000 in
set_option maxRecDepth 100000 in
theorem Record_strokeBad (K:Nat) (er:Int) (w:World) (kb:Nat) (node x y sp:Int) (AP:Option Addr) (cP:Nat) (l:List S58) (AN:Option Addr) (cN:Nat) (xs:List Int) (AB:Option Addr) (cB:Nat) (zs:List Int) (r0 r1 r2 r3:Int) (hk:kb=1) (hck:picture_Check.f K sp l=some er) (her:er≠0) (hr:Kd.C k58 w AP l.length l) (hcap:l.length<=cP) :
  Calls Tryz.prog 11 #[.agg #[.int .i64 kb,.int .i64 node,.int .i64 x,.int .i64 y,.int .i64 sp,.slice AP l.length cP,.slice AN xs.length cN,.slice AB zs.length cB,.int .i64 r0,.int .i64 r1,.int .i64 r2,.int .i64 r3]] w fun e W'=>e = .returned (.tuple #[.slice none 0 0,.int .i64 er])/\Below w.heap.size w W':=by
 have b1:((kb:Int)==1)=true:=by simp;omega
 have b2:((kb:Int)==2)=false:=by simp;omega
 have m1:((kb:Int)%256)=kb:=by omega
 have BK:=Aside0.mk (blk_alloc (blk_alloc (blk_new w (.cells #[.int .i64 kb,.int .i64 node,.int .i64 x,.int .i64 y,.int .i64 sp,.slice AP l.length cP,.slice AN xs.length cN,.slice AB zs.length cB,.int .i64 r0,.int .i64 r1,.int .i64 r2,.int .i64 r3] 31 (0,0))) (.cells #[.int .u8 kb] 5)) (.cells #[.slice (some ⟨w.heap.size+1,0,none⟩) 1 1] 88))
 have J0:=Aside0.mk (start_x w (.cells #[.int .i64 kb,.int .i64 node,.int .i64 x,.int .i64 y,.int .i64 sp,.slice AP l.length cP,.slice AN xs.length cN,.slice AB zs.length cB,.int .i64 r0,.int .i64 r1,.int .i64 r2,.int .i64 r3] 31 (0,0)) kb)
 have q0:(((w.alloc (.cells #[.int .i64 kb,.int .i64 node,.int .i64 x,.int .i64 y,.int .i64 sp,.slice AP l.length cP,.slice AN xs.length cN,.slice AB zs.length cB,.int .i64 r0,.int .i64 r1,.int .i64 r2,.int .i64 r3] 31 (0,0))).alloc (.cells #[.int .u8 kb] 5)).alloc (.cells #[.slice (some ⟨w.heap.size+1,0,none⟩) 1 1] 88)).cell? ⟨w.heap.size,0,none⟩=some (.int .i64 kb):=(blk_cell BK.out 0).trans rfl
 have q1:(((w.alloc (.cells #[.int .i64 kb,.int .i64 node,.int .i64 x,.int .i64 y,.int .i64 sp,.slice AP l.length cP,.slice AN xs.length cN,.slice AB zs.length cB,.int .i64 r0,.int .i64 r1,.int .i64 r2,.int .i64 r3] 31 (0,0))).alloc (.cells #[.int .u8 kb] 5)).alloc (.cells #[.slice (some ⟨w.heap.size+1,0,none⟩) 1 1] 88)).cell? ⟨w.heap.size,1,none⟩=some (.int .i64 node):=(blk_cell BK.out 1).trans rfl
 have hkb:kb<256:=by omega
 clear hk
 have b0:(er !=0)=true:=by simpa using her
 have q4:(((w.alloc (.cells #[.int .i64 kb,.int .i64 node,.int .i64 x,.int .i64 y,.int .i64 sp,.slice AP l.length cP,.slice AN xs.length cN,.slice AB zs.length cB,.int .i64 r0,.int .i64 r1,.int .i64 r2,.int .i64 r3] 31 (0,0))).alloc (.cells #[.int .u8 kb] 5)).alloc (.cells #[.slice (some ⟨w.heap.size+1,0,none⟩) 1 1] 88)).cell? ⟨w.heap.size,4,none⟩=some (.int .i64 sp):=(blk_cell BK.out 4).trans rfl
 have q5:(((w.alloc (.cells #[.int .i64 kb,.int .i64 node,.int .i64 x,.int .i64 y,.int .i64 sp,.slice AP l.length cP,.slice AN xs.length cN,.slice AB zs.length cB,.int .i64 r0,.int .i64 r1,.int .i64 r2,.int .i64 r3] 31 (0,0))).alloc (.cells #[.int .u8 kb] 5)).alloc (.cells #[.slice (some ⟨w.heap.size+1,0,none⟩) 1 1] 88)).cell? ⟨w.heap.size,5,none⟩=some (.slice AP l.length cP):=(blk_cell BK.out 5).trans rfl
 have HCK:=Aside0.mk (picture_Check.calls K sp AP cP l er _ (Kd.C_below hr J0.out.below) hcap hck)
 clear hr hck her
 go_enter Tryz.func11,Tryz.ntmps11
 go_wp2_with fail
 refine HCK.out.mono ?_
 rintro e w1 ⟨rfl,hb1⟩
 have HB:=Aside0.mk (below_step J0.out.below hb1)
 clear hb1 HCK q0 q1 q4 q5
 go_wp2
 go_ret2
 exact⟨rfl,HB.out⟩
end Go.Proofs.YtgpegjmbofgmmaaGreat.jou
namespace Go.Proofs.YtgpegjmbofgmmaaGreat.jou
open Go.RowKit Go.Proofs.YtgpegjmbofgmmaaGreatW.PrintWords Go.Proofs.YtgpegjmbofgmmaaGreatW.PrintLast Go.Proofs.YtgpegjmbofgmmaaGreat.PJop Go.Cod
set_option linter.unusedVariables false
set_option linter.unusedSimpArgs false
theorem check_nil (w:World):Calls Tryz.prog 28 #[.slice none 0 0] w fun e W'=>e = .returned (.tuple #[.slice none 0 0,.int .i64 200])/\Below w.heap.size w W':=by
 go_enter Tryz.func28,Tryz.ntmps28
 go_wp2
 go_ret2
 exact⟨rfl,Below.refl _ _⟩
set_option maxHeartbeats 3200000 in
set_option maxRecDepth 100000 in
theorem few_yes (W:World) (g:Nat) (kind node x y sp:Int) (AP:Option Addr) (cP:Nat) (l:List S58) (AN:Option Addr) (cN:Nat) (xs:List Int) (AB:Option Addr) (cB:Nat) (zs:List Int) (r0 r1 r2 r3:Int) (hg:W.heap[g]?=some (.cells #[.int .i64 kind,.int .i64 node,.int .i64 x,.int .i64 y,.int .i64 sp,.slice AP l.length cP,.slice AN xs.length cN,.slice AB zs.length cB,.int .i64 r0,.int .i64 r1,.int .i64 r2,.int .i64 r3] 31 (0,0))) (K:Nat) (hP:Kd.C k58 W AP l.length l) (hcap:l.length<=cP) (hl:halidelaw25_light.f K sp l=some true) (hx:xs.length<=200) (hz:zs.length<=200) :
  Calls Tryz.prog 8 #[.slice none 0 0,.slice (some ⟨g,0,none⟩) 1 1] W fun e W'=>e = .returned (.bool true)/\Below W.heap.size W W':=by
 have q4:W.cell? ⟨g,4,none⟩=some (.int .i64 sp):=(blk_cell hg 4).trans rfl
 have q5:W.cell? ⟨g,5,none⟩=some (.slice AP l.length cP):=(blk_cell hg 5).trans rfl
 have q6:W.cell? ⟨g,6,none⟩=some (.slice AN xs.length cN):=(blk_cell hg 6).trans rfl
 have q7:W.cell? ⟨g,7,none⟩=some (.slice AB zs.length cB):=(blk_cell hg 7).trans rfl
 have c1:decide (200<(xs.length:Int))=false:=decide_eq_false (by omega)
 have c2:decide (200<(zs.length:Int))=false:=decide_eq_false (by omega)
 have c3:decide (200<xs.length)=false:=decide_eq_false (by omega)
 have c4:decide (200<zs.length)=false:=decide_eq_false (by omega)
 have HL:=Aside0.mk (halidelaw25_light.calls K sp AP cP l true W hP hcap hl)
 clear hP hl hx hz
 clear hg
 go_enter Tryz.func8,Tryz.ntmps8
 go_wp2
 go_loopw [5] (fun v5 wr=>v5 = .int .i64 0/\W=wr) (fun v5 _=>0)
 case atStart=>exact⟨rfl,rfl⟩
 case round =>
  obtain⟨rfl,rfl⟩:=hrel
  go_wp2
  go_loopw [6] (fun v6 wr => ∃i:Nat,i<=1/\v6 = .int .i64 i/\Aside0 (Below W.heap.size W wr)/\Aside0 (i=0->W=wr)) (fun v6 _=>1-(intOf v6).toNat)
  case atStart=>exact⟨0,by omega,rfl,⟨Below.refl _ _⟩,⟨fun _=>rfl⟩⟩
  case round =>
   obtain⟨i,hi,rfl,HB,HI⟩:=hrel
   by_cases hlt:i<1
   ·obtain rfl:i=0:=by omega
    obtain rfl:=HI.out rfl
    clear HI HB
    go_wp2_with fail
    refine HL.out.mono ?_
    rintro e w1 ⟨rfl,hb⟩
    have HB1:=Aside0.mk hb
    clear hb
    go_wp2
    go_roundw
    case rel=>exact⟨1,by omega,rfl,HB1,⟨fun h=>by omega⟩⟩
    case measure=>simp[intOf]
   ·obtain rfl:i=1:=by omega
    clear q4 q5 q6 q7 HL
    go_wp2_with fail
    refine(check_nil wr).mono ?_
    rintro e w2 ⟨rfl,hb⟩
    have HB2:=Aside0.mk (below_step HB.out hb)
    clear hb
    go_wp2
    go_loopw [9] (fun v9 wr=>v9 = .int .i64 0/\Aside0 (Below W.heap.size W wr)) (fun v9 _=>0)
    case atStart=>exact⟨rfl,HB2⟩
    case round =>
     clear HB2
     obtain⟨rfl,HB3⟩:=hrel
     go_wp2
     go_ret
     exact⟨rfl,HB3.out⟩
set_option maxHeartbeats 3200000 in
set_option maxRecDepth 100000 in
theorem few_no1 (W:World) (g:Nat) (kind node x y sp:Int) (AP:Option Addr) (cP:Nat) (l:List S58) (AN:Option Addr) (cN:Nat) (xs:List Int) (AB:Option Addr) (cB:Nat) (zs:List Int) (r0 r1 r2 r3:Int) (hg:W.heap[g]?=some (.cells #[.int .i64 kind,.int .i64 node,.int .i64 x,.int .i64 y,.int .i64 sp,.slice AP l.length cP,.slice AN xs.length cN,.slice AB zs.length cB,.int .i64 r0,.int .i64 r1,.int .i64 r2,.int .i64 r3] 31 (0,0))) (hx:200<xs.length) :
  Calls Tryz.prog 8 #[.slice none 0 0,.slice (some ⟨g,0,none⟩) 1 1] W fun e W'=>e = .returned (.bool false)/\Below W.heap.size W W':=by
 have q4:W.cell? ⟨g,4,none⟩=some (.int .i64 sp):=(blk_cell hg 4).trans rfl
 have q5:W.cell? ⟨g,5,none⟩=some (.slice AP l.length cP):=(blk_cell hg 5).trans rfl
 have q6:W.cell? ⟨g,6,none⟩=some (.slice AN xs.length cN):=(blk_cell hg 6).trans rfl
 have q7:W.cell? ⟨g,7,none⟩=some (.slice AB zs.length cB):=(blk_cell hg 7).trans rfl
 have c1:decide (200<(xs.length:Int))=true:=by simp;omega
 have c3:decide (200<xs.length)=true:=by simp;omega
 clear hx
 clear hg
 go_enter Tryz.func8,Tryz.ntmps8
 go_wp2
 go_loopw [5] (fun v5 wr=>v5 = .int .i64 0/\W=wr) (fun v5 _=>0)
 case atStart=>exact⟨rfl,rfl⟩
 case round =>
  obtain⟨rfl,rfl⟩:=hrel
  go_wp2
  go_loopw [6] (fun v6 wr=>v6 = .int .i64 0/\W=wr) (fun v6 _=>0)
  case atStart=>exact⟨rfl,rfl⟩
  case round =>
   obtain⟨rfl,rfl⟩:=hrel
   go_wp2
   go_ret
   exact⟨rfl,Below.refl _ _⟩
set_option maxHeartbeats 3200000 in
set_option maxRecDepth 100000 in
theorem few_no2 (W:World) (g:Nat) (kind node x y sp:Int) (AP:Option Addr) (cP:Nat) (l:List S58) (AN:Option Addr) (cN:Nat) (xs:List Int) (AB:Option Addr) (cB:Nat) (zs:List Int) (r0 r1 r2 r3:Int) (hg:W.heap[g]?=some (.cells #[.int .i64 kind,.int .i64 node,.int .i64 x,.int .i64 y,.int .i64 sp,.slice AP l.length cP,.slice AN xs.length cN,.slice AB zs.length cB,.int .i64 r0,.int .i64 r1,.int .i64 r2,.int .i64 r3] 31 (0,0))) (hx:xs.length<=200) (hz:200<zs.length) :
  Calls Tryz.prog 8 #[.slice none 0 0,.slice (some ⟨g,0,none⟩) 1 1] W fun e W'=>e = .returned (.bool false)/\Below W.heap.size W W':=by
 have q4:W.cell? ⟨g,4,none⟩=some (.int .i64 sp):=(blk_cell hg 4).trans rfl
 have q5:W.cell? ⟨g,5,none⟩=some (.slice AP l.length cP):=(blk_cell hg 5).trans rfl
 have q6:W.cell? ⟨g,6,none⟩=some (.slice AN xs.length cN):=(blk_cell hg 6).trans rfl
 have q7:W.cell? ⟨g,7,none⟩=some (.slice AB zs.length cB):=(blk_cell hg 7).trans rfl
 have c1:decide (200<(xs.length:Int))=false:=by simp;omega
 have c2:decide (200<(zs.length:Int))=true:=by simp;omega
 have c3:decide (200<xs.length)=false:=by simp;omega
 have c4:decide (200<zs.length)=true:=by simp;omega
 clear hx hz
 clear hg
 go_enter Tryz.func8,Tryz.ntmps8
 go_wp2
 go_loopw [5] (fun v5 wr=>v5 = .int .i64 0/\W=wr) (fun v5 _=>0)
 case atStart=>exact⟨rfl,rfl⟩
 case round =>
  obtain⟨rfl,rfl⟩:=hrel
  go_wp2
  go_loopw [6] (fun v6 wr=>v6 = .int .i64 0/\W=wr) (fun v6 _=>0)
  case atStart=>exact⟨rfl,rfl⟩
  case round =>
   obtain⟨rfl,rfl⟩:=hrel
   go_wp2
   go_ret
   exact⟨rfl,Below.refl _ _⟩
set_option maxHeartbeats 3200000 in
set_option maxRecDepth 100000 in
theorem few_no3 (W:World) (g:Nat) (kind node x y sp:Int) (AP:Option Addr) (cP:Nat) (l:List S58) (AN:Option Addr) (cN:Nat) (xs:List Int) (AB:Option Addr) (cB:Nat) (zs:List Int) (r0 r1 r2 r3:Int) (hg:W.heap[g]?=some (.cells #[.int .i64 kind,.int .i64 node,.int .i64 x,.int .i64 y,.int .i64 sp,.slice AP l.length cP,.slice AN xs.length cN,.slice AB zs.length cB,.int .i64 r0,.int .i64 r1,.int .i64 r2,.int .i64 r3] 31 (0,0))) (K:Nat) (hP:Kd.C k58 W AP l.length l) (hcap:l.length<=cP) (hl:halidelaw25_light.f K sp l=some false) (hx:xs.length<=200) (hz:zs.length<=200) :
  Calls Tryz.prog 8 #[.slice none 0 0,.slice (some ⟨g,0,none⟩) 1 1] W fun e W'=>e = .returned (.bool false)/\Below W.heap.size W W':=by
 have q4:W.cell? ⟨g,4,none⟩=some (.int .i64 sp):=(blk_cell hg 4).trans rfl
 have q5:W.cell? ⟨g,5,none⟩=some (.slice AP l.length cP):=(blk_cell hg 5).trans rfl
 have q6:W.cell? ⟨g,6,none⟩=some (.slice AN xs.length cN):=(blk_cell hg 6).trans rfl
 have q7:W.cell? ⟨g,7,none⟩=some (.slice AB zs.length cB):=(blk_cell hg 7).trans rfl
 have c1:decide (200<(xs.length:Int))=false:=by simp;omega
 have c2:decide (200<(zs.length:Int))=false:=by simp;omega
 have c3:decide (200<xs.length)=false:=by simp;omega
 have c4:decide (200<zs.length)=false:=by simp;omega
 have HL:=Aside0.mk (halidelaw25_light.calls K sp AP cP l false W hP hcap hl)
 clear hP hl hx hz
 clear hg
 go_enter Tryz.func8,Tryz.ntmps8
 go_wp2
 go_loopw [5] (fun v5 wr=>v5 = .int .i64 0/\W=wr) (fun v5 _=>0)
 case atStart=>exact⟨rfl,rfl⟩
 case round =>
  obtain⟨rfl,rfl⟩:=hrel
  go_wp2
  go_loopw [6] (fun v6 wr=>v6 = .int .i64 0/\W=wr) (fun v6 _=>0)
  case atStart=>exact⟨rfl,rfl⟩
  case round =>
   obtain⟨rfl,rfl⟩:=hrel
   go_wp2_with fail
   refine HL.out.mono ?_
   rintro e w1 ⟨rfl,hb⟩
   have HB1:=Aside0.mk hb
   clear hb
   go_wp2
   go_ret
   exact⟨rfl,HB1.out⟩
end Go.Proofs.YtgpegjmbofgmmaaGreat.jou
