/- A part of the proof. No condition. -/
import Derived.Test.YtgpegjmbofgmmaaGreatRCb
import Derived.Test.YtgpegjmbofgmmaaGreatRCo
namespace Go.Proofs.YtgpegjmbofgmmaaGreat.jou
open Go.RowKit Go.Proofs.YtgpegjmbofgmmaaGreatW.PrintWords Go.Proofs.YtgpegjmbofgmmaaGreat.PJop Go.Cod
set_option linter.unusedVariables false
set_option linter.unusedSimpArgs false
section
variable {ops:Array Oper} {rest:List Oper} {o:Oper} {a:Act} {Q:Exit->Act->World->Prop}
theorem append_lits {W:World} (base:Nat) (hgd:o.guard=none) (s x:Operand) (ho:o.op = .call {callee := .builtin .append,args := #[s,x],argTypes := #[35,35]})
  (v:Value) (ns ms:List Nat) (cs:Array Value) (hcs:cs=((ints ms).map fun z=>Value.int .u8 z).toArray) (hs:a.eval s=v) (hx:a.eval x = .slice (some ⟨W.heap.size,0,none⟩) ms.length ms.length) (HO:OB W base v ns) (hbase:base<=W.heap.size) (h0:0<ms.length) (hl:ns.length+ms.length<=200000000)
  (h : ∀v1 w1,OB w1 base v1 (ns++ms)->Grw W w1 v v1->wpList Tryz.prog ops Q rest (a.put o.dst v1) w1):wpList Tryz.prog ops Q (o::rest) a (W.alloc (.cells cs 5)):=by
 subst hcs
 have hown:=World.ownsRow_lit W (base:=W.heap.size) (e:=5) (size:=1) ((ints ms).map fun z=>Value.int .u8 z).toArray ms.length (Nat.le_refl _) (by unfold maxLen;omega) (by simp[ints_length])
 rw[List.toList_toArray,<-ints_length ms] at hown
 have hR:=Kd.R_of_own (h1:=fun _=>rfl) (enc:=fun z:Int=>Value.int .u8 z) (ok:=fun _=>True) hown (fun _ _=>trivial)
 obtain⟨A,c,e,hc,hC⟩:=Kd.R_reads hR
 injection e with e1 _ e3
 subst e1
 rw[ints_length] at hC
 refine append_bytes base hgd s x ho v ns ms _ _ hs hx (Kd.R_alloc HO _) hC (Nat.le_trans hbase (by simp)) hl ?_
 intro v1 w1 ho1 hg1
 exact h v1 w1 ho1 ((Grw.of_below (below_alloc (Below.refl W.heap.size W) _) v).trans hg1)
end
theorem b4i (n:Nat):ints (be 4 n) = [(n:Int)/16777216%256,(n:Int)/65536%256,(n:Int)/256%256,(n:Int)%256]:=by
 rw[be4];simp[ints,Int.natCast_emod,Int.natCast_ediv]
theorem b2i (n:Nat):ints (be 2 n) = [(n:Int)/256%256,(n:Int)%256]:=by
 rw[be2];simp[ints,Int.natCast_emod,Int.natCast_ediv]
set_option maxHeartbeats 800000 in
set_option maxRecDepth 100000 in
theorem four_65 (W:World) (base n:Nat) (v:Value) (ns:List Nat) (ho:OB W base v ns) (hb:base<=W.heap.size) (hn:n<4294967296) (hl:ns.length<=100000000) :
  Calls Tryz.prog 65 #[v,.int .u32 n] W fun e W' => ∃v',e = .returned v'/\OB W' base v' (ns++be 4 n)/\Grw W W' v v':=by
 have HO:=Aside0.mk ho
 have hbl:=be_length 4 n
 clear ho
 go_enter Tryz.func65,Tryz.ntmps65
 go_wp2_with ((with_reducible refine gate_builtin (b := .append) (xs := #[.tmp 5,.tmp 17]) rfl ?_);at_builtin;refine append_lits base rfl (.tmp 5) (.tmp 17) rfl v ns (be 4 n) _ (by rw[b4i,show((n:Int)/16777216%256)=(n:Int)/16777216 by omega];rfl) rfl (by rw[hbl];rfl) HO.out hb (by rw[hbl];omega) (by rw[hbl];omega) ?_;intro v1 w1 ho hg;have HO1:=Aside0.mk ho;have HG1:=Aside0.mk hg;clear ho hg)
 go_ret
 exact⟨_,rfl,HO1.out,HG1.out⟩
set_option maxHeartbeats 800000 in
set_option maxRecDepth 100000 in
theorem four_111 (W:World) (base n:Nat) (v:Value) (ns:List Nat) (ho:OB W base v ns) (hb:base<=W.heap.size) (hn:n<4294967296) (hl:ns.length<=100000000) :
  Calls Tryz.prog 111 #[v,.int .u32 n] W fun e W' => ∃v',e = .returned v'/\OB W' base v' (ns++be 4 n)/\Grw W W' v v':=by
 have HO:=Aside0.mk ho
 have hbl:=be_length 4 n
 clear ho
 go_enter Tryz.func111,Tryz.ntmps111
 go_wp2_with ((with_reducible refine gate_builtin (b := .append) (xs := #[.tmp 5,.tmp 17]) rfl ?_);at_builtin;refine append_lits base rfl (.tmp 5) (.tmp 17) rfl v ns (be 4 n) _ (by rw[b4i,show((n:Int)/16777216%256)=(n:Int)/16777216 by omega];rfl) rfl (by rw[hbl];rfl) HO.out hb (by rw[hbl];omega) (by rw[hbl];omega) ?_;intro v1 w1 ho hg;have HO1:=Aside0.mk ho;have HG1:=Aside0.mk hg;clear ho hg)
 go_ret
 exact⟨_,rfl,HO1.out,HG1.out⟩
set_option maxHeartbeats 800000 in
set_option maxRecDepth 100000 in
theorem two_106 (W:World) (base n:Nat) (v:Value) (ns:List Nat) (ho:OB W base v ns) (hb:base<=W.heap.size) (hn:n<=1000000) (hl:ns.length<=100000000) :
  Calls Tryz.prog 106 #[v,.int .i64 n] W fun e W' => ∃v',e = .returned v'/\OB W' base v' (ns++be 2 n)/\Grw W W' v v':=by
 have HO:=Aside0.mk ho
 have hbl:=be_length 2 n
 clear ho
 go_enter Tryz.func106,Tryz.ntmps106
 go_wp2_with ((with_reducible refine gate_builtin (b := .append) (xs := #[.tmp 5,.tmp 11]) rfl ?_);at_builtin;refine append_lits base rfl (.tmp 5) (.tmp 11) rfl v ns (be 2 n) _ (by rw[b2i];rfl) rfl (by rw[hbl];rfl) HO.out hb (by rw[hbl];omega) (by rw[hbl];omega) ?_;intro v1 w1 ho hg;have HO1:=Aside0.mk ho;have HG1:=Aside0.mk hg;clear ho hg)
 go_ret
 exact⟨_,rfl,HO1.out,HG1.out⟩
theorem begin_234 (w:World):Calls Tryz.prog 234 #[] w fun e W'=>e = .returned (.agg #[.int .i64 16,.int .i64 1])/\Below w.heap.size w W':=by
 go_enter Tryz.func234,Tryz.ntmps234
 go_wp2
 refine bodyPost_ret (results_cell_row rfl _ _ w.heap.size 368 #[.int .i64 16,.int .i64 1] (0,0) _ rfl (blk_new w (.cells #[.int .i64 16,.int .i64 1] 368 (0,0))) Tryz.underlying368 rfl (by kernel_rfl)) rfl ?_
 exact⟨rfl,below_alloc (Below.refl w.heap.size w) _⟩
end Go.Proofs.YtgpegjmbofgmmaaGreat.jou
namespace Go.Proofs.YtgpegjmbofgmmaaGreat.jou
open Go.RowKit Go.Proofs.YtgpegjmbofgmmaaGreatW.PrintWords Go.Proofs.YtgpegjmbofgmmaaGreat.PJop Go.Cod
set_option linter.unusedVariables false
set_option linter.unusedSimpArgs false
def iterC:Nat->Nat->Nat
 | 0,x=>x
 | n+1,x=>stepC (iterC n x)
theorem iterC_lt {x:Nat} (h:x<4294967296) : ∀n,iterC n x<4294967296
 | 0=>h
 | n+1=>stepC_lt (iterC_lt h n)
set_option maxHeartbeats 1600000 in
set_option maxRecDepth 100000 in
theorem sum_66 (W:World) (A:Option Addr) (c:Nat) (ns:List Nat) (hC:Kd.C (Kd.int .u8) W A ns.length (ints ns)) (hb : ∀b∈ns,b<256) (hl:ns.length<=200000000) :
  Calls Tryz.prog 66 #[.slice A ns.length c] W fun e W'=>e = .returned (.int .u32 (crcOf ns:Nat)) /\ ∃n,W'=W.drewN n:=by
 have HC:=Aside0.mk hC
 have HB:=Aside0.mk hb
 have HX:=Aside0.mk (show ∀k,sumX 4294967295 (ns.take k)<4294967296 from fun k=>sumX_lt _ _ (by omega) (fun b h=>hb b (List.mem_of_mem_take h)))
 clear hC hb
 go_enter Tryz.func66,Tryz.ntmps66
 go_wp2
 go_loopw [3,4] (fun v3 v4 wr => ∃k:Nat,k<=ns.length/\v4 = .int .i64 k/\v3 = .int .u32 (sumX 4294967295 (ns.take k):Nat)/\Aside0 (∃n,wr=W.drewN n)) (fun _ v4 _=>ns.length-(intOf v4).toNat)
 case atStart=>exact⟨0,Nat.zero_le _,rfl,rfl,⟨⟨0,rfl⟩⟩⟩
 case round =>
  obtain⟨k,hk,rfl,rfl,⟨n0,rfl⟩⟩:=hrel
  by_cases hlt:k<ns.length
  ·have b1:decide ((k:Int)<(ns.length:Int))=true:=decide_eq_true (by omega)
   obtain⟨ad,rfl,hc0⟩:=Kd.at_int (Kd.C_drewN HC.out n0) k (by omega) (by omega)
   simp only[Int.toNat_natCast] at hc0
   obtain⟨c1,hc1⟩ : ∃c1,ns[k]?=some c1:=⟨_,List.getElem?_eq_getElem hlt⟩
   have hrd:rd (ints ns) k=c1:=by
    simp only[rd,ints,List.getD,Int.toNat_natCast,List.getElem?_map,hc1];rfl
   have hc1b:=HB.out c1 (List.mem_of_getElem? hc1)
   rw[hrd] at hc0
   have HS:=Aside0.mk (sumX_take 4294967295 ns k c1 hc1)
   have HY:=HX.out k
   generalize sumX 4294967295 (ns.take k)=y at *
   have p1:(0:Int)<=k:=by omega
   have hx1:Go.bits BinOp.xor IntKind.u32 (y:Int) (c1:Int)=((y^^^c1:Nat):Int):=u32_xor_nat _ _ HY (by omega)
   have hz:y^^^c1<4294967296:=Nat.xor_lt_two_pow (n:=32) HY (by omega)
   have HZ:=Aside0.mk (show ∀j,iterC j (y^^^c1)<4294967296 from iterC_lt hz)
   clear hc1 hrd hz
   go_wp2
   go_loopw [3,5] (fun v3 v5 wr => ∃j:Nat,j<=8/\v5 = .int .i64 j/\v3 = .int .u32 (iterC j (y^^^c1):Nat)/\Aside0 (∃n,wr=W.drewN n)) (fun _ v5 _=>8-(intOf v5).toNat)
   case atStart=>exact⟨0,Nat.zero_le _,rfl,rfl,⟨⟨_,rfl⟩⟩⟩
   case round =>
    obtain⟨j,hj,rfl,rfl,⟨n1,rfl⟩⟩:=hrel
    have HJ:=HZ.out j
    have HI:=Aside0.mk (show iterC (j+1) (y^^^c1)=stepC (iterC j (y^^^c1)) from rfl)
    by_cases hj8:j<8
    ·generalize iterC j (y^^^c1)=z at *
     have b2:decide ((j:Int)<8)=true:=decide_eq_true (by omega)
     by_cases ho:z%2=1
     ·have b3:(((z:Int)%2)==1)=true:=by simp;omega
      have hx2:Go.bits BinOp.xor IntKind.u32 ((z:Int)/2) 3988292384=((stepC z:Nat):Int):=by
       rw[show((z:Int)/2)=((z/2:Nat):Int) by omega,show(3988292384:Int)=((3988292384:Nat):Int) from rfl,u32_xor_nat _ _ (by omega) (by omega)]
       unfold stepC;rw[if_pos ho]
      have HX2:=Aside0.mk hx2
      clear hx2 ho
      go_wp2
      go_roundw
      case rel=>exact⟨j+1,by omega,by go_num,by rw[HI.out];exact congrArg (fun z=>Value.int .u32 z) HX2.out,⟨⟨_,rfl⟩⟩⟩
      case measure=>simp[intOf];omega
     ·have b3:(((z:Int)%2)==1)=false:=by simp;omega
      have hx2:((z:Int)/2)=((stepC z:Nat):Int):=by
       unfold stepC;rw[if_neg ho];omega
      have HX2:=Aside0.mk hx2
      clear hx2 ho
      go_wp2
      go_roundw
      case rel=>exact⟨j+1,by omega,by go_num,by rw[HI.out];exact congrArg (fun z=>Value.int .u32 z) HX2.out,⟨⟨_,rfl⟩⟩⟩
      case measure=>simp[intOf];omega
    ·obtain rfl:j=8:=by omega
     go_wp2
     go_roundw
     case rel=>exact⟨k+1,by omega,by go_num,by rw[HS.out];rfl,⟨⟨_,rfl⟩⟩⟩
     case measure=>simp[intOf];omega
  ·obtain rfl:k=ns.length:=by omega
   go_wp2
   go_ret
   refine⟨?_,_,rfl⟩
   have hy:=HX.out ns.length
   rw[List.take_of_length_le (Nat.le_refl _)] at hy
   have e:Go.bits BinOp.xor IntKind.u32 ((sumX 4294967295 ns:Nat):Int) 4294967295=(crcOf ns:Nat):=by
    rw[show(4294967295:Int)=((4294967295:Nat):Int) from rfl,u32_xor_nat _ _ hy (by omega)];rfl
   exact congrArg (fun z=>Ending.returned (Value.int .u32 z)) e
theorem next_238 (w:World) (sum cnt z:Int) (hS:StOK sum cnt) (h0:0<=z) (h1:z<=4294967295) :
  Calls Tryz.prog 238 #[.agg #[.int .i64 sum,.int .i64 cnt],.int .i64 z] w fun e W'=>e = .returned (.agg #[.int .i64 (nxS sum cnt z),.int .i64 (nxC cnt)])/\Below w.heap.size w W':=by
 obtain⟨a,b,c,d⟩:=hS
 have i1:wrap64 (sum+z)=sum+z:=by unfold wrap64;omega
 have i2:wrap64 (cnt+1)=cnt+1:=by unfold wrap64;omega
 by_cases e:cnt+1=64
 ·have e1:(cnt+1==64)=true:=by simpa using e
  have e2:nxS sum cnt z=(sum+z)/2:=by unfold nxS;rw[if_pos e]
  have e3:nxC cnt=32:=by unfold nxC;rw[if_pos e]
  have u4:0<=sum+z:=by omega
  have E2:=Aside0.mk e2
  have E3:=Aside0.mk e3
  clear e e2 e3
  go_enter Tryz.func238,Tryz.ntmps238
  go_wp2
  refine bodyPost_ret (results_cell_row rfl _ _ (w.heap.size+1) 368 #[.int .i64 ((sum+z)/2),.int .i64 32] (0,0) _ rfl (heap_alloc2_new w _ _) Tryz.underlying368 rfl (by kernel_rfl)) rfl ?_
  rw[E2.out,E3.out]
  exact⟨rfl,below_alloc (below_alloc (Below.refl w.heap.size w) _) _⟩
 ·have e1:(cnt+1==64)=false:=by simpa using e
  have e2:nxS sum cnt z=sum+z:=by unfold nxS;rw[if_neg e]
  have e3:nxC cnt=cnt+1:=by unfold nxC;rw[if_neg e]
  have E2:=Aside0.mk e2
  have E3:=Aside0.mk e3
  clear e e2 e3
  go_enter Tryz.func238,Tryz.ntmps238
  go_wp2
  refine bodyPost_ret (results_cell_row rfl _ _ (w.heap.size+1) 368 #[.int .i64 (sum+z),.int .i64 (cnt+1)] (0,0) _ rfl (heap_alloc2_new w _ _) Tryz.underlying368 rfl (by kernel_rfl)) rfl ?_
  rw[E2.out,E3.out]
  exact⟨rfl,below_alloc (below_alloc (Below.refl w.heap.size w) _) _⟩
theorem b01_ones (i:Nat):b01 (List.replicate i true) ++ [1]=b01 (List.replicate (i+1) true):=by
 rw[show [1]=b01 [true] from rfl,<-b01_append,<-List.replicate_succ']
theorem b01_low (L:List Bool) (z n k:Nat) (h:k<n):b01 (L++(lowB z n).take k) ++ [z/2^(n-1-k)%2]=b01 (L++(lowB z n).take (k+1)):=by
 rw[lowB_take z n k h,<-List.append_assoc,b01_append (L++_)]
 congr 1
 simp only[b01,List.map_cons,List.map_nil,testBit_div]
set_option maxHeartbeats 1600000 in
set_option maxRecDepth 100000 in
theorem code_236 (W:World) (z k:Nat) (hz:z<=4294967295) (hk:k<=31) :
  Calls Tryz.prog 236 #[.int .i64 z,.int .i64 k] W fun e W' => ∃v,e = .returned v/\OB W' W.heap.size v (b01 (code z k))/\Below W.heap.size W W':=by
 obtain⟨q,hq⟩ : ∃q:Nat,z/2^k=q:=⟨_,rfl⟩
 have hqi:(z:Int)/2^k=q:=by rw[<- hq,Int.natCast_ediv,Int.natCast_pow];rfl
 have q0:(0:Int)<=(q:Int):=by omega
 have q1:(q:Int)<=(z:Int):=by have:=Nat.div_le_self z (2^k);omega
 have m1:min ((k:Int)).toNat 64=k:=by omega
 have m2:min k 64=k:=by omega
 have HQ:=Aside0.mk hq
 clear hq
 by_cases c:(q:Int)<24
 ·have c1:decide ((q:Int)<24)=true:=decide_eq_true c
  have hq24:q<24:=by omega
  clear c
  go_enter Tryz.func236,Tryz.ntmps236
  go_wp2
  have HB0:=Aside0.mk (Below.refl W.heap.size W)
  go_loopw [5,7] (fun v5 v7 wr => ∃m:Nat,m<=q/\v7 = .int .i64 m/\Aside0 (OB wr W.heap.size v5 (b01 (List.replicate m true)))/\Aside0 (Below W.heap.size W wr)) (fun _ v7 _=>q-(intOf v7).toNat)
  case atStart=>exact⟨0,Nat.zero_le _,rfl,⟨Kd.R_nil _ _ _ _ _⟩,HB0⟩
  case round =>
   clear HB0
   obtain⟨m,hm,rfl,HR,HB⟩:=hrel
   have HS:=Aside0.mk HB.out.size
   by_cases hlt:m<q
   ·have b1:decide ((m:Int)<(q:Int))=true:=decide_eq_true (by omega)
    go_wp2_with ((with_reducible refine gate_builtin (b := .append) (xs := #[.tmp 20,.tmp 21]) rfl ?_);at_builtin;refine append_byte W.heap.size rfl (.tmp 20) (.tmp 21) rfl u5 (b01 (List.replicate m true)) _ (1) rfl rfl rfl HR.out HS.out (by simp[b01,lowB_length];omega) ?_;intro v1 w1 ho hg;have HO1:=Aside0.mk ho;have HB1:=Aside0.mk (hg.below HB.out HS.out HR.out);clear ho hg HR HB)
    go_roundw
    case rel=>exact⟨m+1,by omega,by go_num,⟨by rw[<- b01_ones];exact HO1.out⟩,HB1⟩
    case measure=>simp[intOf];omega
   ·obtain rfl:m=q:=by omega
    go_wp2_with ((with_reducible refine gate_builtin (b := .append) (xs := #[.tmp 23,.tmp 24]) rfl ?_);at_builtin;refine append_byte W.heap.size rfl (.tmp 23) (.tmp 24) rfl u5 (b01 (List.replicate m true)) _ (0) rfl rfl rfl HR.out HS.out (by simp[b01,lowB_length];omega) ?_;intro v1 w1 ho hg;have HO1:=Aside0.mk ho;have HB1:=Aside0.mk (hg.below HB.out HS.out HR.out);clear ho hg HR HB)
    have HR:=Aside0.mk (show OB w1 W.heap.size v1 (b01 (List.replicate m true ++ [false])) by rw[b01_append];exact HO1.out)
    have HB:=HB1
    clear HO1 HB1 HS
    go_loopw [5,9] (fun v5 v9 wr => ∃i:Nat,i<=k/\v9 = .int .i64 ((k:Int)-1-i)/\Aside0 (OB wr W.heap.size v5 (b01 ((List.replicate m true ++ [false])++(lowB z k).take i)))/\Aside0 (Below W.heap.size W wr)) (fun _ v9 _=>(intOf v9+1).toNat)
    case atStart=>exact⟨0,Nat.zero_le _,by simp,⟨by rw[List.take_zero,List.append_nil];exact HR.out⟩,HB⟩
    case round =>
     clear HR HB
     obtain⟨i,hi,rfl,HR,HB⟩:=hrel
     have HS:=Aside0.mk HB.out.size
     by_cases hlt:i<k
     ·have hge:0<=(k:Int)-1-i:=by omega
      have b2:decide (0<=(k:Int)-1-i)=true:=decide_eq_true hge
      have n1:(((k:Int)-1-i)).toNat=k-1-i:=by omega
      have n2:min (k-1-i) 64=k-1-i:=by omega
      have n3:min (((k:Int)-1-i)).toNat 64=k-1-i:=by omega
      have hp:(z:Int)/2^(k-1-i)=((z/2^(k-1-i):Nat):Int):=by rw[Int.natCast_ediv,Int.natCast_pow];rfl
      have HN:=Aside0.mk (b01_low ((List.replicate m true ++ [false])) z k i hlt)
      have hd:z/2^(k-1-i)<=z:=Nat.div_le_self _ _
      generalize z/2^(k-1-i)=y at *
      go_wp2_with ((with_reducible refine gate_builtin (b := .append) (xs := #[.tmp 39,.tmp 45]) rfl ?_);at_builtin;refine append_byte W.heap.size rfl (.tmp 39) (.tmp 45) rfl u5 (b01 ((List.replicate m true ++ [false])++(lowB z k).take i)) _ (y%2) (by omega) rfl rfl HR.out HS.out (by simp[b01,lowB_length];omega) ?_;intro v1 w1 ho hg;have HO1:=Aside0.mk ho;have HB1:=Aside0.mk (hg.below HB.out HS.out HR.out);clear ho hg HR HB)
      go_roundw
      case rel=>exact⟨i+1,by omega,by congr 1;push_cast;omega,⟨by rw[<- HN.out];exact HO1.out⟩,HB1⟩
      case measure=>simp[intOf];omega
     ·obtain rfl:i=k:=by omega
      have b2:decide (0<=((i:Int)-1-i))=false:=by simp;omega
      have hlt2 : ¬(0<=(i:Int)-1-i):=by omega
      go_wp2
      go_ret
      refine⟨_,rfl,?_,HB.out⟩
      have h:=HR.out
      rw[List.take_of_length_le (by rw[lowB_length];omega)] at h
      rw[show code z i=(List.replicate m true ++ [false])++lowB z i by unfold code;rw[HQ.out,if_pos (by omega)];simp];exact h
 ·have c1:decide ((q:Int)<24)=false:=decide_eq_false c
  have hq24 : ¬q<24:=by omega
  clear c
  go_enter Tryz.func236,Tryz.ntmps236
  go_wp2
  have HB0:=Aside0.mk (Below.refl W.heap.size W)
  go_loopw [5,8] (fun v5 v8 wr => ∃i:Nat,i<=24/\v8 = .int .i64 i/\Aside0 (OB wr W.heap.size v5 (b01 (List.replicate i true)))/\Aside0 (Below W.heap.size W wr)) (fun _ v8 _=>24-(intOf v8).toNat)
  case atStart=>exact⟨0,Nat.zero_le _,rfl,⟨Kd.R_nil _ _ _ _ _⟩,HB0⟩
  case round =>
   clear HB0
   obtain⟨i,hi,rfl,HR,HB⟩:=hrel
   have HS:=Aside0.mk HB.out.size
   by_cases hlt:i<24
   ·have b1:decide ((i:Int)<24)=true:=decide_eq_true (by omega)
    go_wp2_with ((with_reducible refine gate_builtin (b := .append) (xs := #[.tmp 30,.tmp 31]) rfl ?_);at_builtin;refine append_byte W.heap.size rfl (.tmp 30) (.tmp 31) rfl u5 (b01 (List.replicate i true)) _ (1) rfl rfl rfl HR.out HS.out (by simp[b01,lowB_length];omega) ?_;intro v1 w1 ho hg;have HO1:=Aside0.mk ho;have HB1:=Aside0.mk (hg.below HB.out HS.out HR.out);clear ho hg HR HB)
    go_roundw
    case rel=>exact⟨i+1,by omega,by go_num,⟨by rw[<- b01_ones];exact HO1.out⟩,HB1⟩
    case measure=>simp[intOf];omega
   ·have e24:i=24:=by omega
    have hi24:(i:Int)=24:=by omega
    rw[hi24]
    rw[e24] at HR
    clear e24 hi24 hlt hi
    go_wp2
    go_loopw [5,9] (fun v5 v9 wr => ∃i:Nat,i<=32/\v9 = .int .i64 ((32:Int)-1-i)/\Aside0 (OB wr W.heap.size v5 (b01 (List.replicate 24 true++(lowB z 32).take i)))/\Aside0 (Below W.heap.size W wr)) (fun _ v9 _=>(intOf v9+1).toNat)
    case atStart=>exact⟨0,Nat.zero_le _,by simp,⟨by rw[List.take_zero,List.append_nil];exact HR.out⟩,HB⟩
    case round =>
     clear HR HB
     obtain⟨i,hi,rfl,HR,HB⟩:=hrel
     have HS:=Aside0.mk HB.out.size
     by_cases hlt:i<32
     ·have hge:0<=(32:Int)-1-i:=by omega
      have b2:decide (0<=(32:Int)-1-i)=true:=decide_eq_true hge
      have n1:(((32:Int)-1-i)).toNat=32-1-i:=by omega
      have n2:min (32-1-i) 64=32-1-i:=by omega
      have n3:min (((32:Int)-1-i)).toNat 64=32-1-i:=by omega
      have hp:(z:Int)/2^(32-1-i)=((z/2^(32-1-i):Nat):Int):=by rw[Int.natCast_ediv,Int.natCast_pow];rfl
      have HN:=Aside0.mk (b01_low (List.replicate 24 true) z 32 i hlt)
      have hd:z/2^(32-1-i)<=z:=Nat.div_le_self _ _
      generalize z/2^(32-1-i)=y at *
      go_wp2_with ((with_reducible refine gate_builtin (b := .append) (xs := #[.tmp 39,.tmp 45]) rfl ?_);at_builtin;refine append_byte W.heap.size rfl (.tmp 39) (.tmp 45) rfl u5 (b01 (List.replicate 24 true++(lowB z 32).take i)) _ (y%2) (by omega) rfl rfl HR.out HS.out (by simp[b01,lowB_length];omega) ?_;intro v1 w1 ho hg;have HO1:=Aside0.mk ho;have HB1:=Aside0.mk (hg.below HB.out HS.out HR.out);clear ho hg HR HB)
      go_roundw
      case rel=>exact⟨i+1,by omega,by congr 1;push_cast;omega,⟨by rw[<- HN.out];exact HO1.out⟩,HB1⟩
      case measure=>simp[intOf];omega
     ·obtain rfl:i=32:=by omega
      have b2:decide (0<=((32:Int)-1-32))=false:=by decide
      have hlt2 : ¬(0<=(32:Int)-1-32):=by omega
      go_wp2
      go_ret
      refine⟨_,rfl,?_,HB.out⟩
      have h:=HR.out
      rw[List.take_of_length_le (by rw[lowB_length];omega)] at h
      rw[show code z k=List.replicate 24 true++lowB z 32 by unfold code;rw[HQ.out,if_neg hq24]];exact h
end Go.Proofs.YtgpegjmbofgmmaaGreat.jou
