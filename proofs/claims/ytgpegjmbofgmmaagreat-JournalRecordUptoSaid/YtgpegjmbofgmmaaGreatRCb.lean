/- A part of the proof. No condition. -/
import Derived.Test.YtgpegjmbofgmmaaGreatRCa
import Derived.Test.YtgpegjmbofgmmaaGreatRPJopx3
namespace Go.Proofs.YtgpegjmbofgmmaaGreat.jou
open Go.RowKit Go.Proofs.YtgpegjmbofgmmaaGreatW.PrintWords Go.Proofs.YtgpegjmbofgmmaaGreat.PJop Go.Cod
set_option linter.unusedVariables false
set_option linter.unusedSimpArgs false
def fd (x:Int):Int:=Go.bits .xor .u32 ((x*2)%4294967296) (((wrap32 x)/2147483648)%4294967296)
theorem fd_lo (x:Int):0<=fd x:=bits_lo_u32 _ _ _
theorem fd_hi (x:Int):fd x<=4294967295:=bits_hi_u32 _ _ _
def fdN (x:Int):Nat:=(fd x).toNat
theorem fdN_eq (x:Int):fd x=(fdN x:Int):=by have:=fd_lo x;unfold fdN;omega
theorem fdN_hi (x:Int):fdN x<=4294967295:=by have:=fd_lo x;have:=fd_hi x;unfold fdN;omega
def kS (s:Int×Int):Nat:=kOf s.1 s.2
def nS (s:Int×Int) (z:Nat):Int×Int:=(nxS s.1 s.2 z,nxC s.2)
def stN (zs:List Nat) (i:Nat):Int×Int:=(zs.take i).foldl nS (16,1)
theorem stN_ok (zs:List Nat) (hz : ∀z∈zs,z<=4294967295) (i:Nat):StOK (stN zs i).1 (stN zs i).2:=by
 unfold stN
 have H : ∀(l:List Nat) (s:Int×Int),(∀z∈l,z<=4294967295)->StOK s.1 s.2->StOK (l.foldl nS s).1 (l.foldl nS s).2:=by
  intro l
  induction l with
  | nil=>intro s _ h;exact h
  | cons z l ih =>
   intro s hl h
   exact ih (nS s z) (fun y hy=>hl y (by simp[hy])) (h.next (by omega) (by have:=hl z (by simp);omega))
 refine H _ _ (fun z h=>hz z (List.mem_of_mem_take h)) ⟨?_,?_,?_,?_⟩<;>decide
theorem stN_succ (zs:List Nat) (i:Nat) (z:Nat) (h:zs[i]?=some z):stN zs (i+1)=nS (stN zs i) z:=by
 obtain⟨hi,he⟩:=List.getElem?_eq_some_iff.1 h
 unfold stN
 rw[List.take_add_one,h,List.foldl_append]
 rfl
def bitsN (zs:List Nat) (i:Nat):List Bool:=codeL kS nS (16,1) (zs.take i)
theorem codeL_append : ∀(a b:List Nat) (s:Int×Int),codeL kS nS s (a++b)=codeL kS nS s a++codeL kS nS (a.foldl nS s) b
 | [],b,s=>rfl
 | z::a,b,s=>by simp only[List.cons_append,codeL,List.foldl_cons,codeL_append a b,List.append_assoc]
theorem bitsN_succ (zs:List Nat) (i:Nat) (z:Nat) (h:zs[i]?=some z):bitsN zs (i+1)=bitsN zs i++code z (kOf (stN zs i).1 (stN zs i).2):=by
 obtain⟨hi,he⟩:=List.getElem?_eq_some_iff.1 h
 unfold bitsN
 rw[List.take_add_one,h,codeL_append]
 simp only[Option.toList,codeL,List.append_nil]
 rfl
theorem bitsN_le (zs:List Nat) : ∀i,(bitsN zs i).length<=56*i
 | 0=>by simp[bitsN,codeL]
 | i+1=>by
  have ih:=bitsN_le zs i
  cases h:zs[i]? with
  | none =>
   have hl:zs.length<=i:=List.getElem?_eq_none_iff.1 h
   have:bitsN zs (i+1)=bitsN zs i:=by unfold bitsN;rw[List.take_of_length_le (by omega),List.take_of_length_le hl]
   rw[this];omega
  | some z =>
   rw[bitsN_succ zs i z h,List.length_append]
   have:=code_le (z:=z) (kOf_le (stN zs i).1 (stN zs i).2)
   omega
theorem Below.WB_new {w W:World} {G:Nat} {sum cnt:Int} (hB:Below w.heap.size w W) (hG:w.heap.size<=G) (h:W.heap[G]?=some (.cells #[.int .u64 sum,.int .u64 cnt,.slice none 0 0,.int .i64 0] 285 (0,0))):WB w G sum cnt [] W :=
 ⟨hB,hG,.slice none 0 0,[],h,own_nil _ _ _ _,by simp[Packed,unpackB]⟩
theorem fds_at (xs:List Int) (k:Nat) (h:k<xs.length):(xs.map fdN)[k]?=some (fdN (rd xs k)):=by
 have:rd xs k=xs[k]:=by simp[rd,List.getD,h]
 rw[this];simp[h]
set_option maxHeartbeats 1600000 in
set_option maxRecDepth 100000 in
theorem writes_any (w:World) (A:Option Addr) (cap:Nat) (xs:List Int) (hx:Kd.C (Kd.int .u32) w A xs.length xs) (hn:xs.length<=65536) :
  Calls Tryz.prog 175 #[.slice A xs.length cap] w fun e W' => ∃G sum cnt,e = .returned (.tuple #[.pointer (some ⟨G,0,none⟩),.int .i64 0])/\WB w G sum cnt (bitsN (xs.map fdN) xs.length) W':=by
 have hmf : ∀(fn:Fn) (first cap:Array Value) (w:World),(Instr.makeFunc fn first cap).run Tryz.prog w = .ok (.func fn first cap) w:=fun _ _ _ _=>rfl
 have b0:decide (65536<(xs.length:Int))=false:=decide_eq_false (by omega)
 have HX:=Aside0.mk hx
 have HF:=Aside0.mk (show ∀z∈xs.map fdN,z<=4294967295 by intro z hz;obtain⟨x,_,rfl⟩:=List.mem_map.1 hz;exact fdN_hi x)
 clear hx
 go_enter Tryz.func175,Tryz.ntmps175
 go_wp2_with fail
 refine(coder_begins.calls 16 1 _ rfl).mono ?_
 rintro e w1 ⟨rfl,hb⟩
 have HB:=Aside0.mk hb
 clear hb
 go_wp2_with fail
 have hB2:=below_alloc HB.out (.cells #[.int .u64 16,.int .u64 1,.slice none 0 0,.int .i64 0] 285 (0,0))
 have HW0:=Aside0.mk (Below.WB_new (sum:=16) (cnt:=1) hB2 HB.out.size (blk_new _ _))
 clear hB2 HB
 go_loopw [18] (fun v18 wr => ∃k:Nat,k<=xs.length/\v18 = .int .i64 k/\Aside0 (WB w w1.heap.size (stN (xs.map fdN) k).1 (stN (xs.map fdN) k).2 (bitsN (xs.map fdN) k) wr)) (fun v18 _=>xs.length-(intOf v18).toNat)
 case atStart=>exact⟨0,Nat.zero_le _,rfl,HW0⟩
 case round =>
  obtain⟨k,hk,rfl,HR⟩:=hrel
  by_cases hlt:k<xs.length
  ·obtain⟨ad,rfl,hc0⟩:=Kd.at_int HX.out k (by omega) (by omega)
   have hc1:=(HR.out.below.cell (World.block_lt_of_cell? w _ hc0)).trans hc0
   simp only[Int.toNat_natCast] at hc1
   clear hc0
   have b1:decide ((k:Int)<(xs.length:Int))=true:=decide_eq_true (by omega)
   have b2:(0:Int)<=k:=by omega
   have HS:=Aside0.mk (stN_ok (xs.map fdN) HF.out k)
   have hlen:=bitsN_le (xs.map fdN) k
   have HN:=Aside0.mk (fds_at xs k hlt)
   go_wp2_with fail
   refine(coder_Fold.calls (rd xs k) (fd (rd xs k)) _ rfl).mono ?_
   rintro e w2 ⟨rfl,nd,rfl⟩
   have H1:=Aside0.mk (HR.out.drewN nd)
   rw[fdN_eq]
   go_wp2_with fail
   refine(number_any w _ w1.heap.size (fdN (rd xs k)) _ _ _ H1.out HS.out (fdN_hi _) (by omega)).mono ?_
   rintro e w3 ⟨rfl,h3⟩
   have e1:=stN_succ _ _ _ HN.out
   have e2:=bitsN_succ _ _ _ HN.out
   have H3:=Aside0.mk (show WB w w1.heap.size (stN (xs.map fdN) (k+1)).1 (stN (xs.map fdN) (k+1)).2 (bitsN (xs.map fdN) (k+1)) w3 by rw[e1,e2];exact h3)
   clear h3 H1 e1 e2
   go_wp2
   go_roundw
   case rel=>exact⟨k+1,by omega,by go_num,H3⟩
   case measure=>simp[intOf];omega
  ·obtain rfl:k=xs.length:=by omega
   go_wp2
   go_ret2
   exact⟨_,_,_,rfl,HR.out⟩
structure Rd (W:World) (base:Nat) (v:Value) (ns:List Nat):Prop where
 form : ∃A c,v = .slice A ns.length c/\Kd.C (Kd.int .u8) W A ns.length (ints ns)/\ns.length<=c /\ ∀ad,A=some ad->base<=ad.block
theorem clip_any (w:World) (g n cap:Nat) (hn:n<=cap) (hn2:n<=100000000) :
  Calls Tryz.prog 176 #[.slice (some ⟨g,0,none⟩) n cap] w fun e W'=>e = .returned (.slice (some ⟨g,0,none⟩) n n)/\W'=w:=by
 go_enter Tryz.func176,Tryz.ntmps176
 go_wp2
 go_ret
 exact⟨rfl,rfl⟩
def encL (xs:List Int):List Nat:=encB kS nS (16,1) (xs.map fdN)
theorem encL_packed (xs:List Int):Packed (encL xs) (bitsN (xs.map fdN) xs.length):=by
 have:bitsN (xs.map fdN) xs.length=codeL kS nS (16,1) (xs.map fdN):=by unfold bitsN;rw[List.take_of_length_le (by simp)]
 rw[this];exact packB_packed _
theorem encL_lt (xs:List Int) : ∀x∈encL xs,x<256:=(encL_packed xs).1
theorem encL_le (xs:List Int):(encL xs).length<=7*xs.length+1:=by
 have h1:=(encL_packed xs).length
 have h2:=bitsN_le (xs.map fdN) xs.length
 omega
theorem code_ne (z k:Nat):0<(code z k).length:=by
 unfold code
 split
 ·rw[List.length_append,List.length_cons];exact Nat.lt_of_lt_of_le (Nat.succ_pos _) (Nat.le_add_left _ _)
 ·simp
theorem encL_pos (xs:List Int) (h:0<xs.length):0<(encL xs).length:=by
 have h1:=(encL_packed xs).length
 have:0<(bitsN (xs.map fdN) xs.length).length:=by
  obtain⟨x,l,rfl⟩ : ∃x l,xs=x::l:=by cases xs with|nil=>simp at h|cons x l=>exact⟨x,l,rfl⟩
  unfold bitsN
  simp only[List.map_cons,List.length_cons,List.take_succ_cons,codeL,List.length_append]
  have:=code_ne (fdN x) (kS (16,1))
  omega
 omega
theorem WB.bytes {w W:World} {G:Nat} {sum cnt:Int} {L:List Bool} {ns:List Nat} (h:WB w G sum cnt L W) (hp:Packed ns L) (hn:0<ns.length) (hl:ns.length<=100000000) :
  ∃g cap,W.cell? ⟨G,2,none⟩=some (.slice (some ⟨g,0,none⟩) ns.length cap)/\ns.length<=cap/\Rd W w.heap.size (.slice (some ⟨g,0,none⟩) ns.length ns.length) ns:=by
 obtain⟨hB,hG,v,ms,h1,h2,h3⟩:=h
 obtain rfl:=h3.unique hp
 obtain⟨g,cap,rfl⟩:=Joins.ownsRow_form h2 hn
 have hR:(Kd.int .u8).R 5 W w.heap.size (fun _=>True) (.slice (some ⟨g,0,none⟩) ms.length cap) (ints ms):=by
  have:=h2
  rw[<- ints_length ms] at this
  have k:=Kd.R_of_own (h1:=fun _=>rfl) (enc:=fun x:Int=>Value.int .u8 x) (ok:=fun _=>True) this (fun _ _=>trivial)
  rw[ints_length] at k
  exact k
 obtain⟨A,c,e,hc,hC⟩:=Kd.R_reads hR
 injection e with e1 e2 e3
 subst e1 e3
 rw[ints_length] at hc hC
 exact⟨g,cap,blk_cell h1 2,hc,⟨_,_,rfl,hC,Nat.le_refl _,fun ad had=>by injection had with had;subst had;exact own_base h2 g rfl⟩⟩
set_option maxHeartbeats 800000 in
set_option maxRecDepth 100000 in
theorem encode_any (w:World) (A:Option Addr) (cap:Nat) (xs:List Int) (hx:Kd.C (Kd.int .u32) w A xs.length xs) (hn:xs.length<=65536) (h0:0<xs.length) :
  Calls Tryz.prog 120 #[.slice A xs.length cap] w fun e W' => ∃v,e = .returned (.tuple #[v,.int .i64 0])/\Rd W' w.heap.size v (encL xs)/\Below w.heap.size w W':=by
 have HW:=Aside0.mk (writes_any w A cap xs hx hn)
 have HL:=Aside0.mk (show(encL xs).length<=100000000 by have:=encL_le xs;omega)
 have HP:=Aside0.mk (encL_pos xs h0)
 clear hx h0
 go_enter Tryz.func120,Tryz.ntmps120
 go_wp2_with fail
 refine HW.out.mono ?_
 rintro e w1 ⟨G,sum,cnt,rfl,h1⟩
 obtain⟨g,c,hc,hcl,hr⟩:=h1.bytes (encL_packed xs) HP.out HL.out
 have HB:=Aside0.mk h1.below
 have HR:=Aside0.mk hr
 have hl:=HL.out
 clear h1 hr HW
 go_wp2_with fail
 refine(clip_any _ g (encL xs).length c hcl (by omega)).mono ?_
 rintro e w2 ⟨rfl,rfl⟩
 go_wp2
 go_ret2
 exact⟨_,rfl,HR.out,HB.out⟩
end Go.Proofs.YtgpegjmbofgmmaaGreat.jou
namespace Go.Proofs.YtgpegjmbofgmmaaGreat.jou
open Go.RowKit Go.Proofs.YtgpegjmbofgmmaaGreatW.PrintWords Go.Proofs.YtgpegjmbofgmmaaGreat.PJop Go.Cod
set_option linter.unusedVariables false
set_option linter.unusedSimpArgs false
abbrev OB (W:World) (base:Nat) (v:Value) (ns:List Nat):Prop:=(Kd.int .u8).R 5 W base (fun _=>True) v (ints ns)
structure Grw (W W':World) (v v':Value):Prop where
 grown:W.grownBy W' v.ownBlock
 at_:v'.ownBlock=v.ownBlock \/ ∃b,v'.ownBlock=some b/\W.heap.size<=b
theorem Grw.of_below {W W':World} (h:Below W.heap.size W W') (v:Value):Grw W W' v v:=⟨grown_of_below h _,.inl rfl⟩
theorem Grw.refl (W:World) (v:Value):Grw W W v v := .of_below (Below.refl _ _) v
theorem Grw.trans {W W1 W2:World} {v v1 v2:Value} (h:Grw W W1 v v1) (k:Grw W1 W2 v1 v2):Grw W W2 v v2:=by
 have hs:=h.grown.size
 refine⟨⟨k.grown.os.trans h.grown.os,k.grown.tape.trans h.grown.tape,k.grown.output.trans h.grown.output,Nat.le_trans hs k.grown.size,fun i hi hne=>?_⟩,?_⟩
 ·refine(k.grown.block i (by omega) ?_).trans (h.grown.block i hi hne)
  rcases h.at_ with e|⟨b,e,hb⟩
  ·rw[e];exact hne
  ·rw[e];intro e2;injection e2 with e2;omega
 ·rcases k.at_ with e|⟨b,e,hb⟩
  ·rw[e];exact h.at_
  ·exact .inr ⟨b,e,by omega⟩
theorem Grw.below {W W' w:World} {v v':Value} {base:Nat} {ns:List Nat} (h:Grw W W' v v') (hB:Below base w W) (hb:base<=W.heap.size) (ho:OB W base v ns):Below base w W':=hB.grown h.grown hb (fun k hk=>Kd.R_base ho k hk)
theorem Grw.size {W W':World} {v v':Value} (h:Grw W W' v v'):W.heap.size<=W'.heap.size:=h.grown.size
theorem Rd.grw {W W':World} {v v' u:Value} {b:Nat} {ns:List Nat} (h:Rd W b u ns) (k:Grw W W' v v') (hne : ∀a,v.ownBlock=some a->a<b):Rd W' b u ns:=by
 obtain⟨A,c,rfl,hC,hl,hA⟩:=h
 refine⟨A,c,rfl,?_,hl,hA⟩
 cases hv:v.ownBlock with
 | none =>
  refine Kd.C_keep 0 hC (g:=W.heap.size) ⟨k.grown.size,fun i hi _ _=>k.grown.block i hi (by rw[hv];simp)⟩ ?_
  intro ad had hpos
  have:=Kd.far_C 0 hC (Nat.le_refl _) ad had hpos
  exact this
 | some a =>
  refine Kd.C_keep 0 hC (g:=a) ⟨k.grown.size,fun i hi hia _=>k.grown.block i hi (by rw[hv];intro e;injection e with e;exact hia e)⟩ ?_
  intro ad had hpos
  have h1:=hA ad had
  have h2:=hne a hv
  omega
theorem Rd.below {W W':World} {u:Value} {b:Nat} {ns:List Nat} (h:Rd W b u ns) (hb:Below W.heap.size W W'):Rd W' b u ns:=by
 obtain⟨A,c,rfl,hC,hl,hA⟩:=h
 exact⟨A,c,rfl,Kd.C_below hC hb,hl,hA⟩
theorem OB.rd {W:World} {base:Nat} {v:Value} {ns:List Nat} (h:OB W base v ns) : ∃A c,v = .slice A ns.length c/\ns.length<=c/\Kd.C (Kd.int .u8) W A ns.length (ints ns):=by
 obtain⟨A,c,e,hc,hC⟩:=Kd.R_reads h
 rw[ints_length] at e hc hC
 exact⟨A,c,e,hc,hC⟩
theorem be_take (x:Nat) : ∀(n k:Nat),k<n->(be n x).take (k+1)=(be n x).take k ++ [x/256^(n-1-k)%256]
 | 0,k,h=>by omega
 | n+1,0,h=>by simp[be]
 | n+1,k+1,h=>by
  simp only[be,List.take_succ_cons,List.cons_append]
  rw[be_take x n k (by omega),show n+1-1-(k+1)=n-1-k by omega]
theorem be_byte (x n k:Nat):((x:Int)/2^(8*(n-1-k)))%256=((x/256^(n-1-k)%256:Nat):Int):=by
 rw[show(2:Int)^(8*(n-1-k))=((256^(n-1-k):Nat):Int) by rw[Int.natCast_pow,Int.pow_mul];rfl]
 rw[<- Int.natCast_ediv,Int.natCast_emod];rfl
section
variable {ops:Array Oper} {rest:List Oper} {o:Oper} {a:Act} {Q:Exit->Act->World->Prop}
theorem append_byte {W:World} (base:Nat) (hgd:o.guard=none) (s x:Operand) (ho:o.op = .call {callee := .builtin .append,args := #[s,x],argTypes := #[35,35]})
  (v:Value) (ns:List Nat) (z:Int) (y:Nat) (hz:z=y) (hs:a.eval s=v) (hx:a.eval x = .slice (some ⟨W.heap.size,0,none⟩) 1 1) (HO:OB W base v ns) (hbase:base<=W.heap.size) (hl:ns.length<=200000000)
  (h : ∀v1 w1,OB w1 base v1 (ns ++ [y])->Grw W w1 v v1->wpList Tryz.prog ops Q rest (a.put o.dst v1) w1):wpList Tryz.prog ops Q (o::rest) a (W.alloc (.cells #[.int .u8 z] 5)):=by
 refine Kd.R_append (Kd.int .u8) (w0:=W) base hgd s x 35 5 (.int .u8 0) 1 ho Tryz.underlying35 info5 rfl (by decide) (by omega) v (ints ns) z [.int .u8 z] (fun _=>True) (fun _=>False) hs hx rfl (fun _ hk=>hk.elim) (fun _ _=>trivial) HO (Below.refl _ _) hbase (by rw[ints_length];omega) ?_
 intro v1 w1 ho hb hg hat
 subst hz
 refine h v1 w1 ?_ ⟨hg,hat⟩
 unfold OB
 rw[show ints (ns ++ [y])=ints ns ++ [(y:Int)] by rw[ints_append];rfl]
 exact ho
theorem append_bytes {W:World} (base:Nat) (hgd:o.guard=none) (s x:Operand) (ho:o.op = .call {callee := .builtin .append,args := #[s,x],argTypes := #[35,35]})
  (v:Value) (ns ms:List Nat) (A:Option Addr) (c:Nat) (hs:a.eval s=v) (hx:a.eval x = .slice A ms.length c) (HO:OB W base v ns) (HR:Kd.C (Kd.int .u8) W A ms.length (ints ms)) (hbase:base<=W.heap.size) (hl:ns.length+ms.length<=200000000)
  (h : ∀v1 w1,OB w1 base v1 (ns++ms)->Grw W w1 v v1->wpList Tryz.prog ops Q rest (a.put o.dst v1) w1):wpList Tryz.prog ops Q (o::rest) a W:=by
 refine Kd.R_append_row (fun z:Int=>Value.int .u8 z) 0 (w0:=W) base hgd s x 35 5 (.int .u8 0) 1 ho Tryz.underlying35 info5 rfl (by omega) v (ints ns) (ints ms) A ms.length c (fun _=>True) hs hx (fun _ _=>trivial) HO HR (Below.refl _ _) hbase (by rw[ints_length];omega) ?_
 intro v1 w1 ho hb hg hat
 refine h v1 w1 ?_ ⟨hg,hat⟩
 unfold OB
 rw[ints_append]
 exact ho
end
set_option maxHeartbeats 1600000 in
set_option maxRecDepth 100000 in
theorem numbered_any (W:World) (base n x:Nat) (v:Value) (ns:List Nat) (hn:n<=8) (hx:x<=9223372036854775807) (ho:OB W base v ns) (hb:base<=W.heap.size) (hl:ns.length<=100000000) :
  Calls Tryz.prog 114 #[v,.int .i64 n,.int .i64 x] W fun e W' => ∃v',e = .returned v'/\OB W' base v' (ns++be n x)/\Grw W W' v v':=by
 have HO:=Aside0.mk (show OB W base v (ns++(be n x).take 0) by simpa using ho)
 have hbl:(be n x).length=n:=be_length n x
 clear ho
 go_enter Tryz.func114,Tryz.ntmps114
 go_wp2
 go_loopw [0,1] (fun v0 v1 wr => ∃k:Nat,k<=n/\v1 = .int .i64 ((n:Int)-1-k)/\Aside0 (OB wr base v0 (ns++(be n x).take k))/\Aside0 (Grw W wr v v0)) (fun _ v1 _=>(intOf v1+1).toNat)
 case atStart=>exact⟨0,Nat.zero_le _,by simp,HO,⟨Grw.refl _ _⟩⟩
 case round =>
  obtain⟨k,hk,rfl,HR,HG⟩:=hrel
  by_cases hlt:k<n
  ·have hge:0<=(n:Int)-1-k:=by omega
   have hw:W.heap.size<=wr.heap.size:=HG.out.size
   have htk:((be n x).take k).length<=8:=by rw[List.length_take];omega
   go_wp2_with ((with_reducible refine gate_builtin (b := .append) (xs := #[.tmp 13,.tmp 19]) rfl ?_);at_builtin;refine append_byte base rfl (.tmp 13) (.tmp 19) rfl u0 (ns++(be n x).take k) _ _ (be_byte x n k) rfl rfl HR.out (by omega) (by rw[List.length_append];omega) ?_;intro v1 w1 ho hg;have HO1:=Aside0.mk ho;have HG1:=Aside0.mk (HG.out.trans hg);clear ho hg HR HG)
   go_roundw
   case rel=>exact⟨k+1,by omega,by congr 1;push_cast;omega,⟨by rw[be_take x n k hlt,<-List.append_assoc];exact HO1.out⟩,HG1⟩
   case measure=>simp[intOf];omega
  ·obtain rfl:k=n:=by omega
   have hlt2:((k:Int)-1-k)<0:=by omega
   go_wp2
   go_ret
   refine⟨_,rfl,?_,HG.out⟩
   have:=HR.out
   rwa [List.take_of_length_le (by omega)] at this
def TB (W:World) (t:Nat):Prop:=t<W.heap.size /\ ∀m,m<256->W.cell? ⟨t,m,none⟩=some (.int .u32 (step8 m:Nat))
theorem TB.cell {W:World} {t:Nat} (h:TB W t) (m:Nat) (hm:m<256):W.cell? ⟨t,m,none⟩=some (.int .u32 (step8 m:Nat)):=h.2 m hm
theorem TB.grw {W W':World} {t:Nat} {v v':Value} (h:TB W t) (k:Grw W W' v v') (hne:some t≠v.ownBlock):TB W' t :=
 ⟨Nat.lt_of_lt_of_le h.1 k.size,fun m hm=>(World.cell?_of_block (a:=⟨t,m,none⟩) (k.grown.block t h.1 hne)).trans (h.2 m hm)⟩
theorem TB.below {W W':World} {t:Nat} (h:TB W t) (hb:Below W.heap.size W W'):TB W' t :=
 ⟨Nat.lt_of_lt_of_le h.1 hb.size,fun m hm=>(World.cell?_of_block (a:=⟨t,m,none⟩) (hb.block t h.1)).trans (h.2 m hm)⟩
theorem Grw.ne {W W':World} {v v':Value} {t:Nat} (k:Grw W W' v v') (h:t<W.heap.size) (hne:some t≠v.ownBlock):some t≠v'.ownBlock:=by
 rcases k.at_ with e|⟨b,e,hb⟩
 ·rw[e];exact hne
 ·rw[e];intro e2;injection e2 with e2;omega
theorem sumX_take (c0:Nat) (ns:List Nat) (k:Nat) (c:Nat) (h:ns[k]?=some c):sumX c0 (ns.take (k+1))=step8 (sumX c0 (ns.take k)^^^c):=by
 have H : ∀(l:List Nat) (x:Nat),sumX x (l ++ [c])=step8 (sumX x l^^^c):=by
  intro l
  induction l with
  | nil=>intro x;rfl
  | cons a l ih=>intro x;exact ih _
 rw[List.take_add_one,h]
 exact H _ _
set_option maxHeartbeats 1600000 in
set_option maxRecDepth 100000 in
theorem sum_any (W:World) (t:Nat) (A:Option Addr) (c:Nat) (ns:List Nat) (hT:TB W t) (hC:Kd.C (Kd.int .u8) W A ns.length (ints ns)) (hb : ∀b∈ns,b<256) (hl:ns.length<=200000000) :
  Calls Tryz.prog 122 #[.pointer (some ⟨t,0,none⟩),.slice A ns.length c] W fun e W'=>e = .returned (.int .u32 (crcOf ns:Nat)) /\ ∃n,W'=W.drewN n:=by
 have HT:=Aside0.mk hT
 have HC:=Aside0.mk hC
 have HB:=Aside0.mk hb
 have HX:=Aside0.mk (show ∀k,sumX 4294967295 (ns.take k)<4294967296 from fun k=>sumX_lt _ _ (by omega) (fun b h=>hb b (List.mem_of_mem_take h)))
 clear hT hC hb
 go_enter Tryz.func122,Tryz.ntmps122
 go_wp2
 go_loopw [5,10] (fun v5 v10 wr => ∃k:Nat,k<=ns.length/\v10 = .int .i64 k/\v5 = .int .u32 (sumX 4294967295 (ns.take k):Nat)/\Aside0 (∃n,wr=W.drewN n)) (fun _ v10 _=>ns.length-(intOf v10).toNat)
 case atStart=>exact⟨0,Nat.zero_le _,rfl,rfl,⟨⟨0,rfl⟩⟩⟩
 case round =>
  obtain⟨k,hk,rfl,rfl,⟨n0,rfl⟩⟩:=hrel
  by_cases hlt:k<ns.length
  ·have b1:decide ((k:Int)<(ns.length:Int))=true:=decide_eq_true (by omega)
   obtain⟨ad,rfl,hc0⟩:=Kd.at_int (Kd.C_drewN HC.out n0) k (by omega) (by omega)
   simp only[Int.toNat_natCast] at hc0
   obtain⟨c1,hc1⟩ : ∃c1,ns[k]?=some c1:=⟨_,List.getElem?_eq_getElem hlt⟩
   have hrd:rd (ints ns) k=c1:=by
    simp only[rd,ints,List.getD,Int.toNat_natCast,List.getElem?_map,hc1];rfl
   have hc1b:=HB.out c1 (List.mem_of_getElem? hc1)
   rw[hrd] at hc0
   have HS:=Aside0.mk (sumX_take 4294967295 ns k c1 hc1)
   have HY:=HX.out k
   generalize sumX 4294967295 (ns.take k)=y at *
   have p1:(0:Int)<=k:=by omega
   obtain⟨m,hm⟩ : ∃m,m=(y%256)^^^c1:=⟨_,rfl⟩
   have hm2:m<256:=by rw[hm];exact Nat.xor_lt_two_pow (n:=8) (by omega) (by omega)
   have hx1:Go.bits BinOp.xor IntKind.u8 ((y:Int)%256) (c1:Int)=(m:Int):=by
    rw[show((y:Int)%256)=((y%256:Nat):Int) by omega,u8_xor_nat _ _ (by omega) hc1b,hm]
   have HM:=Aside0.mk hm
   have hcell:=TB.cell (TB.below HT.out (pw_below_drewN (Below.refl _ _) n0)) m hm2
   have q1:(0:Int)<=m:=by omega
   have q2:(m:Int)<256:=by omega
   clear hm hc1 hrd
   go_wp2
   go_roundw
   case rel =>
    refine⟨k+1,by omega,by go_num,?_,⟨⟨_,rfl⟩⟩⟩
    rw[HS.out,sum_step,<-HM.out,show((y:Int)/256)=((y/256:Nat):Int) by omega,u32_xor_nat _ _ (by omega) (step8_lt (by omega))]
   case measure=>simp[intOf];omega
  ·obtain rfl:k=ns.length:=by omega
   go_wp2
   go_ret
   refine⟨?_,_,rfl⟩
   have hy:=HX.out ns.length
   rw[List.take_of_length_le (Nat.le_refl _)] at hy
   have e:Go.bits BinOp.xor IntKind.u32 IntKind.u32.max ((sumX 4294967295 ns:Nat):Int)=(crcOf ns:Nat):=by
    rw[show IntKind.u32.max=((4294967295:Nat):Int) from rfl,u32_xor_nat _ _ (by omega) hy,Nat.xor_comm];rfl
   exact congrArg (fun z=>Ending.returned (Value.int .u32 z)) e
end Go.Proofs.YtgpegjmbofgmmaaGreat.jou
