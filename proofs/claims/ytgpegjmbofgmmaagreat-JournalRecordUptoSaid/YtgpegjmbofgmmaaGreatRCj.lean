/- A part of the proof. No condition. -/
import Derived.Test.YtgpegjmbofgmmaaGreatRPu
import Derived.Test.YtgpegjmbofgmmaaGreatRCh
namespace Go.Proofs.YtgpegjmbofgmmaaGreat.jou
open Go.RowKit Go.Proofs.YtgpegjmbofgmmaaGreatW.PrintWords Go.Proofs.YtgpegjmbofgmmaaGreatW.PrintLast Go.Proofs.YtgpegjmbofgmmaaGreat.PJop Go.Cod
set_option linter.unusedVariables false
set_option linter.unusedSimpArgs false
def enc6T:Bool×List (List Nat×List Nat):=(true,[([],[]),([0],[0]),([],[]),([2],[2]),([3],[3]),([],[]),([5],[5]),([6],[6]),([7],[7]),([8],[8]),([],[]),([10],[10]),([11],[11]),([12],[12]),([13],[13]),([],[]),([1,4,9,14,15],[1,4,9,14,15]),([16],[16]),([],[]),([18,17,0,1,2,3,4,5,6,7,8,9,10,11,12,13,14,15,16,17,18],[17,18])])
def enc6B:List Nat := [0,1,0,4,12,0,32,96,224,480,0,1024,3072,7168,15360,0,65535,131071,0,524287]
theorem enc6_tab:rtab .any (opsOf Tryz.f70 6)=enc6T:=by kernel_rfl
theorem enc6_bits:waitsOk enc6T.2 enc6B=true:=by kernel_rfl
def enc8T:Bool×List (List Nat×List Nat):=(true,[([],[]),([],[]),([1],[1]),([2],[2]),([3],[3]),([],[]),([5],[5]),([6],[6]),([7],[7]),([4,8],[4,8]),([0,9],[0,9]),([10,10,0,1,2,3,4,5,6,7,8,9,10],[10])])
def enc8B:List Nat := [0,0,2,6,14,0,32,96,224,510,1023,2047]
theorem enc8_tab:rtab .any (opsOf Tryz.f70 8)=enc8T:=by kernel_rfl
theorem enc8_bits:waitsOk enc8T.2 enc8B=true:=by kernel_rfl
def enc22T:Bool×List (List Nat×List Nat):=(true,[([],[]),([],[]),([],[]),([1,2],[1,2]),([0,3,3],[0,3]),([4],[4]),([5],[5]),([5],[5]),([],[]),([8,6,4,0,1,2,3,4,5,6,8],[6,8]),([7,9,0,1,2,3,4,5,6,7,8,9],[7])])
def enc22B:List Nat := [0,0,0,6,15,31,63,63,0,383,1023]
theorem enc22_tab:rtab .any (opsOf Tryz.f70 22)=enc22T:=by kernel_rfl
theorem enc22_bits:waitsOk enc22T.2 enc22B=true:=by kernel_rfl
theorem append_run {P:Program} {o:Oper} {a:Act} {W w':World} {v' vs vx:Value} (s x:Operand) (t:TypeId) (ho:o.op = .call {callee := .builtin .append,args := #[s,x],argTypes := #[t,t]}) (hs:a.eval s=vs) (hx:a.eval x=vx)
  (hr:(Builtin.append_ #[t,t] o.type #[vs,vx]).run P W = .ok v' w'):(execOp a.eval o).run P W = .ok (.value v') w':=by
 unfold execOp
 simp only[ho,resolve,invoke,builtin,Sem.run_bind,Sem.run_pure,Result.andThen_ok,List.map_toArray,List.map_cons,List.map_nil,hs,hx,hr]
def hdrV (wd ht side:Nat) (i:Nat):Nat:=if i=0 then wd else if i=1 then ht else side
def hdrB (wd ht side:Nat) (k:Nat):List Nat:=(List.range k).flatMap fun i=>be 2 (hdrV wd ht side i)
theorem hdrB_succ (wd ht side k:Nat):hdrB wd ht side (k+1)=hdrB wd ht side k++be 2 (hdrV wd ht side k):=by simp[hdrB,List.range_succ]
theorem hdrB_length (wd ht side:Nat) : ∀k,(hdrB wd ht side k).length=2*k
 | 0=>rfl
 | k+1=>by rw[hdrB_succ,List.length_append,hdrB_length wd ht side k,be_length];omega
structure EB (w:World) (spn:Nat) (ad:Addr) (n cap g7 wd ht side:Nat) (W:World):Prop where
 below:Below w.heap.size w W
 box:W.heap[w.heap.size]?=some (.cells #[.int .i64 spn,.slice (some ad) n cap] 25 (0,0))
 hd:W.heap[g7]?=some (.cells #[.int .i64 spn,.int .i64 n,.int .i64 wd,.int .i64 ht,.int .i64 side] 177 (0,0))
section
variable {w:World} {spn:Nat} {ad:Addr} {n cap g7 wd ht side:Nat} {W W':World}
theorem EB.g0 (h:EB w spn ad n cap g7 wd ht side W):W.cell? ⟨g7,0,none⟩=some (.int .i64 spn):=(blk_cell h.hd 0).trans rfl
theorem EB.g1 (h:EB w spn ad n cap g7 wd ht side W):W.cell? ⟨g7,1,none⟩=some (.int .i64 n):=(blk_cell h.hd 1).trans rfl
theorem EB.g2 (h:EB w spn ad n cap g7 wd ht side W):W.cell? ⟨g7,2,none⟩=some (.int .i64 wd):=(blk_cell h.hd 2).trans rfl
theorem EB.g3 (h:EB w spn ad n cap g7 wd ht side W):W.cell? ⟨g7,3,none⟩=some (.int .i64 ht):=(blk_cell h.hd 3).trans rfl
theorem EB.g4 (h:EB w spn ad n cap g7 wd ht side W):W.cell? ⟨g7,4,none⟩=some (.int .i64 side):=(blk_cell h.hd 4).trans rfl
theorem EB.b1 (h:EB w spn ad n cap g7 wd ht side W):W.cell? ⟨w.heap.size,1,none⟩=some (.slice (some ad) n cap):=(blk_cell h.box 1).trans rfl
theorem EB.mono (h:EB w spn ad n cap g7 wd ht side W) (hb:Below W.heap.size W W'):EB w spn ad n cap g7 wd ht side W':=⟨below_step h.below hb,blk_below h.box hb,blk_below h.hd hb⟩
theorem ne_own {v:Value} {ns:List Nat} {g t:Nat} {cs:Array Value} {base:Nat} (ho:OB W base v ns) (hg:W.heap[g]?=some (.cells cs t (0,0))) (ht:t≠5):some g≠v.ownBlock:=fun e=>by
 obtain⟨cells,hc⟩:=Kd.R_typed ho g e.symm
 rw[hg] at hc
 injection hc with hc;injection hc with _ hc;exact ht hc
theorem EB.grw {v v':Value} {ns:List Nat} (h:EB w spn ad n cap g7 wd ht side W) (k:Grw W W' v v') (ho:OB W w.heap.size v ns):EB w spn ad n cap g7 wd ht side W' :=
 ⟨k.below h.below h.below.size ho,blk_grown h.box k.grown (ne_own ho h.box (by decide)),blk_grown h.hd k.grown (ne_own ho h.hd (by decide))⟩
end
def Sep (u v:Value):Prop := ∀k,u.ownBlock=some k->v.ownBlock≠some k
theorem Sep.symm {u v:Value} (h:Sep u v):Sep v u:=fun k hk e=>h k e hk
theorem Sep.grw {W W':World} {u v v':Value} {base:Nat} {ms:List Nat} (h:Sep u v) (k:Grw W W' v v') (hu:OB W base u ms):Sep u v':=fun i hi e=>by
 rcases k.at_ with e1|⟨b,e1,hb⟩
 ·exact h i hi (e1.symm.trans e)
 ·rw[e1] at e
  injection e with e
  have:=Kd.R_lt hu i hi
  omega
theorem Sep.nil (u:Value):Sep u (.slice none 0 0):=fun k hk e=>by simp[Value.ownBlock] at e
theorem OB.other {W W':World} {u v v':Value} {base:Nat} {ms:List Nat} (h:OB W base u ms) (k:Grw W W' v v') (hs:Sep u v):OB W' base u ms :=
 Kd.R_of_own ((Kd.own_of_R h).kept k.grown (by cases hu:u.ownBlock with|none=>exact .inl rfl|some i=>exact .inr (fun e=>hs i hu e.symm))) (fun _ _=>trivial)
structure EL (w:World) (spn:Nat) (ad:Addr) (n cap g7 wd ht side tb:Nat) (B9 B12:List Nat) (v9 v12:Value) (W:World):Prop where
 eb:EB w spn ad n cap g7 wd ht side W
 out:OB W w.heap.size v9 B9
 parts:OB W w.heap.size v12 B12
 sep:Sep v9 v12
 tab:TB W tb
 s9:some tb≠v9.ownBlock
 s12:some tb≠v12.ownBlock
section
variable {w:World} {spn:Nat} {ad:Addr} {n cap g7 wd ht side tb:Nat} {B9 B12 B:List Nat} {v9 v12 v:Value} {W W':World}
theorem EL.mono (h:EL w spn ad n cap g7 wd ht side tb B9 B12 v9 v12 W) (hb:Below W.heap.size W W'):EL w spn ad n cap g7 wd ht side tb B9 B12 v9 v12 W' :=
 ⟨h.eb.mono hb,Kd.R_below h.out hb,Kd.R_below h.parts hb,h.sep,h.tab.below hb,h.s9,h.s12⟩
theorem EL.outG (h:EL w spn ad n cap g7 wd ht side tb B9 B12 v9 v12 W) (k:Grw W W' v9 v) (ho:OB W' w.heap.size v B):EL w spn ad n cap g7 wd ht side tb B B12 v v12 W' :=
 ⟨h.eb.grw k h.out,ho,h.parts.other k h.sep.symm,(h.sep.symm.grw k h.parts).symm,h.tab.grw k h.s9,k.ne h.tab.1 h.s9,h.s12⟩
theorem EL.parG (h:EL w spn ad n cap g7 wd ht side tb B9 B12 v9 v12 W) (k:Grw W W' v12 v) (ho:OB W' w.heap.size v B):EL w spn ad n cap g7 wd ht side tb B9 B v9 v W' :=
 ⟨h.eb.grw k h.parts,h.out.other k h.sep,ho,h.sep.grw k h.out,h.tab.grw k h.s12,h.s9,k.ne h.tab.1 h.s12⟩
end
def psOf (P:Nat->Nat->List Nat) (n t j:Nat):List (List Nat):=((List.range t).flatMap fun t=>(List.range n).map (P t))++(List.range j).map (P t)
theorem psOf_succ (P:Nat->Nat->List Nat) (n t j:Nat):psOf P n t (j+1)=psOf P n t j ++ [P t j]:=by simp[psOf,List.range_succ]
theorem psOf_next (P:Nat->Nat->List Nat) (n t:Nat):psOf P n (t+1) 0=psOf P n t n:=by simp[psOf,List.range_succ]
theorem indexB_snoc (ps:List (List Nat)) (p:List Nat):indexB (ps ++ [p])=indexB ps++be 4 p.length:=by simp[indexB]
theorem frameB_snoc (ps:List (List Nat)) (p:List Nat):frameB (ps ++ [p])=(frameB ps++p)++be 4 (crcOf p):=by simp[frameB]
def hdL (spn n wd ht side:Nat):List Nat := [72,76,68,49,spn,n]++hdrB wd ht side 3
def fileL (spn n wd ht side:Nat) (ps:List (List Nat)):List Nat:=((hdL spn n wd ht side++indexB ps)++be 4 (crcOf (hdL spn n wd ht side++indexB ps)))++frameB ps
theorem hdL_lt {spn n:Nat} (h:spn<256) (h2:n<256) (wd ht side:Nat) : ∀b∈hdL spn n wd ht side,b<256:=by
 intro b hb
 unfold hdL hdrB at hb
 simp only[List.mem_append,List.mem_cons,List.not_mem_nil,or_false,List.mem_flatMap] at hb
 rcases hb with (rfl|rfl|rfl|rfl|rfl|rfl)|⟨i,_,hi⟩
 ·decide
 ·decide
 ·decide
 ·decide
 ·exact h
 ·exact h2
 ·exact be_lt _ _ b hi
theorem hdL_length (spn n wd ht side:Nat):(hdL spn n wd ht side).length=12:=by simp[hdL,hdrB_length]
def cropL (a:Nat) (xs:List Int) (x0 y0 x1 y1:Nat):List Int:=(List.range ((x1-x0)*(y1-y0))).map fun k=>rd xs (((y0+k/(x1-x0))*a+(x0+k%(x1-x0)):Nat):Int)
theorem magic_any (w:World):Calls Tryz.prog 113 #[] w fun e W'=>e = .returned (.agg #[.int .u8 72,.int .u8 76,.int .u8 68,.int .u8 49])/\Below w.heap.size w W':=by
 have e1:=blk_new w (.cells #[.int .u8 0,.int .u8 0,.int .u8 0,.int .u8 0] 178 (0,0))
 have c0:=(blk_cell e1 0).trans rfl
 have c1:=(blk_cell e1 1).trans rfl
 have c2:=(blk_cell e1 2).trans rfl
 have c3:=(blk_cell e1 3).trans rfl
 have f0:=blk_frozen e1 0
 have f1:=blk_frozen e1 1
 have f2:=blk_frozen e1 2
 have f3:=blk_frozen e1 3
 have HB:=Aside0.mk (below_alloc (Below.refl w.heap.size w) (.cells #[.int .u8 0,.int .u8 0,.int .u8 0,.int .u8 0] 178 (0,0)))
 go_enter Tryz.func113,Tryz.ntmps113
 go_wp2
 refine bodyPost_ret (results_cell_row rfl _ _ w.heap.size 178 #[.int .u8 72,.int .u8 76,.int .u8 68,.int .u8 49] (0,0) _ rfl (blk_new w _) Tryz.underlying178 rfl (by kernel_rfl)) rfl ⟨rfl,?_⟩
 exact below_alloc (Below.refl w.heap.size w) _
set_option maxHeartbeats 4000000 in
set_option maxRecDepth 100000 in
theorem codec_any (w:World) (spn:Nat) (hspn:spn<256) (A:Option Addr) (cap:Nat) (l:List S58) (hr:Kd.C k58 w A l.length l) (hcap:l.length<=cap) (k:Nat) (hck:picture_Check.f k (spn:Int) l=some 0) (hn:l.length<=100) (hl0:0<l.length) (side:Nat) (hs1:1<=side) (hs2:side<=1024) (wd ht:Nat) (hwd1:wd<=1024) (hht1:ht<=1024) (hwd:(rd_T58 l 0).f0=wd) (hht:(rd_T58 l 0).f1=ht)
  (T:Nat) (htl:codec_grid_tiles.f spn l.length wd ht side=some (T:Int)) (hT:T<=100000) (X0 Y0 X1 Y1:Nat->Nat) (hrect : ∀t,t<T->codec_grid_rect.f spn l.length wd ht side t=some ((X0 t:Int),(Y0 t:Int),(X1 t:Int),(Y1 t:Int))/\X0 t<X1 t/\Y0 t<Y1 t/\X1 t<=wd/\Y1 t<=ht)
  (hpl : ∀j:Nat,j<l.length->(rd_T58 l j).f0=wd/\(rd_T58 l j).f1=ht/\(rd_T58 l j).f2.length=wd*ht/\plane_Check.f wd ht (rd_T58 l j).f2=some 0)
  (rs:Nat->Nat->List Int) (K:Nat) (hrs : ∀t j,t<T->j<l.length->codec_Rests.f K ((X1 t-X0 t:Nat):Int) ((Y1 t-Y0 t:Nat):Int) (cropL wd (rd_T58 l j).f2 (X0 t) (Y0 t) (X1 t) (Y1 t))=some (rs t j,0)/\0<(rs t j).length/\(rs t j).length<=65536)
  (hbig : ∀t j,t<=T->j<=l.length->(indexB (psOf (fun t j=>encL (rs t j)) l.length t j)).length<=10000000/\(frameB (psOf (fun t j=>encL (rs t j)) l.length t j)).length<=50000000) :
  Calls Tryz.prog 70 #[.agg #[.int .i64 spn,.slice A l.length cap],.int .i64 side] w fun e w' => ∃v,e = .returned (.tuple #[v,.int .i64 0])/\OB w' w.heap.size v (fileL spn l.length wd ht side (psOf (fun t j=>encL (rs t j)) l.length T 0))/\Below w.heap.size w w':=by
 have HC:=Aside0.mk (picture_Check.calls k (spn:Int) A cap l 0 _ (Kd.C_alloc hr (.cells #[.int .i64 spn,.slice A l.length cap] 25 (0,0))) hcap hck)
 have HX:=Aside0.mk hr
 obtain⟨i0,hi,hz0,hz1,hz2⟩:=info_parts info5
 have HTL:=Aside0.mk htl
 have HRC:=Aside0.mk hrect
 have HPL:=Aside0.mk hpl
 have HRS:=Aside0.mk hrs
 have HBG:=Aside0.mk hbig
 clear hck htl hrect hpl hrs hbig
 go_enter Tryz.func70,Tryz.ntmps70
 go_wp2_with fail
 refine HC.out.mono ?_
 rintro e w1 ⟨rfl,hb⟩
 have BK:=Aside0.mk (blk_below (blk_new w (.cells #[.int .i64 spn,.slice A l.length cap] 25 (0,0))) hb)
 have HB:=Aside0.mk (below_step (below_alloc (Below.refl w.heap.size w) (.cells #[.int .i64 spn,.slice A l.length cap] 25 (0,0))) hb)
 clear hb HC
 have s1:decide (side<1)=false:=decide_eq_false (by omega)
 have s2:decide (1024<side)=false:=decide_eq_false (by omega)
 have s3:decide ((side:Int)<1)=false:=decide_eq_false (by omega)
 have s4:decide (1024<(side:Int))=false:=decide_eq_false (by omega)
 obtain⟨ad,A2,c2,rfl,hw0,hw1,hw2,hl2,hc2⟩:=at_T58 hr 0 (by omega) (by omega)
 replace hw0:=(HB.out.cell (World.block_lt_of_cell? w _ hw0)).trans hw0
 replace hw1:=(HB.out.cell (World.block_lt_of_cell? w _ hw1)).trans hw1
 replace hw0:w1.cell? ad=some (.int .i64 (rd_T58 l 0).f0):=by simpa [Addr.add] using hw0
 replace hw1:w1.cell? ⟨ad.block,ad.off+1,none⟩=some (.int .i64 (rd_T58 l 0).f1):=by simpa [Addr.add] using hw1
 rw[hwd] at hw0
 rw[hht] at hw1
 clear hw2 hl2 hc2 hr hwd hht
 go_wp2_with fail
 refine start_ (n:=20) (S:=fun w'=>w'.cell? ⟨w.heap.size,0,none⟩=some (.int .i64 spn)/\w'.cell? ⟨w.heap.size,1,none⟩=some (.slice (some ad) l.length cap)/\w'.cell? ad=some (.int .i64 wd)/\w'.cell? ⟨ad.block,ad.off+1,none⟩=some (.int .i64 ht)) (ds := [19]) (Array.replicate 20 false) (by kernel_rfl) rfl rfl ⟨(blk_cell BK.out 0).trans rfl,(blk_cell BK.out 1).trans rfl,hw0,hw1⟩ (fun hHeld=>?_);refine with_tabW enc6_tab enc6_bits (fun HT_ HW_=>?_)
 replace hw0:w1.drew.cell? ad=some (.int .i64 wd):=hw0
 replace hw1:w1.drew.cell? ⟨ad.block,ad.off+1,none⟩=some (.int .i64 ht):=hw1
 replace BK:=Aside0.mk (blk_drew BK.out)
 replace HB:=Aside0.mk (below_drew1 HB.out)
 generalize w1.drew=w2 at BK HB hHeld hw0 hw1 ⊢
 refine pu 0 34 HT_ ?_
 refine pu 2 36 HT_ ?_
 refine pu 5 39 HT_ ?_
 refine pu 10 44 HT_ ?_
 refine pu 15 49 HT_ ?_
 refine tk 1 35 HT_ HW_ hHeld rfl (by rintro w' ⟨s0,s1,s2,s3⟩;go_simp;with_reducible rfl) ?_
 refine tk 3 37 HT_ HW_ hHeld rfl (by rintro w' ⟨s0,s1,s2,s3⟩;go_simp;with_reducible rfl) ?_
 refine pu 4 38 HT_ ?_
 refine tk 6 40 HT_ HW_ hHeld rfl (by rintro w' ⟨s0,s1,s2,s3⟩;go_simp;with_reducible rfl) ?_
 refine pu 7 41 HT_ ?_
 refine pu 8 42 HT_ ?_
 refine tk 9 43 HT_ HW_ hHeld rfl (by rintro w' ⟨s0,s1,s2,s3⟩;go_simp;with_reducible rfl) ?_
 refine tk 11 45 HT_ HW_ hHeld rfl (by rintro w' ⟨s0,s1,s2,s3⟩;go_simp;with_reducible rfl) ?_
 refine pu 12 46 HT_ ?_
 refine pu 13 47 HT_ ?_
 refine tk 14 48 HT_ HW_ hHeld rfl (by rintro w' ⟨s0,s1,s2,s3⟩;go_simp;with_reducible rfl) ?_
 refine pu 16 50 HT_ ?_
 refine pu 17 51 HT_ ?_
 refine one_ (i:=18) (N:=some 7) #[true,true,true,true,true,true,true,true,true,true,true,true,true,true,true,true,true,true,true,false] rfl rfl (one_of HT_.out (by kernel_rfl)) (by decide) (fun K hK=>?_)
 refine box_step (cs := #[.int .i64 0,.int .i64 0,.int .i64 0,.int .i64 0,.int .i64 0]) (t:=177) (by rfl) rfl (by go_simp) ?_
 intro g7 hg7 w3 h7 hb7
 have BK3:=Aside0.mk (blk_below BK.out hb7)
 have HB3:=Aside0.mk (below_step HB.out hb7)
 have G7:=Aside0.mk (show w.heap.size<g7 by have:=blk_lt BK.out;omega)
 have HAD:=Aside0.mk (show ad.block<g7 by have:=World.block_lt_of_cell? w2 _ hw0;omega)
 have hx0:=(hb7.cell (World.block_lt_of_cell? w2 _ hw0)).trans hw0
 have hx1:=(hb7.cell (World.block_lt_of_cell? w2 _ hw1)).trans hw1
 clear hb7 hg7 BK HB hHeld hw0 hw1
 refine hK.out _ _ ⟨(blk_cell BK3.out 0).trans rfl,(blk_cell BK3.out 1).trans rfl,hx0,hx1⟩ (fun hHeld=>?_)
 clear hK K
 refine norm_ (a':=?_) ?_ ?_
 rotate_left
 ·show Act.put _ (some 7) _=_
  simp only[Act.put,List.setIfInBounds_toArray,List.set_cons_zero,List.set_cons_succ,i64_w,i32_w]
  rfl
 have z0:w3.cell? ⟨g7,0,none⟩=some (.int .i64 0):=(blk_cell h7 0).trans rfl
 have z1:w3.cell? ⟨g7,1,none⟩=some (.int .i64 0):=(blk_cell h7 1).trans rfl
 have z2:w3.cell? ⟨g7,2,none⟩=some (.int .i64 0):=(blk_cell h7 2).trans rfl
 have z3:w3.cell? ⟨g7,3,none⟩=some (.int .i64 0):=(blk_cell h7 3).trans rfl
 have z4:w3.cell? ⟨g7,4,none⟩=some (.int .i64 0):=(blk_cell h7 4).trans rfl
 have y0:=blk_frozen h7 0
 have y1:=blk_frozen h7 1
 have y2:=blk_frozen h7 2
 have y3:=blk_frozen h7 3
 have y4:=blk_frozen h7 4
 have H7:=Aside0.mk h7
 clear h7
 refine last_ (i:=19) (N:=none) #[true,true,true,true,true,true,true,true,true,true,true,true,true,true,true,true,true,true,true,true] rfl rfl (one_of HT_.out (by kernel_rfl)) (by decide) (fun K hK=>?_)
 refine skip_ (w1:=?_) (by rfl) rfl ?_ ?_
 rotate_left
 ·go_simp
  rfl
 refine hK.out _ _ ?_
 clear hK K
 refine done_ (done_of HT_.out (by kernel_rfl)) ?_
 clear z0 z1 z2 z3 z4 y0 y1 y2 y3 y4 hHeld HT_ HW_
 have HG:=Aside0.mk (blk_put (blk_put (blk_put (blk_put (blk_put H7.out 0 (.int .i64 spn) rfl) 1 (.int .i64 l.length) rfl) 2 (.int .i64 wd) rfl) 3 (.int .i64 ht) rfl) 4 (.int .i64 side) rfl)
 have BK4:=Aside0.mk (blk_far (p:=⟨g7,4,none⟩) (blk_far (p:=⟨g7,3,none⟩) (blk_far (p:=⟨g7,2,none⟩) (blk_far (p:=⟨g7,1,none⟩) (blk_far (p:=⟨g7,0,none⟩) BK3.out (Nat.ne_of_lt G7.out) (.int .i64 spn)) (Nat.ne_of_lt G7.out) (.int .i64 l.length)) (Nat.ne_of_lt G7.out) (.int .i64 wd)) (Nat.ne_of_lt G7.out) (.int .i64 ht)) (Nat.ne_of_lt G7.out) (.int .i64 side))
 have HB4:=Aside0.mk (below_set (j:=4) (v := .int .i64 side) (below_set (j:=3) (v := .int .i64 ht) (below_set (j:=2) (v := .int .i64 wd) (below_set (j:=1) (v := .int .i64 l.length) (below_set (j:=0) (v := .int .i64 spn) HB3.out (Nat.le_of_lt G7.out)) (Nat.le_of_lt G7.out)) (Nat.le_of_lt G7.out)) (Nat.le_of_lt G7.out)) (Nat.le_of_lt G7.out))
 clear hx0 hx1 H7 BK3 HB3
 generalize ((((w3.setCell ⟨g7,0,none⟩ (.int .i64 spn)).setCell ⟨g7,1,none⟩ (.int .i64 l.length)).setCell ⟨g7,2,none⟩ (.int .i64 wd)).setCell ⟨g7,3,none⟩ (.int .i64 ht)).setCell ⟨g7,4,none⟩ (.int .i64 side)=w4 at HG BK4 HB4 ⊢
 go_wp2_with fail
 refine(magic_any _).mono ?_
 rintro e w5 ⟨rfl,hb⟩
 have HG5:=Aside0.mk (blk_below HG.out hb)
 have BK5:=Aside0.mk (blk_below BK4.out hb)
 have HB5:=Aside0.mk (below_step HB4.out hb)
 clear hb HG BK4 HB4
 have e1:=blk_new w5 (.cells #[.int .u8 0,.int .u8 0,.int .u8 0,.int .u8 0] 178 (0,0))
 have c0:=(blk_cell e1 0).trans rfl
 have c1:=(blk_cell e1 1).trans rfl
 have c2:=(blk_cell e1 2).trans rfl
 have c3:=(blk_cell e1 3).trans rfl
 have f0:=blk_frozen e1 0
 have f1:=blk_frozen e1 1
 have f2:=blk_frozen e1 2
 have f3:=blk_frozen e1 3
 clear e1
 go_wp2_with fail
 clear c0 c1 c2 c3 f0 f1 f2 f3
 have HM6:=Aside0.mk (blk_new w5 (.cells #[.int .u8 72,.int .u8 76,.int .u8 68,.int .u8 49] 178 (0,0)))
 have HG6:=Aside0.mk (blk_alloc HG5.out (.cells #[.int .u8 72,.int .u8 76,.int .u8 68,.int .u8 49] 178 (0,0)))
 have BK6:=Aside0.mk (blk_alloc BK5.out (.cells #[.int .u8 72,.int .u8 76,.int .u8 68,.int .u8 49] 178 (0,0)))
 have HB6:=Aside0.mk (below_alloc HB5.out (.cells #[.int .u8 72,.int .u8 76,.int .u8 68,.int .u8 49] 178 (0,0)))
 have GM:=Aside0.mk HB5.out.size
 clear HG5 BK5 HB5
 generalize w5.heap.size=g8 at HM6 GM ⊢
 generalize w5.alloc (.cells #[.int .u8 72,.int .u8 76,.int .u8 68,.int .u8 49] 178 (0,0))=w6 at HM6 HG6 BK6 HB6 ⊢
 have m1:IntKind.u8.wrap (spn:Int)=spn:=by rw[IntKind.wrap_u8'];omega
 have m2:IntKind.u8.wrap (l.length:Int)=l.length:=by rw[IntKind.wrap_u8'];omega
 refine start_ (n:=12) (S:=fun w'=>w'.cell? ⟨g7,0,none⟩=some (.int .i64 spn)/\w'.cell? ⟨g7,1,none⟩=some (.int .i64 l.length)) (ds:=([]:List Nat)) (Array.replicate 12 false) (by kernel_rfl) rfl rfl ⟨(blk_cell HG6.out 0).trans rfl,(blk_cell HG6.out 1).trans rfl⟩ (fun hHeld=>?_);refine with_tabW enc8_tab enc8_bits (fun HT_ HW_=>?_)
 replace HM6:=Aside0.mk (blk_drew HM6.out)
 replace HG6:=Aside0.mk (blk_drew HG6.out)
 replace BK6:=Aside0.mk (blk_drew BK6.out)
 replace HB6:=Aside0.mk (below_drew1 HB6.out)
 generalize w6.drew=w7 at HM6 HG6 BK6 HB6 hHeld ⊢
 refine pu 0 53 HT_ ?_
 refine pu 1 54 HT_ ?_
 refine pu 2 55 HT_ ?_
 refine pu 5 58 HT_ ?_
 refine pu 6 59 HT_ ?_
 refine tk 3 56 HT_ HW_ hHeld rfl (by rintro w' ⟨s0,s1⟩;go_simp;with_reducible rfl) ?_
 refine pu 4 57 HT_ ?_
 refine tk 7 60 HT_ HW_ hHeld rfl (by rintro w' ⟨s0,s1⟩;go_simp;with_reducible rfl) ?_
 refine pu 8 61 HT_ ?_
 refine one_ (i:=9) (N:=some 62) #[true,true,true,true,true,true,true,true,true,true,false,false] rfl rfl (one_of HT_.out (by kernel_rfl)) (by decide) (fun K hK=>?_)
 refine event_step (v := .slice (some ⟨w7.heap.size,0,none⟩) 2 2) (w1:=w7.alloc (.cells #[.int .u8 spn,.int .u8 l.length] 5)) (by rfl) (by go_simp) ?_
 refine hK.out _ _ ⟨(blk_cell (blk_alloc HG6.out _) 0).trans rfl,(blk_cell (blk_alloc HG6.out _) 1).trans rfl⟩ (fun hHeld=>?_)
 clear hK K
 refine norm_ (a':=?_) ?_ ?_
 rotate_left
 ·show Act.put _ (some 62) _=_
  simp only[Act.put,List.setIfInBounds_toArray,List.set_cons_zero,List.set_cons_succ,i64_w,i32_w]
  rfl
 refine one_ (i:=10) (N:=some 63) #[true,true,true,true,true,true,true,true,true,true,true,false] rfl rfl (one_of HT_.out (by kernel_rfl)) (by decide) (fun K hK=>?_)
 have hm7:=blk_alloc HM6.out (.cells #[.int .u8 spn,.int .u8 l.length] 5)
 obtain⟨v9,w9,hr9,ho9,hg9⟩:=run_append_arg_grows (P:=Tryz.prog) (w7.alloc (.cells #[.int .u8 spn,.int .u8 l.length] 5)) 35 35 5 i0 (.int .u8 0) 1 1 Tryz.underlying35 hi hz0 hz1 hz2 rfl (by decide) ⟨g8,0,none⟩ 4 4 [.int .u8 72,.int .u8 76,.int .u8 68,.int .u8 49] rfl (World.news_of_block hm7) ⟨w7.heap.size,0,none⟩ 2 2 [.int .u8 spn,.int .u8 l.length] rfl (World.news_of_block (blk_new w7 (.cells #[.int .u8 spn,.int .u8 l.length] 5))) (by omega) (by unfold maxLen;omega) (by omega)
 refine event_step (v:=v9) (w1:=w9) (by rfl) (append_run (.tmp 53) (.tmp 62) 35 rfl rfl rfl hr9) ?_
 have hb9:Below (w7.alloc (.cells #[.int .u8 spn,.int .u8 l.length] 5)).heap.size (w7.alloc (.cells #[.int .u8 spn,.int .u8 l.length] 5)) w9:=⟨hg9.os,hg9.tape,hg9.output,hg9.size,fun i hi=>hg9.block i hi (by simp)⟩
 have EB9:=Aside0.mk (show EB w spn ad l.length cap g7 wd ht side w9 from ⟨below_step (below_alloc HB6.out _) hb9,blk_below (blk_alloc BK6.out _) hb9,blk_below (blk_alloc HG6.out _) hb9⟩)
 have HO9:=Aside0.mk (show OB w9 w.heap.size v9 [72,76,68,49,spn,l.length] from Kd.R_lower (Kd.R_of_own (h1:=fun _=>rfl) (enc:=fun x:Int=>Value.int .u8 x) (xs:=ints [72,76,68,49,spn,l.length]) (ok:=fun _=>True) ho9 (fun _ _=>trivial)) (Nat.le_trans HB6.out.size (by simp)))
 clear hb9 ho9 hg9 hr9 hm7 HM6 HG6 BK6 HB6 hHeld
 refine hK.out _ _ ⟨EB9.out.g0,EB9.out.g1⟩ (fun hHeld=>?_)
 clear hK K
 refine norm_ (a':=?_) ?_ ?_
 rotate_left
 ·show Act.put _ (some 63) _=_
  simp only[Act.put,List.setIfInBounds_toArray,List.set_cons_zero,List.set_cons_succ,i64_w,i32_w]
  rfl
 refine pu 11 9 HT_ ?_
 refine done_ (done_of HT_.out (by kernel_rfl)) ?_
 clear hHeld HT_ HW_
 have q2:=EB9.out.g2
 have q3:=EB9.out.g3
 have q4:=EB9.out.g4
 go_wp2
 clear q2 q3 q4 m1 m2 s1 s2 s3 s4
 have HI:=Aside0.mk (blk_new w9 (.cells #[.int .i64 wd,.int .i64 ht,.int .i64 side] 3 (0,0)))
 replace EB9:=Aside0.mk (EB9.out.mono (below_alloc (Below.refl w9.heap.size w9) (.cells #[.int .i64 wd,.int .i64 ht,.int .i64 side] 3 (0,0))))
 replace HO9:=Aside0.mk (Kd.R_alloc HO9.out (.cells #[.int .i64 wd,.int .i64 ht,.int .i64 side] 3 (0,0)))
 generalize w9.heap.size=gi at HI ⊢
 generalize w9.alloc (.cells #[.int .i64 wd,.int .i64 ht,.int .i64 side] 3 (0,0))=wa at HI EB9 HO9 ⊢
 go_loopw [9,75] (fun v9 v75 wr => ∃k:Nat,k<=3/\v75 = .int .i64 k/\Aside0 (OB wr w.heap.size v9 ([72,76,68,49,spn,l.length]++hdrB wd ht side k))/\Aside0 (EB w spn ad l.length cap g7 wd ht side wr)/\Aside0 (wr.heap[gi]?=some (.cells #[.int .i64 wd,.int .i64 ht,.int .i64 side] 3 (0,0)))) (fun _ v75 _=>3-(intOf v75).toNat)
 case atStart=>exact⟨0,Nat.zero_le _,rfl,⟨HO9.out⟩,EB9,HI⟩
 case round =>
  clear HO9 EB9 HI
  obtain⟨k,hk,rfl,HO9,EB9,HI⟩:=hrel
  by_cases hlt:k<3
  ·have b1:decide ((k:Int)<3)=true:=decide_eq_true (by omega)
   have p1:(0:Int)<=k:=by omega
   have p2:(k:Int)<3:=by omega
   have hcell:wr.cell? ⟨gi,k,none⟩=some (.int .i64 (hdrV wd ht side k:Nat)):=by
    rw[blk_cell HI.out k]
    match k,hlt with
    | 0,_=>rfl
    | 1,_=>rfl
    | 2,_=>rfl
   have hv:hdrV wd ht side k<=1024:=by unfold hdrV;split<;>(try split)<;>omega
   have hlh:(hdrB wd ht side k).length<=6:=by rw[hdrB_length];omega
   go_wp2_with fail
   refine(numbered_any wr w.heap.size 2 (hdrV wd ht side k) _ _ (by omega) (by omega) HO9.out EB9.out.below.size (by rw[List.length_append];simp;omega)).mono ?_
   rintro e w2 ⟨v2,rfl,ho2,hg2⟩
   have EB2:=Aside0.mk (EB9.out.grw hg2 HO9.out)
   have HI2:=Aside0.mk (blk_grown HI.out hg2.grown (ne_own HO9.out HI.out (by decide)))
   have HO2:=Aside0.mk (show OB w2 w.heap.size v2 ([72,76,68,49,spn,l.length]++hdrB wd ht side (k+1)) by rw[hdrB_succ,<-List.append_assoc];exact ho2)
   clear ho2 hg2 HO9 EB9 HI
   go_wp2
   go_roundw
   case rel=>exact⟨k+1,by omega,by go_num,HO2,EB2,HI2⟩
   case measure=>simp[intOf];omega
  ·obtain rfl:k=3:=by omega
   clear HI
   go_wp2_with fail
   refine(table_any wr).mono ?_
   rintro e w2 ⟨tb,rfl,htb,htw,hb2⟩
   have HL:=Aside0.mk (show EL w spn ad l.length cap g7 wd ht side tb (hdL spn l.length wd ht side++indexB (psOf (fun t j=>encL (rs t j)) l.length 0 0)) (frameB (psOf (fun t j=>encL (rs t j)) l.length 0 0)) u9 (.slice none 0 0) w2 from
    ⟨EB9.out.mono hb2,by have:=Kd.R_below HO9.out hb2;simpa [psOf,indexB,hdL] using this,Kd.R_nil _ _ _ _ _,Sep.nil _,htb,fun e=>by have:=Kd.R_lt HO9.out tb e.symm;omega,by simp[Value.ownBlock]⟩)
   clear htb htw hb2 HO9 EB9
   have q0:=HL.out.eb.g0
   have q1:=HL.out.eb.g1
   have q2:=HL.out.eb.g2
   have q3:=HL.out.eb.g3
   have q4:=HL.out.eb.g4
   go_wp2_with fail
   refine(codec_grid_tiles.calls spn l.length wd ht side T w2 HTL.out).mono ?_
   rintro e w3 ⟨rfl,hb3⟩
   replace HL:=Aside0.mk (HL.out.mono hb3)
   clear hb3 q0 q1 q2 q3 q4
   go_wp2
   go_loopw [9,12,86] (fun v9 v12 v86 wr => ∃t:Nat,t<=T/\v86 = .int .i64 t/\Aside0 (EL w spn ad l.length cap g7 wd ht side tb (hdL spn l.length wd ht side++indexB (psOf (fun t j=>encL (rs t j)) l.length t 0)) (frameB (psOf (fun t j=>encL (rs t j)) l.length t 0)) v9 v12 wr)) (fun _ _ v86 _=>T-(intOf v86).toNat)
   case atStart=>exact⟨0,Nat.zero_le _,rfl,HL⟩
   case round =>
    clear HL
    obtain⟨t,ht',rfl,HL⟩:=hrel
    by_cases htt:t<T
    ·have b2:decide ((t:Int)<(T:Int))=true:=decide_eq_true (by omega)
     have qb:=HL.out.eb.b1
     go_wp2
     clear qb
     go_loopw [9,12,92] (fun v9 v12 v92 wr => ∃j:Nat,j<=l.length/\v92 = .int .i64 j/\Aside0 (EL w spn ad l.length cap g7 wd ht side tb (hdL spn l.length wd ht side++indexB (psOf (fun t j=>encL (rs t j)) l.length t j)) (frameB (psOf (fun t j=>encL (rs t j)) l.length t j)) v9 v12 wr)) (fun _ _ v92 _=>l.length-(intOf v92).toNat)
     case atStart=>exact⟨0,Nat.zero_le _,rfl,HL⟩
     case round =>
      clear HL
      obtain⟨j,hj,rfl,HL⟩:=hrel
      by_cases hjl:j<l.length
      ·have b3:decide ((j:Int)<(l.length:Int))=true:=decide_eq_true (by omega)
       have p1:(0:Int)<=j:=by omega
       have p2:(j:Int)<(l.length:Int):=by omega
       obtain⟨ad2,A2,c2,hade,hw0,hw1,hw2,hl2,hc2⟩:=at_T58 HX.out j (by omega) (by omega)
       injection hade with hade
       subst hade
       obtain⟨hp0,hp1,hp2,hp3⟩:=HPL.out j hjl
       rw[hp0] at hw0
       rw[hp1] at hw1
       simp only[Int.toNat_natCast] at hw0 hw1 hw2
       replace hw0:=(HL.out.eb.below.cell (World.block_lt_of_cell? w _ hw0)).trans hw0
       replace hw1:=(HL.out.eb.below.cell (World.block_lt_of_cell? w _ hw1)).trans hw1
       replace hw2:=(HL.out.eb.below.cell (World.block_lt_of_cell? w _ hw2)).trans hw2
       have HP2:=Aside0.mk hp2
       have HP3:=Aside0.mk hp3
       have HC2:=Aside0.mk (Kd.C_below hc2 HL.out.eb.below)
       clear hp0 hp1 hp2 hp3 hc2
       go_wp2_with fail
       have H16:=Aside0.mk (blk_drew (blk_new wr (.cells #[.int .i64 wd,.int .i64 ht,.slice A2 (rd_T58 l j).f2.length c2] 58 (0,0))))
       replace HL:=Aside0.mk (HL.out.mono (below_drew1 (below_alloc (Below.refl wr.heap.size wr) (.cells #[.int .i64 wd,.int .i64 ht,.slice A2 (rd_T58 l j).f2.length c2] 58 (0,0)))))
       replace HC2:=Aside0.mk (Kd.C_drew (Kd.C_alloc HC2.out (.cells #[.int .i64 wd,.int .i64 ht,.slice A2 (rd_T58 l j).f2.length c2] 58 (0,0))))
       clear hw0 hw1 hw2
       refine start_ (n:=11) (S:=fun w'=>w'.cell? ⟨wr.heap.size,0,none⟩=some (.int .i64 wd)/\w'.cell? ⟨wr.heap.size,1,none⟩=some (.int .i64 ht)/\w'.cell? ⟨wr.heap.size,2,none⟩=some (.slice A2 (rd_T58 l j).f2.length c2)/\w'.cell? ⟨g7,0,none⟩=some (.int .i64 spn)/\w'.cell? ⟨g7,1,none⟩=some (.int .i64 l.length)/\w'.cell? ⟨g7,2,none⟩=some (.int .i64 wd)/\w'.cell? ⟨g7,3,none⟩=some (.int .i64 ht)/\w'.cell? ⟨g7,4,none⟩=some (.int .i64 side)) (ds := [9]) (Array.replicate 11 false) (by kernel_rfl) rfl rfl ⟨(blk_cell H16.out 0).trans rfl,(blk_cell H16.out 1).trans rfl,(blk_cell H16.out 2).trans rfl,HL.out.eb.g0,HL.out.eb.g1,HL.out.eb.g2,HL.out.eb.g3,HL.out.eb.g4⟩ (fun hHeld=>?_);refine with_tabW enc22_tab enc22_bits (fun HT_ HW_=>?_)
       generalize hwb:(wr.alloc (.cells #[.int .i64 wd,.int .i64 ht,.slice A2 (rd_T58 l j).f2.length c2] 58 (0,0))).drew=wb at H16 HL HC2 hHeld ⊢
       clear hwb
       generalize wr.heap.size=g16 at H16 hHeld HT_ ⊢
       have HBW:=Aside0.mk (Below.refl wb.heap.size wb)
       refine tk 0 97 HT_ HW_ hHeld rfl (by rintro w' ⟨s0,s1,s2,s3,s4,s5,s6,s7⟩;go_simp;with_reducible rfl) ?_
       refine tk 1 98 HT_ HW_ hHeld rfl (by rintro w' ⟨s0,s1,s2,s3,s4,s5,s6,s7⟩;go_simp;with_reducible rfl) ?_
       refine pu 2 99 HT_ ?_
       obtain⟨hr1,hr2,hr3,hr4,hr5⟩:=HRC.out t htt
       have HR1:=Aside0.mk hr1
       have HR2:=Aside0.mk hr2
       have HR3:=Aside0.mk hr3
       have HR4:=Aside0.mk hr4
       have HR5:=Aside0.mk hr5
       clear hr1 hr2 hr3 hr4 hr5
       refine join_ (σ:=Value×Nat) 2 #[true,true,true,true,true,true,true,true,true,false,false] (fun s => [(100,.agg #[.int .i64 (X0 t),.int .i64 (Y0 t),.int .i64 (X1 t),.int .i64 (Y1 t)]),(101,.tuple #[.agg #[.int .i64 (X1 t-X0 t:Nat),.int .i64 (Y1 t-Y0 t:Nat),s.1],.int .i64 0]),(96,.tuple #[.agg #[.int .i64 (X1 t-X0 t:Nat),.int .i64 (Y1 t-Y0 t:Nat),s.1],.int .i64 0]),(102,.agg #[.int .i64 (X1 t-X0 t:Nat),.int .i64 (Y1 t-Y0 t:Nat),s.1]),(103,.int .i64 0),(17,.pointer (some ⟨s.2,0,none⟩))])
        (fun s w'=>OW w' w.heap.size s.1 (cropL wd (rd_T58 l j).f2 (X0 t) (Y0 t) (X1 t) (Y1 t))/\w'.heap[s.2]?=some (.cells #[.int .i64 0,.int .i64 0,.slice none 0 0] 58 (0,0))/\wb.heap.size<=s.2/\Below wb.heap.size wb w') ?tail (fun hcont=>?head)
       case head =>
        refine two_ (i:=3) (j:=8) (Ni:=some 100) (Nj:=some 17) #[true,true,true,true,false,false,false,false,false,false,false] #[true,true,true,false,false,false,false,false,true,false,false] rfl rfl rfl rfl (two_of HT_.out (by kernel_rfl)) (by decide) (by decide) (fun K hK=>?_) (fun K hK=>?_)
        ·refine goes_ Tryz.func118 (by kernel_rfl) rfl #[.agg #[.int .i64 spn,.int .i64 l.length,.int .i64 wd,.int .i64 ht,.int .i64 side],.int .i64 t] (by rfl) rfl rfl (by simp[Act.eval]) ?_
         refine(codec_grid_rect.calls spn l.length wd ht side t (X0 t) (Y0 t) (X1 t) (Y1 t) wb HR1.out).mono ?_
         rintro e wc ⟨rfl,hb⟩
         refine⟨_,rfl,?_⟩
         replace HL:=Aside0.mk (HL.out.mono hb)
         replace H16:=Aside0.mk (blk_below H16.out hb)
         replace HC2:=Aside0.mk (Kd.C_below HC2.out hb)
         replace HBW:=Aside0.mk (below_step HBW.out hb)
         clear hb hHeld
         refine hK.out _ _ ⟨(blk_cell H16.out 0).trans rfl,(blk_cell H16.out 1).trans rfl,(blk_cell H16.out 2).trans rfl,HL.out.eb.g0,HL.out.eb.g1,HL.out.eb.g2,HL.out.eb.g3,HL.out.eb.g4⟩ (fun hHeld=>?_)
         clear hK K
         refine norm_ (a':=?_) ?_ ?_
         rotate_left
         ·show Act.put _ (some 100) _=_
          simp only[Act.put,List.setIfInBounds_toArray,List.set_cons_zero,List.set_cons_succ,i64_w,i32_w]
          rfl
         refine two_ (i:=4) (j:=8) (Ni:=some 101) (Nj:=some 17) #[true,true,true,true,true,false,false,false,false,false,false] #[true,true,true,true,false,false,false,false,true,false,false] rfl rfl rfl rfl (two_of HT_.out (by kernel_rfl)) (by decide) (by decide) (fun K hK=>?_) (fun K hK=>?_)
         ·refine goes_ Tryz.func117 (by kernel_rfl) rfl #[.agg #[.int .i64 wd,.int .i64 ht,.slice A2 (rd_T58 l j).f2.length c2],.agg #[.int .i64 (X0 t),.int .i64 (Y0 t),.int .i64 (X1 t),.int .i64 (Y1 t)]] (by rfl) rfl rfl (by simp[Act.eval]) ?_
          refine(crop_any wc wd ht (X0 t) (Y0 t) (X1 t) (Y1 t) A2 c2 (rd_T58 l j).f2 HC2.out hl2 HP2.out HP3.out HR2.out HR3.out HR4.out HR5.out (by omega) (by omega)).mono ?_
          rintro e wd_ ⟨vc,rfl,hoc,hb⟩
          refine⟨_,rfl,?_⟩
          have hle:=HL.out.eb.below.size
          have HO:=Aside0.mk (show OW wd_ w.heap.size vc (cropL wd (rd_T58 l j).f2 (X0 t) (Y0 t) (X1 t) (Y1 t)) from Kd.R_lower hoc hle)
          replace HL:=Aside0.mk (HL.out.mono hb)
          replace H16:=Aside0.mk (blk_below H16.out hb)
          replace HC2:=Aside0.mk (Kd.C_below HC2.out hb)
          replace HBW:=Aside0.mk (below_step HBW.out hb)
          clear hb hHeld hoc hle
          refine hK.out _ _ ⟨(blk_cell H16.out 0).trans rfl,(blk_cell H16.out 1).trans rfl,(blk_cell H16.out 2).trans rfl,HL.out.eb.g0,HL.out.eb.g1,HL.out.eb.g2,HL.out.eb.g3,HL.out.eb.g4⟩ (fun hHeld=>?_)
          clear hK K
          refine norm_ (a':=?_) ?_ ?_
          rotate_left
          ·show Act.put _ (some 101) _=_
           simp only[Act.put,List.setIfInBounds_toArray,List.set_cons_zero,List.set_cons_succ,i64_w,i32_w]
           rfl
          refine pu 5 96 HT_ ?_
          refine pu 6 102 HT_ ?_
          refine pu 7 103 HT_ ?_
          refine one_ (i:=8) (N:=some 17) #[true,true,true,true,true,true,true,true,true,false,false] rfl rfl (one_of HT_.out (by kernel_rfl)) (by decide) (fun K hK=>?_)
          refine box_step (cs := #[.int .i64 0,.int .i64 0,.slice none 0 0]) (t:=58) (by rfl) rfl (by go_simp) ?_
          intro g17 hg17 we h17 hb
          have H17:=Aside0.mk h17
          have G17:=Aside0.mk (show wb.heap.size<=g17 by have:=HBW.out.size;omega)
          replace HL:=Aside0.mk (HL.out.mono hb)
          replace H16:=Aside0.mk (blk_below H16.out hb)
          replace HC2:=Aside0.mk (Kd.C_below HC2.out hb)
          replace HBW:=Aside0.mk (below_step HBW.out hb)
          replace HO:=Aside0.mk (Kd.R_below HO.out hb)
          clear hb hHeld h17 hg17
          refine hK.out _ _ ⟨(blk_cell H16.out 0).trans rfl,(blk_cell H16.out 1).trans rfl,(blk_cell H16.out 2).trans rfl,HL.out.eb.g0,HL.out.eb.g1,HL.out.eb.g2,HL.out.eb.g3,HL.out.eb.g4⟩ (fun hHeld=>?_)
          clear hK K
          refine norm_ (a':=?_) ?_ ?_
          rotate_left
          ·show Act.put _ (some 17) _=_
           simp only[Act.put,List.setIfInBounds_toArray,List.set_cons_zero,List.set_cons_succ,i64_w,i32_w]
           rfl
          exact hcont (vc,g17) _ ⟨HO.out,H17.out,G17.out,HBW.out⟩
         ·refine box_step (cs := #[.int .i64 0,.int .i64 0,.slice none 0 0]) (t:=58) (by rfl) rfl (by go_simp) ?_
          intro g17 hg17 wd_ h17 hb
          have H17:=Aside0.mk h17
          have G17:=Aside0.mk (show wb.heap.size<=g17 by have:=HBW.out.size;omega)
          replace HL:=Aside0.mk (HL.out.mono hb)
          replace H16:=Aside0.mk (blk_below H16.out hb)
          replace HC2:=Aside0.mk (Kd.C_below HC2.out hb)
          replace HBW:=Aside0.mk (below_step HBW.out hb)
          clear hb hHeld h17 hg17
          refine hK.out _ _ ⟨(blk_cell H16.out 0).trans rfl,(blk_cell H16.out 1).trans rfl,(blk_cell H16.out 2).trans rfl,HL.out.eb.g0,HL.out.eb.g1,HL.out.eb.g2,HL.out.eb.g3,HL.out.eb.g4⟩ (fun hHeld=>?_)
          clear hK K
          refine norm_ (a':=?_) ?_ ?_
          rotate_left
          ·show Act.put _ (some 17) _=_
           simp only[Act.put,List.setIfInBounds_toArray,List.set_cons_zero,List.set_cons_succ,i64_w,i32_w]
           rfl
          refine one_ (i:=4) (N:=some 101) #[true,true,true,true,true,false,false,false,true,false,false] rfl rfl (one_of HT_.out (by kernel_rfl)) (by decide) (fun K hK=>?_)
          refine goes_ Tryz.func117 (by kernel_rfl) rfl #[.agg #[.int .i64 wd,.int .i64 ht,.slice A2 (rd_T58 l j).f2.length c2],.agg #[.int .i64 (X0 t),.int .i64 (Y0 t),.int .i64 (X1 t),.int .i64 (Y1 t)]] (by rfl) rfl rfl (by simp[Act.eval]) ?_
          refine(crop_any wd_ wd ht (X0 t) (Y0 t) (X1 t) (Y1 t) A2 c2 (rd_T58 l j).f2 HC2.out hl2 HP2.out HP3.out HR2.out HR3.out HR4.out HR5.out (by omega) (by omega)).mono ?_
          rintro e we ⟨vc,rfl,hoc,hb⟩
          refine⟨_,rfl,?_⟩
          have hle:=HL.out.eb.below.size
          have HO:=Aside0.mk (show OW we w.heap.size vc (cropL wd (rd_T58 l j).f2 (X0 t) (Y0 t) (X1 t) (Y1 t)) from Kd.R_lower hoc hle)
          replace HL:=Aside0.mk (HL.out.mono hb)
          replace H16:=Aside0.mk (blk_below H16.out hb)
          replace HC2:=Aside0.mk (Kd.C_below HC2.out hb)
          replace HBW:=Aside0.mk (below_step HBW.out hb)
          replace H17:=Aside0.mk (blk_below H17.out hb)
          clear hb hHeld hoc hle
          refine hK.out _ _ ⟨(blk_cell H16.out 0).trans rfl,(blk_cell H16.out 1).trans rfl,(blk_cell H16.out 2).trans rfl,HL.out.eb.g0,HL.out.eb.g1,HL.out.eb.g2,HL.out.eb.g3,HL.out.eb.g4⟩ (fun hHeld=>?_)
          clear hK K
          refine norm_ (a':=?_) ?_ ?_
          rotate_left
          ·show Act.put _ (some 101) _=_
           simp only[Act.put,List.setIfInBounds_toArray,List.set_cons_zero,List.set_cons_succ,i64_w,i32_w]
           rfl
          refine pu 5 96 HT_ ?_
          refine pu 6 102 HT_ ?_
          refine pu 7 103 HT_ ?_
          exact hcont (vc,g17) _ ⟨HO.out,H17.out,G17.out,HBW.out⟩
        ·refine box_step (cs := #[.int .i64 0,.int .i64 0,.slice none 0 0]) (t:=58) (by rfl) rfl (by go_simp) ?_
         intro g17 hg17 wc h17 hb
         have H17:=Aside0.mk h17
         have G17:=Aside0.mk (show wb.heap.size<=g17 by have:=HBW.out.size;omega)
         replace HL:=Aside0.mk (HL.out.mono hb)
         replace H16:=Aside0.mk (blk_below H16.out hb)
         replace HC2:=Aside0.mk (Kd.C_below HC2.out hb)
         replace HBW:=Aside0.mk (below_step HBW.out hb)
         clear hb hHeld h17 hg17
         refine hK.out _ _ ⟨(blk_cell H16.out 0).trans rfl,(blk_cell H16.out 1).trans rfl,(blk_cell H16.out 2).trans rfl,HL.out.eb.g0,HL.out.eb.g1,HL.out.eb.g2,HL.out.eb.g3,HL.out.eb.g4⟩ (fun hHeld=>?_)
         clear hK K
         refine norm_ (a':=?_) ?_ ?_
         rotate_left
         ·show Act.put _ (some 17) _=_
          simp only[Act.put,List.setIfInBounds_toArray,List.set_cons_zero,List.set_cons_succ,i64_w,i32_w]
          rfl
         refine one_ (i:=3) (N:=some 100) #[true,true,true,true,false,false,false,false,true,false,false] rfl rfl (one_of HT_.out (by kernel_rfl)) (by decide) (fun K hK=>?_)
         refine goes_ Tryz.func118 (by kernel_rfl) rfl #[.agg #[.int .i64 spn,.int .i64 l.length,.int .i64 wd,.int .i64 ht,.int .i64 side],.int .i64 t] (by rfl) rfl rfl (by simp[Act.eval]) ?_
         refine(codec_grid_rect.calls spn l.length wd ht side t (X0 t) (Y0 t) (X1 t) (Y1 t) wc HR1.out).mono ?_
         rintro e wd_ ⟨rfl,hb⟩
         refine⟨_,rfl,?_⟩
         replace HL:=Aside0.mk (HL.out.mono hb)
         replace H16:=Aside0.mk (blk_below H16.out hb)
         replace HC2:=Aside0.mk (Kd.C_below HC2.out hb)
         replace HBW:=Aside0.mk (below_step HBW.out hb)
         replace H17:=Aside0.mk (blk_below H17.out hb)
         clear hb hHeld
         refine hK.out _ _ ⟨(blk_cell H16.out 0).trans rfl,(blk_cell H16.out 1).trans rfl,(blk_cell H16.out 2).trans rfl,HL.out.eb.g0,HL.out.eb.g1,HL.out.eb.g2,HL.out.eb.g3,HL.out.eb.g4⟩ (fun hHeld=>?_)
         clear hK K
         refine norm_ (a':=?_) ?_ ?_
         rotate_left
         ·show Act.put _ (some 100) _=_
          simp only[Act.put,List.setIfInBounds_toArray,List.set_cons_zero,List.set_cons_succ,i64_w,i32_w]
          rfl
         refine one_ (i:=4) (N:=some 101) #[true,true,true,true,true,false,false,false,true,false,false] rfl rfl (one_of HT_.out (by kernel_rfl)) (by decide) (fun K hK=>?_)
         refine goes_ Tryz.func117 (by kernel_rfl) rfl #[.agg #[.int .i64 wd,.int .i64 ht,.slice A2 (rd_T58 l j).f2.length c2],.agg #[.int .i64 (X0 t),.int .i64 (Y0 t),.int .i64 (X1 t),.int .i64 (Y1 t)]] (by rfl) rfl rfl (by simp[Act.eval]) ?_
         refine(crop_any wd_ wd ht (X0 t) (Y0 t) (X1 t) (Y1 t) A2 c2 (rd_T58 l j).f2 HC2.out hl2 HP2.out HP3.out HR2.out HR3.out HR4.out HR5.out (by omega) (by omega)).mono ?_
         rintro e we ⟨vc,rfl,hoc,hb⟩
         refine⟨_,rfl,?_⟩
         have hle:=HL.out.eb.below.size
         have HO:=Aside0.mk (show OW we w.heap.size vc (cropL wd (rd_T58 l j).f2 (X0 t) (Y0 t) (X1 t) (Y1 t)) from Kd.R_lower hoc hle)
         replace HL:=Aside0.mk (HL.out.mono hb)
         replace H16:=Aside0.mk (blk_below H16.out hb)
         replace HC2:=Aside0.mk (Kd.C_below HC2.out hb)
         replace HBW:=Aside0.mk (below_step HBW.out hb)
         replace H17:=Aside0.mk (blk_below H17.out hb)
         clear hb hHeld hoc hle
         refine hK.out _ _ ⟨(blk_cell H16.out 0).trans rfl,(blk_cell H16.out 1).trans rfl,(blk_cell H16.out 2).trans rfl,HL.out.eb.g0,HL.out.eb.g1,HL.out.eb.g2,HL.out.eb.g3,HL.out.eb.g4⟩ (fun hHeld=>?_)
         clear hK K
         refine norm_ (a':=?_) ?_ ?_
         rotate_left
         ·show Act.put _ (some 101) _=_
          simp only[Act.put,List.setIfInBounds_toArray,List.set_cons_zero,List.set_cons_succ,i64_w,i32_w]
          rfl
         refine pu 5 96 HT_ ?_
         refine pu 6 102 HT_ ?_
         refine pu 7 103 HT_ ?_
         exact hcont (vc,g17) _ ⟨HO.out,H17.out,G17.out,HBW.out⟩
       case tail =>
        rintro⟨vc,g17⟩ wf ⟨ho,h17,hle,hbw⟩
        replace ho:OW wf w.heap.size vc (cropL wd (rd_T58 l j).f2 (X0 t) (Y0 t) (X1 t) (Y1 t)):=ho
        replace h17:wf.heap[g17]?=some (.cells #[.int .i64 0,.int .i64 0,.slice none 0 0] 58 (0,0)):=h17
        replace hle:wb.heap.size<=g17:=hle
        obtain⟨hrs1,hrs2,hrs3⟩:=HRS.out t j htt hjl
        generalize hcr:cropL wd (rd_T58 l j).f2 (X0 t) (Y0 t) (X1 t) (Y1 t)=cr at ho hrs1
        clear hcr
        obtain⟨Ac,cc,rfl,hlc,hCc⟩:=Kd.R_reads ho
        have H17:=Aside0.mk h17
        have HO:=Aside0.mk ho
        have HLE:=Aside0.mk hle
        have HBW2:=Aside0.mk hbw
        have HR:=Aside0.mk hrs1
        have HR2:=Aside0.mk hrs2
        have HR3:=Aside0.mk hrs3
        have HLC:=Aside0.mk hlc
        clear ho hle hbw hCc hHeld hrs1 hrs2 hrs3 hlc HBW
        refine norm_ (a':=?_) ?_ ?_
        rotate_left
        ·simp only[putAll,Act.put,List.setIfInBounds_toArray,List.set_cons_zero,List.set_cons_succ,i64_w,i32_w]
         rfl
        have z0:wf.cell? ⟨g17,0,none⟩=some (.int .i64 0):=(blk_cell h17 0).trans rfl
        have z1:wf.cell? ⟨g17,1,none⟩=some (.int .i64 0):=(blk_cell h17 1).trans rfl
        have z2:wf.cell? ⟨g17,2,none⟩=some (.slice none 0 0):=(blk_cell h17 2).trans rfl
        have y0:=blk_frozen h17 0
        have y1:=blk_frozen h17 1
        have y2:=blk_frozen h17 2
        clear h17
        refine last_ (i:=9) (N:=none) #[true,true,true,true,true,true,true,true,true,true,false] rfl rfl (one_of HT_.out (by kernel_rfl)) (by decide) (fun K hK=>?_)
        refine skip_ (w1:=?_) (by rfl) rfl ?_ ?_
        rotate_left
        ·go_simp
         rfl
        refine hK.out _ _ ?_
        clear hK K
        refine pu 10 18 HT_ ?_
        refine done_ (done_of HT_.out (by kernel_rfl)) ?_
        clear z0 z1 z2 y0 y1 y2 HT_ HW_
        have HP:=Aside0.mk (blk_put (blk_put (blk_put H17.out 0 (.int .i64 (X1 t-X0 t:Nat)) rfl) 1 (.int .i64 (Y1 t-Y0 t:Nat)) rfl) 2 (.slice Ac cr.length cc) rfl)
        have HB6:=Aside0.mk (below_set (j:=2) (v := .slice Ac cr.length cc) (below_set (j:=1) (v := .int .i64 (Y1 t-Y0 t:Nat)) (below_set (j:=0) (v := .int .i64 (X1 t-X0 t:Nat)) HBW2.out HLE.out) HLE.out) HLE.out)
        have HO6:=Aside0.mk (Kd.R_set (Kd.R_set (Kd.R_set HO.out H17.out (by decide) 0 (.int .i64 (X1 t-X0 t:Nat))) (blk_put H17.out 0 (.int .i64 (X1 t-X0 t:Nat)) rfl) (by decide) 1 (.int .i64 (Y1 t-Y0 t:Nat))) (blk_put (blk_put H17.out 0 (.int .i64 (X1 t-X0 t:Nat)) rfl) 1 (.int .i64 (Y1 t-Y0 t:Nat)) rfl) (by decide) 2 (.slice Ac cr.length cc))
        replace HL:=Aside0.mk (HL.out.mono HB6.out)
        generalize ((wf.setCell ⟨g17,0,none⟩ (.int .i64 (X1 t-X0 t:Nat))).setCell ⟨g17,1,none⟩ (.int .i64 (Y1 t-Y0 t:Nat))).setCell ⟨g17,2,none⟩ (.slice Ac cr.length cc)=wg at HP HO6 HL ⊢
        clear HB6 HBW2 HO H17 H16 HC2
        have z0:wg.cell? ⟨g17,0,none⟩=some (.int .i64 (X1 t-X0 t:Nat)):=(blk_cell HP.out 0).trans rfl
        have z1:wg.cell? ⟨g17,1,none⟩=some (.int .i64 (Y1 t-Y0 t:Nat)):=(blk_cell HP.out 1).trans rfl
        have z2:wg.cell? ⟨g17,2,none⟩=some (.slice Ac cr.length cc):=(blk_cell HP.out 2).trans rfl
        obtain⟨A6,c6,e6,hl6,hC6⟩:=Kd.R_reads HO6.out
        injection e6 with e6a _ e6b
        subst e6a e6b
        have HCR:=Aside0.mk (codec_Rests.calls K (X1 t-X0 t:Nat) (Y1 t-Y0 t:Nat) Ac cc cr (rs t j) 0 wg hC6 HLC.out HR.out)
        clear hC6 hl6 HO6
        go_wp2_with fail
        refine HCR.out.mono ?_
        rintro e wh ⟨vr,rfl,hor,hbr⟩
        obtain⟨Ar,cr',rfl,hlr,hCr⟩:=Kd.R_reads hor
        replace HL:=Aside0.mk (HL.out.mono hbr)
        have HE:=Aside0.mk (encode_any wh Ar cr' (rs t j) hCr HR3.out HR2.out)
        clear hor hbr hCr hlr HCR z0 z1 z2 HP
        go_wp2_with fail
        refine HE.out.mono ?_
        rintro e wi ⟨vb,rfl,hrd,hbi⟩
        have HOW:=Aside0.mk (show ∀a,u9.ownBlock=some a->a<wh.heap.size from fun a ha=>Kd.R_lt HL.out.out a ha)
        have HOW2:=Aside0.mk (show ∀a,u12.ownBlock=some a->a<wh.heap.size from fun a ha=>Kd.R_lt HL.out.parts a ha)
        replace HL:=Aside0.mk (HL.out.mono hbi)
        have HRD:=Aside0.mk hrd
        clear hrd hbi HE
        obtain⟨Ab,cb,rfl,hCb,hlb,hAb⟩:=HRD.out.form
        obtain⟨hbg1,hbg2⟩:=HBG.out t j (by omega) (by omega)
        have hel:(encL (rs t j)).length<=1000000:=by have:=encL_le (rs t j);have:=HR3.out;omega
        have hlt:=encL_lt (rs t j)
        have HS1:=Aside0.mk (psOf_succ (fun t j=>encL (rs t j)) l.length t j)
        have HB9L:(hdL spn l.length wd ht side++indexB (psOf (fun t j=>encL (rs t j)) l.length t j)).length<=20000000:=by rw[List.length_append,hdL_length];omega
        have HEQ9:hdL spn l.length wd ht side++indexB (psOf (fun t j=>encL (rs t j)) l.length t (j+1))=(hdL spn l.length wd ht side++indexB (psOf (fun t j=>encL (rs t j)) l.length t j))++be 4 (encL (rs t j)).length:=by rw[HS1.out,indexB_snoc,List.append_assoc]
        have HEQ12:frameB (psOf (fun t j=>encL (rs t j)) l.length t (j+1))=(frameB (psOf (fun t j=>encL (rs t j)) l.length t j)++encL (rs t j))++be 4 (crcOf (encL (rs t j))):=by rw[HS1.out,frameB_snoc]
        generalize hdL spn l.length wd ht side++indexB (psOf (fun t j=>encL (rs t j)) l.length t j)=B9 at HL HB9L HEQ9
        generalize frameB (psOf (fun t j=>encL (rs t j)) l.length t j)=B12 at HL hbg2 HEQ12
        generalize encL (rs t j)=bs at HRD hCb hlb hel hlt HEQ9 HEQ12 ⊢
        have HQ9:=Aside0.mk HEQ9
        have HQ12:=Aside0.mk HEQ12
        have HLT:=Aside0.mk hlt
        have HN1:=Aside0.mk HB9L
        have HN2:=Aside0.mk hbg2
        have HN3:=Aside0.mk hel
        clear HEQ9 HEQ12 hlt HS1 hbg1 hCb hlb hAb HB9L hbg2
        go_wp2_with fail
        refine(numbered_any wi w.heap.size 4 bs.length u9 B9 (by omega) (by omega) HL.out.out HL.out.eb.below.size (by have:=HN1.out;omega)).mono ?_
        rintro e wj ⟨v9',rfl,ho9,hg9⟩
        have RD2:=Aside0.mk (HRD.out.grw hg9 HOW.out)
        replace HL:=Aside0.mk (HL.out.outG hg9 ho9)
        obtain⟨A7,c7,e7,hC7,_,_⟩:=RD2.out.form
        injection e7 with e7a _ e7b
        subst e7a e7b
        have HC7:=Aside0.mk hC7
        have HL7:=Aside0.mk (show B12.length+bs.length<=200000000 by have:=HN2.out;omega)
        have HS7:=Aside0.mk HL.out.eb.below.size
        clear ho9 hg9 hC7 HRD
        go_wp2_with ((with_reducible refine gate_builtin (b := .append) (xs := #[.tmp 122,.tmp 123]) rfl ?_);at_builtin;refine append_bytes w.heap.size rfl (.tmp 122) (.tmp 123) rfl u12 B12 bs Ab cb rfl rfl HL.out.parts HC7.out HS7.out HL7.out ?_;intro v1 wk ho1 hg1;have RD3:=Aside0.mk (RD2.out.grw hg1 HOW2.out);have HL3:=Aside0.mk (HL.out.parG hg1 ho1);clear ho1 hg1 RD2)
        obtain⟨A8,c8,e8,hC8,_,_⟩:=RD3.out.form
        injection e8 with e8a _ e8b
        subst e8a e8b
        refine(summed_any wk w.heap.size tb v1 (B12++bs) bs Ab cb HL3.out.tab HL3.out.parts hC8 HLT.out HL3.out.eb.below.size (by rw[List.length_append];have:=HN2.out;omega) (by omega)).mono ?_
        rintro e wl ⟨v2,rfl,ho2,hg2⟩
        have HL4:=Aside0.mk (HL3.out.parG hg2 ho2)
        clear ho2 hg2 hC8 HL3 RD3 HL
        go_wp2
        go_roundw
        case rel=>exact⟨j+1,by omega,by go_num,⟨by rw[HQ9.out,HQ12.out];exact HL4.out⟩⟩
        case measure=>simp[intOf];omega
      ·obtain rfl:j=l.length:=by omega
       go_wp2
       go_roundw
       case rel=>exact⟨t+1,by omega,by go_num,⟨by rw[psOf_next];exact HL.out⟩⟩
       case measure=>simp[intOf];omega
    ·obtain rfl:t=T:=by omega
     obtain⟨hbg1,hbg2⟩:=HBG.out t 0 (Nat.le_refl _) (Nat.zero_le _)
     have hlt9 : ∀b∈hdL spn l.length wd ht side++indexB (psOf (fun t j=>encL (rs t j)) l.length t 0),b<256:=by intro b hb;rcases List.mem_append.1 hb with h|h;exact hdL_lt hspn (by omega) _ _ _ b h;exact indexB_lt _ b h
     have hll:(hdL spn l.length wd ht side++indexB (psOf (fun t j=>encL (rs t j)) l.length t 0)).length<=20000000:=by rw[List.length_append,hdL_length];omega
     have hout:=HL.out.out
     have hpar:=HL.out.parts
     have hsep:=HL.out.sep
     have htab:=HL.out.tab
     have HEB:=Aside0.mk HL.out.eb
     clear HL
     generalize hB9:hdL spn l.length wd ht side++indexB (psOf (fun t j=>encL (rs t j)) l.length t 0)=B9 at hout hll hlt9
     generalize hB12:frameB (psOf (fun t j=>encL (rs t j)) l.length t 0)=B12 at hpar hbg2
     have HFL:=Aside0.mk (show fileL spn l.length wd ht side (psOf (fun t j=>encL (rs t j)) l.length t 0)=(B9++be 4 (crcOf B9))++B12 by rw[fileL,hB9,hB12])
     clear hB9 hB12 hbg1
     obtain⟨A9,c9,rfl,hcl9,hC9⟩:=hout.rd
     obtain⟨A12,c12,rfl,hcl12,hC12⟩:=hpar.rd
     have HSZ:=Aside0.mk HEB.out.below.size
     have HS:=Aside0.mk (summed_any wr w.heap.size tb _ _ _ A9 c9 htab hout hC9 hlt9 HSZ.out (by omega) (by omega))
     have HOUT:=Aside0.mk hout
     have HPAR:=Aside0.mk hpar
     have HSEP:=Aside0.mk hsep
     clear hC9 hC12 hout hpar hsep htab hlt9
     go_wp2_with fail
     refine HS.out.mono ?_
     rintro e w4 ⟨v4,rfl,ho4,hg4⟩
     have HB4:=Aside0.mk (HEB.out.grw hg4 HOUT.out)
     have HP4:=Aside0.mk (HPAR.out.other hg4 HSEP.out.symm)
     obtain⟨A12',c12',e12,_,hC12'⟩:=HP4.out.rd
     injection e12 with e12a _ e12b
     subst e12a e12b
     have HR4:=Aside0.mk hC12'
     have HO4:=Aside0.mk ho4
     have hs4:=HB4.out.below.size
     have hl4:(B9++be 4 (crcOf B9)).length+B12.length<=200000000:=by rw[List.length_append,be_length];omega
     have HL4:=Aside0.mk hl4
     have HS4:=Aside0.mk hs4
     clear hC12' ho4 hg4 HS HP4 hl4 hs4
     go_wp2_with ((with_reducible refine gate_builtin (b := .append) (xs := #[.tmp 132,.tmp 133]) rfl ?_);at_builtin;refine append_bytes w.heap.size rfl (.tmp 132) (.tmp 133) rfl v4 _ B12 A12 c12 rfl rfl HO4.out HR4.out HS4.out HL4.out ?_;intro v5 w5 ho5 hg5;have HO5:=Aside0.mk ho5;have HB5:=Aside0.mk (HB4.out.grw hg5 HO4.out);clear ho5 hg5)
     go_ret2
     refine⟨v5,rfl,?_,HB5.out.below⟩
     rw[HFL.out]
     exact HO5.out
end Go.Proofs.YtgpegjmbofgmmaaGreat.jou
