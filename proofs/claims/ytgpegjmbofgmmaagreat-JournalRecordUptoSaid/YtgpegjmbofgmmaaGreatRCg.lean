/- A part of the proof. No condition. -/
import Derived.Test.YtgpegjmbofgmmaaGreatRCb
import Derived.Test.YtgpegjmbofgmmaaGreatRJa
namespace Go.Proofs.YtgpegjmbofgmmaaGreat.jou
open Go.RowKit Go.Proofs.YtgpegjmbofgmmaaGreatW.PrintWords Go.Proofs.YtgpegjmbofgmmaaGreat.PJop Go.Cod
set_option linter.unusedVariables false
set_option linter.unusedSimpArgs false
theorem crc_tab:jouRun.crc=(List.range 256).map (fun i=>Value.int .u32 (.ofNat (step8 i))):=by kernel_rfl
theorem enter115 (args:Array Value) (w:World):(callFunc 115 args).run Tryz.prog w = .ok (.enter 115 args) w:=by
 simp only[callFunc,Sem.run_bind,run_program,Result.andThen_ok,Tryz.func115];rfl
set_option maxRecDepth 100000 in
open Go.Ab in
theorem table_any (w:World):Calls Tryz.prog 115 #[] w fun e W' => ∃t,e = .returned (.pointer (some ⟨t,0,none⟩))/\TB W' t/\w.heap.size<=t/\Below w.heap.size w W':=by
 have hcs:CallS Tryz.prog (fun _ _ _ _ => .fail ""):=fun f args h k hy=>by simp at hy
 obtain⟨v,h1,k1,k2⟩:=jouRun.crc_ok _ hcs [] emptyH (freshK jouRun.crc) (by kernel_rfl)
 unfold freshK at k1
 split at k1
 case h_2=>simp at k1
 rename_i b
 split at k1
 case h_2=>simp at k1
 rename_i x hx
 obtain⟨k3,_⟩:=bif'_fail k1
 have hxe:=bsame_eq k3
 subst hxe
 have hcell:(hOf h1).blks b=some (.cells jouRun.crc none):=hx
 have hr0:HRel (fun _=>none) (hOf emptyH) w:=by
  refine⟨by simp,fun i _=>rfl,by simp,by simp,?_⟩
  rintro i j im jm ⟨b,hb,_⟩
  have:(hOf emptyH).blks i=none:=rfl
  rw[this] at hb;simp at hb
 have hdead : ∀i,¬(hOf emptyH).live i:=by
  rintro i ⟨b,hb,_⟩
  have:(hOf emptyH).blks i=none:=rfl
  rw[this] at hb;simp at hb
 have hfull0:Full (fun _=>none) (hOf emptyH):=fun i hl=>absurd hl (hdead i)
 have hres:=k2 (fun _=>none) [] w .nil hr0 hfull0
 rw[enter115] at hres
 refine Calls.mono hres ?_
 rintro e w' ⟨v',rfl,φ1,q1,q2,q3⟩
 obtain⟨b',rfl,im,him,hb',hs⟩:=q1.ptr_inv
 obtain⟨arr,e,r1,r2,g1,g2⟩:=q2.cells b im _ none him hcell
 have hge:w.heap.size<=im.blk:=by
  rcases q3.new b im ⟨_,hcell,by simp⟩ him with h|⟨j,jm,hj,_⟩
  ·exact h
  ·exact absurd hj (hdead j)
 have hlow : ∀b,b<w.heap.size->w'.heap[b]?=w.heap[b]?:=fun b hb=>q3.frame b hb fun i im hl=>absurd hl (hdead i)
 subst hb'
 refine⟨im.blk,rfl,⟨blk_lt r1,fun m hm=>?_⟩,hge,⟨q3.os,q3.tape,q3.output,q3.size,fun i hi=>hlow i hi⟩⟩
 rw[blk_cell r1 m]
 obtain⟨u,hu,hvu⟩:=r2 m (.int .u32 (.ofNat (step8 m))) (by rw[crc_tab];simp[hm])
 rw[hvu.int_inv] at hu
 exact hu
theorem Sum_any (W:World) (A:Option Addr) (c:Nat) (ns:List Nat) (hC:Kd.C (Kd.int .u8) W A ns.length (ints ns)) (hb : ∀b∈ns,b<256) (hl:ns.length<=200000000) :
  Calls Tryz.prog 71 #[.slice A ns.length c] W fun e W'=>e = .returned (.int .u32 (crcOf ns:Nat))/\Below W.heap.size W W':=by
 have HC:=Aside0.mk hC
 have HB:=Aside0.mk hb
 clear hC hb
 go_enter Tryz.func71,Tryz.ntmps71
 go_wp2_with fail
 refine(table_any W).mono ?_
 rintro e w1 ⟨t,rfl,ht,htw,hb1⟩
 have HT:=Aside0.mk ht
 have HB1:=Aside0.mk hb1
 clear ht hb1
 go_wp2_with fail
 refine(sum_any w1 t A c ns HT.out (Kd.C_below HC.out HB1.out) HB.out hl).mono ?_
 rintro e w2 ⟨rfl,n,rfl⟩
 go_wp2
 go_ret
 exact⟨rfl,pw_below_drewN HB1.out n⟩
set_option maxHeartbeats 800000 in
theorem summed_any (W:World) (base t:Nat) (v:Value) (ns ms:List Nat) (A:Option Addr) (c:Nat) (hT:TB W t) (ho:OB W base v ns) (hC:Kd.C (Kd.int .u8) W A ms.length (ints ms)) (hb : ∀b∈ms,b<256) (hbase:base<=W.heap.size) (hl:ns.length<=100000000) (hl2:ms.length<=200000000) :
  Calls Tryz.prog 121 #[.pointer (some ⟨t,0,none⟩),v,.slice A ms.length c] W fun e W' => ∃v',e = .returned v'/\OB W' base v' (ns++be 4 (crcOf ms))/\Grw W W' v v':=by
 have HC:=Aside0.mk hC
 have HB:=Aside0.mk hb
 have HT:=Aside0.mk hT
 have HO:=Aside0.mk ho
 have hlt:=crcOf_lt hb
 clear hC hb hT ho
 go_enter Tryz.func121,Tryz.ntmps121
 go_wp2_with fail
 refine(sum_any W t A c ms HT.out HC.out HB.out hl2).mono ?_
 rintro e w1 ⟨rfl,n,rfl⟩
 have HO1:=Aside0.mk (Kd.R_drewN HO.out n)
 have hs:(W.drewN n).heap.size=W.heap.size:=rfl
 go_wp2_with fail
 refine(numbered_any (W.drewN n) base 4 (crcOf ms) v ns (by omega) (by omega) HO1.out (by rw[hs];exact hbase) hl).mono ?_
 rintro e w2 ⟨v',rfl,h1,h2⟩
 have H1:=Aside0.mk h1
 have H2:=Aside0.mk ((Grw.of_below (pw_below_drewN (Below.refl _ _) n) v).trans h2)
 clear h1 h2
 go_wp2
 go_ret
 exact⟨_,rfl,H1.out,H2.out⟩
end Go.Proofs.YtgpegjmbofgmmaaGreat.jou
