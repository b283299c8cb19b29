/- A part of the proof. No condition. -/
import Derived.Test.YtgpegjmbofgmmaaGreatRLa
import Derived.Test.YtgpegjmbofgmmaaGreatRFf
namespace Go.Proofs.YtgpegjmbofgmmaaGreat.jou
open Go.RowKit Go.Proofs.YtgpegjmbofgmmaaGreatW.PrintWords Go.Proofs.YtgpegjmbofgmmaaGreatW.PrintLast Go.Proofs.YtgpegjmbofgmmaaGreat.PJop Go.Cod
set_option linter.unusedVariables false
set_option linter.unusedSimpArgs false
set_option maxHeartbeats 4000000 in
set_option maxRecDepth 100000 in
theorem same_13 (K:Nat) (w:World) (kind node x y sp:Int) (AP AQ:Option Addr) (cP cQ:Nat) (l:List S58) (AN AM:Option Addr) (cN cM:Nat) (xs:List Int) (AB AW:Option Addr) (cB cW:Nat) (zs:List Int) (r0 r1 r2 r3:Int) (hP:Kd.C k58 w AP l.length l) (hN:Kd.C (Kd.int .i64) w AN xs.length xs) (hB:Kd.C (Kd.int .u32) w AB zs.length zs) (hQ:Kd.C k58 w AQ l.length l) (hM:Kd.C (Kd.int .i64) w AM xs.length xs) (hW:Kd.C (Kd.int .u32) w AW zs.length zs) (k1:l.length<=cP) (k2:xs.length<=cN) (k3:zs.length<=cB) (k4:l.length<=cQ) (k5:xs.length<=cM) (k6:zs.length<=cW)
  (f1:halidehelp_Ints.f K xs xs=some true) (f2:halidehelp_Words.f K zs zs=some true) (f3:halidehelp_Picture.f K sp l sp l=some true) :
  Calls Tryz.prog 13 #[.agg #[.int .i64 kind,.int .i64 node,.int .i64 x,.int .i64 y,.int .i64 sp,.slice AQ l.length cQ,.slice AM xs.length cM,.slice AW zs.length cW,.int .i64 r0,.int .i64 r1,.int .i64 r2,.int .i64 r3],.agg #[.int .i64 kind,.int .i64 node,.int .i64 x,.int .i64 y,.int .i64 sp,.slice AP l.length cP,.slice AN xs.length cN,.slice AB zs.length cB,.int .i64 r0,.int .i64 r1,.int .i64 r2,.int .i64 r3]] w fun e W'=>e = .returned (.bool true)/\Below w.heap.size w W':=by
 have HB0:=Aside0.mk (below_alloc (below_alloc (Below.refl w.heap.size w) (.cells #[.int .i64 kind,.int .i64 node,.int .i64 x,.int .i64 y,.int .i64 sp,.slice AQ l.length cQ,.slice AM xs.length cM,.slice AW zs.length cW,.int .i64 r0,.int .i64 r1,.int .i64 r2,.int .i64 r3] 31 (0,0))) (.cells #[.int .i64 kind,.int .i64 node,.int .i64 x,.int .i64 y,.int .i64 sp,.slice AP l.length cP,.slice AN xs.length cN,.slice AB zs.length cB,.int .i64 r0,.int .i64 r1,.int .i64 r2,.int .i64 r3] 31 (0,0)))
 have H1:=Aside0.mk (fun(W:World) (hb:Below w.heap.size w W)=>halidehelp_Ints.calls K AM cM xs AN cN xs true W (Kd.C_below hM hb) k5 (Kd.C_below hN hb) k2 f1)
 have H2:=Aside0.mk (fun(W:World) (hb:Below w.heap.size w W)=>halidehelp_Words.calls K AW cW zs AB cB zs true W (Kd.C_below hW hb) k6 (Kd.C_below hB hb) k3 f2)
 have H3:=Aside0.mk (fun(W:World) (hb:Below w.heap.size w W)=>halidehelp_Picture.calls K sp AQ cQ l sp AP cP l true W (Kd.C_below hQ hb) k4 (Kd.C_below hP hb) k1 f3)
 clear hP hN hB hQ hM hW k1 k2 k3 k4 k5 k6 f1 f2 f3
 have e0:(kind==kind)=true:=by simp
 have e1:(node==node)=true:=by simp
 have e2:(x==x)=true:=by simp
 have e3:(y==y)=true:=by simp
 have e4:(r0==r0)=true:=by simp
 have e5:(r1==r1)=true:=by simp
 have e6:(r2==r2)=true:=by simp
 have e7:(r3==r3)=true:=by simp
 go_enter Tryz.func13,Tryz.ntmps13
 go_wp2_with fail
 refine(H1.out _ HB0.out).mono ?_
 rintro e w1 ⟨rfl,n1,rfl⟩
 have HB1:=Aside0.mk (pw_below_drewN HB0.out n1)
 go_wp2_with fail
 refine(H2.out _ (pw_below_drewN HB0.out _)).mono ?_
 rintro e w2 ⟨rfl,n2,rfl⟩
 have HB2:=Aside0.mk (pw_below_drewN HB1.out n2)
 go_wp2_with fail
 refine(H3.out _ (pw_below_drewN HB0.out _)).mono ?_
 rintro e w3 ⟨rfl,hb⟩
 have HB3:=Aside0.mk (below_step (pw_below_drewN HB0.out _) hb)
 clear hb
 go_wp2
 go_ret
 exact⟨rfl,HB3.out⟩
end Go.Proofs.YtgpegjmbofgmmaaGreat.jou
namespace Go.Proofs.YtgpegjmbofgmmaaGreat.jou
open Go.RowKit Go.Proofs.YtgpegjmbofgmmaaGreatW.PrintWords Go.Proofs.YtgpegjmbofgmmaaGreatW.PrintLast Go.Proofs.YtgpegjmbofgmmaaGreat.PJop Go.Cod
set_option linter.unusedVariables false
set_option linter.unusedSimpArgs false
def KnownB:Prop := ∀w:World,Calls Tryz.prog 7 #[] w fun e w'=>e = .returned (.bool true)/\Below w.heap.size w w'
set_option maxHeartbeats 4000000 in
set_option maxRecDepth 100000 in
theorem law_dark (hk:KnownB) (w:World) (kind node x y sp:Int) (AP:Option Addr) (cP:Nat) (l:List S58) (AN:Option Addr) (cN:Nat) (xs:List Int) (AB:Option Addr) (cB:Nat) (zs:List Int) (r0 r1 r2 r3:Int)
  (hf : ∀(W:World) (g:Nat),Below w.heap.size w W->W.heap[g]?=some (.cells #[.int .i64 kind,.int .i64 node,.int .i64 x,.int .i64 y,.int .i64 sp,.slice AP l.length cP,.slice AN xs.length cN,.slice AB zs.length cB,.int .i64 r0,.int .i64 r1,.int .i64 r2,.int .i64 r3] 31 (0,0))->Calls Tryz.prog 8 #[.slice none 0 0,.slice (some ⟨g,0,none⟩) 1 1] W fun e W'=>e = .returned (.bool false)/\Below W.heap.size W W') :
  Calls Tryz.prog 4 #[.agg #[.int .i64 kind,.int .i64 node,.int .i64 x,.int .i64 y,.int .i64 sp,.slice AP l.length cP,.slice AN xs.length cN,.slice AB zs.length cB,.int .i64 r0,.int .i64 r1,.int .i64 r2,.int .i64 r3]] w fun e w'=>e = .returned (.bool true)/\Below w.heap.size w w':=by
 have HF:=Aside0.mk hf
 clear hf
 go_enter Tryz.func4,Tryz.ntmps4
 go_wp2_with fail
 refine(hk _).mono ?_
 rintro e w1 ⟨rfl,hb⟩
 have BK:=Aside0.mk (blk_below (blk_new w (.cells #[.int .i64 kind,.int .i64 node,.int .i64 x,.int .i64 y,.int .i64 sp,.slice AP l.length cP,.slice AN xs.length cN,.slice AB zs.length cB,.int .i64 r0,.int .i64 r1,.int .i64 r2,.int .i64 r3] 31 (0,0))) hb)
 have HB:=Aside0.mk (below_step (below_alloc (Below.refl w.heap.size w) (.cells #[.int .i64 kind,.int .i64 node,.int .i64 x,.int .i64 y,.int .i64 sp,.slice AP l.length cP,.slice AN xs.length cN,.slice AB zs.length cB,.int .i64 r0,.int .i64 r1,.int .i64 r2,.int .i64 r3] 31 (0,0))) hb)
 clear hb
 have ca0:w1.cell? ⟨w.heap.size,0,none⟩=some (.int .i64 kind):=(blk_cell BK.out 0).trans rfl
 have ca1:w1.cell? ⟨w.heap.size,1,none⟩=some (.int .i64 node):=(blk_cell BK.out 1).trans rfl
 have ca2:w1.cell? ⟨w.heap.size,2,none⟩=some (.int .i64 x):=(blk_cell BK.out 2).trans rfl
 have ca3:w1.cell? ⟨w.heap.size,3,none⟩=some (.int .i64 y):=(blk_cell BK.out 3).trans rfl
 have ca4:w1.cell? ⟨w.heap.size,4,none⟩=some (.int .i64 sp):=(blk_cell BK.out 4).trans rfl
 have ca5:w1.cell? ⟨w.heap.size,5,none⟩=some (.slice AP l.length cP):=(blk_cell BK.out 5).trans rfl
 have ca6:w1.cell? ⟨w.heap.size,6,none⟩=some (.slice AN xs.length cN):=(blk_cell BK.out 6).trans rfl
 have ca7:w1.cell? ⟨w.heap.size,7,none⟩=some (.slice AB zs.length cB):=(blk_cell BK.out 7).trans rfl
 have ca8:w1.cell? ⟨w.heap.size,8,none⟩=some (.int .i64 r0):=(blk_cell BK.out 8).trans rfl
 have ca9:w1.cell? ⟨w.heap.size,9,none⟩=some (.int .i64 r1):=(blk_cell BK.out 9).trans rfl
 have ca10:w1.cell? ⟨w.heap.size,10,none⟩=some (.int .i64 r2):=(blk_cell BK.out 10).trans rfl
 have ca11:w1.cell? ⟨w.heap.size,11,none⟩=some (.int .i64 r3):=(blk_cell BK.out 11).trans rfl
 go_wp2_with fail
 have HB2:=Aside0.mk (below_alloc HB.out (.cells #[.int .i64 kind,.int .i64 node,.int .i64 x,.int .i64 y,.int .i64 sp,.slice AP l.length cP,.slice AN xs.length cN,.slice AB zs.length cB,.int .i64 r0,.int .i64 r1,.int .i64 r2,.int .i64 r3] 31 (0,0)))
 refine(HF.out (w1.alloc (.cells #[.int .i64 kind,.int .i64 node,.int .i64 x,.int .i64 y,.int .i64 sp,.slice AP l.length cP,.slice AN xs.length cN,.slice AB zs.length cB,.int .i64 r0,.int .i64 r1,.int .i64 r2,.int .i64 r3] 31 (0,0))) w1.heap.size HB2.out (blk_new w1 (.cells #[.int .i64 kind,.int .i64 node,.int .i64 x,.int .i64 y,.int .i64 sp,.slice AP l.length cP,.slice AN xs.length cN,.slice AB zs.length cB,.int .i64 r0,.int .i64 r1,.int .i64 r2,.int .i64 r3] 31 (0,0)))).mono ?_
 rintro e w2 ⟨rfl,hb⟩
 have HB3:=Aside0.mk (below_step HB2.out hb)
 clear hb ca0 ca1 ca2 ca3 ca4 ca5 ca6 ca7 ca8 ca9 ca10 ca11
 go_wp2
 go_ret
 exact⟨rfl,HB3.out⟩
set_option maxHeartbeats 4000000 in
set_option maxRecDepth 100000 in
theorem law_light (hk:KnownB) (K:Nat) (w:World) (kind node x y sp:Int) (AP:Option Addr) (cP:Nat) (l:List S58) (AN:Option Addr) (cN:Nat) (xs:List Int) (AB:Option Addr) (cB:Nat) (zs:List Int) (r0 r1 r2 r3:Int)
  (hP:Kd.C k58 w AP l.length l) (hN:Kd.C (Kd.int .i64) w AN xs.length xs) (hB:Kd.C (Kd.int .u32) w AB zs.length zs) (k1:l.length<=cP) (k2:xs.length<=cN) (k3:zs.length<=cB) (hl:l.length<=2000000) (hls : ∀j:Nat,j<l.length->(rd_T58 l j).f2.length<=2000000) (hxl:xs.length<=2000000) (hzl:zs.length<=2000000)
  (hf : ∀(W:World) (g:Nat),Below w.heap.size w W->W.heap[g]?=some (.cells #[.int .i64 kind,.int .i64 node,.int .i64 x,.int .i64 y,.int .i64 sp,.slice AP l.length cP,.slice AN xs.length cN,.slice AB zs.length cB,.int .i64 r0,.int .i64 r1,.int .i64 r2,.int .i64 r3] 31 (0,0))->Calls Tryz.prog 8 #[.slice none 0 0,.slice (some ⟨g,0,none⟩) 1 1] W fun e W'=>e = .returned (.bool true)/\Below W.heap.size W W')
  (L:List Nat) (er:Int) (hL:L.length<=60000000)
  (href : ∀(W:World),Below w.heap.size w W->Calls Tryz.prog 10 #[.agg #[.int .i64 kind,.int .i64 node,.int .i64 x,.int .i64 y,.int .i64 sp,.slice AP l.length cP,.slice AN xs.length cN,.slice AB zs.length cB,.int .i64 r0,.int .i64 r1,.int .i64 r2,.int .i64 r3]] W fun e W' => ∃v,e = .returned (.tuple #[v,.int .i64 er])/\OB W' W.heap.size v L/\Below W.heap.size W W')
  (hrec : ∀(W:World) (AQ:Option Addr) (cQ:Nat) (AM:Option Addr) (cM:Nat) (AW:Option Addr) (cW:Nat),Kd.C k58 W AQ l.length l->l.length<=cQ->Kd.C (Kd.int .i64) W AM xs.length xs->Kd.C (Kd.int .u32) W AW zs.length zs->Calls Tryz.prog 11 #[.agg #[.int .i64 kind,.int .i64 node,.int .i64 x,.int .i64 y,.int .i64 sp,.slice AQ l.length cQ,.slice AM xs.length cM,.slice AW zs.length cW,.int .i64 r0,.int .i64 r1,.int .i64 r2,.int .i64 r3]] W fun e W' => ∃v,e = .returned (.tuple #[v,.int .i64 er])/\OB W' W.heap.size v L/\Below W.heap.size W W')
  (f0:halidelaw25_sameBytes.f K (ints L) (ints L)=some true) (f1:halidehelp_Ints.f K xs xs=some true) (f2:halidehelp_Words.f K zs zs=some true) (f3:halidehelp_Picture.f K sp l sp l=some true) :
  Calls Tryz.prog 4 #[.agg #[.int .i64 kind,.int .i64 node,.int .i64 x,.int .i64 y,.int .i64 sp,.slice AP l.length cP,.slice AN xs.length cN,.slice AB zs.length cB,.int .i64 r0,.int .i64 r1,.int .i64 r2,.int .i64 r3]] w fun e w'=>e = .returned (.bool true)/\Below w.heap.size w w':=by
 have HF:=Aside0.mk hf
 have HREF:=Aside0.mk href
 have HREC:=Aside0.mk hrec
 have HP:=Aside0.mk hP
 have HN:=Aside0.mk hN
 have HZ:=Aside0.mk hB
 have HLS:=Aside0.mk hls
 have F0:=Aside0.mk f0
 have F1:=Aside0.mk f1
 have F2:=Aside0.mk f2
 have F3:=Aside0.mk f3
 clear hf href hrec hP hN hB hls f0 f1 f2 f3
 go_enter Tryz.func4,Tryz.ntmps4
 go_wp2_with fail
 refine(hk _).mono ?_
 rintro e w1 ⟨rfl,hb⟩
 have BK:=Aside0.mk (blk_below (blk_new w (.cells #[.int .i64 kind,.int .i64 node,.int .i64 x,.int .i64 y,.int .i64 sp,.slice AP l.length cP,.slice AN xs.length cN,.slice AB zs.length cB,.int .i64 r0,.int .i64 r1,.int .i64 r2,.int .i64 r3] 31 (0,0))) hb)
 have HB:=Aside0.mk (below_step (below_alloc (Below.refl w.heap.size w) (.cells #[.int .i64 kind,.int .i64 node,.int .i64 x,.int .i64 y,.int .i64 sp,.slice AP l.length cP,.slice AN xs.length cN,.slice AB zs.length cB,.int .i64 r0,.int .i64 r1,.int .i64 r2,.int .i64 r3] 31 (0,0))) hb)
 clear hb
 have ca0:w1.cell? ⟨w.heap.size,0,none⟩=some (.int .i64 kind):=(blk_cell BK.out 0).trans rfl
 have ca1:w1.cell? ⟨w.heap.size,1,none⟩=some (.int .i64 node):=(blk_cell BK.out 1).trans rfl
 have ca2:w1.cell? ⟨w.heap.size,2,none⟩=some (.int .i64 x):=(blk_cell BK.out 2).trans rfl
 have ca3:w1.cell? ⟨w.heap.size,3,none⟩=some (.int .i64 y):=(blk_cell BK.out 3).trans rfl
 have ca4:w1.cell? ⟨w.heap.size,4,none⟩=some (.int .i64 sp):=(blk_cell BK.out 4).trans rfl
 have ca5:w1.cell? ⟨w.heap.size,5,none⟩=some (.slice AP l.length cP):=(blk_cell BK.out 5).trans rfl
 have ca6:w1.cell? ⟨w.heap.size,6,none⟩=some (.slice AN xs.length cN):=(blk_cell BK.out 6).trans rfl
 have ca7:w1.cell? ⟨w.heap.size,7,none⟩=some (.slice AB zs.length cB):=(blk_cell BK.out 7).trans rfl
 have ca8:w1.cell? ⟨w.heap.size,8,none⟩=some (.int .i64 r0):=(blk_cell BK.out 8).trans rfl
 have ca9:w1.cell? ⟨w.heap.size,9,none⟩=some (.int .i64 r1):=(blk_cell BK.out 9).trans rfl
 have ca10:w1.cell? ⟨w.heap.size,10,none⟩=some (.int .i64 r2):=(blk_cell BK.out 10).trans rfl
 have ca11:w1.cell? ⟨w.heap.size,11,none⟩=some (.int .i64 r3):=(blk_cell BK.out 11).trans rfl
 go_wp2_with fail
 have HB2:=Aside0.mk (below_alloc HB.out (.cells #[.int .i64 kind,.int .i64 node,.int .i64 x,.int .i64 y,.int .i64 sp,.slice AP l.length cP,.slice AN xs.length cN,.slice AB zs.length cB,.int .i64 r0,.int .i64 r1,.int .i64 r2,.int .i64 r3] 31 (0,0)))
 refine(HF.out (w1.alloc (.cells #[.int .i64 kind,.int .i64 node,.int .i64 x,.int .i64 y,.int .i64 sp,.slice AP l.length cP,.slice AN xs.length cN,.slice AB zs.length cB,.int .i64 r0,.int .i64 r1,.int .i64 r2,.int .i64 r3] 31 (0,0))) w1.heap.size HB2.out (blk_new w1 (.cells #[.int .i64 kind,.int .i64 node,.int .i64 x,.int .i64 y,.int .i64 sp,.slice AP l.length cP,.slice AN xs.length cN,.slice AB zs.length cB,.int .i64 r0,.int .i64 r1,.int .i64 r2,.int .i64 r3] 31 (0,0)))).mono ?_
 rintro e w2 ⟨rfl,hb⟩
 have BK2:=Aside0.mk (blk_below (blk_alloc BK.out (.cells #[.int .i64 kind,.int .i64 node,.int .i64 x,.int .i64 y,.int .i64 sp,.slice AP l.length cP,.slice AN xs.length cN,.slice AB zs.length cB,.int .i64 r0,.int .i64 r1,.int .i64 r2,.int .i64 r3] 31 (0,0))) hb)
 have HB3:=Aside0.mk (below_step HB2.out hb)
 clear hb ca0 ca1 ca2 ca3 ca4 ca5 ca6 ca7 ca8 ca9 ca10 ca11 BK HB HB2 HF
 have ca0:w2.cell? ⟨w.heap.size,0,none⟩=some (.int .i64 kind):=(blk_cell BK2.out 0).trans rfl
 have ca1:w2.cell? ⟨w.heap.size,1,none⟩=some (.int .i64 node):=(blk_cell BK2.out 1).trans rfl
 have ca2:w2.cell? ⟨w.heap.size,2,none⟩=some (.int .i64 x):=(blk_cell BK2.out 2).trans rfl
 have ca3:w2.cell? ⟨w.heap.size,3,none⟩=some (.int .i64 y):=(blk_cell BK2.out 3).trans rfl
 have ca4:w2.cell? ⟨w.heap.size,4,none⟩=some (.int .i64 sp):=(blk_cell BK2.out 4).trans rfl
 have ca5:w2.cell? ⟨w.heap.size,5,none⟩=some (.slice AP l.length cP):=(blk_cell BK2.out 5).trans rfl
 have ca6:w2.cell? ⟨w.heap.size,6,none⟩=some (.slice AN xs.length cN):=(blk_cell BK2.out 6).trans rfl
 have ca7:w2.cell? ⟨w.heap.size,7,none⟩=some (.slice AB zs.length cB):=(blk_cell BK2.out 7).trans rfl
 have ca8:w2.cell? ⟨w.heap.size,8,none⟩=some (.int .i64 r0):=(blk_cell BK2.out 8).trans rfl
 have ca9:w2.cell? ⟨w.heap.size,9,none⟩=some (.int .i64 r1):=(blk_cell BK2.out 9).trans rfl
 have ca10:w2.cell? ⟨w.heap.size,10,none⟩=some (.int .i64 r2):=(blk_cell BK2.out 10).trans rfl
 have ca11:w2.cell? ⟨w.heap.size,11,none⟩=some (.int .i64 r3):=(blk_cell BK2.out 11).trans rfl
 go_wp2_with fail
 refine(copied_9 w2 kind node x y sp AP cP l AN cN xs AB cB zs r0 r1 r2 r3 (Kd.C_below HP.out HB3.out) (Kd.C_below HN.out HB3.out) (Kd.C_below HZ.out HB3.out) hl HLS.out hxl hzl).mono ?_
 rintro e w3 ⟨AQ,cQ,AM,cM,AW,cW,rfl,⟨hq,kq⟩,⟨hm,km⟩,⟨hw,kw⟩,hb⟩
 have BK4:=Aside0.mk (blk_alloc (blk_below BK2.out hb) (.cells #[.int .i64 kind,.int .i64 node,.int .i64 x,.int .i64 y,.int .i64 sp,.slice AQ l.length cQ,.slice AM xs.length cM,.slice AW zs.length cW,.int .i64 r0,.int .i64 r1,.int .i64 r2,.int .i64 r3] 31 (0,0)))
 have BC4:=Aside0.mk (blk_new w3 (.cells #[.int .i64 kind,.int .i64 node,.int .i64 x,.int .i64 y,.int .i64 sp,.slice AQ l.length cQ,.slice AM xs.length cM,.slice AW zs.length cW,.int .i64 r0,.int .i64 r1,.int .i64 r2,.int .i64 r3] 31 (0,0)))
 have HB4:=Aside0.mk (below_alloc (below_step HB3.out hb) (.cells #[.int .i64 kind,.int .i64 node,.int .i64 x,.int .i64 y,.int .i64 sp,.slice AQ l.length cQ,.slice AM xs.length cM,.slice AW zs.length cW,.int .i64 r0,.int .i64 r1,.int .i64 r2,.int .i64 r3] 31 (0,0)))
 have HQ4:=Aside0.mk (Kd.C_alloc hq (.cells #[.int .i64 kind,.int .i64 node,.int .i64 x,.int .i64 y,.int .i64 sp,.slice AQ l.length cQ,.slice AM xs.length cM,.slice AW zs.length cW,.int .i64 r0,.int .i64 r1,.int .i64 r2,.int .i64 r3] 31 (0,0)))
 have HM4:=Aside0.mk (Kd.C_alloc hm (.cells #[.int .i64 kind,.int .i64 node,.int .i64 x,.int .i64 y,.int .i64 sp,.slice AQ l.length cQ,.slice AM xs.length cM,.slice AW zs.length cW,.int .i64 r0,.int .i64 r1,.int .i64 r2,.int .i64 r3] 31 (0,0)))
 have HW4:=Aside0.mk (Kd.C_alloc hw (.cells #[.int .i64 kind,.int .i64 node,.int .i64 x,.int .i64 y,.int .i64 sp,.slice AQ l.length cQ,.slice AM xs.length cM,.slice AW zs.length cW,.int .i64 r0,.int .i64 r1,.int .i64 r2,.int .i64 r3] 31 (0,0)))
 clear hb hq hm hw ca0 ca1 ca2 ca3 ca4 ca5 ca6 ca7 ca8 ca9 ca10 ca11 BK2 HB3
 have q4:=blk_cell BK4.out
 go_wp2_with fail
 clear q4
 generalize w3.heap.size=g1 at BC4 ⊢
 generalize w3.alloc (.cells #[.int .i64 kind,.int .i64 node,.int .i64 x,.int .i64 y,.int .i64 sp,.slice AQ l.length cQ,.slice AM xs.length cM,.slice AW zs.length cW,.int .i64 r0,.int .i64 r1,.int .i64 r2,.int .i64 r3] 31 (0,0))=w4 at BK4 BC4 HB4 HQ4 HM4 HW4 ⊢
 refine(HREF.out w4 HB4.out).mono ?_
 rintro e w5 ⟨vw,rfl,ho,hb⟩
 have BK5:=Aside0.mk (blk_below BK4.out hb)
 have BC5:=Aside0.mk (blk_below BC4.out hb)
 have HB5:=Aside0.mk (below_step HB4.out hb)
 have HQ5:=Aside0.mk (Kd.C_below HQ4.out hb)
 have HM5:=Aside0.mk (Kd.C_below HM4.out hb)
 have HW5:=Aside0.mk (Kd.C_below HW4.out hb)
 obtain⟨Aw,cw,rfl,hcw,hCw⟩:=ho.rd
 have HCW:=Aside0.mk hCw
 clear ho hb hCw BK4 BC4 HB4 HQ4 HM4 HW4 HREF
 go_wp2_with fail
 have HI:=Aside0.mk (Below.refl w5.heap.size w5)
 go_loopw [6] (fun v6 wr => ∃i:Nat,i<=2/\v6 = .int .i64 i/\Aside0 (Below w5.heap.size w5 wr)) (fun v6 _=>2-(intOf v6).toNat)
 case atStart=>exact⟨0,Nat.zero_le _,rfl,HI⟩
 case round =>
  clear HI
  obtain⟨i,hi,rfl,HI⟩:=hrel
  by_cases hlt:i<2
  ·have b1:decide ((i:Int)<2)=true:=decide_eq_true (by omega)
   have BCr:=Aside0.mk (blk_below BC5.out HI.out)
   have BKr:=Aside0.mk (blk_below BK5.out HI.out)
   have cb0:wr.cell? ⟨g1,0,none⟩=some (.int .i64 kind):=(blk_cell BCr.out 0).trans rfl
   have cb1:wr.cell? ⟨g1,1,none⟩=some (.int .i64 node):=(blk_cell BCr.out 1).trans rfl
   have cb2:wr.cell? ⟨g1,2,none⟩=some (.int .i64 x):=(blk_cell BCr.out 2).trans rfl
   have cb3:wr.cell? ⟨g1,3,none⟩=some (.int .i64 y):=(blk_cell BCr.out 3).trans rfl
   have cb4:wr.cell? ⟨g1,4,none⟩=some (.int .i64 sp):=(blk_cell BCr.out 4).trans rfl
   have cb5:wr.cell? ⟨g1,5,none⟩=some (.slice AQ l.length cQ):=(blk_cell BCr.out 5).trans rfl
   have cb6:wr.cell? ⟨g1,6,none⟩=some (.slice AM xs.length cM):=(blk_cell BCr.out 6).trans rfl
   have cb7:wr.cell? ⟨g1,7,none⟩=some (.slice AW zs.length cW):=(blk_cell BCr.out 7).trans rfl
   have cb8:wr.cell? ⟨g1,8,none⟩=some (.int .i64 r0):=(blk_cell BCr.out 8).trans rfl
   have cb9:wr.cell? ⟨g1,9,none⟩=some (.int .i64 r1):=(blk_cell BCr.out 9).trans rfl
   have cb10:wr.cell? ⟨g1,10,none⟩=some (.int .i64 r2):=(blk_cell BCr.out 10).trans rfl
   have cb11:wr.cell? ⟨g1,11,none⟩=some (.int .i64 r3):=(blk_cell BCr.out 11).trans rfl
   go_wp2_with fail
   refine(HREC.out wr AQ cQ AM cM AW cW (Kd.C_below HQ5.out HI.out) kq (Kd.C_below HM5.out HI.out) (Kd.C_below HW5.out HI.out)).mono ?_
   rintro e w6 ⟨vb,rfl,hob,hb6⟩
   obtain⟨Ab,cb,rfl,hcb,hCb⟩:=hob.rd
   have HO6:=Aside0.mk hob
   have HB6:=Aside0.mk hb6
   have hS:=halidelaw25_sameBytes.calls K Ab cb (ints L) Aw cw (ints L) true w6 (by rw[ints_length];exact hCb) (by rw[ints_length];exact hcb) (by rw[ints_length];exact Kd.C_below HCW.out (below_step HI.out hb6)) (by rw[ints_length];exact hcw) F0.out
   rw[ints_length] at hS
   have HS:=Aside0.mk hS
   clear hob hb6 hCb hcb hS cb0 cb1 cb2 cb3 cb4 cb5 cb6 cb7 cb8 cb9 cb10 cb11
   go_wp2_with fail
   refine HS.out.mono ?_
   rintro e w7 ⟨rfl,n7,rfl⟩
   have HO7:=Aside0.mk (Kd.R_drewN HO6.out n7)
   have HB7:=Aside0.mk (pw_below_drewN HB6.out n7)
   clear HS HO6 HB6
   generalize w6.drewN n7=w7 at HO7 HB7 ⊢
   have BC7:=Aside0.mk (blk_below BCr.out HB7.out)
   have BK7:=Aside0.mk (blk_below BKr.out HB7.out)
   have H57:=Aside0.mk (below_step HI.out HB7.out)
   have H07:=Aside0.mk (below_step HB5.out H57.out)
   have e9:(er !=er)=false:=by simp
   have ca0:w7.cell? ⟨w.heap.size,0,none⟩=some (.int .i64 kind):=(blk_cell BK7.out 0).trans rfl
   have ca1:w7.cell? ⟨w.heap.size,1,none⟩=some (.int .i64 node):=(blk_cell BK7.out 1).trans rfl
   have ca2:w7.cell? ⟨w.heap.size,2,none⟩=some (.int .i64 x):=(blk_cell BK7.out 2).trans rfl
   have ca3:w7.cell? ⟨w.heap.size,3,none⟩=some (.int .i64 y):=(blk_cell BK7.out 3).trans rfl
   have ca4:w7.cell? ⟨w.heap.size,4,none⟩=some (.int .i64 sp):=(blk_cell BK7.out 4).trans rfl
   have ca5:w7.cell? ⟨w.heap.size,5,none⟩=some (.slice AP l.length cP):=(blk_cell BK7.out 5).trans rfl
   have ca6:w7.cell? ⟨w.heap.size,6,none⟩=some (.slice AN xs.length cN):=(blk_cell BK7.out 6).trans rfl
   have ca7:w7.cell? ⟨w.heap.size,7,none⟩=some (.slice AB zs.length cB):=(blk_cell BK7.out 7).trans rfl
   have ca8:w7.cell? ⟨w.heap.size,8,none⟩=some (.int .i64 r0):=(blk_cell BK7.out 8).trans rfl
   have ca9:w7.cell? ⟨w.heap.size,9,none⟩=some (.int .i64 r1):=(blk_cell BK7.out 9).trans rfl
   have ca10:w7.cell? ⟨w.heap.size,10,none⟩=some (.int .i64 r2):=(blk_cell BK7.out 10).trans rfl
   have ca11:w7.cell? ⟨w.heap.size,11,none⟩=some (.int .i64 r3):=(blk_cell BK7.out 11).trans rfl
   have cb0:w7.cell? ⟨g1,0,none⟩=some (.int .i64 kind):=(blk_cell BC7.out 0).trans rfl
   have cb1:w7.cell? ⟨g1,1,none⟩=some (.int .i64 node):=(blk_cell BC7.out 1).trans rfl
   have cb2:w7.cell? ⟨g1,2,none⟩=some (.int .i64 x):=(blk_cell BC7.out 2).trans rfl
   have cb3:w7.cell? ⟨g1,3,none⟩=some (.int .i64 y):=(blk_cell BC7.out 3).trans rfl
   have cb4:w7.cell? ⟨g1,4,none⟩=some (.int .i64 sp):=(blk_cell BC7.out 4).trans rfl
   have cb5:w7.cell? ⟨g1,5,none⟩=some (.slice AQ l.length cQ):=(blk_cell BC7.out 5).trans rfl
   have cb6:w7.cell? ⟨g1,6,none⟩=some (.slice AM xs.length cM):=(blk_cell BC7.out 6).trans rfl
   have cb7:w7.cell? ⟨g1,7,none⟩=some (.slice AW zs.length cW):=(blk_cell BC7.out 7).trans rfl
   have cb8:w7.cell? ⟨g1,8,none⟩=some (.int .i64 r0):=(blk_cell BC7.out 8).trans rfl
   have cb9:w7.cell? ⟨g1,9,none⟩=some (.int .i64 r1):=(blk_cell BC7.out 9).trans rfl
   have cb10:w7.cell? ⟨g1,10,none⟩=some (.int .i64 r2):=(blk_cell BC7.out 10).trans rfl
   have cb11:w7.cell? ⟨g1,11,none⟩=some (.int .i64 r3):=(blk_cell BC7.out 11).trans rfl
   go_wp2_with fail
   refine(same_13 K w7 kind node x y sp AP AQ cP cQ l AN AM cN cM xs AB AW cB cW zs r0 r1 r2 r3 (Kd.C_below HP.out H07.out) (Kd.C_below HN.out H07.out) (Kd.C_below HZ.out H07.out) (Kd.C_below HQ5.out H57.out) (Kd.C_below HM5.out H57.out) (Kd.C_below HW5.out H57.out) k1 k2 k3 kq km kw F1.out F2.out F3.out).mono ?_
   rintro e w8 ⟨rfl,hb8⟩
   have HO8:=Aside0.mk (Kd.R_below HO7.out hb8)
   have HB8:=Aside0.mk (below_step HB7.out hb8)
   clear hb8 HO7 HB7 BC7 BK7 H57 H07 ca0 ca1 ca2 ca3 ca4 ca5 ca6 ca7 ca8 ca9 ca10 ca11 cb0 cb1 cb2 cb3 cb4 cb5 cb6 cb7 cb8 cb9 cb10 cb11
   have hown:=Kd.own_of_R HO8.out
   rw[ints_length] at hown
   have HOW:=Aside0.mk (show w8.ownsRow wr.heap.size 5 1 (.slice Ab L.length cb) L.length (nums .u8 (ints L)) from hown)
   clear hown HO8
   go_wp2_with fail
   go_loopw [9] (fun v9 wx => ∃k:Nat,k<=L.length/\v9 = .int .i64 k /\ ∃ms:List Int,Aside0 (wx.ownsRow wr.heap.size 5 1 (.slice Ab L.length cb) L.length (nums .u8 ms))/\Aside0 (Below wr.heap.size wr wx)) (fun v9 _=>L.length-(intOf v9).toNat)
   case atStart=>exact⟨0,Nat.zero_le _,rfl,_,HOW,HB8⟩
   case round =>
    clear HOW HB8
    obtain⟨k,hk,rfl,ms,HOW,HBX⟩:=hrel
    by_cases hkl:k<L.length
    ·have b2:decide ((k:Int)<(L.length:Int))=true:=decide_eq_true (by omega)
     obtain⟨g,cap,e⟩:=Joins.ownsRow_form HOW.out (by omega)
     injection e with ea en eb
     subst ea eb
     clear en
     have hgb:=own_base HOW.out g rfl
     obtain⟨h1,h2⟩:=own_at HOW.out ((k:Nat):Int) (by omega) (by omega)
     rw[Int.toNat_natCast] at h1 h2
     have p1:(0:Int)<=k:=by omega
     have H3:=Aside0.mk (own_store HOW.out ((k:Nat):Int) 238).1
     rw[Int.toNat_natCast] at H3
     have H4:=Aside0.mk (HBX.out.setCell (p:=⟨g,k,none⟩) hgb (.int .u8 238))
     clear HOW HBX hgb
     go_wp2
     go_roundw
     case rel=>exact⟨k+1,by omega,by go_num,_,H3,H4⟩
     case measure=>simp[intOf];omega
    ·obtain rfl:k=L.length:=by omega
     have H6:=Aside0.mk (below_step HI.out HBX.out)
     go_wp2
     go_roundw
     case rel=>exact⟨i+1,by omega,by go_num,H6⟩
     case measure=>simp[intOf];omega
  ·obtain rfl:i=2:=by omega
   have H6:=Aside0.mk (below_step HB5.out HI.out)
   go_wp2
   go_ret
   exact⟨rfl,H6.out⟩
end Go.Proofs.YtgpegjmbofgmmaaGreat.jou
namespace Go.Proofs.YtgpegjmbofgmmaaGreat.jou
open Go.RowKit Go.Proofs.YtgpegjmbofgmmaaGreatW.PrintWords Go.Proofs.YtgpegjmbofgmmaaGreatW.PrintLast Go.Proofs.YtgpegjmbofgmmaaGreat.PJop Go.Proofs.YtgpegjmbofgmmaaGreat.PJou
set_option linter.unusedVariables false
set_option linter.unusedSimpArgs false
theorem w64i {x:Int} (h1 : -9223372036854775808<=x) (h2:x<=9223372036854775807):wrap64 x=x:=by unfold wrap64;omega
theorem w64_1:wrap64 1=1:=w64i (by omega) (by omega)
theorem w64_0:wrap64 0=0:=w64i (by omega) (by omega)
theorem w64_k:wrap64 1024=1024:=w64i (by omega) (by omega)
theorem across_one (a b:Int) (wd ht:Int) (h1:0<wd) (h3:wd<=1024):codec_grid_across.f a b wd ht 1024=some 1:=by
 unfold codec_grid_across.f
 have e1:(wd+1024-1)/1024=1:=by omega
 rw[if_neg (by omega),w64i (x:=wd+1024) (by omega) (by omega),w64i (x:=wd+1024-1) (by omega) (by omega),Int.tdiv_eq_ediv_of_nonneg (by omega),e1,w64_1]
theorem tiles_1 (a b:Int) (wd ht:Int) (h1:0<wd) (h2:0<ht) (h3:wd<=1024) (h4:ht<=1024):codec_grid_tiles.f a b wd ht 1024=some 1:=by
 unfold codec_grid_tiles.f
 have e1:(ht+1024-1)/1024=1:=by omega
 rw[across_one a b wd ht h1 h3,Option.bind_some,if_neg (by omega),w64i (x:=ht+1024) (by omega) (by omega),w64i (x:=ht+1024-1) (by omega) (by omega),Int.tdiv_eq_ediv_of_nonneg (by omega),e1,w64_1,Int.one_mul,w64_1]
theorem rect_1 (a b:Int) (wd ht:Int) (h1:0<wd) (h2:0<ht) (h3:wd<=1024) (h4:ht<=1024):codec_grid_rect.f a b wd ht 1024 0=some (0,0,wd,ht):=by
 unfold codec_grid_rect.f
 have m1:mn 1024 wd=wd:=by unfold mn;split<;>omega
 have m2:mn 1024 ht=ht:=by unfold mn;split<;>omega
 rw[across_one a b wd ht h1 h3,Option.bind_some,if_neg (by omega),Option.bind_some,if_neg (by omega)]
 rw[show Int.tmod 0 1=0 from rfl,show Int.tdiv 0 1=0 from rfl,w64_0,Int.zero_mul,w64_0,Int.zero_add,w64_k,m1,m2]
theorem check_up (sp:Int) (l:List S58) {r:Int} : ∀d,picture_Check.f 20 sp l=some r->picture_Check.f (20+d) sp l=some r
 | 0,h=>h
 | d+1,h=>picture_Check.mono sp l (20+d) r (check_up sp l d h)
theorem pic_of {sp:Int} {l:List S58} (hck:picture_Check.f 20 sp l=some 0) (hg:pln.Good l) (hs:0<=sp/\sp<=4) (hU:pln.UL l) (K:Nat) (hK:70000<=K) :
  ∃(spn wd ht:Nat) (rs:Nat->List Int),sp=spn/\Pic K spn l wd ht rs/\halideref8_Check.f K spn l=some 0/\(∀j:Nat,j<l.length->halideref18_Rests.f K wd ht (rd_T58 l j).f2=some (rs j,0)/\pln.AllU (rs j)) /\ ∀j:Nat,j<l.length->(rd_T58 l j).f2.length<=65536:=by
 have hpos:=hg.pos
 have z0:rd_T58 l ((0:Nat):Int)=rd_T58 l 0:=rfl
 have h0:=hg.ok 0 (by omega)
 rw[z0] at h0
 obtain⟨spn,rfl⟩ : ∃n:Nat,sp=n:=⟨sp.toNat,by omega⟩
 obtain⟨wd,hwd⟩ : ∃n:Nat,(rd_T58 l 0).f0=n:=⟨(rd_T58 l 0).f0.toNat,by have:=h0.w;omega⟩
 obtain⟨ht,hht⟩ : ∃n:Nat,(rd_T58 l 0).f1=n:=⟨(rd_T58 l 0).f1.toNat,by have:=h0.tall;omega⟩
 have d1:=h0.w;have d2:=h0.tall;have d3:=h0.wide;have d4:=h0.high
 rw[hwd] at d1 d3
 rw[hht] at d2 d4
 have hw : ∀j:Nat,j<l.length->(rd_T58 l j).f0=wd/\(rd_T58 l j).f1=ht:=fun j hj=>by
  obtain⟨a,b⟩:=hg.same j hj
  exact⟨a.trans hwd,b.trans hht⟩
 have hr : ∀j:Nat,j<l.length -> ∃rs:List Int,rs.length=(rd_T58 l j).f2.length/\pln.AllU rs/\codec_Rests.f K wd ht (rd_T58 l j).f2=some (rs,0)/\halideref18_Rests.f K wd ht (rd_T58 l j).f2=some (rs,0):=fun j hj=>by
  have hp:=hg.ok j hj
  obtain⟨rs,r1,r2,r3,r4⟩:=pln.rests_f hp (hU j hj) hp.chk K (by have:=hp.small;omega)
  rw[(hw j hj).1,(hw j hj).2] at r3 r4
  exact⟨rs,r1,r2,r3,r4⟩
 obtain⟨rs,hrs⟩ : ∃rs:Nat->List Int,∀j:Nat,j<l.length->(rs j).length=(rd_T58 l j).f2.length/\pln.AllU (rs j)/\codec_Rests.f K wd ht (rd_T58 l j).f2=some (rs j,0)/\halideref18_Rests.f K wd ht (rd_T58 l j).f2=some (rs j,0):=by
  refine⟨fun j=>if h:j<l.length then Classical.choose (hr j h) else [],fun j hj=>?_⟩
  simp only[dif_pos hj]
  exact Classical.choose_spec (hr j hj)
 have hc:picture_Check.f K spn l=some 0:=by
  have:=check_up spn l (K-20) hck
  rwa [show 20+(K-20)=K by omega] at this
 have hlen : ∀j:Nat,j<l.length->(rd_T58 l j).f2.length=wd*ht:=fun j hj=>by
  have h:=(hg.ok j hj).size
  rw[(hw j hj).1,(hw j hj).2] at h
  exact_mod_cast h
 refine⟨spn,wd,ht,rs,rfl,⟨by omega,hc,by have:=hg.few;omega,by omega,by omega,by omega,by omega,by omega,tiles_1 _ _ _ _ (by omega) (by omega) (by omega) (by omega),rect_1 _ _ _ _ (by omega) (by omega) (by omega) (by omega),?_,?_⟩,?_,fun j hj=>⟨(hrs j hj).2.2.2,(hrs j hj).2.1⟩,fun j hj=>(hg.ok j hj).small⟩
 ·intro j hj
  have hp:=(hg.ok j hj).chk
  rw[(hw j hj).1,(hw j hj).2] at hp
  exact⟨(hw j hj).1,(hw j hj).2,hlen j hj,hp⟩
 ·intro j hj
  have hp:=hg.ok j hj
  refine⟨(hrs j hj).2.2.1,?_,?_⟩
  ·rw[(hrs j hj).1,hlen j hj];exact Nat.mul_pos (by omega) (by omega)
  ·rw[(hrs j hj).1];exact hp.small
 ·rw[pln.check_eq];exact hc
theorem bytes_l0 (xs:List Int) (hx:xs.length<=100000000) : ∀(d i K:Nat),i+d=xs.length->d+1<=K->halidelaw25_sameBytes.l0 K xs xs i=some true:=by
 intro d
 induction d with
 | zero =>
  intro i K hi hK
  obtain⟨K',rfl⟩ : ∃K',K=K'+1:=⟨K-1,by omega⟩
  rw[halidelaw25_sameBytes.l0,if_neg (by omega)]
 | succ d ih =>
  intro i K hi hK
  obtain⟨K',rfl⟩ : ∃K',K=K'+1:=⟨K-1,by omega⟩
  have h:=ih (i+1) K' (by omega) (by omega)
  rw[halidelaw25_sameBytes.l0,if_pos (by omega),if_pos (by omega),if_pos (by omega),if_pos rfl,w64i (x:=(i:Int)+1) (by omega) (by omega)]
  rw[Int.natCast_add,Int.natCast_one] at h
  exact h
theorem bytes_f (xs:List Int) (hx:xs.length<=100000000) (K:Nat) (hK:xs.length+1<=K):halidelaw25_sameBytes.f K xs xs=some true:=by
 unfold halidelaw25_sameBytes.f
 rw[if_pos rfl]
 exact bytes_l0 xs hx xs.length 0 K (by omega) hK
theorem words_f (xs:List Int) (hx:xs.length<=2000000) (K:Nat) (hK:xs.length+1<=K):halidehelp_Words.f K xs xs=some true:=by
 unfold halidehelp_Words.f
 rw[if_pos rfl]
 exact pln.words_l0 xs hx xs.length 0 K (by omega) hK
theorem frame_le {ns:List Nat} {n:Nat} (h:ns.length<=n):(frameR ns).length<=n+8:=by
 unfold frameR
 simp only[List.length_append,Go.Cod.be_length]
 omega
set_option maxHeartbeats 1600000 in
theorem law_all (hk:KnownB) (w:World) (kind node x y sp:Int) (AP:Option Addr) (cP:Nat) (l:List S58) (AN:Option Addr) (cN:Nat) (xs:List Int) (AB:Option Addr) (cB:Nat) (zs:List Int) (r0 r1 r2 r3:Int)
  (hP:Kd.C k58 w AP l.length l) (hN:Kd.C (Kd.int .i64) w AN xs.length xs) (hB:Kd.C (Kd.int .u32) w AB zs.length zs) (k1:l.length<=cP) (k2:xs.length<=cN) (k3:zs.length<=cB) (hU:pln.UL l) (hUz:pln.AllU zs) (hl:l.length<=2000000) (hls : ∀j:Nat,j<l.length->(rd_T58 l j).f2.length<=2000000) (hxl:xs.length<=2000000) (hzl:zs.length<=2000000) :
  Calls Tryz.prog 4 #[.agg #[.int .i64 kind,.int .i64 node,.int .i64 x,.int .i64 y,.int .i64 sp,.slice AP l.length cP,.slice AN xs.length cN,.slice AB zs.length cB,.int .i64 r0,.int .i64 r1,.int .i64 r2,.int .i64 r3]] w fun e w'=>e = .returned (.bool true)/\Below w.heap.size w w':=by
 by_cases hx2:200<xs.length
 ·exact law_dark hk w kind node x y sp AP cP l AN cN xs AB cB zs r0 r1 r2 r3 fun W g hb hg=>few_no1 W g kind node x y sp AP cP l AN cN xs AB cB zs r0 r1 r2 r3 hg hx2
 have hx3:xs.length<=200:=by omega
 by_cases hz2:200<zs.length
 ·exact law_dark hk w kind node x y sp AP cP l AN cN xs AB cB zs r0 r1 r2 r3 fun W g hb hg=>few_no2 W g kind node x y sp AP cP l AN cN xs AB cB zs r0 r1 r2 r3 hg hx3 hz2
 have hz3:zs.length<=200:=by omega
 obtain⟨b,hlt⟩:=pln.light_f sp l
 cases b with
 | false=>exact law_dark hk w kind node x y sp AP cP l AN cN xs AB cB zs r0 r1 r2 r3 fun W g hb hg=>few_no3 W g kind node x y sp AP cP l AN cN xs AB cB zs r0 r1 r2 r3 hg 200 (Kd.C_below hP hb) k1 hlt hx3 hz3
 | true =>
  obtain⟨K,hK⟩ : ∃K:Nat,70000000<=K:=⟨_,Nat.le_refl _⟩
  have fi:=pln.ints_f xs (by omega) K (by omega)
  have fw:=words_f zs (by omega) K (by omega)
  have fp:=pln.pic_f sp l hl hls K (by omega)
  have hyes : ∀(W:World) (g:Nat),Below w.heap.size w W->W.heap[g]?=some (.cells #[.int .i64 kind,.int .i64 node,.int .i64 x,.int .i64 y,.int .i64 sp,.slice AP l.length cP,.slice AN xs.length cN,.slice AB zs.length cB,.int .i64 r0,.int .i64 r1,.int .i64 r2,.int .i64 r3] 31 (0,0))->Calls Tryz.prog 8 #[.slice none 0 0,.slice (some ⟨g,0,none⟩) 1 1] W fun e W'=>e = .returned (.bool true)/\Below W.heap.size W W':=fun W g hb hg=>few_yes W g kind node x y sp AP cP l AN cN xs AB cB zs r0 r1 r2 r3 hg 200 (Kd.C_below hP hb) k1 hlt hx3 hz3
  have go : ∀(L:List Nat) (er:Int),L.length<=60000000 ->
    (∀(W:World),Below w.heap.size w W->Calls Tryz.prog 10 #[.agg #[.int .i64 kind,.int .i64 node,.int .i64 x,.int .i64 y,.int .i64 sp,.slice AP l.length cP,.slice AN xs.length cN,.slice AB zs.length cB,.int .i64 r0,.int .i64 r1,.int .i64 r2,.int .i64 r3]] W fun e W' => ∃v,e = .returned (.tuple #[v,.int .i64 er])/\OB W' W.heap.size v L/\Below W.heap.size W W') ->
    (∀(W:World) (AQ:Option Addr) (cQ:Nat) (AM:Option Addr) (cM:Nat) (AW:Option Addr) (cW:Nat),Kd.C k58 W AQ l.length l->l.length<=cQ->Kd.C (Kd.int .i64) W AM xs.length xs->Kd.C (Kd.int .u32) W AW zs.length zs->Calls Tryz.prog 11 #[.agg #[.int .i64 kind,.int .i64 node,.int .i64 x,.int .i64 y,.int .i64 sp,.slice AQ l.length cQ,.slice AM xs.length cM,.slice AW zs.length cW,.int .i64 r0,.int .i64 r1,.int .i64 r2,.int .i64 r3]] W fun e W' => ∃v,e = .returned (.tuple #[v,.int .i64 er])/\OB W' W.heap.size v L/\Below W.heap.size W W') ->
    Calls Tryz.prog 4 #[.agg #[.int .i64 kind,.int .i64 node,.int .i64 x,.int .i64 y,.int .i64 sp,.slice AP l.length cP,.slice AN xs.length cN,.slice AB zs.length cB,.int .i64 r0,.int .i64 r1,.int .i64 r2,.int .i64 r3]] w fun e w'=>e = .returned (.bool true)/\Below w.heap.size w w':=fun L er hL h1 h2 =>
   law_light hk K w kind node x y sp AP cP l AN cN xs AB cB zs r0 r1 r2 r3 hP hN hB k1 k2 k3 hl hls hxl hzl hyes L er hL h1 h2 (bytes_f (ints L) (by rw[ints_length];omega) K (by rw[ints_length];omega)) fi fw fp
  have bad : ∀{er:Int} {W W':World} {e:Ending},e = .returned (.tuple #[.slice none 0 0,.int .i64 er])/\Below W.heap.size W W' -> ∃v,e = .returned (.tuple #[v,.int .i64 er])/\OB W' W.heap.size v []/\Below W.heap.size W W':=fun h=>⟨_,h.1,Kd.R_nil _ _ _ _ _,h.2⟩
  by_cases c1:kind=1
  ·subst c1
   obtain⟨er,hck,hgood⟩:=pln.check_f sp l
   by_cases he:er=0
   ·subst he
    obtain⟨hg,hs⟩:=hgood rfl
    obtain⟨spn,wd,ht,rs,rfl,hp,hck2,hrf,hsm⟩:=pic_of hck hg hs hU K (by omega)
    have hF:=picF_le hp
    refine go (frameR (strokeL 1 node x y (picF spn l wd ht rs))) 0 (Nat.le_trans (frame_le (n:=50000000) ?_) (by omega)) (fun W hb=>Ref_stroke W 1 node x y spn AP cP l AN cN xs AB cB zs r0 r1 r2 r3 rfl hp hck2 hrf hsm (Kd.C_below hP hb) k1) (fun W AQ cQ AM cM AW cW h1 h2 h3 h4=>Record_stroke W 1 node x y spn AQ cQ l AM cM xs AW cW zs r0 r1 r2 r3 rfl hp h1 h2)
    unfold strokeL
    simp only[List.length_append,Go.Cod.be_length]
    simp
    omega
   ·have hck2:halideref8_Check.f 20 sp l=some er:=by rw[pln.check_eq];exact hck
    exact go [] er (by simp) (fun W hb=>(Ref_strokeBad 20 er W 1 node x y sp AP cP l AN cN xs AB cB zs r0 r1 r2 r3 rfl hck2 he (Kd.C_below hP hb) k1).mono fun e W' h=>bad h) (fun W AQ cQ AM cM AW cW h1 h2 h3 h4=>(Record_strokeBad 20 er W 1 node x y sp AQ cQ l AM cM xs AW cW zs r0 r1 r2 r3 rfl hck he h1 h2).mono fun e W' h=>bad h)
  by_cases c2:kind=2
  ·subst c2
   refine go (frameR (setL 2 node xs zs)) 0 (Nat.le_trans (frame_le (n:=50000000) ?_) (by omega)) (fun W hb=>Ref_set W 2 node x y sp AP cP l AN cN xs AB cB zs r0 r1 r2 r3 rfl (Kd.C_below hN hb) (Kd.C_below hB hb) hUz (by omega) (by omega)) (fun W AQ cQ AM cM AW cW h1 h2 h3 h4=>Record_set W 2 node x y sp AQ cQ l AM cM xs AW cW zs r0 r1 r2 r3 rfl h3 h4 (by omega) (by omega))
   unfold setL
   simp only[List.length_append,Go.Cod.be_length,seqB_length _ _ _ (Nat.le_refl _)]
   simp
   omega
  by_cases c3:kind=3
  ·subst c3
   exact go (frameR [3]) 0 (Nat.le_trans (frame_le (n:=1) (by simp)) (by omega)) (fun W hb=>Ref_plain W 3 node x y sp AP cP l AN cN xs AB cB zs r0 r1 r2 r3 (Or.inl rfl)) (fun W AQ cQ AM cM AW cW h1 h2 h3 h4=>Record_undo W 3 node x y sp AQ cQ l AM cM xs AW cW zs r0 r1 r2 r3 rfl)
  by_cases c4:kind=4
  ·subst c4
   exact go (frameR [4]) 0 (Nat.le_trans (frame_le (n:=1) (by simp)) (by omega)) (fun W hb=>Ref_plain W 4 node x y sp AP cP l AN cN xs AB cB zs r0 r1 r2 r3 (Or.inr rfl)) (fun W AQ cQ AM cM AW cW h1 h2 h3 h4=>Record_redo W 4 node x y sp AQ cQ l AM cM xs AW cW zs r0 r1 r2 r3 rfl)
  exact go [] 250 (by simp) (fun W hb=>(Ref_bad W kind node x y sp AP cP l AN cN xs AB cB zs r0 r1 r2 r3 c1 c2 c3 c4).mono fun e W' h=>bad h) (fun W AQ cQ AM cM AW cW h1 h2 h3 h4=>(Record_bad W kind node x y sp AQ cQ l AM cM xs AW cW zs r0 r1 r2 r3 c1 c2 c3 c4).mono fun e W' h=>bad h)
end Go.Proofs.YtgpegjmbofgmmaaGreat.jou
