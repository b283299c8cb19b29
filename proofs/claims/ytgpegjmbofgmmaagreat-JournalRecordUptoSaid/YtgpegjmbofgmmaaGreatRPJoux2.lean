/- A part of the proof. No condition. -/
import Derived.Test.YtgpegjmbofgmmaaGreatRPu
import Derived.Test.YtgpegjmbofgmmaaGreatRPJoux1
namespace Go.Proofs.YtgpegjmbofgmmaaGreat.PJou
open Go.RowKit Go.Proofs.YtgpegjmbofgmmaaGreat.PJop Go.Proofs.YtgpegjmbofgmmaaGreatW.PrintWords Go.Proofs.YtgpegjmbofgmmaaGreatW.PrintLast Go.Proofs.YtgpegjmbofgmmaaGreatW.PrintMore
attribute [local go_sem] max2_int min2_int max_two min_two max_three min_three max_four min_four
set_option linter.unusedVariables false
set_option linter.unusedSimpArgs false
def halideref18_Guess.f (a0:Int) (a1:Int) (a2:Int):Option (Int):=(halideref7_Key.f a0).bind fun t111=>((halideref7_Key.f a1).bind fun t112=>((halideref7_Key.f a2).bind fun t113=>((halideref7_FromKey.f ((mx (mn (wrap64 (t111)) (wrap64 (t112))) (mn (mx (wrap64 (t111)) (wrap64 (t112))) (wrap64 ((wrap64 ((wrap64 (t111))+(wrap64 (t112))))-(wrap64 (t113))))))%4294967296)).bind fun t114=>(some t114))))
set_option maxHeartbeats 8000000 in
set_option maxRecDepth 100000 in
theorem halideref18_Guess.calls (a0:Int) (a1:Int) (a2:Int) (r:Int) (w:World) (h:halideref18_Guess.f a0 a1 a2=some r) :
  Calls Tryz.prog 233 #[.int .u32 a0,.int .u32 a1,.int .u32 a2] w fun e w'=>e = .returned (.int .u32 r)/\Below w.heap.size w w':=by
 have HB:=Aside0.mk (Below.refl w.heap.size w)
 have H:((halideref7_Key.f a0).bind fun t111=>((halideref7_Key.f a1).bind fun t112=>((halideref7_Key.f a2).bind fun t113=>((halideref7_FromKey.f ((mx (mn (wrap64 (t111)) (wrap64 (t112))) (mn (mx (wrap64 (t111)) (wrap64 (t112))) (wrap64 ((wrap64 ((wrap64 (t111))+(wrap64 (t112))))-(wrap64 (t113))))))%4294967296)).bind fun t114=>(some t114)))))=some r:=h
 clear h
 replace H:=Option.bind_eq_some_iff.mp H
 obtain⟨t111,A40,H⟩:=H
 replace H:((halideref7_Key.f a1).bind fun t112=>((halideref7_Key.f a2).bind fun t113=>((halideref7_FromKey.f ((mx (mn (wrap64 (t111)) (wrap64 (t112))) (mn (mx (wrap64 (t111)) (wrap64 (t112))) (wrap64 ((wrap64 ((wrap64 (t111))+(wrap64 (t112))))-(wrap64 (t113))))))%4294967296)).bind fun t114=>(some t114))))=some r:=H
 have A4:=Aside0.mk A40
 clear A40
 replace H:=Option.bind_eq_some_iff.mp H
 obtain⟨t112,A50,H⟩:=H
 replace H:((halideref7_Key.f a2).bind fun t113=>((halideref7_FromKey.f ((mx (mn (wrap64 (t111)) (wrap64 (t112))) (mn (mx (wrap64 (t111)) (wrap64 (t112))) (wrap64 ((wrap64 ((wrap64 (t111))+(wrap64 (t112))))-(wrap64 (t113))))))%4294967296)).bind fun t114=>(some t114)))=some r:=H
 have A5:=Aside0.mk A50
 clear A50
 replace H:=Option.bind_eq_some_iff.mp H
 obtain⟨t113,A60,H⟩:=H
 replace H:((halideref7_FromKey.f ((mx (mn (wrap64 (t111)) (wrap64 (t112))) (mn (mx (wrap64 (t111)) (wrap64 (t112))) (wrap64 ((wrap64 ((wrap64 (t111))+(wrap64 (t112))))-(wrap64 (t113))))))%4294967296)).bind fun t114=>(some t114))=some r:=H
 have A6:=Aside0.mk A60
 clear A60
 obtain⟨ji7,hji7⟩ : ∃j_:Int,(mn (wrap64 (t111)) (wrap64 (t112)))=j_:=⟨_,rfl⟩
 replace H:((halideref7_FromKey.f ((mx (ji7) (mn (mx (wrap64 (t111)) (wrap64 (t112))) (wrap64 ((wrap64 ((wrap64 (t111))+(wrap64 (t112))))-(wrap64 (t113))))))%4294967296)).bind fun t114=>(some t114))=some r:=by(rw[hji7] at H;exact H)
 have hji7_:(if (wrap64 (t112))<(wrap64 (t111)) then (wrap64 (t112)) else (wrap64 (t111)))=ji7:=hji7
 obtain⟨ji8,hji8⟩ : ∃j_:Int,(mx (wrap64 (t111)) (wrap64 (t112)))=j_:=⟨_,rfl⟩
 replace H:((halideref7_FromKey.f ((mx (ji7) (mn (ji8) (wrap64 ((wrap64 ((wrap64 (t111))+(wrap64 (t112))))-(wrap64 (t113))))))%4294967296)).bind fun t114=>(some t114))=some r:=by(rw[hji8] at H;exact H)
 have hji8_:(if (wrap64 (t111))<(wrap64 (t112)) then (wrap64 (t112)) else (wrap64 (t111)))=ji8:=hji8
 obtain⟨ji9,hji9⟩ : ∃j_:Int,(mn (ji8) (wrap64 ((wrap64 ((wrap64 (t111))+(wrap64 (t112))))-(wrap64 (t113)))))=j_:=⟨_,rfl⟩
 replace H:((halideref7_FromKey.f ((mx (ji7) (ji9))%4294967296)).bind fun t114=>(some t114))=some r:=by(rw[hji9] at H;exact H)
 have hji9_:(if (wrap64 ((wrap64 ((wrap64 (t111))+(wrap64 (t112))))-(wrap64 (t113))))<(ji8) then (wrap64 ((wrap64 ((wrap64 (t111))+(wrap64 (t112))))-(wrap64 (t113)))) else (ji8))=ji9:=hji9
 obtain⟨ji10,hji10⟩ : ∃j_:Int,(mx (ji7) (ji9))=j_:=⟨_,rfl⟩
 replace H:((halideref7_FromKey.f ((ji10)%4294967296)).bind fun t114=>(some t114))=some r:=by(rw[hji10] at H;exact H)
 have hji10_:(if (ji7)<(ji9) then (ji9) else (ji7))=ji10:=hji10
 replace H:=Option.bind_eq_some_iff.mp H
 obtain⟨t114,A110,H⟩:=H
 replace H:(some t114)=some r:=H
 have A11:=Aside0.mk A110
 clear A110
 obtain rfl:=Option.some.inj H
 go_enter Tryz.func233,Tryz.ntmps233
 go_wp2_with (first|((with_reducible refine gate_callee (f:=165) rfl ?_);refine goesL_ (some 12) rfl rfl Tryz.func165 (by kernel_rfl) rfl #[.int .u32 a0] rfl (by(try simp only[List.map_toArray,List.map_cons,List.map_nil]);rfl) ?_;(with_reducible refine(halideref7_Key.calls a0 t111 _ A4.out).mono ?_);rintro e w' ⟨rfl,⟨nd,rfl⟩⟩;refine⟨_,rfl,?_⟩)|((with_reducible refine gate_callee (f:=165) rfl ?_);refine goesL_ (some 15) rfl rfl Tryz.func165 (by kernel_rfl) rfl #[.int .u32 a1] rfl (by(try simp only[List.map_toArray,List.map_cons,List.map_nil]);rfl) ?_;(with_reducible refine(halideref7_Key.calls a1 t112 _ A5.out).mono ?_);rintro e w' ⟨rfl,⟨nd,rfl⟩⟩;refine⟨_,rfl,?_⟩)|((with_reducible refine gate_callee (f:=165) rfl ?_);refine goesL_ (some 18) rfl rfl Tryz.func165 (by kernel_rfl) rfl #[.int .u32 a2] rfl (by(try simp only[List.map_toArray,List.map_cons,List.map_nil]);rfl) ?_;(with_reducible refine(halideref7_Key.calls a2 t113 _ A6.out).mono ?_);rintro e w' ⟨rfl,⟨nd,rfl⟩⟩;refine⟨_,rfl,?_⟩)|((with_reducible refine gate_callee (f:=331) rfl ?_);refine goesL_ (some 35) rfl rfl Tryz.func331 (by kernel_rfl) rfl #[.int .u32 ((ji10)%4294967296)] rfl (by(try simp only[List.map_toArray,List.map_cons,List.map_nil]);rfl) ?_;(with_reducible refine(halideref7_FromKey.calls ((ji10)%4294967296) t114 _ A11.out).mono ?_);rintro e w' ⟨rfl,⟨nd,rfl⟩⟩;refine⟨_,rfl,?_⟩))
 go_ret
 exact⟨by rfl,by repeat((with_reducible first|exact HB.out|apply pw_below_drewN))⟩
def halideref18_guess.f (a0:Int) (l1:List Int) (a2:Int):Option (Int):=if a0=0 then (none) else (if a2=0 then (some 0) else (if (wrap64 (Int.tdiv a2 a0))=0 then (if 0<=(wrap64 (a2-1)) then (if (wrap64 (a2-1))<(l1.length:Int) then (some (rd l1 (wrap64 (a2-1)))) else (none)) else (none)) else (if (Int.tmod a2 a0)=0 then (if 0<=(wrap64 (a2-a0)) then (if (wrap64 (a2-a0))<(l1.length:Int) then (some (rd l1 (wrap64 (a2-a0)))) else (none)) else (none)) else (if 0<=(wrap64 (a2-1)) then (if (wrap64 (a2-1))<(l1.length:Int) then (if 0<=(wrap64 (a2-a0)) then (if (wrap64 (a2-a0))<(l1.length:Int) then (if 0<=(wrap64 ((wrap64 (a2-a0))-1)) then (if (wrap64 ((wrap64 (a2-a0))-1))<(l1.length:Int) then ((halideref18_Guess.f (rd l1 (wrap64 (a2-1))) (rd l1 (wrap64 (a2-a0))) (rd l1 (wrap64 ((wrap64 (a2-a0))-1)))).bind fun t120=>(some t120)) else (none)) else (none)) else (none)) else (none)) else (none)) else (none)))))
def halideref18_guess.T1:Bool×List (List Nat×List Nat):=(true,[([],[]),([],[]),([0,1],[0,1]),([],[]),([],[]),([3,4],[3,4]),([2,0,1,2],[2]),([5,6,0,1,2,3,4,5,6],[5])])
def halideref18_guess.B1:List Nat := [0,0,3,0,0,24,7,127]
theorem halideref18_guess.tab1:rtab .any (opsOf Tryz.f166 1)=halideref18_guess.T1:=by kernel_rfl
theorem halideref18_guess.bits1:waitsOk halideref18_guess.T1.2 halideref18_guess.B1=true:=by kernel_rfl
def halideref18_guess.T8:Bool×List (List Nat×List Nat):=(true,[([],[]),([],[]),([1],[1]),([0,2],[0,2]),([3],[3]),([],[]),([],[]),([],[]),([6,7],[6,7]),([5,8],[5,8]),([9],[9]),([],[]),([],[]),([],[]),([12,13],[12,13]),([14],[14]),([11,15],[11,15]),([16],[16]),([4,10,17],[4,10,17]),([18,18,0,1,2,3,4,5,6,7,8,9,10,11,12,13,14,15,16,17,18],[18])])
def halideref18_guess.B8:List Nat := [0,0,2,7,15,0,0,0,192,480,992,0,0,0,12288,28672,63488,129024,262143,524287]
theorem halideref18_guess.tab8:rtab .any (opsOf Tryz.f166 8)=halideref18_guess.T8:=by kernel_rfl
theorem halideref18_guess.bits8:waitsOk halideref18_guess.T8.2 halideref18_guess.B8=true:=by kernel_rfl
set_option maxHeartbeats 8000000 in
set_option maxRecDepth 100000 in
theorem halideref18_guess.calls (a0:Int) (A1:Option Addr) (c1:Nat) (l1:List Int) (a2:Int) (r:Int) (w:World) (hr1:Kd.C (Kd.int .u32) w A1 l1.length l1) (hc1:l1.length<=c1) (h:halideref18_guess.f a0 l1 a2=some r) :
  Calls Tryz.prog 166 #[.int .i64 a0,.slice A1 l1.length c1,.int .i64 a2] w fun e w'=>e = .returned (.int .u32 r)/\Below w.heap.size w w':=by
 have HR1:=Aside0.mk hr1
 have HC1:=Aside0.mk hc1
 clear hr1 hc1
 have HB:=Aside0.mk (Below.refl w.heap.size w)
 have H:(if a0=0 then (none) else (if a2=0 then (some 0) else (if (wrap64 (Int.tdiv a2 a0))=0 then (if 0<=(wrap64 (a2-1)) then (if (wrap64 (a2-1))<(l1.length:Int) then (some (rd l1 (wrap64 (a2-1)))) else (none)) else (none)) else (if (Int.tmod a2 a0)=0 then (if 0<=(wrap64 (a2-a0)) then (if (wrap64 (a2-a0))<(l1.length:Int) then (some (rd l1 (wrap64 (a2-a0)))) else (none)) else (none)) else (if 0<=(wrap64 (a2-1)) then (if (wrap64 (a2-1))<(l1.length:Int) then (if 0<=(wrap64 (a2-a0)) then (if (wrap64 (a2-a0))<(l1.length:Int) then (if 0<=(wrap64 ((wrap64 (a2-a0))-1)) then (if (wrap64 ((wrap64 (a2-a0))-1))<(l1.length:Int) then ((halideref18_Guess.f (rd l1 (wrap64 (a2-1))) (rd l1 (wrap64 (a2-a0))) (rd l1 (wrap64 ((wrap64 (a2-a0))-1)))).bind fun t120=>(some t120)) else (none)) else (none)) else (none)) else (none)) else (none)) else (none))))))=some r:=h
 clear h
 by_cases c4:a0=0
 ·rw[if_pos c4] at H
  exact absurd H (by simp)
 ·rw[if_neg c4] at H
  have c4b0:(a0==0)=false:=beq_eq_false_iff_ne.mpr c4
  have c4b1:(a0 !=0)=true:=bne_iff_ne.mpr c4
  by_cases c5:a2=0
  ·rw[if_pos c5] at H
   have c5b0:(a2==0)=true:=beq_iff_eq.mpr c5
   have c5b1:(a2 !=0)=false:=bne_eq_false_iff_eq.mpr c5
   clear c5
   obtain rfl:=Option.some.inj H
   go_enter Tryz.func166,Tryz.ntmps166
   try go_wp2
   have n0_:=Aside0.mk (below_drew1 HB.out)
   clear HB
   have HB:=n0_
   clear n0_
   refine start_ (n:=8) (S:=fun w'=>True) (ds := []) (Array.replicate 8 false) (by kernel_rfl) rfl rfl trivial (fun hHeld=>?_);refine with_tabW halideref18_guess.tab1 halideref18_guess.bits1 (fun HT_ HW_=>?_)
   generalize w.drew=w6 at HB hHeld ⊢
   refine pu 0 9 HT_ ?_
   refine pu 1 10 HT_ ?_
   refine pu 2 11 HT_ ?_
   refine pu 3 12 HT_ ?_
   refine pu 4 13 HT_ ?_
   refine pu 5 14 HT_ ?_
   refine pu 6 7 HT_ ?_
   refine pu 7 8 HT_ ?_
   refine done_ (done_of HT_.out (by kernel_rfl)) ?_
   try go_wp2
   go_ret
   exact⟨by rfl,by repeat((with_reducible exact HB.out))⟩
  ·rw[if_neg c5] at H
   have c5b0:(a2==0)=false:=beq_eq_false_iff_ne.mpr c5
   have c5b1:(a2 !=0)=true:=bne_iff_ne.mpr c5
   by_cases c7:(wrap64 (Int.tdiv a2 a0))=0
   ·rw[if_pos c7] at H
    have c7b0:((wrap64 (Int.tdiv a2 a0))==0)=true:=beq_iff_eq.mpr c7
    have c7b1:((wrap64 (Int.tdiv a2 a0)) !=0)=false:=bne_eq_false_iff_eq.mpr c7
    clear c7
    obtain⟨ji8,hji8⟩ : ∃j_:Int,(wrap64 (a2-1))=j_:=⟨_,rfl⟩
    replace H:(if 0<=(ji8) then (if (ji8)<(l1.length:Int) then (some (rd l1 (ji8))) else (none)) else (none))=some r:=by(rw[hji8] at H;exact H)
    have hji8w:(IntKind.i64.wrap (a2-1))=ji8:=(i64_w _).trans hji8
    by_cases c9:0<=(ji8)
    ·rw[if_pos c9] at H
     have c9b0:decide (0<=(ji8))=true:=decide_eq_true c9
     clear c9
     by_cases c10:(ji8)<(l1.length:Int)
     ·rw[if_pos c10] at H
      have c10b0:decide ((ji8)<(l1.length:Int))=true:=decide_eq_true c10
      clear c10
      obtain rfl:=Option.some.inj H
      go_enter Tryz.func166,Tryz.ntmps166
      try go_wp2
      have n0_:=Aside0.mk (below_drew1 HB.out)
      clear HB
      have HB:=n0_
      clear n0_
      refine start_ (n:=8) (S:=fun w'=>True) (ds := []) (Array.replicate 8 false) (by kernel_rfl) rfl rfl trivial (fun hHeld=>?_);refine with_tabW halideref18_guess.tab1 halideref18_guess.bits1 (fun HT_ HW_=>?_)
      generalize w.drew=w11 at HB hHeld ⊢
      refine pu 0 9 HT_ ?_
      refine pu 1 10 HT_ ?_
      refine pu 2 11 HT_ ?_
      refine pu 3 12 HT_ ?_
      refine pu 4 13 HT_ ?_
      refine pu 5 14 HT_ ?_
      refine pu 6 7 HT_ ?_
      refine pu 7 8 HT_ ?_
      refine done_ (done_of HT_.out (by kernel_rfl)) ?_
      have p115:0<=((ji8):Int):=of_decide_eq_true (by(with_reducible assumption))
      have q115:(ji8)<(l1.length:Int):=of_decide_eq_true (by(with_reducible assumption))
      obtain⟨ad115,e115,hx115_0⟩:=Kd.at_int HR1.out (ji8) p115 q115
      cases e115
      replace hx115_0:=(HB.out.cell (World.block_lt_of_cell? w _ hx115_0)).trans hx115_0
      replace p115:=eq_true p115
      replace q115:=eq_true q115
      try go_wp2
      go_ret
      exact⟨by rfl,by repeat((with_reducible exact HB.out))⟩
     ·rw[if_neg c10] at H
      exact absurd H (by simp)
    ·rw[if_neg c9] at H
     exact absurd H (by simp)
   ·rw[if_neg c7] at H
    have c7b0:((wrap64 (Int.tdiv a2 a0))==0)=false:=beq_eq_false_iff_ne.mpr c7
    have c7b1:((wrap64 (Int.tdiv a2 a0)) !=0)=true:=bne_iff_ne.mpr c7
    by_cases c12:(Int.tmod a2 a0)=0
    ·rw[if_pos c12] at H
     have c12b0:((Int.tmod a2 a0)==0)=true:=beq_iff_eq.mpr c12
     have c12b1:((Int.tmod a2 a0) !=0)=false:=bne_eq_false_iff_eq.mpr c12
     clear c12
     obtain⟨ji13,hji13⟩ : ∃j_:Int,(wrap64 (a2-a0))=j_:=⟨_,rfl⟩
     replace H:(if 0<=(ji13) then (if (ji13)<(l1.length:Int) then (some (rd l1 (ji13))) else (none)) else (none))=some r:=by(rw[hji13] at H;exact H)
     have hji13w:(IntKind.i64.wrap (a2-a0))=ji13:=(i64_w _).trans hji13
     by_cases c14:0<=(ji13)
     ·rw[if_pos c14] at H
      have c14b0:decide (0<=(ji13))=true:=decide_eq_true c14
      clear c14
      by_cases c15:(ji13)<(l1.length:Int)
      ·rw[if_pos c15] at H
       have c15b0:decide ((ji13)<(l1.length:Int))=true:=decide_eq_true c15
       clear c15
       obtain rfl:=Option.some.inj H
       go_enter Tryz.func166,Tryz.ntmps166
       try go_wp2
       have n0_:=Aside0.mk (below_drew1 HB.out)
       clear HB
       have HB:=n0_
       clear n0_
       refine start_ (n:=8) (S:=fun w'=>True) (ds := []) (Array.replicate 8 false) (by kernel_rfl) rfl rfl trivial (fun hHeld=>?_);refine with_tabW halideref18_guess.tab1 halideref18_guess.bits1 (fun HT_ HW_=>?_)
       generalize w.drew=w16 at HB hHeld ⊢
       refine pu 0 9 HT_ ?_
       refine pu 1 10 HT_ ?_
       refine pu 2 11 HT_ ?_
       refine pu 3 12 HT_ ?_
       refine pu 4 13 HT_ ?_
       refine pu 5 14 HT_ ?_
       refine pu 6 7 HT_ ?_
       refine pu 7 8 HT_ ?_
       refine done_ (done_of HT_.out (by kernel_rfl)) ?_
       have p116:0<=((ji13):Int):=of_decide_eq_true (by(with_reducible assumption))
       have q116:(ji13)<(l1.length:Int):=of_decide_eq_true (by(with_reducible assumption))
       obtain⟨ad116,e116,hx116_0⟩:=Kd.at_int HR1.out (ji13) p116 q116
       cases e116
       replace hx116_0:=(HB.out.cell (World.block_lt_of_cell? w _ hx116_0)).trans hx116_0
       replace p116:=eq_true p116
       replace q116:=eq_true q116
       try go_wp2
       go_ret
       exact⟨by rfl,by repeat((with_reducible exact HB.out))⟩
      ·rw[if_neg c15] at H
       exact absurd H (by simp)
     ·rw[if_neg c14] at H
      exact absurd H (by simp)
    ·rw[if_neg c12] at H
     have c12b0:((Int.tmod a2 a0)==0)=false:=beq_eq_false_iff_ne.mpr c12
     have c12b1:((Int.tmod a2 a0) !=0)=true:=bne_iff_ne.mpr c12
     obtain⟨ji17,hji17⟩ : ∃j_:Int,(wrap64 (a2-1))=j_:=⟨_,rfl⟩
     replace H:(if 0<=(ji17) then (if (ji17)<(l1.length:Int) then (if 0<=(wrap64 (a2-a0)) then (if (wrap64 (a2-a0))<(l1.length:Int) then (if 0<=(wrap64 ((wrap64 (a2-a0))-1)) then (if (wrap64 ((wrap64 (a2-a0))-1))<(l1.length:Int) then ((halideref18_Guess.f (rd l1 (ji17)) (rd l1 (wrap64 (a2-a0))) (rd l1 (wrap64 ((wrap64 (a2-a0))-1)))).bind fun t120=>(some t120)) else (none)) else (none)) else (none)) else (none)) else (none)) else (none))=some r:=by(rw[hji17] at H;exact H)
     have hji17w:(IntKind.i64.wrap (a2-1))=ji17:=(i64_w _).trans hji17
     by_cases c18:0<=(ji17)
     ·rw[if_pos c18] at H
      have c18b0:decide (0<=(ji17))=true:=decide_eq_true c18
      clear c18
      by_cases c19:(ji17)<(l1.length:Int)
      ·rw[if_pos c19] at H
       have c19b0:decide ((ji17)<(l1.length:Int))=true:=decide_eq_true c19
       clear c19
       obtain⟨ji20,hji20⟩ : ∃j_:Int,(wrap64 (a2-a0))=j_:=⟨_,rfl⟩
       replace H:(if 0<=(ji20) then (if (ji20)<(l1.length:Int) then (if 0<=(wrap64 ((ji20)-1)) then (if (wrap64 ((ji20)-1))<(l1.length:Int) then ((halideref18_Guess.f (rd l1 (ji17)) (rd l1 (ji20)) (rd l1 (wrap64 ((ji20)-1)))).bind fun t120=>(some t120)) else (none)) else (none)) else (none)) else (none))=some r:=by(rw[hji20] at H;exact H)
       have hji20w:(IntKind.i64.wrap (a2-a0))=ji20:=(i64_w _).trans hji20
       by_cases c21:0<=(ji20)
       ·rw[if_pos c21] at H
        have c21b0:decide (0<=(ji20))=true:=decide_eq_true c21
        clear c21
        by_cases c22:(ji20)<(l1.length:Int)
        ·rw[if_pos c22] at H
         have c22b0:decide ((ji20)<(l1.length:Int))=true:=decide_eq_true c22
         clear c22
         obtain⟨ji23,hji23⟩ : ∃j_:Int,(wrap64 ((ji20)-1))=j_:=⟨_,rfl⟩
         replace H:(if 0<=(ji23) then (if (ji23)<(l1.length:Int) then ((halideref18_Guess.f (rd l1 (ji17)) (rd l1 (ji20)) (rd l1 (ji23))).bind fun t120=>(some t120)) else (none)) else (none))=some r:=by(rw[hji23] at H;exact H)
         have hji23w:(IntKind.i64.wrap ((ji20)-1))=ji23:=(i64_w _).trans hji23
         by_cases c24:0<=(ji23)
         ·rw[if_pos c24] at H
          have c24b0:decide (0<=(ji23))=true:=decide_eq_true c24
          clear c24
          by_cases c25:(ji23)<(l1.length:Int)
          ·rw[if_pos c25] at H
           have c25b0:decide ((ji23)<(l1.length:Int))=true:=decide_eq_true c25
           clear c25
           replace H:=Option.bind_eq_some_iff.mp H
           obtain⟨t120,A260,H⟩:=H
           replace H:(some t120)=some r:=H
           have A26:=Aside0.mk A260
           clear A260
           obtain rfl:=Option.some.inj H
           go_enter Tryz.func166,Tryz.ntmps166
           try go_wp2
           have n0_:=Aside0.mk (below_drew1 HB.out)
           clear HB
           have HB:=n0_
           clear n0_
           refine start_ (n:=8) (S:=fun w'=>True) (ds := []) (Array.replicate 8 false) (by kernel_rfl) rfl rfl trivial (fun hHeld=>?_);refine with_tabW halideref18_guess.tab1 halideref18_guess.bits1 (fun HT_ HW_=>?_)
           generalize w.drew=w27 at HB hHeld ⊢
           refine pu 0 9 HT_ ?_
           refine pu 1 10 HT_ ?_
           refine pu 2 11 HT_ ?_
           refine pu 3 12 HT_ ?_
           refine pu 4 13 HT_ ?_
           refine pu 5 14 HT_ ?_
           refine pu 6 7 HT_ ?_
           refine pu 7 8 HT_ ?_
           refine done_ (done_of HT_.out (by kernel_rfl)) ?_
           try go_wp2
           have n0_:=Aside0.mk (below_drew1 HB.out)
           clear HB
           have HB:=n0_
           clear n0_
           have p117:0<=((ji17):Int):=of_decide_eq_true (by(with_reducible assumption))
           have q117:(ji17)<(l1.length:Int):=of_decide_eq_true (by(with_reducible assumption))
           obtain⟨ad117,e117,hx117_0⟩:=Kd.at_int HR1.out (ji17) p117 q117
           have hw117_0:=hx117_0
           cases e117
           replace hx117_0:=(HB.out.cell (World.block_lt_of_cell? w _ hx117_0)).trans hx117_0
           replace p117:=eq_true p117
           replace q117:=eq_true q117
           have p118:0<=((ji20):Int):=of_decide_eq_true (by(with_reducible assumption))
           have q118:(ji20)<(l1.length:Int):=of_decide_eq_true (by(with_reducible assumption))
           obtain⟨ad118,e118,hx118_0⟩:=Kd.at_int HR1.out (ji20) p118 q118
           have hw118_0:=hx118_0
           obtain rfl:ad117=ad118:=(by injection e118)
           replace hx118_0:=(HB.out.cell (World.block_lt_of_cell? w _ hx118_0)).trans hx118_0
           replace p118:=eq_true p118
           replace q118:=eq_true q118
           have p119:0<=((ji23):Int):=of_decide_eq_true (by(with_reducible assumption))
           have q119:(ji23)<(l1.length:Int):=of_decide_eq_true (by(with_reducible assumption))
           obtain⟨ad119,e119,hx119_0⟩:=Kd.at_int HR1.out (ji23) p119 q119
           have hw119_0:=hx119_0
           obtain rfl:ad117=ad119:=(by injection e119)
           replace hx119_0:=(HB.out.cell (World.block_lt_of_cell? w _ hx119_0)).trans hx119_0
           replace p119:=eq_true p119
           replace q119:=eq_true q119
           refine start_ (n:=20) (S:=fun w'=>w'.cell? (ad117.add ((ji17)).toNat)=some (.int .u32 (rd l1 (ji17)))/\w'.cell? (ad117.add ((ji20)).toNat)=some (.int .u32 (rd l1 (ji20)))/\w'.cell? (ad117.add ((ji23)).toNat)=some (.int .u32 (rd l1 (ji23)))) (ds := []) (Array.replicate 20 false) (by kernel_rfl) rfl rfl ⟨((HB.out.cell (World.block_lt_of_cell? w _ hw117_0)).trans hw117_0),((HB.out.cell (World.block_lt_of_cell? w _ hw118_0)).trans hw118_0),((HB.out.cell (World.block_lt_of_cell? w _ hw119_0)).trans hw119_0)⟩ (fun hHeld=>?_);refine with_tabW halideref18_guess.tab8 halideref18_guess.bits8 (fun HT_ HW_=>?_)
           generalize w27.drew=w28 at HB hx117_0 hx118_0 hx119_0 hHeld ⊢
           refine pu 0 32 HT_ ?_
           refine pu 1 33 HT_ ?_
           refine pu 2 34 HT_ ?_
           refine pu 3 35 HT_ ?_
           refine pu 5 37 HT_ ?_
           refine pu 6 38 HT_ ?_
           refine pu 7 39 HT_ ?_
           refine pu 8 40 HT_ ?_
           refine pu 9 41 HT_ ?_
           refine pu 11 43 HT_ ?_
           refine pu 12 44 HT_ ?_
           refine pu 13 45 HT_ ?_
           refine pu 14 46 HT_ ?_
           refine pu 15 47 HT_ ?_
           refine pu 16 48 HT_ ?_
           refine tk 4 36 HT_ HW_ hHeld rfl (by rintro w' ⟨s0,s1,s2⟩;go_simp;with_reducible rfl) ?_
           refine tk 10 42 HT_ HW_ hHeld rfl (by rintro w' ⟨s0,s1,s2⟩;go_simp;with_reducible rfl) ?_
           refine tk 17 49 HT_ HW_ hHeld rfl (by rintro w' ⟨s0,s1,s2⟩;go_simp;with_reducible rfl) ?_
           refine one_ (i:=18) (N:=some 50) #[true,true,true,true,true,true,true,true,true,true,true,true,true,true,true,true,true,true,true,false] rfl rfl (one_of HT_.out (by kernel_rfl)) (by decide) (fun K hK=>?_)
           refine goes_ Tryz.func233 (by kernel_rfl) rfl #[.int .u32 (rd l1 (ji17)),.int .u32 (rd l1 (ji20)),.int .u32 (rd l1 (ji23))] (by rfl) rfl rfl (by(try simp only[List.map_toArray,List.map_cons,List.map_nil]);rfl) ?_
           with_reducible refine(halideref18_Guess.calls (rd l1 (ji17)) (rd l1 (ji20)) (rd l1 (ji23)) t120 _ A26.out).mono ?_
           rintro e w29 ⟨rfl,hb⟩
           refine⟨_,rfl,?_⟩
           have n0_:=Aside0.mk (below_step (by repeat((with_reducible exact HB.out))) hb)
           clear HB
           have HB:=n0_
           clear n0_
           (try clear hb)
           refine hK.out _ _ ⟨((HB.out.cell (World.block_lt_of_cell? w _ hw117_0)).trans hw117_0),((HB.out.cell (World.block_lt_of_cell? w _ hw118_0)).trans hw118_0),((HB.out.cell (World.block_lt_of_cell? w _ hw119_0)).trans hw119_0)⟩ (fun hHeld=>?_)
           clear hK K
           refine norm_ (a':=?_) ?_ ?_
           rotate_left
           ·show Act.put _ (some 50) _=_
            simp only[Act.put,List.setIfInBounds_toArray,List.set_cons_zero,List.set_cons_succ,i64_w,i32_w]
            rfl
           refine pu 19 6 HT_ ?_
           refine done_ (done_of HT_.out (by kernel_rfl)) ?_
           try go_wp2
           go_ret
           exact⟨by rfl,by repeat((with_reducible exact HB.out))⟩
          ·rw[if_neg c25] at H
           exact absurd H (by simp)
         ·rw[if_neg c24] at H
          exact absurd H (by simp)
        ·rw[if_neg c22] at H
         exact absurd H (by simp)
       ·rw[if_neg c21] at H
        exact absurd H (by simp)
      ·rw[if_neg c19] at H
       exact absurd H (by simp)
     ·rw[if_neg c18] at H
      exact absurd H (by simp)
end Go.Proofs.YtgpegjmbofgmmaaGreat.PJou
