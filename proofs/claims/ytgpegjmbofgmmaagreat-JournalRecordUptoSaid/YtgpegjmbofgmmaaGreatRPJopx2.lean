/- A part of the proof. No condition. -/
import Derived.Test.YtgpegjmbofgmmaaGreatRPu
import Derived.Test.YtgpegjmbofgmmaaGreatRPJopx1
namespace Go.Proofs.YtgpegjmbofgmmaaGreat.PJop
open Go.RowKit Go.Proofs.YtgpegjmbofgmmaaGreatW.PrintWords Go.Proofs.YtgpegjmbofgmmaaGreatW.PrintLast Go.Proofs.YtgpegjmbofgmmaaGreatW.PrintMore
attribute [local go_sem] max2_int min2_int max_two min_two max_three min_three max_four min_four
set_option linter.unusedVariables false
set_option linter.unusedSimpArgs false
def codec_guessed.j0:Nat->List Int->Int->Int->Int->Int->Bool->Option (Int)
 | 0,_,_,_,_,_,_=>none
 | k+1,x0,x1,x2,x7,x8,x15=>if x15=true then (some 0) else (if x8=0 then (if 0<=(wrap64 (x2-1)) then (if (wrap64 (x2-1))<(x0.length:Int) then (some (rd x0 (wrap64 (x2-1)))) else (none)) else (none)) else (if x7=0 then (if 0<=(wrap64 (x2-x1)) then (if (wrap64 (x2-x1))<(x0.length:Int) then (some (rd x0 (wrap64 (x2-x1)))) else (none)) else (none)) else (if 0<=(wrap64 (x2-1)) then (if (wrap64 (x2-1))<(x0.length:Int) then (if 0<=(wrap64 (x2-x1)) then (if (wrap64 (x2-x1))<(x0.length:Int) then (if 0<=(wrap64 ((wrap64 (x2-x1))-1)) then (if (wrap64 ((wrap64 (x2-x1))-1))<(x0.length:Int) then ((codec_Guess.f (rd x0 (wrap64 (x2-1))) (rd x0 (wrap64 (x2-x1))) (rd x0 (wrap64 ((wrap64 (x2-x1))-1)))).bind fun t122=>(some t122)) else (none)) else (none)) else (none)) else (none)) else (none)) else (none))))
def codec_guessed.f (k:Nat) (l0:List Int) (a1:Int) (a2:Int):Option (Int):=if a1=0 then (none) else (if (Int.tmod a2 a1)=0 then (codec_guessed.j0 k l0 a1 a2 (Int.tmod a2 a1) (wrap64 (Int.tdiv a2 a1)) ((wrap64 (Int.tdiv a2 a1))==0)) else (codec_guessed.j0 k l0 a1 a2 (Int.tmod a2 a1) (wrap64 (Int.tdiv a2 a1)) false))
def codec_guessed.T1:Bool×List (List Nat×List Nat):=(true,[([],[]),([],[]),([0,1],[0,1]),([],[]),([],[]),([3,4],[3,4]),([2,0,1,2],[2]),([5,6,0,1,2,3,4,5,6],[5])])
def codec_guessed.B1:List Nat := [0,0,3,0,0,24,7,127]
theorem codec_guessed.tab1:rtab .any (opsOf Tryz.f174 1)=codec_guessed.T1:=by kernel_rfl
theorem codec_guessed.bits1:waitsOk codec_guessed.T1.2 codec_guessed.B1=true:=by kernel_rfl
def codec_guessed.T8:Bool×List (List Nat×List Nat):=(true,[([],[]),([],[]),([1],[1]),([0,2],[0,2]),([3],[3]),([],[]),([],[]),([],[]),([6,7],[6,7]),([5,8],[5,8]),([9],[9]),([],[]),([],[]),([],[]),([12,13],[12,13]),([14],[14]),([11,15],[11,15]),([16],[16]),([4,10,17],[4,10,17]),([18,18,0,1,2,3,4,5,6,7,8,9,10,11,12,13,14,15,16,17,18],[18])])
def codec_guessed.B8:List Nat := [0,0,2,7,15,0,0,0,192,480,992,0,0,0,12288,28672,63488,129024,262143,524287]
theorem codec_guessed.tab8:rtab .any (opsOf Tryz.f174 8)=codec_guessed.T8:=by kernel_rfl
theorem codec_guessed.bits8:waitsOk codec_guessed.T8.2 codec_guessed.B8=true:=by kernel_rfl
set_option maxHeartbeats 8000000 in
set_option maxRecDepth 100000 in
theorem codec_guessed.calls (k:Nat) (A0:Option Addr) (c0:Nat) (l0:List Int) (a1:Int) (a2:Int) (r:Int) (w:World) (hr0:Kd.C (Kd.int .u32) w A0 l0.length l0) (hc0:l0.length<=c0) (h:codec_guessed.f k l0 a1 a2=some r) :
  Calls Tryz.prog 174 #[.slice A0 l0.length c0,.int .i64 a1,.int .i64 a2] w fun e w'=>e = .returned (.int .u32 r)/\Below w.heap.size w w':=by
 have HR0:=Aside0.mk hr0
 have HC0:=Aside0.mk hc0
 clear hr0 hc0
 have HB:=Aside0.mk (Below.refl w.heap.size w)
 have H:(if a1=0 then (none) else (if (Int.tmod a2 a1)=0 then (codec_guessed.j0 k l0 a1 a2 (Int.tmod a2 a1) (wrap64 (Int.tdiv a2 a1)) ((wrap64 (Int.tdiv a2 a1))==0)) else (codec_guessed.j0 k l0 a1 a2 (Int.tmod a2 a1) (wrap64 (Int.tdiv a2 a1)) false)))=some r:=h
 clear h
 by_cases c4:a1=0
 ·rw[if_pos c4] at H
  exact absurd H (by simp)
 ·rw[if_neg c4] at H
  have c4b0:(a1==0)=false:=beq_eq_false_iff_ne.mpr c4
  have c4b1:(a1 !=0)=true:=bne_iff_ne.mpr c4
  have HC5:=Aside0.mk H
  clear H
  go_enter Tryz.func174,Tryz.ntmps174
  try go_wp2
  have n0_:=Aside0.mk (below_drew1 HB.out)
  clear HB
  have HB:=n0_
  clear n0_
  refine start_ (n:=8) (S:=fun w'=>True) (ds := []) (Array.replicate 8 false) (by kernel_rfl) rfl rfl trivial (fun hHeld=>?_);refine with_tabW codec_guessed.tab1 codec_guessed.bits1 (fun HT_ HW_=>?_)
  generalize w.drew=w6 at HB hHeld ⊢
  refine pu 0 9 HT_ ?_
  refine pu 1 10 HT_ ?_
  refine pu 2 11 HT_ ?_
  refine pu 3 12 HT_ ?_
  refine pu 4 13 HT_ ?_
  refine pu 5 14 HT_ ?_
  refine pu 6 7 HT_ ?_
  refine pu 7 8 HT_ ?_
  refine done_ (done_of HT_.out (by kernel_rfl)) ?_
  go_upto_region 2 with (fail)
  go_cut [15] (fun v15 wc => ∃(kq:Nat) (x15_4:Bool),v15 = .bool x15_4/\Aside0 (codec_guessed.j0 kq l0 a1 a2 (Int.tmod a2 a1) (wrap64 (Int.tdiv a2 a1)) x15_4=some r)/\Aside0 (kq<=k)/\Aside0 (Below w.heap.size w wc))
  case first =>
   have H:=HC5.out
   clear HC5
   by_cases c7:(Int.tmod a2 a1)=0
   ·rw[if_pos c7] at H
    have c7b0:((Int.tmod a2 a1)==0)=true:=beq_iff_eq.mpr c7
    have c7b1:((Int.tmod a2 a1) !=0)=false:=bne_eq_false_iff_eq.mpr c7
    clear c7
    (skip)
    have H':=Aside0.mk H
    clear H
    go_wp2
    go_meet
    case rel=>exact⟨_,(((wrap64 (Int.tdiv a2 a1))==0)),(by rfl),H',⟨by omega⟩,⟨by repeat((with_reducible exact HB.out))⟩⟩
   ·rw[if_neg c7] at H
    have c7b0:((Int.tmod a2 a1)==0)=false:=beq_eq_false_iff_ne.mpr c7
    have c7b1:((Int.tmod a2 a1) !=0)=true:=bne_iff_ne.mpr c7
    (skip)
    have H':=Aside0.mk H
    clear H
    go_wp2
    go_meet
    case rel=>exact⟨_,(false),(by rfl),H',⟨by omega⟩,⟨by repeat((with_reducible exact HB.out))⟩⟩
  case rest =>
   clear HC5
   (try clear c4)
   (try clear c4b0)
   (try clear c4b1)
   obtain⟨kq,x15_4,rfl,HA,HJ4,HB⟩:=hcut
   cases kq with
   | zero=>exact absurd HA.out (by simp[codec_guessed.j0])
   | succ kj4 =>
    have H:=HA.out
    clear HA
    simp only[codec_guessed.j0] at H
    by_cases c8:x15_4=true
    ·subst c8
     have H1:(some 0)=some r:=by rw[if_pos rfl] at H;exact H
     clear H
     have H:=H1
     clear H1
     obtain rfl:=Option.some.inj H
     go_wp2
     go_ret
     exact⟨by rfl,by repeat((with_reducible exact HB.out))⟩
    ·replace c8:=Bool.eq_false_iff.mpr c8
     subst c8
     have H1:(if (wrap64 (Int.tdiv a2 a1))=0 then (if 0<=(wrap64 (a2-1)) then (if (wrap64 (a2-1))<(l0.length:Int) then (some (rd l0 (wrap64 (a2-1)))) else (none)) else (none)) else (if (Int.tmod a2 a1)=0 then (if 0<=(wrap64 (a2-a1)) then (if (wrap64 (a2-a1))<(l0.length:Int) then (some (rd l0 (wrap64 (a2-a1)))) else (none)) else (none)) else (if 0<=(wrap64 (a2-1)) then (if (wrap64 (a2-1))<(l0.length:Int) then (if 0<=(wrap64 (a2-a1)) then (if (wrap64 (a2-a1))<(l0.length:Int) then (if 0<=(wrap64 ((wrap64 (a2-a1))-1)) then (if (wrap64 ((wrap64 (a2-a1))-1))<(l0.length:Int) then ((codec_Guess.f (rd l0 (wrap64 (a2-1))) (rd l0 (wrap64 (a2-a1))) (rd l0 (wrap64 ((wrap64 (a2-a1))-1)))).bind fun t122=>(some t122)) else (none)) else (none)) else (none)) else (none)) else (none)) else (none))))=some r:=by rw[if_neg (show ¬(false=true) by decide)] at H;exact H
     clear H
     have H:=H1
     clear H1
     by_cases c9:(wrap64 (Int.tdiv a2 a1))=0
     ·rw[if_pos c9] at H
      have c9b0:((wrap64 (Int.tdiv a2 a1))==0)=true:=beq_iff_eq.mpr c9
      have c9b1:((wrap64 (Int.tdiv a2 a1)) !=0)=false:=bne_eq_false_iff_eq.mpr c9
      clear c9
      obtain⟨ji10,hji10⟩ : ∃j_:Int,(wrap64 (a2-1))=j_:=⟨_,rfl⟩
      replace H:(if 0<=(ji10) then (if (ji10)<(l0.length:Int) then (some (rd l0 (ji10))) else (none)) else (none))=some r:=by(rw[hji10] at H;exact H)
      have hji10w:(IntKind.i64.wrap (a2-1))=ji10:=(i64_w _).trans hji10
      by_cases c11:0<=(ji10)
      ·rw[if_pos c11] at H
       have c11b0:decide (0<=(ji10))=true:=decide_eq_true c11
       clear c11
       by_cases c12:(ji10)<(l0.length:Int)
       ·rw[if_pos c12] at H
        have c12b0:decide ((ji10)<(l0.length:Int))=true:=decide_eq_true c12
        clear c12
        obtain rfl:=Option.some.inj H
        have p117:0<=((ji10):Int):=of_decide_eq_true (by(with_reducible assumption))
        have q117:(ji10)<(l0.length:Int):=of_decide_eq_true (by(with_reducible assumption))
        obtain⟨ad117,e117,hx117_0⟩:=Kd.at_int HR0.out (ji10) p117 q117
        cases e117
        replace hx117_0:=(HB.out.cell (World.block_lt_of_cell? w _ hx117_0)).trans hx117_0
        replace p117:=eq_true p117
        replace q117:=eq_true q117
        go_wp2
        go_ret
        exact⟨by rfl,by repeat((with_reducible exact HB.out))⟩
       ·rw[if_neg c12] at H
        exact absurd H (by simp)
      ·rw[if_neg c11] at H
       exact absurd H (by simp)
     ·rw[if_neg c9] at H
      have c9b0:((wrap64 (Int.tdiv a2 a1))==0)=false:=beq_eq_false_iff_ne.mpr c9
      have c9b1:((wrap64 (Int.tdiv a2 a1)) !=0)=true:=bne_iff_ne.mpr c9
      by_cases c13:(Int.tmod a2 a1)=0
      ·rw[if_pos c13] at H
       have c13b0:((Int.tmod a2 a1)==0)=true:=beq_iff_eq.mpr c13
       have c13b1:((Int.tmod a2 a1) !=0)=false:=bne_eq_false_iff_eq.mpr c13
       clear c13
       obtain⟨ji14,hji14⟩ : ∃j_:Int,(wrap64 (a2-a1))=j_:=⟨_,rfl⟩
       replace H:(if 0<=(ji14) then (if (ji14)<(l0.length:Int) then (some (rd l0 (ji14))) else (none)) else (none))=some r:=by(rw[hji14] at H;exact H)
       have hji14w:(IntKind.i64.wrap (a2-a1))=ji14:=(i64_w _).trans hji14
       by_cases c15:0<=(ji14)
       ·rw[if_pos c15] at H
        have c15b0:decide (0<=(ji14))=true:=decide_eq_true c15
        clear c15
        by_cases c16:(ji14)<(l0.length:Int)
        ·rw[if_pos c16] at H
         have c16b0:decide ((ji14)<(l0.length:Int))=true:=decide_eq_true c16
         clear c16
         obtain rfl:=Option.some.inj H
         have p118:0<=((ji14):Int):=of_decide_eq_true (by(with_reducible assumption))
         have q118:(ji14)<(l0.length:Int):=of_decide_eq_true (by(with_reducible assumption))
         obtain⟨ad118,e118,hx118_0⟩:=Kd.at_int HR0.out (ji14) p118 q118
         cases e118
         replace hx118_0:=(HB.out.cell (World.block_lt_of_cell? w _ hx118_0)).trans hx118_0
         replace p118:=eq_true p118
         replace q118:=eq_true q118
         go_wp2
         go_ret
         exact⟨by rfl,by repeat((with_reducible exact HB.out))⟩
        ·rw[if_neg c16] at H
         exact absurd H (by simp)
       ·rw[if_neg c15] at H
        exact absurd H (by simp)
      ·rw[if_neg c13] at H
       have c13b0:((Int.tmod a2 a1)==0)=false:=beq_eq_false_iff_ne.mpr c13
       have c13b1:((Int.tmod a2 a1) !=0)=true:=bne_iff_ne.mpr c13
       obtain⟨ji17,hji17⟩ : ∃j_:Int,(wrap64 (a2-1))=j_:=⟨_,rfl⟩
       replace H:(if 0<=(ji17) then (if (ji17)<(l0.length:Int) then (if 0<=(wrap64 (a2-a1)) then (if (wrap64 (a2-a1))<(l0.length:Int) then (if 0<=(wrap64 ((wrap64 (a2-a1))-1)) then (if (wrap64 ((wrap64 (a2-a1))-1))<(l0.length:Int) then ((codec_Guess.f (rd l0 (ji17)) (rd l0 (wrap64 (a2-a1))) (rd l0 (wrap64 ((wrap64 (a2-a1))-1)))).bind fun t122=>(some t122)) else (none)) else (none)) else (none)) else (none)) else (none)) else (none))=some r:=by(rw[hji17] at H;exact H)
       have hji17w:(IntKind.i64.wrap (a2-1))=ji17:=(i64_w _).trans hji17
       by_cases c18:0<=(ji17)
       ·rw[if_pos c18] at H
        have c18b0:decide (0<=(ji17))=true:=decide_eq_true c18
        clear c18
        by_cases c19:(ji17)<(l0.length:Int)
        ·rw[if_pos c19] at H
         have c19b0:decide ((ji17)<(l0.length:Int))=true:=decide_eq_true c19
         clear c19
         obtain⟨ji20,hji20⟩ : ∃j_:Int,(wrap64 (a2-a1))=j_:=⟨_,rfl⟩
         replace H:(if 0<=(ji20) then (if (ji20)<(l0.length:Int) then (if 0<=(wrap64 ((ji20)-1)) then (if (wrap64 ((ji20)-1))<(l0.length:Int) then ((codec_Guess.f (rd l0 (ji17)) (rd l0 (ji20)) (rd l0 (wrap64 ((ji20)-1)))).bind fun t122=>(some t122)) else (none)) else (none)) else (none)) else (none))=some r:=by(rw[hji20] at H;exact H)
         have hji20w:(IntKind.i64.wrap (a2-a1))=ji20:=(i64_w _).trans hji20
         by_cases c21:0<=(ji20)
         ·rw[if_pos c21] at H
          have c21b0:decide (0<=(ji20))=true:=decide_eq_true c21
          clear c21
          by_cases c22:(ji20)<(l0.length:Int)
          ·rw[if_pos c22] at H
           have c22b0:decide ((ji20)<(l0.length:Int))=true:=decide_eq_true c22
           clear c22
           obtain⟨ji23,hji23⟩ : ∃j_:Int,(wrap64 ((ji20)-1))=j_:=⟨_,rfl⟩
           replace H:(if 0<=(ji23) then (if (ji23)<(l0.length:Int) then ((codec_Guess.f (rd l0 (ji17)) (rd l0 (ji20)) (rd l0 (ji23))).bind fun t122=>(some t122)) else (none)) else (none))=some r:=by(rw[hji23] at H;exact H)
           have hji23w:(IntKind.i64.wrap ((ji20)-1))=ji23:=(i64_w _).trans hji23
           by_cases c24:0<=(ji23)
           ·rw[if_pos c24] at H
            have c24b0:decide (0<=(ji23))=true:=decide_eq_true c24
            clear c24
            by_cases c25:(ji23)<(l0.length:Int)
            ·rw[if_pos c25] at H
             have c25b0:decide ((ji23)<(l0.length:Int))=true:=decide_eq_true c25
             clear c25
             replace H:=Option.bind_eq_some_iff.mp H
             obtain⟨t122,A260,H⟩:=H
             replace H:(some t122)=some r:=H
             have A26:=Aside0.mk A260
             clear A260
             obtain rfl:=Option.some.inj H
             try go_wp2
             have n0_:=Aside0.mk (below_drew1 HB.out)
             clear HB
             have HB:=n0_
             clear n0_
             have p119:0<=((ji17):Int):=of_decide_eq_true (by(with_reducible assumption))
             have q119:(ji17)<(l0.length:Int):=of_decide_eq_true (by(with_reducible assumption))
             obtain⟨ad119,e119,hx119_0⟩:=Kd.at_int HR0.out (ji17) p119 q119
             have hw119_0:=hx119_0
             cases e119
             replace hx119_0:=(HB.out.cell (World.block_lt_of_cell? w _ hx119_0)).trans hx119_0
             replace p119:=eq_true p119
             replace q119:=eq_true q119
             have p120:0<=((ji20):Int):=of_decide_eq_true (by(with_reducible assumption))
             have q120:(ji20)<(l0.length:Int):=of_decide_eq_true (by(with_reducible assumption))
             obtain⟨ad120,e120,hx120_0⟩:=Kd.at_int HR0.out (ji20) p120 q120
             have hw120_0:=hx120_0
             obtain rfl:ad119=ad120:=(by injection e120)
             replace hx120_0:=(HB.out.cell (World.block_lt_of_cell? w _ hx120_0)).trans hx120_0
             replace p120:=eq_true p120
             replace q120:=eq_true q120
             have p121:0<=((ji23):Int):=of_decide_eq_true (by(with_reducible assumption))
             have q121:(ji23)<(l0.length:Int):=of_decide_eq_true (by(with_reducible assumption))
             obtain⟨ad121,e121,hx121_0⟩:=Kd.at_int HR0.out (ji23) p121 q121
             have hw121_0:=hx121_0
             obtain rfl:ad119=ad121:=(by injection e121)
             replace hx121_0:=(HB.out.cell (World.block_lt_of_cell? w _ hx121_0)).trans hx121_0
             replace p121:=eq_true p121
             replace q121:=eq_true q121
             refine start_ (n:=20) (S:=fun w'=>w'.cell? (ad119.add ((ji17)).toNat)=some (.int .u32 (rd l0 (ji17)))/\w'.cell? (ad119.add ((ji20)).toNat)=some (.int .u32 (rd l0 (ji20)))/\w'.cell? (ad119.add ((ji23)).toNat)=some (.int .u32 (rd l0 (ji23)))) (ds := []) (Array.replicate 20 false) (by kernel_rfl) rfl rfl ⟨((HB.out.cell (World.block_lt_of_cell? w _ hw119_0)).trans hw119_0),((HB.out.cell (World.block_lt_of_cell? w _ hw120_0)).trans hw120_0),((HB.out.cell (World.block_lt_of_cell? w _ hw121_0)).trans hw121_0)⟩ (fun hHeld=>?_);refine with_tabW codec_guessed.tab8 codec_guessed.bits8 (fun HT_ HW_=>?_)
             generalize wc.drew=w27 at HB hx119_0 hx120_0 hx121_0 hHeld ⊢
             refine pu 0 39 HT_ ?_
             refine pu 1 40 HT_ ?_
             refine pu 2 41 HT_ ?_
             refine pu 3 42 HT_ ?_
             refine pu 5 44 HT_ ?_
             refine pu 6 45 HT_ ?_
             refine pu 7 46 HT_ ?_
             refine pu 8 47 HT_ ?_
             refine pu 9 48 HT_ ?_
             refine pu 11 50 HT_ ?_
             refine pu 12 51 HT_ ?_
             refine pu 13 52 HT_ ?_
             refine pu 14 53 HT_ ?_
             refine pu 15 54 HT_ ?_
             refine pu 16 55 HT_ ?_
             refine tk 4 43 HT_ HW_ hHeld rfl (by rintro w' ⟨s0,s1,s2⟩;go_simp;with_reducible rfl) ?_
             refine tk 10 49 HT_ HW_ hHeld rfl (by rintro w' ⟨s0,s1,s2⟩;go_simp;with_reducible rfl) ?_
             refine tk 17 56 HT_ HW_ hHeld rfl (by rintro w' ⟨s0,s1,s2⟩;go_simp;with_reducible rfl) ?_
             refine one_ (i:=18) (N:=some 57) #[true,true,true,true,true,true,true,true,true,true,true,true,true,true,true,true,true,true,true,false] rfl rfl (one_of HT_.out (by kernel_rfl)) (by decide) (fun K hK=>?_)
             refine goes_ Tryz.func240 (by kernel_rfl) rfl #[.int .u32 (rd l0 (ji17)),.int .u32 (rd l0 (ji20)),.int .u32 (rd l0 (ji23))] (by rfl) rfl rfl (by(try simp only[List.map_toArray,List.map_cons,List.map_nil]);rfl) ?_
             with_reducible refine(codec_Guess.calls (rd l0 (ji17)) (rd l0 (ji20)) (rd l0 (ji23)) t122 _ A26.out).mono ?_
             rintro e w28 ⟨rfl,hb⟩
             refine⟨_,rfl,?_⟩
             have n0_:=Aside0.mk (below_step (by repeat((with_reducible exact HB.out))) hb)
             clear HB
             have HB:=n0_
             clear n0_
             (try clear hb)
             refine hK.out _ _ ⟨((HB.out.cell (World.block_lt_of_cell? w _ hw119_0)).trans hw119_0),((HB.out.cell (World.block_lt_of_cell? w _ hw120_0)).trans hw120_0),((HB.out.cell (World.block_lt_of_cell? w _ hw121_0)).trans hw121_0)⟩ (fun hHeld=>?_)
             clear hK K
             refine norm_ (a':=?_) ?_ ?_
             rotate_left
             ·show Act.put _ (some 57) _=_
              simp only[Act.put,List.setIfInBounds_toArray,List.set_cons_zero,List.set_cons_succ,i64_w,i32_w]
              rfl
             refine pu 19 6 HT_ ?_
             refine done_ (done_of HT_.out (by kernel_rfl)) ?_
             try go_wp2
             go_ret
             exact⟨by rfl,by repeat((with_reducible exact HB.out))⟩
            ·rw[if_neg c25] at H
             exact absurd H (by simp)
           ·rw[if_neg c24] at H
            exact absurd H (by simp)
          ·rw[if_neg c22] at H
           exact absurd H (by simp)
         ·rw[if_neg c21] at H
          exact absurd H (by simp)
        ·rw[if_neg c19] at H
         exact absurd H (by simp)
       ·rw[if_neg c18] at H
        exact absurd H (by simp)
def codec_Rests.l0:Nat->List Int->List Int->Int->Int->Int->Int->List Int->Option (List Int×Int)
 | 0,_,_,_,_,_,_,_=>none
 | k+1,x5,x14,x15,x16,x124000,x124001,x124002=>if x16<x15 then (if 0<=x16 then (if x16<(x14.length:Int) then ((bits_Key.f (rd x14 x16)).bind fun t126=>((codec_guessed.f k x124002 x124000 x16).bind fun t127=>((bits_Key.f t127).bind fun t128=>(if x5.length<35184372088832 then (codec_Rests.l0 k (x5 ++ [(t126-t128)%4294967296]) x14 x15 (wrap64 (x16+1)) x124000 x124001 x124002) else (none))))) else (none)) else (none)) else (some (x5,0))
def codec_Rests.f (k:Nat) (a0_0:Int) (a0_1:Int) (l0_2:List Int):Option (List Int×Int):=(plane_Check.f a0_0 a0_1 l0_2).bind fun t124=>(if t124=0 then (codec_Rests.l0 k ([]:List Int) l0_2 (l0_2.length:Int) 0 a0_0 a0_1 l0_2) else (some (([]:List Int),t124)))
def codec_Rests.T8:Bool×List (List Nat×List Nat):=(true,[([],[]),([],[]),([1],[1]),([],[]),([3],[3]),([],[]),([5],[5]),([],[]),([4,6,7,2],[4,6,7]),([8,8],[8]),([2,9],[2,9]),([10],[10]),([0,11,9],[0,11]),([12,12,0,1,2,3,4,5,6,7,8,9,10,11,12],[0,12])])
def codec_Rests.B8:List Nat := [0,0,2,0,8,0,32,0,254,510,1022,2046,4095,8191]
theorem codec_Rests.tab8:rtab .any (opsOf Tryz.f119 8)=codec_Rests.T8:=by kernel_rfl
theorem codec_Rests.bits8:waitsOk codec_Rests.T8.2 codec_Rests.B8=true:=by kernel_rfl
set_option maxHeartbeats 8000000 in
set_option maxRecDepth 100000 in
theorem codec_Rests.calls (k:Nat) (a0_0:Int) (a0_1:Int) (A0_2:Option Addr) (c0_2:Nat) (l0_2:List Int) (r1:List Int) (r2:Int) (w:World) (hr0_2:Kd.C (Kd.int .u32) w A0_2 l0_2.length l0_2) (hc0_2:l0_2.length<=c0_2) (h:codec_Rests.f k a0_0 a0_1 l0_2=some (r1,r2)) :
  Calls Tryz.prog 119 #[.agg #[.int .i64 a0_0,.int .i64 a0_1,.slice A0_2 l0_2.length c0_2]] w fun e w' => ∃v0_:Value,e = .returned (.tuple #[v0_,.int .i64 r2])/\Kd.R (Kd.int .u32) 56 w' w.heap.size (fun _=>True) v0_ r1/\Below w.heap.size w w':=by
 have hu58:=Tryz.underlying58
 have HR0_2:=Aside0.mk hr0_2
 have HC0_2:=Aside0.mk hc0_2
 clear hr0_2 hc0_2
 have HB:=Aside0.mk (Below.refl w.heap.size w)
 have H:((plane_Check.f a0_0 a0_1 l0_2).bind fun t124=>(if t124=0 then (codec_Rests.l0 k ([]:List Int) l0_2 (l0_2.length:Int) 0 a0_0 a0_1 l0_2) else (some (([]:List Int),t124))))=some (r1,r2):=h
 clear h
 replace H:=Option.bind_eq_some_iff.mp H
 obtain⟨t124,A20,H⟩:=H
 replace H:(if t124=0 then (codec_Rests.l0 k ([]:List Int) l0_2 (l0_2.length:Int) 0 a0_0 a0_1 l0_2) else (some (([]:List Int),t124)))=some (r1,r2):=H
 have A2:=Aside0.mk A20
 clear A20
 by_cases c3:t124=0
 ·rw[if_pos c3] at H
  have c3b0:(t124==0)=true:=beq_iff_eq.mpr c3
  have c3b1:(t124 !=0)=false:=bne_eq_false_iff_eq.mpr c3
  clear c3
  have H':=Aside0.mk H
  clear H
  go_enter Tryz.func119,Tryz.ntmps119
  go_wp2_with (first|((with_reducible refine gate_dst (N:=1) rfl ?_);refine box_event ?hg (N:=1) ?hd (cs := #[.int .i64 a0_0,.int .i64 a0_1,.slice A0_2 l0_2.length c0_2]) (t:=58) ?hr ?_;(case hd=>rfl);(case hg=>rfl);(case hr=>(go_simp;done));intro gb123 hg w4 hbox hb;have n0_:=Aside0.mk (below_step (by repeat((with_reducible exact HB.out))) hb);have n1_:=Aside0.mk (hbox);have n2_:=Aside0.mk ((by rw[hg];exact(below_size (by repeat((with_reducible exact HB.out)))):w.heap.size<=gb123));have n3_:=Aside0.mk ((by rw[hg];exact(below_size (by repeat((with_reducible exact HB.out)))):w.heap.size<=gb123));clear HB;have HB:=n0_;have BK123:=n1_;have GW123:=n2_;have GE123:=n3_;clear n0_ n1_ n2_ n3_;clear hb hbox hg;have hcz5_0:w4.cell? ⟨gb123,0,none⟩=some (.int .i64 a0_0):=(blk_cell BK123.out 0).trans rfl;have hcz5_1:w4.cell? ⟨gb123,1,none⟩=some (.int .i64 a0_1):=(blk_cell BK123.out 1).trans rfl;have hcz5_2:w4.cell? ⟨gb123,2,none⟩=some (.slice A0_2 l0_2.length c0_2):=(blk_cell BK123.out 2).trans rfl;have hfz5_0:=blk_frozen BK123.out 0;have hfz5_1:=blk_frozen BK123.out 1;have hfz5_2:=blk_frozen BK123.out 2)|((with_reducible refine gate_callee (f:=67) rfl ?_);refine goesL_ (some 9) rfl rfl Tryz.func67 (by kernel_rfl) rfl #[.agg #[.int .i64 a0_0,.int .i64 a0_1,.slice A0_2 l0_2.length c0_2]] rfl (by(try simp only[List.map_toArray,List.map_cons,List.map_nil]);rfl) ?_;(with_reducible refine(plane_Check.calls a0_0 a0_1 _ _ l0_2 t124 _ ?side1 ?side2 A2.out).mono ?_);(case side1=>repeat((exact(Kd.C_below HR0_2.out HB.out))));(case side2=>exact HC0_2.out);rintro e w6 ⟨rfl,hb⟩;refine⟨_,rfl,?_⟩;have n0_:=Aside0.mk (blk_below (g:=gb123) (o := .cells #[.int .i64 a0_0,.int .i64 a0_1,.slice A0_2 l0_2.length c0_2] 58 (0,0)) (by(with_reducible repeat(fail));exact BK123.out) hb);have n1_:=Aside0.mk (below_step (by repeat((with_reducible exact HB.out))) hb);clear BK123;clear HB;have BK123:=n0_;have HB:=n1_;clear n0_ n1_;(try clear hb);have hcz7_0:w6.cell? ⟨gb123,0,none⟩=some (.int .i64 a0_0):=(blk_cell BK123.out 0).trans rfl;have hcz7_1:w6.cell? ⟨gb123,1,none⟩=some (.int .i64 a0_1):=(blk_cell BK123.out 1).trans rfl;have hcz7_2:w6.cell? ⟨gb123,2,none⟩=some (.slice A0_2 l0_2.length c0_2):=(blk_cell BK123.out 2).trans rfl;have hfz7_0:=blk_frozen BK123.out 0;have hfz7_1:=blk_frozen BK123.out 1;have hfz7_2:=blk_frozen BK123.out 2))
  go_loopg [5,16] k (fun kq v5 v16 w' => ∃(x5_1:List Int) (x16_1:Int),v16 = .int .i64 x16_1/\Aside0 (codec_Rests.l0 kq x5_1 l0_2 (l0_2.length:Int) x16_1 a0_0 a0_1 l0_2=some (r1,r2))/\Aside0 (kq<=k)/\Aside0 (Kd.R (Kd.int .u32) 56 w' w.heap.size (fun _=>True) v5 x5_1)/\Aside0 (w'.heap[gb123]?=some (.cells #[.int .i64 a0_0,.int .i64 a0_1,(.slice A0_2 l0_2.length c0_2)] 58 (0,0)))/\Aside0 (Below w.heap.size w w'))
  case atStart=>exact⟨(([]:List Int)),(0),(by rfl),H',⟨Nat.le_refl _⟩,⟨by exact Kd.R_nil _ _ _ _ _⟩,⟨by(with_reducible repeat(fail));exact BK123.out⟩,⟨by repeat((with_reducible exact HB.out))⟩⟩
  case round =>
   clear H'
   (try clear c3b0)
   (try clear c3b1)
   (try clear hcz5_0)
   (try clear hcz5_1)
   (try clear hcz5_2)
   (try clear hcz7_0)
   (try clear hcz7_1)
   (try clear hcz7_2)
   (try clear hfz5_0)
   (try clear hfz5_1)
   (try clear hfz5_2)
   (try clear hfz7_0)
   (try clear hfz7_1)
   (try clear hfz7_2)
   obtain⟨x5_1,x16_1,rfl,HA,HK1,HO_5,BK123,HB⟩:=hrel
   cases gk with
   | zero=>exact absurd HA.out (by simp[codec_Rests.l0])
   | succ k1 =>
    have H:=HA.out
    clear HA
    simp only[codec_Rests.l0] at H
    by_cases c8:x16_1<(l0_2.length:Int)
    ·rw[if_pos c8] at H
     have c8b0:decide (x16_1<(l0_2.length:Int))=true:=decide_eq_true c8
     clear c8
     by_cases c9:0<=x16_1
     ·rw[if_pos c9] at H
      have c9b0:decide (0<=x16_1)=true:=decide_eq_true c9
      clear c9
      by_cases c10:x16_1<(l0_2.length:Int)
      ·rw[if_pos c10] at H
       have c10b0:decide (x16_1<(l0_2.length:Int))=true:=decide_eq_true c10
       clear c10
       replace H:=Option.bind_eq_some_iff.mp H
       obtain⟨t126,A110,H⟩:=H
       replace H:((codec_guessed.f k1 l0_2 a0_0 x16_1).bind fun t127=>((bits_Key.f t127).bind fun t128=>(if x5_1.length<35184372088832 then (codec_Rests.l0 k1 (x5_1 ++ [(t126-t128)%4294967296]) l0_2 (l0_2.length:Int) (wrap64 (x16_1+1)) a0_0 a0_1 l0_2) else (none))))=some (r1,r2):=H
       have A11:=Aside0.mk A110
       clear A110
       replace H:=Option.bind_eq_some_iff.mp H
       obtain⟨t127,A120,H⟩:=H
       replace H:((bits_Key.f t127).bind fun t128=>(if x5_1.length<35184372088832 then (codec_Rests.l0 k1 (x5_1 ++ [(t126-t128)%4294967296]) l0_2 (l0_2.length:Int) (wrap64 (x16_1+1)) a0_0 a0_1 l0_2) else (none)))=some (r1,r2):=H
       have A12:=Aside0.mk A120
       clear A120
       replace H:=Option.bind_eq_some_iff.mp H
       obtain⟨t128,A130,H⟩:=H
       replace H:(if x5_1.length<35184372088832 then (codec_Rests.l0 k1 (x5_1 ++ [(t126-t128)%4294967296]) l0_2 (l0_2.length:Int) (wrap64 (x16_1+1)) a0_0 a0_1 l0_2) else (none))=some (r1,r2):=H
       have A13:=Aside0.mk A130
       clear A130
       by_cases c14:x5_1.length<35184372088832
       ·rw[if_pos c14] at H
        have LMc14:=Aside0.mk c14
        clear c14
        obtain⟨y129,hy129⟩ : ∃y_:List Int,y_=(x5_1 ++ [(t126-t128)%4294967296]):=⟨_,rfl⟩
        replace H:(codec_Rests.l0 k1 y129 l0_2 (l0_2.length:Int) (wrap64 (x16_1+1)) a0_0 a0_1 l0_2)=some (r1,r2):=by(rw[hy129];with_reducible exact H)
        have Ny129:=Aside0.mk hy129
        clear hy129
        have H':=Aside0.mk H
        clear H
        have p125:0<=(x16_1:Int):=of_decide_eq_true (by(with_reducible assumption))
        have q125:x16_1<(l0_2.length:Int):=of_decide_eq_true (by(with_reducible assumption))
        obtain⟨ad125,e125,hx125_0⟩:=Kd.at_int HR0_2.out x16_1 p125 q125
        cases e125
        replace hx125_0:=(HB.out.cell (World.block_lt_of_cell? w _ hx125_0)).trans hx125_0
        replace p125:=eq_true p125
        replace q125:=eq_true q125
        try go_wp2
        have n0_:=Aside0.mk (Kd.R_drew HO_5.out)
        have n1_:=Aside0.mk (blk_drew BK123.out)
        have n2_:=Aside0.mk (below_drew1 HB.out)
        clear HO_5
        clear BK123
        clear HB
        have HO_5:=n0_
        have BK123:=n1_
        have HB:=n2_
        clear n0_ n1_ n2_
        refine start_ (n:=14) (S:=fun w'=>w'.cell? ⟨gb123,0,none⟩=some (.int .i64 a0_0)/\w'.cell? ⟨gb123,1,none⟩=some (.int .i64 a0_1)/\w'.cell? ⟨gb123,2,none⟩=some (.slice (some ad125) l0_2.length c0_2)) (ds := []) (Array.replicate 14 false) (by kernel_rfl) rfl rfl ⟨(blk_cell BK123.out 0).trans rfl,(blk_cell BK123.out 1).trans rfl,(blk_cell BK123.out 2).trans rfl⟩ (fun hHeld=>?_);refine with_tabW codec_Rests.tab8 codec_Rests.bits8 (fun HT_ HW_=>?_)
        generalize wr.drew=w15 at HO_5 BK123 HB hHeld ⊢
        refine pu 0 21 HT_ ?_
        refine pu 1 22 HT_ ?_
        refine pu 3 24 HT_ ?_
        refine pu 5 26 HT_ ?_
        refine pu 7 28 HT_ ?_
        refine tk 4 25 HT_ HW_ hHeld rfl (by rintro w' ⟨s0,s1,s2⟩;go_simp;with_reducible rfl) ?_
        refine tk 6 27 HT_ HW_ hHeld rfl (by rintro w' ⟨s0,s1,s2⟩;go_simp;with_reducible rfl) ?_
        refine one_ (i:=2) (N:=some 23) #[true,true,true,true,true,true,true,true,false,false,false,false,false,false] rfl rfl (one_of HT_.out (by kernel_rfl)) (by decide) (fun K hK=>?_)
        refine goes_ Tryz.func173 (by kernel_rfl) rfl #[.int .u32 (rd l0_2 x16_1)] (by rfl) rfl rfl (by(try simp only[List.map_toArray,List.map_cons,List.map_nil]);rfl) ?_
        with_reducible refine(bits_Key.calls (rd l0_2 x16_1) t126 _ A11.out).mono ?_
        rintro e w' ⟨rfl,⟨nd,rfl⟩⟩
        refine⟨_,rfl,?_⟩
        refine hK.out _ _ ⟨(blk_cell BK123.out 0).trans rfl,(blk_cell BK123.out 1).trans rfl,(blk_cell BK123.out 2).trans rfl⟩ (fun hHeld=>?_)
        clear hK K
        refine norm_ (a':=?_) ?_ ?_
        rotate_left
        ·show Act.put _ (some 23) _=_
         simp only[Act.put,List.setIfInBounds_toArray,List.set_cons_zero,List.set_cons_succ,i64_w,i32_w]
         rfl
        refine one_ (i:=8) (N:=some 29) #[true,true,true,true,true,true,true,true,true,false,false,false,false,false] rfl rfl (one_of HT_.out (by kernel_rfl)) (by decide) (fun K hK=>?_)
        refine goes_ Tryz.func174 (by kernel_rfl) rfl #[.slice (some ad125) l0_2.length c0_2,.int .i64 a0_0,.int .i64 x16_1] (by rfl) rfl rfl (by(try simp only[List.map_toArray,List.map_cons,List.map_nil]);rfl) ?_
        with_reducible refine(codec_guessed.calls k1 _ _ l0_2 a0_0 x16_1 t127 _ ?side1 ?side2 A12.out).mono ?_
        (case side1=>repeat((exact(Kd.C_below HR0_2.out (by repeat((with_reducible first|exact HB.out|apply pw_below_drewN)))))))
        (case side2=>exact HC0_2.out)
        rintro e w16 ⟨rfl,hb⟩
        refine⟨_,rfl,?_⟩
        have n0_:=Aside0.mk (Kd.R_below (by(with_reducible repeat(apply Kd.R_drewN));exact HO_5.out) hb)
        have n1_:=Aside0.mk (blk_below (g:=gb123) (o := .cells #[.int .i64 a0_0,.int .i64 a0_1,.slice (some ad125) l0_2.length c0_2] 58 (0,0)) (by(with_reducible repeat((refine blk_drewN ?_ _)));exact BK123.out) hb)
        have n2_:=Aside0.mk (below_step (by repeat((with_reducible first|exact HB.out|apply pw_below_drewN))) hb)
        clear HO_5
        clear BK123
        clear HB
        have HO_5:=n0_
        have BK123:=n1_
        have HB:=n2_
        clear n0_ n1_ n2_
        (try clear hb)
        refine hK.out _ _ ⟨(blk_cell BK123.out 0).trans rfl,(blk_cell BK123.out 1).trans rfl,(blk_cell BK123.out 2).trans rfl⟩ (fun hHeld=>?_)
        clear hK K
        refine norm_ (a':=?_) ?_ ?_
        rotate_left
        ·show Act.put _ (some 29) _=_
         simp only[Act.put,List.setIfInBounds_toArray,List.set_cons_zero,List.set_cons_succ,i64_w,i32_w]
         rfl
        refine one_ (i:=9) (N:=some 30) #[true,true,true,true,true,true,true,true,true,true,false,false,false,false] rfl rfl (one_of HT_.out (by kernel_rfl)) (by decide) (fun K hK=>?_)
        refine goes_ Tryz.func173 (by kernel_rfl) rfl #[.int .u32 t127] (by rfl) rfl rfl (by(try simp only[List.map_toArray,List.map_cons,List.map_nil]);rfl) ?_
        with_reducible refine(bits_Key.calls t127 t128 _ A13.out).mono ?_
        rintro e w' ⟨rfl,⟨nd,rfl⟩⟩
        refine⟨_,rfl,?_⟩
        refine hK.out _ _ ⟨(blk_cell BK123.out 0).trans rfl,(blk_cell BK123.out 1).trans rfl,(blk_cell BK123.out 2).trans rfl⟩ (fun hHeld=>?_)
        clear hK K
        refine norm_ (a':=?_) ?_ ?_
        rotate_left
        ·show Act.put _ (some 30) _=_
         simp only[Act.put,List.setIfInBounds_toArray,List.set_cons_zero,List.set_cons_succ,i64_w,i32_w]
         rfl
        refine pu 10 31 HT_ ?_
        refine one_ (i:=11) (N:=some 32) #[true,true,true,true,true,true,true,true,true,true,true,true,false,false] rfl rfl (one_of HT_.out (by kernel_rfl)) (by decide) (fun K hK=>?_)
        refine value_ (w1:=?_) (v:=?_) (by rfl) rfl ?_ ?_
        rotate_left 2
        ·go_simp
         constructor
         ·rfl
         ·rfl
        refine hK.out _ _ ⟨(blk_cell (blk_alloc BK123.out _) 0).trans rfl,(blk_cell (blk_alloc BK123.out _) 1).trans rfl,(blk_cell (blk_alloc BK123.out _) 2).trans rfl⟩ (fun hHeld=>?_)
        clear hK K
        refine norm_ (a':=?_) ?_ ?_
        rotate_left
        ·show Act.put _ (some 32) _=_
         simp only[Act.put,List.setIfInBounds_toArray,List.set_cons_zero,List.set_cons_succ,i64_w,i32_w]
         rfl
        refine one_ (i:=12) (N:=some 33) #[true,true,true,true,true,true,true,true,true,true,true,true,true,false] rfl rfl (one_of HT_.out (by kernel_rfl)) (by decide) (fun K hK=>?_)
        refine Kd.R_append_step (Kd.int .u32) (w0:=w) w.heap.size (by rfl) (.tmp 21) (.tmp 32) 27 56 (.int .u32 0) 4 rfl Tryz.underlying27 info56 rfl (by decide) (by omega) u5 x5_1 ((t126-t128)%4294967296) [.int .u32 ((t126-t128)%4294967296)] (fun _=>True) (fun _=>False) rfl rfl ?aP (fun _ hk=>hk.elim) ?aF ?aO ?aB ?aS ?aL ?_
        (case aP=>exact rfl)
        (case aB=>exact(by repeat((with_reducible first|exact HB.out|apply pw_below_drewN))))
        (case aF=>exact(fun _ _=>trivial))
        (case aO=>exact(by(with_reducible repeat(apply Kd.R_drewN));exact HO_5.out))
        (case aS=>exact(below_size (by repeat((with_reducible first|exact HB.out|apply pw_below_drewN)))))
        (case aL=>have:=LMc14.out;omega)
        intro v130 w17 ho hb hg hat
        rw[<- Ny129.out] at ho
        have n0_:=Aside0.mk (blk_grown (g:=gb123) (o := .cells #[.int .i64 a0_0,.int .i64 a0_1,.slice (some ad125) l0_2.length c0_2] 58 (0,0)) (by(with_reducible repeat((refine blk_drewN ?_ _)));exact BK123.out) hg (Kd.R_ne HO_5.out BK123.out (by decide)))
        have n1_:=Aside0.mk (hb)
        have n2_:=Aside0.mk (ho)
        clear BK123
        clear HB
        clear HO_5
        have BK123:=n0_
        have HB:=n1_
        have HO131:=n2_
        clear n0_ n1_ n2_
        clear ho hb hg hat
        refine hK.out _ _ ⟨(blk_cell BK123.out 0).trans rfl,(blk_cell BK123.out 1).trans rfl,(blk_cell BK123.out 2).trans rfl⟩ (fun hHeld=>?_)
        clear hK K
        refine norm_ (a':=?_) ?_ ?_
        rotate_left
        ·show Act.put _ (some 33) _=_
         simp only[Act.put,List.setIfInBounds_toArray,List.set_cons_zero,List.set_cons_succ,i64_w,i32_w]
         rfl
        refine pu 13 5 HT_ ?_
        refine done_ (done_of HT_.out (by kernel_rfl)) ?_
        try go_wp2
        go_roundg k1
        case measure=>have:=HK1.out;omega
        case rel=>exact⟨(y129),(wrap64 (x16_1+1)),(by rfl),H',⟨by have:=HK1.out;omega⟩,⟨by(with_reducible repeat(fail));exact HO131.out⟩,⟨by(with_reducible repeat(fail));exact BK123.out⟩,⟨by repeat((with_reducible exact HB.out))⟩⟩
       ·rw[if_neg c14] at H
        exact absurd H (by simp)
      ·rw[if_neg c10] at H
       exact absurd H (by simp)
     ·rw[if_neg c9] at H
      exact absurd H (by simp)
    ·rw[if_neg c8] at H
     have c8b0:decide (x16_1<(l0_2.length:Int))=false:=decide_eq_false c8
     clear c8
     simp only[Option.some.injEq,Prod.mk.injEq] at H
     obtain⟨rfl,rfl⟩:=H
     go_wp2
     go_ret2
     exact⟨_,by rfl,by(with_reducible repeat(fail));exact HO_5.out,by repeat((with_reducible exact HB.out))⟩
 ·rw[if_neg c3] at H
  have c3b0:(t124==0)=false:=beq_eq_false_iff_ne.mpr c3
  have c3b1:(t124 !=0)=true:=bne_iff_ne.mpr c3
  simp only[Option.some.injEq,Prod.mk.injEq] at H
  obtain⟨rfl,rfl⟩:=H
  go_enter Tryz.func119,Tryz.ntmps119
  go_wp2_with (first|((with_reducible refine gate_dst (N:=1) rfl ?_);refine box_event ?hg (N:=1) ?hd (cs := #[.int .i64 a0_0,.int .i64 a0_1,.slice A0_2 l0_2.length c0_2]) (t:=58) ?hr ?_;(case hd=>rfl);(case hg=>rfl);(case hr=>(go_simp;done));intro gb123 hg w18 hbox hb;have n0_:=Aside0.mk (below_step (by repeat((with_reducible exact HB.out))) hb);have n1_:=Aside0.mk (hbox);have n2_:=Aside0.mk ((by rw[hg];exact(below_size (by repeat((with_reducible exact HB.out)))):w.heap.size<=gb123));have n3_:=Aside0.mk ((by rw[hg];exact(below_size (by repeat((with_reducible exact HB.out)))):w.heap.size<=gb123));clear HB;have HB:=n0_;have BK123:=n1_;have GW123:=n2_;have GE123:=n3_;clear n0_ n1_ n2_ n3_;clear hb hbox hg;have hcz19_0:w18.cell? ⟨gb123,0,none⟩=some (.int .i64 a0_0):=(blk_cell BK123.out 0).trans rfl;have hcz19_1:w18.cell? ⟨gb123,1,none⟩=some (.int .i64 a0_1):=(blk_cell BK123.out 1).trans rfl;have hcz19_2:w18.cell? ⟨gb123,2,none⟩=some (.slice A0_2 l0_2.length c0_2):=(blk_cell BK123.out 2).trans rfl;have hfz19_0:=blk_frozen BK123.out 0;have hfz19_1:=blk_frozen BK123.out 1;have hfz19_2:=blk_frozen BK123.out 2)|((with_reducible refine gate_callee (f:=67) rfl ?_);refine goesL_ (some 9) rfl rfl Tryz.func67 (by kernel_rfl) rfl #[.agg #[.int .i64 a0_0,.int .i64 a0_1,.slice A0_2 l0_2.length c0_2]] rfl (by(try simp only[List.map_toArray,List.map_cons,List.map_nil]);rfl) ?_;(with_reducible refine(plane_Check.calls a0_0 a0_1 _ _ l0_2 t124 _ ?side1 ?side2 A2.out).mono ?_);(case side1=>repeat((exact(Kd.C_below HR0_2.out HB.out))));(case side2=>exact HC0_2.out);rintro e w20 ⟨rfl,hb⟩;refine⟨_,rfl,?_⟩;have n0_:=Aside0.mk (blk_below (g:=gb123) (o := .cells #[.int .i64 a0_0,.int .i64 a0_1,.slice A0_2 l0_2.length c0_2] 58 (0,0)) (by(with_reducible repeat(fail));exact BK123.out) hb);have n1_:=Aside0.mk (below_step (by repeat((with_reducible exact HB.out))) hb);clear BK123;clear HB;have BK123:=n0_;have HB:=n1_;clear n0_ n1_;(try clear hb)))
  go_ret2
  exact⟨_,by rfl,by exact Kd.R_nil _ _ _ _ _,by repeat((with_reducible exact HB.out))⟩
def codec_grid_across.f (a0_0:Int) (a0_1:Int) (a0_2:Int) (a0_3:Int) (a0_4:Int):Option (Int):=if a0_4=0 then (none) else (some (wrap64 (Int.tdiv (wrap64 ((wrap64 (a0_2+a0_4))-1)) a0_4)))
set_option maxHeartbeats 8000000 in
set_option maxRecDepth 100000 in
theorem codec_grid_across.calls (a0_0:Int) (a0_1:Int) (a0_2:Int) (a0_3:Int) (a0_4:Int) (r:Int) (w:World) (h:codec_grid_across.f a0_0 a0_1 a0_2 a0_3 a0_4=some r) :
  Calls Tryz.prog 169 #[.agg #[.int .i64 a0_0,.int .i64 a0_1,.int .i64 a0_2,.int .i64 a0_3,.int .i64 a0_4]] w fun e w'=>e = .returned (.int .i64 r)/\Below w.heap.size w w':=by
 have hu177:=Tryz.underlying177
 have HB:=Aside0.mk (Below.refl w.heap.size w)
 have H:(if a0_4=0 then (none) else (some (wrap64 (Int.tdiv (wrap64 ((wrap64 (a0_2+a0_4))-1)) a0_4))))=some r:=h
 clear h
 by_cases c2:a0_4=0
 ·rw[if_pos c2] at H
  exact absurd H (by simp)
 ·rw[if_neg c2] at H
  have c2b0:(a0_4==0)=false:=beq_eq_false_iff_ne.mpr c2
  have c2b1:(a0_4 !=0)=true:=bne_iff_ne.mpr c2
  obtain rfl:=Option.some.inj H
  go_enter Tryz.func169,Tryz.ntmps169
  go_wp2_with (((with_reducible refine gate_dst (N:=1) rfl ?_);refine box_event ?hg (N:=1) ?hd (cs := #[.int .i64 a0_0,.int .i64 a0_1,.int .i64 a0_2,.int .i64 a0_3,.int .i64 a0_4]) (t:=177) ?hr ?_;(case hd=>rfl);(case hg=>rfl);(case hr=>(go_simp;done));intro gb132 hg w3 hbox hb;have n0_:=Aside0.mk (below_step (by repeat((with_reducible exact HB.out))) hb);have n1_:=Aside0.mk (hbox);have n2_:=Aside0.mk ((by rw[hg];exact(below_size (by repeat((with_reducible exact HB.out)))):w.heap.size<=gb132));have n3_:=Aside0.mk ((by rw[hg];exact(below_size (by repeat((with_reducible exact HB.out)))):w.heap.size<=gb132));clear HB;have HB:=n0_;have BK132:=n1_;have GW132:=n2_;have GE132:=n3_;clear n0_ n1_ n2_ n3_;clear hb hbox hg;have hcz4_0:w3.cell? ⟨gb132,0,none⟩=some (.int .i64 a0_0):=(blk_cell BK132.out 0).trans rfl;have hcz4_1:w3.cell? ⟨gb132,1,none⟩=some (.int .i64 a0_1):=(blk_cell BK132.out 1).trans rfl;have hcz4_2:w3.cell? ⟨gb132,2,none⟩=some (.int .i64 a0_2):=(blk_cell BK132.out 2).trans rfl;have hcz4_3:w3.cell? ⟨gb132,3,none⟩=some (.int .i64 a0_3):=(blk_cell BK132.out 3).trans rfl;have hcz4_4:w3.cell? ⟨gb132,4,none⟩=some (.int .i64 a0_4):=(blk_cell BK132.out 4).trans rfl;have hfz4_0:=blk_frozen BK132.out 0;have hfz4_1:=blk_frozen BK132.out 1;have hfz4_2:=blk_frozen BK132.out 2;have hfz4_3:=blk_frozen BK132.out 3;have hfz4_4:=blk_frozen BK132.out 4))
  go_ret
  exact⟨by rfl,by repeat((with_reducible exact HB.out))⟩
end Go.Proofs.YtgpegjmbofgmmaaGreat.PJop
