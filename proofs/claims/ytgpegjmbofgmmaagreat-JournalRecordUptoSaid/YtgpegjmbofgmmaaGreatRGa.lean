/- A part of the proof. No condition. -/
import Derived.Test.YtgpegjmbofgmmaaGreatRFa
import Derived.Test.YtgpegjmbofgmmaaGreatRPJopx4
import Derived.Test.YtgpegjmbofgmmaaGreatRPJopx5
import Derived.Test.YtgpegjmbofgmmaaGreatRPJoux3
import Derived.Laws.BitsAllLaws
namespace Go.Proofs.YtgpegjmbofgmmaaGreat.pln
open Go.RowKit Go.Proofs.YtgpegjmbofgmmaaGreatW.PrintWords Go.Proofs.YtgpegjmbofgmmaaGreat.PJop Go.Proofs.YtgpegjmbofgmmaaGreat.PJou
set_option linter.unusedVariables false
set_option linter.unusedSimpArgs false
def key (s:Int):Int:=if s<2147483648 then s+2147483648 else 4294967295-s
def U32 (x:Int):Prop:=0<=x/\x<=4294967295
theorem key_u {x:Int} (h:U32 x):0<=key x/\key x<=4294967295:=by obtain⟨h1,h2⟩:=h;unfold key;split<;>omega
theorem key_f {x:Int} (h:U32 x):bits_Key.f x=some (key x):=by
 obtain⟨h1,h2⟩:=h
 unfold bits_Key.f key
 split
 ·rw[Int.emod_eq_of_lt (by omega) (by omega)]
 ·rw[Int.emod_eq_of_lt (by omega) (by omega)]
theorem wrap_id {x:Int} (h1 : -9223372036854775808<=x) (h2:x<=9223372036854775807):wrap64 x=x:=by unfold wrap64;omega
def AllU (l:List Int):Prop := ∀x∈l,U32 x
def UL (l:List S58):Prop := ∀j:Nat,j<l.length->AllU (rd_T58 l j).f2
theorem key_g {x:Int} (h:U32 x):halideref7_Key.f x=some (key x):=by
 obtain⟨h1,h2⟩:=h
 unfold halideref7_Key.f key
 by_cases c:x<2147483648
 ·rw[if_pos c,if_pos (by omega),Int.emod_eq_of_lt (by omega) (by omega)]
 ·rw[if_neg c,if_neg (by omega),Int.emod_eq_of_lt (by omega) (by omega)]
theorem from_g {x:Int} (h:U32 x) : ∃y,U32 y/\bits_FromKey.f x=some y/\halideref7_FromKey.f x=some y:=by
 obtain⟨h1,h2⟩:=h
 unfold halideref7_FromKey.f bits_FromKey.f
 by_cases c:x>=2147483648
 ·exact⟨(x-2147483648)%4294967296,⟨by omega,by omega⟩,by rw[if_pos c],by rw[if_pos (by omega)]⟩
 ·exact⟨(4294967295-x)%4294967296,⟨by omega,by omega⟩,by rw[if_neg c],by rw[if_neg (by omega)]⟩
theorem Guess_g {a b c:Int} (ha:U32 a) (hb:U32 b) (hc:U32 c) : ∃y,U32 y/\codec_Guess.f a b c=some y/\halideref18_Guess.f a b c=some y:=by
 unfold codec_Guess.f halideref18_Guess.f
 rw[key_f ha,key_f hb,key_f hc,key_g ha,key_g hb,key_g hc]
 simp only[Option.bind_some,codec_middle.f]
 obtain⟨y,h1,h2,h3⟩:=from_g (x:=(mx (mn (wrap64 (key a)) (wrap64 (key b))) (mn (mx (wrap64 (key a)) (wrap64 (key b))) (wrap64 ((wrap64 ((wrap64 (key a))+(wrap64 (key b))))-(wrap64 (key c))))))%4294967296) ⟨by omega,by omega⟩
 exact⟨y,h1,by rw[h2];rfl,by rw[h3];rfl⟩
theorem rd_u {l:List Int} (h:AllU l) (i:Int):U32 (rd l i):=by
 unfold rd
 rw[List.getD_eq_getElem?_getD]
 cases e:l[i.toNat]? with
 | none=>exact⟨by simp,by simp⟩
 | some x=>exact h x (List.mem_of_getElem? e)
theorem guess_g {l:List Int} (hl:AllU l) {w:Int} (hw:1<=w) (hw2:w<=1024) (i k:Nat) (hi:i<l.length) (hs:l.length<=65536) : ∃y,U32 y/\codec_guessed.f (k+1) l w i=some y/\halideref18_guess.f w l i=some y:=by
 unfold codec_guessed.f halideref18_guess.f
 have d0:0<=(i:Int)/w:=Int.ediv_nonneg (by omega) (by omega)
 have d1:(i:Int)/w<=i:=Int.ediv_le_self _ (by omega)
 have d2:=Int.emod_nonneg (i:Int) (show w≠0 by omega)
 have d3:=Int.emod_lt_of_pos (i:Int) (show 0<w by omega)
 have d4:=Int.mul_ediv_add_emod (i:Int) w
 rw[if_neg (show w≠0 by omega),if_neg (show w≠0 by omega),Int.tmod_eq_emod_of_nonneg (by omega),Int.tdiv_eq_ediv_of_nonneg (by omega),wrap_id (x:=(i:Int)/w) (by omega) (by omega)]
 simp only[codec_guessed.j0]
 generalize hq:(i:Int)/w=q at *
 generalize hm:(i:Int)%w=m at *
 have e1:wrap64 ((i:Int)-1)=(i:Int)-1:=wrap_id (by omega) (by omega)
 have e2:wrap64 ((i:Int)-w)=(i:Int)-w:=wrap_id (by omega) (by omega)
 have e3:wrap64 ((i:Int)-w-1)=(i:Int)-w-1:=wrap_id (by omega) (by omega)
 simp only[e1,e2,e3]
 by_cases c0:(i:Int)=0
 ·have q0:q=0:=by omega
  subst q0
  have m0:m=0:=by omega
  subst m0
  rw[if_pos rfl,if_pos c0]
  exact⟨0,⟨by omega,by omega⟩,by simp,rfl⟩
 ·rw[if_neg c0]
  have a1:0<=(i:Int)-1:=by omega
  have a2:(i:Int)-1<(l.length:Int):=by omega
  by_cases cq:q=0
  ·subst cq
   have mi:m≠0:=by omega
   refine⟨rd l ((i:Int)-1),rd_u hl _,?_,?_⟩
   ·rw[if_neg mi,if_neg (by simp),if_pos rfl,if_pos a1,if_pos a2]
   ·rw[if_pos rfl,if_pos a1,if_pos a2]
  ·have hwi:w<=i:=by
    have:w*1<=w*q:=Int.mul_le_mul_of_nonneg_left (by omega) (by omega)
    omega
   have a3:0<=(i:Int)-w:=by omega
   have a4:(i:Int)-w<(l.length:Int):=by omega
   have bq:(q==0)=false:=by simpa using cq
   by_cases cm:m=0
   ·refine⟨rd l ((i:Int)-w),rd_u hl _,?_,?_⟩
    ·rw[if_pos cm,bq,if_neg (by simp),if_neg cq,if_pos cm,if_pos a3,if_pos a4]
    ·rw[if_neg cq,if_pos cm,if_pos a3,if_pos a4]
   ·have hwi2:w+1<=i:=by
     have:w*1<=w*q:=Int.mul_le_mul_of_nonneg_left (by omega) (by omega)
     omega
    have a5:0<=(i:Int)-w-1:=by omega
    have a6:(i:Int)-w-1<(l.length:Int):=by omega
    obtain⟨y,h1,h2,h3⟩:=Guess_g (rd_u hl ((i:Int)-1)) (rd_u hl ((i:Int)-w)) (rd_u hl ((i:Int)-w-1))
    refine⟨y,h1,?_,?_⟩
    ·rw[if_neg cm,if_neg (by simp),if_neg cq,if_neg cm,if_pos a1,if_pos a2,if_pos a3,if_pos a4,if_pos a5,if_pos a6,h2];rfl
    ·rw[if_neg cq,if_neg cm,if_pos a1,if_pos a2,if_pos a3,if_pos a4,if_pos a5,if_pos a6,h3];rfl
theorem light_total (sp:Int) (l:List S58) : ∀(d k i:Nat) (x:Int),i<=l.length->i<=10->10-i=d->d<k -> ∃b,halidelaw25_light.l0 k x i sp l=some b
 | d,0,i,x,h1,h2,h3,h4=>by omega
 | d,k+1,i,x,h1,h2,h3,h4=>by
  simp only[halidelaw25_light.l0]
  by_cases c1:(i:Int)<(l.length:Int)
  ·rw[if_pos c1]
   by_cases c2:(i:Int)<10
   ·rw[if_pos c2,if_pos (by omega),wrap_id (x:=(i:Int)+1) (by omega) (by omega)]
    have:=light_total sp l (10-(i+1)) k (i+1) (wrap64 (x+(((rd_T58 l i).f2).length:Int))) (by omega) (by omega) rfl (by omega)
    simpa using this
   ·rw[if_neg c2];exact⟨_,rfl⟩
  ·rw[if_neg c1];exact⟨_,rfl⟩
theorem light_f (sp:Int) (l:List S58) : ∃b,halidelaw25_light.f 200 sp l=some b:=light_total sp l 10 200 0 _ (by omega) (by omega) rfl (by omega)
structure PlaneOK (x:S58):Prop where
 tall:1<=x.f1
 high:x.f1<=1024
 w:1<=x.f0
 size:(x.f2.length:Int)=x.f0*x.f1
 small:x.f2.length<=65536
 wide:x.f0<=1024
 chk:plane_Check.f x.f0 x.f1 x.f2=some 0
theorem size_f (w h:Int) : ∃b,plane_size.f w h=some b/\(b=true->1<=w/\1<=h/\w<=1024/\h<=1024/\w*h<=65536):=by
 unfold plane_size.f
 by_cases c1:w>=1
 ·rw[if_pos c1]
  by_cases c2:h>=1
  ·rw[if_pos c2]
   by_cases c3:w<=1024
   ·rw[if_pos c3]
    by_cases c4:h<=1024
    ·rw[if_pos c4]
     refine⟨_,rfl,fun hb=>?_⟩
     have h1:w*h<=1024*1024:=Int.mul_le_mul c3 c4 (by omega) (by omega)
     have h2:0<=w*h:=Int.mul_nonneg (by omega) (by omega)
     rw[wrap_id (by omega) (by omega)] at hb
     exact⟨c1,c2,c3,c4,of_decide_eq_true hb⟩
    ·rw[if_neg c4];exact⟨_,rfl,fun h=>by simp at h⟩
   ·rw[if_neg c3];exact⟨_,rfl,fun h=>by simp at h⟩
  ·rw[if_neg c2];exact⟨_,rfl,fun h=>by simp at h⟩
 ·rw[if_neg c1];exact⟨_,rfl,fun h=>by simp at h⟩
theorem plane_f (x:S58) : ∃e,plane_Check.f x.f0 x.f1 x.f2=some e/\(e=0->PlaneOK x):=by
 unfold plane_Check.f
 obtain⟨b,hb,hs⟩:=size_f x.f0 x.f1
 rw[hb]
 simp only[Option.bind_some]
 cases b with
 | false=>exact⟨51-1,by simp,by simp⟩
 | true =>
  rw[if_pos rfl]
  obtain⟨h1,h2,h3,h4,h5⟩:=hs rfl
  have h6:0<=x.f0*x.f1:=Int.mul_nonneg (by omega) (by omega)
  rw[wrap_id (by omega) (by omega)]
  by_cases c:(x.f2.length:Int)=x.f0*x.f1
  ·rw[if_pos c];exact⟨0,rfl,fun _=>⟨h2,h4,h1,c,by omega,h3,by unfold plane_Check.f;rw[hb,Option.bind_some,if_pos rfl,wrap_id (x:=x.f0*x.f1) (by omega) (by omega),if_pos c]⟩⟩
  ·rw[if_neg c];exact⟨51,rfl,by simp⟩
theorem space_f (a b:Int) : ∃e,picture_spaceOf.f a b=some e/\(e=0->0<=a/\a<=4):=by
 unfold picture_spaceOf.f
 repeat(first|exact⟨_,rfl,fun h=>by omega⟩|split)
structure Good (l:List S58):Prop where
 pos:1<=l.length
 few:l.length<=4
 ok : ∀j:Nat,j<l.length->PlaneOK (rd_T58 l j)
 same : ∀j:Nat,j<l.length->(rd_T58 l j).f0=(rd_T58 l 0).f0/\(rd_T58 l j).f1=(rd_T58 l 0).f1
theorem check_l1 (sp:Int) (l:List S58) (h0:1<=l.length) (h4:l.length<=4) : ∀(d k i:Nat),i<=l.length->l.length-i=d->d<k ->
  ∃e,picture_Check.l1 k l l.length i sp l=some e/\(e=0->(0<=sp/\sp<=4) /\ ∀j:Nat,i<=j->j<l.length->(rd_T58 l j).f0=(rd_T58 l 0).f0/\(rd_T58 l j).f1=(rd_T58 l 0).f1)
 | d,0,i,h1,h2,h3=>by omega
 | d,k+1,i,h1,h2,h3=>by
  simp only[picture_Check.l1]
  by_cases c1:(i:Int)<(l.length:Int)
  ·rw[if_pos c1,if_pos (by omega),if_pos c1,if_pos (by omega)]
   by_cases c2:(rd_T58 l i).f0=(rd_T58 l 0).f0
   ·rw[if_pos c2]
    by_cases c3:(rd_T58 l i).f1=(rd_T58 l 0).f1
    ·rw[if_pos c3,wrap_id (x:=(i:Int)+1) (by omega) (by omega)]
     obtain⟨e,he,hr⟩:=check_l1 sp l h0 h4 (l.length-(i+1)) k (i+1) (by omega) rfl (by omega)
     refine⟨e,by simpa using he,fun h=>⟨(hr h).1,fun j hj1 hj2=>?_⟩⟩
     rcases Nat.eq_or_lt_of_le hj1 with rfl|hj
     ·exact⟨c2,c3⟩
     ·exact(hr h).2 j (by omega) hj2
    ·rw[if_neg c3];exact⟨80,rfl,by simp⟩
   ·rw[if_neg c2];exact⟨80,rfl,by simp⟩
  ·rw[if_neg c1]
   obtain⟨e,he,hs⟩:=space_f sp l.length
   rw[he]
   exact⟨e,rfl,fun h=>⟨hs h,fun j hj1 hj2=>by omega⟩⟩
theorem check_l0 (sp:Int) (l:List S58) (h0:1<=l.length) (h4:l.length<=4) : ∀(d k i:Nat),i<=l.length->l.length-i=d->d+6<k ->
  ∃e,picture_Check.l0 k l l.length i sp l=some e/\(e=0->(∀j:Nat,i<=j->j<l.length->PlaneOK (rd_T58 l j))/\(∀j:Nat,j<l.length->(rd_T58 l j).f0=(rd_T58 l 0).f0/\(rd_T58 l j).f1=(rd_T58 l 0).f1)/\0<=sp/\sp<=4)
 | d,0,i,h1,h2,h3=>by omega
 | d,k+1,i,h1,h2,h3=>by
  simp only[picture_Check.l0]
  by_cases c1:(i:Int)<(l.length:Int)
  ·rw[if_pos c1,if_pos (by omega),if_pos c1]
   obtain⟨e,he,hr⟩:=plane_f (rd_T58 l i)
   rw[he]
   simp only[Option.bind_some]
   by_cases c2:e=0
   ·rw[if_pos c2,wrap_id (x:=(i:Int)+1) (by omega) (by omega)]
    obtain⟨e',he',hr'⟩:=check_l0 sp l h0 h4 (l.length-(i+1)) k (i+1) (by omega) rfl (by omega)
    refine⟨e',by simpa using he',fun h=>⟨fun j hj1 hj2=>?_,(hr' h).2⟩⟩
    rcases Nat.eq_or_lt_of_le hj1 with rfl|hj
    ·exact hr c2
    ·exact(hr' h).1 j (by omega) hj2
   ·rw[if_neg c2];exact⟨e,rfl,fun h=>absurd h c2⟩
  ·rw[if_neg c1]
   obtain⟨e,he,hr⟩:=check_l1 sp l h0 h4 l.length k 0 (by omega) (by omega) (by omega)
   exact⟨e,by simpa using he,fun h=>⟨fun j hj1 hj2=>by omega,fun j hj=>(hr h).2 j (by omega) hj,(hr h).1⟩⟩
theorem check_f (sp:Int) (l:List S58) : ∃e,picture_Check.f 20 sp l=some e/\(e=0->Good l/\0<=sp/\sp<=4):=by
 unfold picture_Check.f
 by_cases c1:(l.length:Int)=0
 ·rw[if_pos c1]
  exact⟨80,by simp[picture_Check.j0],by simp⟩
 ·rw[if_neg c1]
  by_cases c2:(l.length:Int)>4
  ·exact⟨80,by simp[picture_Check.j0,c2],by simp⟩
  ·obtain⟨e,he,hr⟩:=check_l0 sp l (by omega) (by omega) l.length 19 0 (by omega) (by omega) (by omega)
   refine⟨e,?_,fun h=>⟨⟨by omega,by omega,fun j hj=>(hr h).1 j (by omega) hj,(hr h).2.1⟩,(hr h).2.2⟩⟩
   simp only[picture_Check.j0,decide_eq_false c2]
   simpa using he
theorem size_eq (a b:Int):halideref5_Size.f a b=plane_size.f a b:=by
 unfold halideref5_Size.f plane_size.f
 by_cases c1:a>=1<;>by_cases c2:b>=1<;>by_cases c3:a<=1024<;>by_cases c4:b<=1024<;>simp[c1,c2,c3,c4]
theorem plane_eq (a b:Int) (l:List Int):halideref5_Check.f a b l=plane_Check.f a b l:=by unfold halideref5_Check.f plane_Check.f;rw[size_eq]
theorem space_eq (sp n:Int) (hn:n<=4):((halideref8_spaced.f sp n).bind fun t136=>(if t136=true then (some 0) else (some 81)))=(picture_spaceOf.f sp n).bind fun t125=>(some t125):=by
 unfold halideref8_spaced.f picture_spaceOf.f
 by_cases c1:sp<0
 ·rw[if_pos c1,if_neg (by omega)];rfl
 ·rw[if_neg c1,if_pos (by omega)]
  by_cases c2:sp>4
  ·rw[if_pos c2,if_neg (by omega)];rfl
  ·rw[if_neg c2,if_pos (by omega)]
   by_cases c3:sp=0
   ·rw[if_pos c3,if_pos c3];rfl
   ·rw[if_neg c3,if_neg c3]
    by_cases c4:n<3
    ·rw[if_pos c4,if_neg (by omega)]
     have:(n==4)=false:=by simp;omega
     rw[this];rfl
    ·rw[if_neg c4]
     by_cases c5:n=3
     ·rw[if_pos c5];rfl
     ·rw[if_neg c5]
      have:(n==4)=true:=by simp;omega
      rw[this];rfl
theorem check_eq_l1 (sp:Int) (l:List S58) (h4:l.length<=4) : ∀(k:Nat) (i:Int),halideref8_Check.l1 k i sp l=picture_Check.l1 k l l.length i sp l
 | 0,_=>rfl
 | k+1,i=>by
  simp only[halideref8_Check.l1,picture_Check.l1]
  by_cases c1:i<(l.length:Int)
  ·rw[if_pos c1,if_pos c1,if_pos c1,check_eq_l1 sp l h4 k]
  ·rw[if_neg c1,if_neg c1,space_eq _ _ (by omega)]
theorem check_eq_l0 (sp:Int) (l:List S58) (h4:l.length<=4) : ∀(k:Nat) (i:Int),halideref8_Check.l0 k i sp l=picture_Check.l0 k l l.length i sp l
 | 0,_=>rfl
 | k+1,i=>by
  simp only[halideref8_Check.l0,picture_Check.l0]
  by_cases c1:i<(l.length:Int)
  ·rw[if_pos c1,if_pos c1,if_pos c1,check_eq_l0 sp l h4 k,plane_eq]
  ·rw[if_neg c1,if_neg c1,check_eq_l1 sp l h4 k]
theorem check_eq (sp:Int) (l:List S58) (k:Nat):halideref8_Check.f k sp l=picture_Check.f k sp l:=by
 unfold halideref8_Check.f picture_Check.f
 cases k with
 | zero=>simp[halideref8_Check.j0,picture_Check.j0]
 | succ k =>
  simp only[halideref8_Check.j0,picture_Check.j0]
  by_cases c:(l.length:Int)>4
  ·simp[c]
  ·rw[check_eq_l0 sp l (by omega) k]
end Go.Proofs.YtgpegjmbofgmmaaGreat.pln
namespace Go.Proofs.YtgpegjmbofgmmaaGreat.pln
open Go.RowKit Go.Proofs.YtgpegjmbofgmmaaGreatW.PrintWords Go.Proofs.YtgpegjmbofgmmaaGreatW.PrintMore Go.Proofs.YtgpegjmbofgmmaaGreat.PJop Go.Proofs.YtgpegjmbofgmmaaGreat.PJou Go.Proofs.YtgpegjmbofgmmaaGreat.jou
set_option linter.unusedVariables false
set_option linter.unusedSimpArgs false
theorem xor_ones (y:Nat) (h:y<4294967296):y^^^4294967295=4294967295-y:=by
 have h1:=congrArg BitVec.toNat (BitVec.xor_allOnes (x:=BitVec.ofNat 32 y))
 simp[BitVec.toNat_xor,BitVec.toNat_not,BitVec.toNat_allOnes,Nat.mod_eq_of_lt h] at h1
 exact h1
theorem fold_g {x:Int} (h:U32 x):halideref17_Fold.f x=some (fd x):=by
 obtain⟨h1,h2⟩:=h
 unfold halideref17_Fold.f fd
 by_cases c:x<2147483648
 ·rw[if_pos c]
  have e1:wrap32 x/2147483648%4294967296=((0:Nat):Int):=by unfold wrap32;omega
  obtain⟨y,hy⟩ : ∃y:Nat,x*2%4294967296=(y:Int):=⟨(x*2%4294967296).toNat,by omega⟩
  rw[e1,hy,u32_xor_nat y 0 (by omega) (by omega),Nat.xor_zero,<-hy,Int.mul_comm]
 ·rw[if_neg c]
  have e1:wrap32 x/2147483648%4294967296=((4294967295:Nat):Int):=by unfold wrap32;omega
  obtain⟨y,hy⟩ : ∃y:Nat,x*2%4294967296=(y:Int):=⟨(x*2%4294967296).toNat,by omega⟩
  rw[e1,hy,u32_xor_nat y 4294967295 (by omega) (by omega),xor_ones y (by omega)]
  have i1:wrap64 x=x:=wrap_id (by omega) (by omega)
  have i2:wrap64 (4294967296-x)=4294967296-x:=wrap_id (by omega) (by omega)
  have i3:wrap64 (2*(4294967296-x))=2*(4294967296-x):=wrap_id (by omega) (by omega)
  have i4:wrap64 (2*(4294967296-x)-1)=2*(4294967296-x)-1:=wrap_id (by omega) (by omega)
  rw[i1,i2,i3,i4]
  congr 1
  omega
theorem k_g {sum cnt:Int} (h:StOK sum cnt) : ∀(d i e:Nat),i+d=31->halideref17_state_k.l0 (e+d+1) i sum cnt=some (kq sum cnt d i:Int)
 | 0,i,e,hi=>by
  simp only[halideref17_state_k.l0,kq]
  rw[if_neg (by omega)]
 | d+1,i,e,hi=>by
  rw[show e+(d+1)+1=(e+d+1)+1 by omega]
  simp only[halideref17_state_k.l0,kq]
  rw[if_pos (by omega),if_pos (by omega)]
  have hs:=shl_id (k:=i) (by omega) (show 0<cnt by have:=h.c0;omega) (show cnt<=64 by have:=h.c1;omega)
  have e1:shl .i64 cnt i=cnt*2^i:=by
   unfold shl
   rw[Int.toNat_natCast,show min i (IntKind.bits .i64)=i from Nat.min_eq_left (by simp[IntKind.bits];omega)]
   exact IntWalk.i64_in _ (by omega)
  rw[e1]
  by_cases c:cnt*2^i<sum
  ·rw[if_pos c,if_pos c,wrap_id (x:=(i:Int)+1) (by omega) (by omega)]
   have:=k_g h d (i+1) e (by omega)
   push_cast at this
   exact this
  ·rw[if_neg c,if_neg c]
theorem k_f {sum cnt:Int} (h:StOK sum cnt) (e:Nat):halideref17_state_k.f (e+32) sum cnt=some (kOf sum cnt:Int):=by
 have:=k_g h 31 0 e (by omega)
 simpa [halideref17_state_k.f,kOf] using this
theorem k_big {sum cnt:Int} (h:StOK sum cnt) (K:Nat) (hK:100<=K):halideref17_state_k.f K sum cnt=some (kOf sum cnt:Int):=by
 have:=k_f h (K-32)
 rwa [Nat.sub_add_cancel (by omega)] at this
theorem rests_loop {l:List Int} (hl:AllU l) {w h:Int} (hw:1<=w) (hw2:w<=1024) (hs:l.length<=65536) : ∀(d i K:Nat) (acc:List Int),i+d=l.length->acc.length=i->AllU acc->d+2<=K ->
  ∃rs,rs.length=l.length/\AllU rs/\codec_Rests.l0 K acc l l.length i w h l=some (rs,0)/\halideref18_Rests.l0 K acc i w h l=some (rs,0):=by
 intro d
 induction d with
 | zero =>
  intro i K acc hi ha hu hK
  obtain⟨K',rfl⟩ : ∃K',K=K'+1:=⟨K-1,by omega⟩
  refine⟨acc,by omega,hu,?_,?_⟩
  ·rw[codec_Rests.l0,if_neg (by omega)]
  ·rw[halideref18_Rests.l0,if_neg (by omega)]
 | succ d ih =>
  intro i K acc hi ha hu hK
  obtain⟨K',rfl⟩ : ∃K',K=K'+1+1:=⟨K-2,by omega⟩
  have hr:=rd_u hl (i:Int)
  obtain⟨g,hg,g1,g2⟩:=guess_g hl hw hw2 i K' (by omega) hs
  have hk:=key_u hr
  obtain⟨rs,h1,h2,h3,h4⟩:=ih (i+1) (K'+1) (acc ++ [(key (rd l i)-key g)%4294967296]) (by omega) (by simp;omega)
   (fun x hx=>by
    rcases List.mem_append.1 hx with hx|hx
    ·exact hu x hx
    ·rw[List.mem_singleton.1 hx];exact⟨by omega,by omega⟩) (by omega)
  refine⟨rs,h1,h2,?_,?_⟩
  ·rw[codec_Rests.l0,if_pos (by omega),if_pos (by omega),if_pos (by omega),key_f hr,Option.bind_some,g1,Option.bind_some,key_f hg,Option.bind_some,if_pos (by omega),wrap_id (x:=(i:Int)+1) (by omega) (by omega)]
   rw[Int.natCast_add,Int.natCast_one] at h3
   exact h3
  ·rw[halideref18_Rests.l0,if_pos (by omega),if_pos (by omega),key_g hr,Option.bind_some,g2,Option.bind_some,key_g hg,Option.bind_some,if_pos (by omega),wrap_id (x:=(i:Int)+1) (by omega) (by omega)]
   rw[Int.natCast_add,Int.natCast_one] at h4
   exact h4
theorem rests_f {x:S58} (hx:PlaneOK x) (hu:AllU x.f2) (hc:plane_Check.f x.f0 x.f1 x.f2=some 0) (K:Nat) (hK:x.f2.length+2<=K) :
  ∃rs,rs.length=x.f2.length/\AllU rs/\codec_Rests.f K x.f0 x.f1 x.f2=some (rs,0)/\halideref18_Rests.f K x.f0 x.f1 x.f2=some (rs,0):=by
 obtain⟨rs,h1,h2,h3,h4⟩:=rests_loop (h:=x.f1) hu hx.w hx.wide hx.small x.f2.length 0 K [] (by omega) rfl (fun x hx=>by simp at hx) hK
 refine⟨rs,h1,h2,?_,?_⟩
 ·unfold codec_Rests.f
  rw[hc,Option.bind_some,if_pos rfl]
  exact h3
 ·unfold halideref18_Rests.f
  rw[plane_eq,hc,Option.bind_some,if_pos rfl]
  exact h4
theorem ints_l0 (xs:List Int) (hx:xs.length<=1000000) : ∀(d i K:Nat),i+d=xs.length->d+1<=K->halidehelp_Ints.l0 K xs xs i=some true:=by
 intro d
 induction d with
 | zero =>
  intro i K hi hK
  obtain⟨K',rfl⟩ : ∃K',K=K'+1:=⟨K-1,by omega⟩
  rw[halidehelp_Ints.l0,if_neg (by omega)]
 | succ d ih =>
  intro i K hi hK
  obtain⟨K',rfl⟩ : ∃K',K=K'+1:=⟨K-1,by omega⟩
  have h:=ih (i+1) K' (by omega) (by omega)
  rw[halidehelp_Ints.l0,if_pos (by omega),if_pos (by omega),if_pos (by omega),if_pos rfl,wrap_id (x:=(i:Int)+1) (by omega) (by omega)]
  rw[Int.natCast_add,Int.natCast_one] at h
  exact h
theorem ints_f (xs:List Int) (hx:xs.length<=1000000) (K:Nat) (hK:xs.length+1<=K):halidehelp_Ints.f K xs xs=some true:=by
 unfold halidehelp_Ints.f
 rw[if_pos rfl]
 exact ints_l0 xs hx xs.length 0 K (by omega) hK
theorem words_l0 (xs:List Int) (hx:xs.length<=2000000) : ∀(d i K:Nat),i+d=xs.length->d+1<=K->halidehelp_Words.l0 K xs xs i=some true:=by
 intro d
 induction d with
 | zero =>
  intro i K hi hK
  obtain⟨K',rfl⟩ : ∃K',K=K'+1:=⟨K-1,by omega⟩
  rw[halidehelp_Words.l0,if_neg (by omega)]
 | succ d ih =>
  intro i K hi hK
  obtain⟨K',rfl⟩ : ∃K',K=K'+1:=⟨K-1,by omega⟩
  have h:=ih (i+1) K' (by omega) (by omega)
  rw[halidehelp_Words.l0,if_pos (by omega),if_pos (by omega),if_pos (by omega),if_pos rfl,wrap_id (x:=(i:Int)+1) (by omega) (by omega)]
  rw[Int.natCast_add,Int.natCast_one] at h
  exact h
theorem pic_l0 (sp:Int) (l:List S58) (hn:l.length<=2000000) (hs : ∀j:Nat,j<l.length->(rd_T58 l j).f2.length<=2000000) : ∀(d i K:Nat),i+d=l.length->d+2000002<=K->halidehelp_Picture.l0 K i sp l sp l=some true:=by
 intro d
 induction d with
 | zero =>
  intro i K hi hK
  obtain⟨K',rfl⟩ : ∃K',K=K'+1:=⟨K-1,by omega⟩
  rw[halidehelp_Picture.l0,if_neg (by omega)]
 | succ d ih =>
  intro i K hi hK
  obtain⟨K',rfl⟩ : ∃K',K=K'+1:=⟨K-1,by omega⟩
  have h:=ih (i+1) K' (by omega) (by omega)
  have hsi:=hs i (by omega)
  have hp:halidehelp_Plane.f K' (rd_T58 l i).f0 (rd_T58 l i).f1 (rd_T58 l i).f2 (rd_T58 l i).f0 (rd_T58 l i).f1 (rd_T58 l i).f2=some true:=by
   unfold halidehelp_Plane.f halidehelp_Words.f
   rw[if_pos rfl,if_pos rfl,if_pos rfl]
   have:=words_l0 (rd_T58 l i).f2 hsi (rd_T58 l i).f2.length 0 K' (by omega) (by omega)
   rw[show((0:Nat):Int)=0 from rfl] at this
   rw[this];rfl
  rw[halidehelp_Picture.l0,if_pos (by omega),if_pos (by omega),if_pos (by omega),hp,Option.bind_some,if_pos rfl,wrap_id (x:=(i:Int)+1) (by omega) (by omega)]
  rw[Int.natCast_add,Int.natCast_one] at h
  exact h
theorem pic_f (sp:Int) (l:List S58) (hn:l.length<=2000000) (hs : ∀j:Nat,j<l.length->(rd_T58 l j).f2.length<=2000000) (K:Nat) (hK:4000003<=K):halidehelp_Picture.f K sp l sp l=some true:=by
 obtain⟨K',rfl⟩ : ∃K',K=K'+1:=⟨K-1,by omega⟩
 unfold halidehelp_Picture.f
 have:((l.length:Int) !=(l.length:Int))=false:=by simp
 rw[if_pos rfl,this,halidehelp_Picture.j0,if_neg (by simp)]
 exact pic_l0 sp l hn hs l.length 0 K' (by omega) (by omega)
end Go.Proofs.YtgpegjmbofgmmaaGreat.pln
