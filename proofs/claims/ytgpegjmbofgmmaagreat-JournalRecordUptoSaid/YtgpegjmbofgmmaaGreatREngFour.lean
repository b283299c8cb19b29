/- A part of the proof. No condition. -/
import Derived.Test.YtgpegjmbofgmmaaGreatREngThree
import Derived.Recover
import Derived.Laws.BytesArg
import Derived.Lib.Bytes
namespace Go.Ab
set_option linter.unusedVariables false
section
variable {P:Program}
def joinH (hs hs' h:Heap):Heap:=⟨hs'.next,fun i=>if i<h.next then (match hs.blks i with|none=>h.blks i|some _=>hs'.blks i) else hs'.blks i⟩
theorem frame_call {f:Nat} {args:List Value} {hs hs' h:Heap} {v:Value} (hN:CallNext P f args hs v hs') (hnext:hs.next=h.next) (hle:h.next<=hs'.next) (hsub : ∀i b,hs.blks i=some b->h.blks i=some b)
  (hout : ∀i,i<h.next->hs.blks i=none->hs'.blks i=none) (hin : ∀i,h.next<=i->hs.blks i=none):CallNext P f args h v (joinH hs hs' h):=by
 intro φ args' w ha hr hfull
 have hlt : ∀i,(∃b,h.blks i=some b)->i<h.next:=by
  rintro i ⟨b,hb⟩
  rcases Nat.lt_or_ge i h.next with h1|h1
  ·exact h1
  ·rw[hr.none i h1] at hb;simp at hb
 have hlive : ∀i,hs.live i->h.live i:=by rintro i ⟨b,hb,hn⟩;exact⟨b,hsub i b hb,hn⟩
 have hrs:HRel φ hs w:=by
  refine⟨fun i im hi=>by rw[hnext];exact hr.dom i im hi,fun i hi=>hin i (by rw[<- hnext];exact hi),?_,?_,?_⟩
  ·intro i im c g h1 h2;exact hr.cells i im c g h1 (hsub i _ h2)
  ·intro i im es h1 h2;exact hr.map i im es h1 (hsub i _ h2)
  ·intro i j im jm hi hj;exact hr.inj i j im jm (hlive i hi) (hlive j hj)
 have hfs:Full φ hs:=fun i hl=>hfull i (hlive i hl)
 have key : ∀{φ':Phi} {w':World},HRel φ' hs' w'->Ext φ hs w φ' hs' w'->HRel φ' (joinH hs hs' h) w'/\Ext φ h w φ' (joinH hs hs' h) w':=by
  intro φ' w' hr' hx
  have old : ∀i,i<h.next->φ' i=φ i:=fun i hi=>hx.old i (by rw[hnext];exact hi)
  have side : ∀i b,(joinH hs hs' h).blks i=some b->(hs'.blks i=some b)\/(i<h.next/\hs.blks i=none/\h.blks i=some b):=by
   intro i b hb
   have hb':(if i<h.next then (match hs.blks i with|none=>h.blks i|some _=>hs'.blks i) else hs'.blks i)=some b:=hb
   split at hb'
   ·rename_i hi
    cases hsi:hs.blks i with
    | none=>rw[hsi] at hb';exact .inr ⟨hi,rfl,hb'⟩
    | some x=>rw[hsi] at hb';exact .inl hb'
   ·exact .inl hb'
  have same : ∀i im b,i<h.next->hs.blks i=none->h.blks i=some b->b ≠ .gone->φ i=some im->w'.heap[im.blk]?=w.heap[im.blk]?:=by
   intro i im b hi h1 h2 h3 h4
   refine hx.frame _ (hr.dom i im h4).2 fun j jm hj hjm he=>?_
   have:=hr.inj j i jm im (hlive j hj) ⟨b,h2,h3⟩ hjm h4 he
   subst this
   obtain⟨x,hx,_⟩:=hj
   rw[h1] at hx;simp at hx
  have hmix : ∀i j im jm,hs'.live i->j<h.next->hs.blks j=none->h.live j->φ' i=some im->φ j=some jm->im.blk=jm.blk->False:=by
   intro i j im jm hi hj hjn hjl h1 h2 h3
   have hjb:=(hr.dom j jm h2).2
   rcases hx.new i im hi h1 with h4|⟨k,km,k1,k2,k3⟩
   ·omega
   ·have:=hr.inj k j km jm (hlive k k1) hjl k2 h2 (k3.trans h3)
    subst this
    obtain⟨x,hx,_⟩:=k1
    rw[hjn] at hx;simp at hx
  have hmono:φ.le φ':=hx.mono
  have hnj:(joinH hs hs' h).next=hs'.next:=rfl
  constructor
  ·refine⟨hr'.dom,?_,?_,?_,?_⟩
   ·intro i hi
    have hi':hs'.next<=i:=hi
    show(if i<h.next then _ else _)=_
    rw[if_neg (by omega)]
    exact hr'.none i hi'
   ·intro i im c g h1 h2
    rcases side i _ h2 with h3|⟨h3,h4,h5⟩
    ·exact hr'.cells i im c g h1 h3
    ·rw[old i h3] at h1
     obtain⟨arr,e,k1,k2,k3⟩:=hr.cells i im c g h1 h5
     exact⟨arr,e,by rw[same i im _ h3 h4 h5 (by simp) h1];exact k1,k2.mono hmono,k3⟩
   ·intro i im es h1 h2
    rcases side i _ h2 with h3|⟨h3,h4,h5⟩
    ·exact hr'.map i im es h1 h3
    ·rw[old i h3] at h1
     obtain⟨ents,cl,k1,k2⟩:=hr.map i im es h1 h5
     exact⟨ents,cl,by rw[same i im _ h3 h4 h5 (by simp) h1];exact k1,k2.mono hmono⟩
   ·rintro i j im jm ⟨bi,hbi,hni⟩ ⟨bj,hbj,hnj⟩ h1 h2 h3
    rcases side i _ hbi with h4|⟨h4,h5,h6⟩
    ·rcases side j _ hbj with h7|⟨h7,h8,h9⟩
     ·exact hr'.inj i j im jm ⟨bi,h4,hni⟩ ⟨bj,h7,hnj⟩ h1 h2 h3
     ·rw[old j h7] at h2
      exact(hmix i j im jm ⟨bi,h4,hni⟩ h7 h8 ⟨bj,h9,hnj⟩ h1 h2 h3).elim
    ·rw[old i h4] at h1
     rcases side j _ hbj with h7|⟨h7,h8,h9⟩
     ·exact(hmix j i jm im ⟨bj,h7,hnj⟩ h4 h5 ⟨bi,h6,hni⟩ h2 h1 h3.symm).elim
     ·rw[old j h7] at h2
      exact hr.inj i j im jm ⟨bi,h6,hni⟩ ⟨bj,h9,hnj⟩ h1 h2 h3
  ·refine⟨hx.mono,?_,?_,hx.size,hle,hx.os,hx.tape,hx.output,old,?_,hx.frz⟩
   ·intro b hb hn
    exact hx.frame b hb fun i im hi=>hn i im (hlive i hi)
   ·rintro i im ⟨b,hb,hn⟩ h1
    rcases side i _ hb with h2|⟨h2,h3,h4⟩
    ·rcases hx.new i im ⟨b,h2,hn⟩ h1 with h5|⟨k,km,k1,k2,k3⟩
     ·exact .inl h5
     ·exact .inr ⟨k,km,hlive k k1,k2,k3⟩
    ·rw[old i h2] at h1
     exact .inr ⟨i,im,⟨b,h4,hn⟩,h1,rfl⟩
   ·rintro _ i ⟨b,hb,hn⟩
    rcases side i _ hb with h2|⟨h2,h3,h4⟩
    ·exact hx.full hfs i ⟨b,h2,hn⟩
    ·rw[old i h2];exact hfull i ⟨b,h4,hn⟩
 have hres:=hN φ args' w ha hrs hfs
 generalize (callFunc f ⟨args'⟩).run P w=r at hres
 cases r with
 | halt x w'=>exact hres
 | ok n w' =>
  cases n<;>simp only[ResOK] at hres ⊢ <;>(try exact hres)
  ·obtain⟨φ',h1,h2,h3⟩:=hres
   exact⟨φ',h1,(key h2 h3).1,(key h2 h3).2⟩
  ·obtain⟨φ',h1,h2,h3⟩:=hres
   exact⟨φ',h1,(key h2 h3).1,(key h2 h3).2⟩
  ·refine Calls.mono hres ?_
   rintro e w'' ⟨v',he,φ',h1,h2,h3⟩
   exact⟨v',he,φ',h1,(key h2 h3).1,(key h2 h3).2⟩
theorem forget_call {f:Nat} {args:List Value} {h h1 h2:Heap} {v:Value} (hN:CallNext P f args h v h1) (hnext:h2.next=h1.next) (hsub : ∀i b,h2.blks i=some b->h1.blks i=some b):CallNext P f args h v h2:=by
 intro φ args' w ha hr hfull
 have hlive : ∀i,h2.live i->h1.live i:=by rintro i ⟨b,hb,hn⟩;exact⟨b,hsub i b hb,hn⟩
 have key : ∀{φ':Phi} {w':World},HRel φ' h1 w'->Ext φ h w φ' h1 w'->HRel φ' h2 w'/\Ext φ h w φ' h2 w':=by
  intro φ' w' hr' hx
  constructor
  ·refine⟨fun i im hi=>by rw[hnext];exact hr'.dom i im hi,fun i hi=>?_,?_,?_,?_⟩
   ·cases hb:h2.blks i with
    | none=>rfl
    | some b=>have:=hsub i b hb;rw[hr'.none i (by rw[<- hnext];exact hi)] at this;simp at this
   ·intro i im c g h3 h4;exact hr'.cells i im c g h3 (hsub i _ h4)
   ·intro i im es h3 h4;exact hr'.map i im es h3 (hsub i _ h4)
   ·intro i j im jm hi hj;exact hr'.inj i j im jm (hlive i hi) (hlive j hj)
  ·exact⟨hx.mono,hx.frame,fun i im hi=>hx.new i im (hlive i hi),hx.size,by rw[hnext];exact hx.next,hx.os,hx.tape,hx.output,hx.old,fun hf i hi=>hx.full hf i (hlive i hi),hx.frz⟩
 have hres:=hN φ args' w ha hr hfull
 generalize (callFunc f ⟨args'⟩).run P w=r at hres
 cases r with
 | halt x w'=>exact hres
 | ok n w' =>
  cases n<;>simp only[ResOK] at hres ⊢ <;>(try exact hres)
  ·obtain⟨φ',h3,h4,h5⟩:=hres
   exact⟨φ',h3,(key h4 h5).1,(key h4 h5).2⟩
  ·obtain⟨φ',h3,h4,h5⟩:=hres
   exact⟨φ',h3,(key h4 h5).1,(key h4 h5).2⟩
  ·refine Calls.mono hres ?_
   rintro e w'' ⟨v',he,φ',h3,h4,h5⟩
   exact⟨v',he,φ',h3,(key h4 h5).1,(key h4 h5).2⟩
end
end Go.Ab
namespace Go.Ab
set_option linter.unusedVariables false
noncomputable def setAll (l:List (Nat×Blk)) (t:T Blk):T Blk :=
 List.rec (motive:=fun _=>T Blk) t (fun p _ ih=>Prod.rec (motive:=fun _=>T Blk) (fun i b=>T.setR b (Nat.succ i) ih i) p) l
def lk:List (Nat×Blk)->Nat->Option Blk
 | [],_=>none
 | (i,b)::l,j=>if j=i then some b else lk l j
theorem getR_setAll : ∀(l:List (Nat×Blk)) (t:T Blk) (j:Nat),T.getR (setAll l t) j=match lk l j with|some b=>some b|none=>T.getR t j
 | [],t,j=>rfl
 | (i,b)::l,t,j=>by
  show T.getR (T.setR b (Nat.succ i) (setAll l t) i) j=_
  rw[T.getR_setR,getR_setAll l t j]
  simp only[lk]
  by_cases h:j=i
  ·rw[if_pos h,if_pos h]
  ·rw[if_neg h,if_neg h]
theorem getR_e (j:Nat):T.getR (T.e:T Blk) j=none:=by rw[T.getR_eq,T.get_e]
theorem lk_mem : ∀{l:List (Nat×Blk)} {j:Nat} {b:Blk},lk l j=some b->(j,b)∈l
 | [],j,b,h=>by simp[lk] at h
 | (i,c)::l,j,b,h=>by
  simp only[lk] at h
  split at h
  ·rename_i e;subst e;simp only[Option.some.injEq] at h;subst h;simp
  ·exact List.mem_cons_of_mem _ (lk_mem h)
theorem lk_some {l:List (Nat×Blk)} {j:Nat} (h:j∈l.map (·.1)) : ∃b,lk l j=some b:=by
 induction l with
 | nil=>simp at h
 | cons p l ih =>
  obtain⟨i,c⟩:=p
  simp only[lk]
  by_cases e:j=i
  ·rw[if_pos e];exact⟨c,rfl⟩
  ·rw[if_neg e]
   simp only[List.map_cons,List.mem_cons] at h
   rcases h with h|h
   ·exact absurd h e
   ·exact ih h
theorem lk_key {l:List (Nat×Blk)} {j:Nat} {b:Blk} (h:lk l j=some b):j∈l.map (·.1):=List.mem_map.2 ⟨_,lk_mem h,rfl⟩
def psame:List (Value×Value)->List (Value×Value)->Bool
 | [],[]=>true
 | (a,b)::l,(c,d)::m=>bif vsame 10000 a c then (bif vsame 10000 b d then psame l m else false) else false
 | _,_=>false
theorem psame_eq : ∀{l m:List (Value×Value)},psame l m=true->l=m
 | [],[],_=>rfl
 | [],_::_,h=>by simp[psame] at h
 | _::_,[],h=>by simp[psame] at h
 | (a,b)::l,(c,d)::m,h=>by
  simp only[psame] at h
  obtain⟨h1,h2⟩:=bif_both h
  obtain⟨h3,h4⟩:=bif_both h2
  rw[(vsame_both 10000).1 _ _ h1,(vsame_both 10000).1 _ _ h3,psame_eq h4]
def gsame:Option Nat->Option Nat->Bool
 | none,none=>true
 | some a,some b=>Nat.beq a b
 | _,_=>false
theorem gsame_eq {a b:Option Nat} (h:gsame a b=true):a=b:=by
 cases a<;>cases b<;>simp only[gsame] at h<;>first|rfl|(rw[beq_eq' h])|exact absurd h (by simp)
def bsame:Blk->Blk->Bool
 | .cells c g,.cells d k=>bif gsame g k then vsames 10000 c d else false
 | .map a,.map b=>psame a b
 | .gone,.gone=>true
 | _,_=>false
theorem bsame_eq {a b:Blk} (h:bsame a b=true):a=b:=by
 unfold bsame at h
 split at h
 ·obtain⟨h1,h2⟩:=bif_both h;rw[gsame_eq h1,(vsame_both 10000).2 _ _ h2]
 ·rw[psame_eq h]
 ·rfl
 ·simp at h
def rsame:Value->Value->Bool
 | .tuple a,.tuple b=>vsames 10000 a.toList b.toList
 | a,b=>vsame 10000 a b
theorem rsame_eq {a b:Value} (h:rsame a b=true):a=b:=by
 unfold rsame at h
 split at h
 ·rename_i a b
  have:=(vsame_both 10000).2 _ _ h
  obtain⟨a⟩:=a;obtain⟨b⟩:=b
  rw[show a=b from this]
 ·exact(vsame_both 10000).1 _ _ h
noncomputable def memSame (t:T Blk) (l:List (Nat×Blk)):Bool :=
 List.rec (motive:=fun _=>Bool) true (fun p _ ih=>Prod.rec (motive:=fun _=>Bool) (fun i b=>Option.rec (motive:=fun _=>Bool) false (fun c=>bif' (bsame c b) ih false) (T.getR t i)) p) l
theorem memSame_ok : ∀{l:List (Nat×Blk)} {t:T Blk},memSame t l=true -> ∀i b,(i,b)∈l->T.getR t i=some b
 | [],t,_,i,b,h=>by simp at h
 | (j,c)::l,t,hm,i,b,h=>by
  have hm':Option.rec (motive:=fun _=>Bool) false (fun d=>bif' (bsame d c) (memSame t l) false) (T.getR t j)=true:=hm
  cases hg:T.getR t j with
  | none=>rw[hg] at hm';simp at hm'
  | some d =>
   rw[hg] at hm'
   have h2:bif' (bsame d c) (memSame t l) false=true:=hm'
   cases hb:bsame d c with
   | false=>rw[hb,bif'_false] at h2;simp at h2
   | true =>
    rw[hb,bif'_true] at h2
    rcases List.mem_cons.1 h with h3|h3
    ·obtain⟨rfl,rfl⟩:=Prod.mk.inj h3
     rw[hg,bsame_eq hb]
    ·exact memSame_ok h2 i b h3
structure Tent where
 args:List Value
 next:Nat
 mem:List (Nat×Blk)
 v:Value
 next':Nat
 mem':List (Nat×Blk)
def memN:Nat->List (Nat×Blk)->Bool
 | _,[]=>false
 | j,(i,_)::l=>bif Nat.beq j i then true else memN j l
theorem memN_ok : ∀{j:Nat} {l:List (Nat×Blk)},memN j l=true->j∈l.map (·.1)
 | j,[],h=>by simp[memN] at h
 | j,(i,b)::l,h=>by
  simp only[memN] at h
  cases hb:Nat.beq j i with
  | true=>rw[beq_eq' hb];simp
  | false=>rw[hb] at h;exact List.mem_cons_of_mem _ (memN_ok h)
def goodE (e:Tent):Bool :=
 allB (fun p=>Nat.blt p.1 e.next&&memN p.1 e.mem') e.mem&&(allB (fun p=>Nat.ble e.next p.1||memN p.1 e.mem) e.mem'&&Nat.ble e.next e.next')
noncomputable def Tent.h0 (e:Tent):FH:=⟨e.next,setAll e.mem .e⟩
noncomputable def Tent.h1 (e:Tent):FH:=⟨e.next',setAll e.mem' .e⟩
structure TentOK (P:Program) (f:Nat) (e:Tent):Prop where
 good:goodE e=true
 call:CallNext P f e.args (hOf e.h0) e.v (hOf e.h1)
theorem h0_blks (e:Tent) (i:Nat):(hOf e.h0).blks i=lk e.mem i:=by
 show T.getR (setAll e.mem .e) i=_
 rw[getR_setAll,getR_e]
 cases lk e.mem i<;>rfl
theorem h1_blks (e:Tent) (i:Nat):(hOf e.h1).blks i=lk e.mem' i:=by
 show T.getR (setAll e.mem' .e) i=_
 rw[getR_setAll,getR_e]
 cases lk e.mem' i<;>rfl
section
variable {P:Program}
noncomputable def pieceK (e:Tent):KV:=fun v h=>bif' (rsame v e.v) (FH.rec (motive:=fun _=>R) (fun n t=>bif' (Nat.beq n e.next') (bif' (memSame t e.mem') .yes (.fail "memory")) (.fail "next")) h) (.fail "value")
theorem piece_ok {F:T FF} (hF : ∀f ff,F.get f=some ff->FFok P f ff) {n f:Nat} {e:Tent} (hg:goodE e=true)
  (hy:okR (runF F n f e.args e.h0 (pieceK e))=true):TentOK P f e:=by
 obtain⟨v,h',h1,h2⟩:=runF_ok hF n f e.args e.h0 (pieceK e) (okR_yes hy)
 obtain⟨n',t'⟩:=h'
 have h1':bif' (rsame v e.v) (bif' (Nat.beq n' e.next') (bif' (memSame t' e.mem') R.yes (R.fail "memory")) (R.fail "next")) (R.fail "value")=R.yes:=h1
 obtain⟨h3,h4⟩:=bif'_fail h1'
 obtain⟨h5,h6⟩:=bif'_fail h4
 obtain⟨h7,_⟩:=bif'_fail h6
 rw[rsame_eq h3] at h2
 refine⟨hg,forget_call h2 ?_ ?_⟩
 ·exact(beq_eq' h5).symm
 ·intro i b hb
  rw[h1_blks] at hb
  exact memSame_ok h7 i b (lk_mem hb)
theorem ent_call {f:Nat} {e:Tent} (he:TentOK P f e) {h:FH} (hn:h.next=e.next) (hms:memSame h.t e.mem=true):CallNext P f e.args (hOf h) e.v (hOf ⟨e.next',setAll e.mem' h.t⟩):=by
 intro φ args' w ha hr hfull
 obtain⟨hg,hc⟩:=he
 unfold goodE at hg
 simp only[Bool.and_eq_true] at hg
 obtain⟨g1,g2,g3⟩:=hg
 rw[allB_iff] at g1 g2
 have k1 : ∀i,i∈e.mem.map (·.1)->i<e.next /\ ∃b,lk e.mem' i=some b:=by
  intro i hi
  obtain⟨p,hp,rfl⟩:=List.mem_map.1 hi
  have:=g1 p hp
  simp only[Bool.and_eq_true] at this
  exact⟨blt_lt this.1,lk_some (memN_ok this.2)⟩
 have k2 : ∀i,i∈e.mem'.map (·.1)->e.next<=i \/ ∃b,lk e.mem i=some b:=by
  intro i hi
  obtain⟨p,hp,rfl⟩:=List.mem_map.1 hi
  have:=g2 p hp
  simp only[Bool.or_eq_true] at this
  rcases this with h1|h1
  ·exact .inl (ble_le h1)
  ·exact .inr (lk_some (memN_ok h1))
 have hnx:(hOf h).next=e.next:=hn
 have f1:CallNext P f e.args (hOf h) e.v (joinH (hOf e.h0) (hOf e.h1) (hOf h)):=by
  refine frame_call hc hn.symm ?_ ?_ ?_ ?_
  ·rw[hnx];exact ble_le g3
  ·intro i b hb
   rw[h0_blks] at hb
   exact memSame_ok hms i b (lk_mem hb)
  ·intro i hi h0
   rw[h0_blks] at h0
   rw[h1_blks]
   cases hl:lk e.mem' i with
   | none=>rfl
   | some b =>
    rcases k2 i (lk_key hl) with h1|⟨b',h1⟩
    ·rw[hnx] at hi;omega
    ·rw[h0] at h1;simp at h1
  ·intro i hi
   rw[h0_blks]
   cases hl:lk e.mem i with
   | none=>rfl
   | some b=>have:=(k1 i (lk_key hl)).1;rw[hnx] at hi;omega
 refine forget_call f1 (h2:=hOf ⟨e.next',setAll e.mem' h.t⟩) rfl ?_ φ args' w ha hr hfull
 intro i b hb
 have hb':T.getR (setAll e.mem' h.t) i=some b:=hb
 rw[getR_setAll] at hb'
 show(if i<(hOf h).next then (match (hOf e.h0).blks i with|none=>(hOf h).blks i|some _=>(hOf e.h1).blks i) else (hOf e.h1).blks i)=some b
 rw[h0_blks,h1_blks]
 cases hl:lk e.mem' i with
 | some c =>
  rw[hl] at hb'
  simp only[Option.some.injEq] at hb'
  subst hb'
  split
  ·rename_i hi
   split
   ·rename_i h0
    rcases k2 i (lk_key hl) with h1|⟨b',h1⟩
    ·rw[hnx] at hi;omega
    ·rw[h0] at h1;simp at h1
   ·rfl
  ·rfl
 | none =>
  rw[hl] at hb'
  simp only at hb'
  have hlt:i<(hOf h).next:=by
   rcases Nat.lt_or_ge i (hOf h).next with h1|h1
   ·exact h1
   ·have:=hr.none i h1
    rw[show(hOf h).blks i=T.getR h.t i from rfl,hb'] at this;simp at this
  rw[if_pos hlt]
  split
  ·exact hb'
  ·rename_i x h0
   obtain⟨c,hc⟩:=(k1 i (lk_key h0)).2
   rw[hl] at hc;simp at hc
noncomputable def tabFF (es:List Tent):FF:=⟨fun _ args h k =>
 List.rec (motive:=fun _=>R) (.fail "no entry") (fun e _ ih=>Tent.rec (motive:=fun _=>R) (fun a n m v n' m' =>
  bif' (vsames 10000 args a) (FH.rec (motive:=fun _=>R) (fun hn ht=>bif' (bif' (Nat.beq hn n) (memSame ht m) false) (k v ⟨n',setAll m' ht⟩) ih) h) ih) e) es⟩
theorem tabFF_ok {f:Nat} : ∀(es:List Tent),(∀e,e∈es->TentOK P f e)->FFok P f (tabFF es)
 | [],_=>fun call _ args h k hy=>by
  have:R.fail "no entry" = .yes:=hy
  simp at this
 | e::es,he=>fun call hcs args h k hy=>by
  have ih:=tabFF_ok es (fun x hx=>he x (List.mem_cons_of_mem _ hx)) call hcs args h k
  have hE:=he e (by simp)
  obtain⟨a,n,m,v,n',m'⟩:=e
  obtain⟨hn,ht⟩:=h
  have hy':bif' (vsames 10000 args a) (bif' (bif' (Nat.beq hn n) (memSame ht m) false) (k v ⟨n',setAll m' ht⟩) ((tabFF es).f call args ⟨hn,ht⟩ k)) ((tabFF es).f call args ⟨hn,ht⟩ k) = .yes:=hy
  cases hv:vsames 10000 args a with
  | false=>rw[hv,bif'_false] at hy';exact ih hy'
  | true =>
   rw[hv,bif'_true] at hy'
   cases hc:bif' (Nat.beq hn n) (memSame ht m) false with
   | false=>rw[hc,bif'_false] at hy';exact ih hy'
   | true =>
    rw[hc,bif'_true] at hy'
    have hc2:Nat.beq hn n=true/\memSame ht m=true:=by
     cases hb:Nat.beq hn n with
     | false=>rw[hb,bif'_false] at hc;simp at hc
     | true=>rw[hb,bif'_true] at hc;exact⟨rfl,hc⟩
    refine⟨v,⟨n',setAll m' ht⟩,hy',?_⟩
    rw[(vsame_both 10000).2 _ _ hv]
    exact ent_call hE (h:=⟨hn,ht⟩) (beq_eq' hc2.1) hc2.2
noncomputable def withTabs:List (Nat×List Tent)->T FF->T FF
 | [],F=>F
 | (f,es)::l,F=>withTabs l (F.set f (tabFF es))
theorem withTabs_ok : ∀(l:List (Nat×List Tent)) (F:T FF),(∀x,x∈l -> ∀e,e∈x.2->TentOK P x.1 e)->(∀f ff,F.get f=some ff->FFok P f ff) -> ∀f ff,(withTabs l F).get f=some ff->FFok P f ff
 | [],F,_,hF=>hF
 | (g,es)::l,F,hp,hF=>withTabs_ok l _ (fun x hx=>hp x (by simp[hx])) fun f ff h=>by
  rw[T.get_set] at h
  split at h
  ·rename_i he
   subst he
   obtain rfl:=Option.some.inj h
   exact tabFF_ok es (hp (f,es) (by simp))
  ·exact hF f ff h
theorem closed_trueF {F:T FF} (hF : ∀f ff,F.get f=some ff->FFok P f ff) {n f:Nat}
  (hy:runF F n f [] emptyH isTrueK = .yes) {fn:Func} (hf:P.funcs[f]?=some fn) (hname:(fn.name == "runtime.NumGoroutine")=false) (hb:fn.body.isSome=true) (w:World) :
  Calls P f #[] w fun e w'=>e = .returned (.bool true)/\(∀b,b<w.heap.size->w'.heap[b]?=w.heap[b]?)/\w.heap.size<=w'.heap.size/\w'.os=w.os/\w'.tape=w.tape/\w'.output=w.output /\ ∀a,w'.frozen? a=w.frozen? a:=by
 obtain⟨v,h',h1,h2⟩:=runF_ok hF n f [] emptyH isTrueK hy
 obtain rfl:=isTrueK_yes h1
 have hr:HRel (fun _=>none) (hOf emptyH) w:=by
  refine⟨by simp,fun i _=>rfl,by simp,by simp,?_⟩
  rintro i j im jm ⟨b,hb,_⟩
  have:(hOf emptyH).blks i=none:=rfl
  rw[this] at hb;simp at hb
 have hfull:Full (fun _=>none) (hOf emptyH):=by
  rintro i ⟨b,hb,_⟩
  have:(hOf emptyH).blks i=none:=rfl
  rw[this] at hb;simp at hb
 have hres:=h2 (fun _=>none) [] w .nil hr hfull
 have hcall:(callFunc f ⟨[]⟩).run P w = .ok (.enter f ⟨[]⟩) w:=by
  obtain⟨c,hc⟩:=Option.isSome_iff_exists.1 hb
  have h1:fn.name ≠ "runtime.NumGoroutine" :=by simpa using hname
  simp only[callFunc,Sem.run_bind,run_program,Result.andThen_ok,hf,hname,Bool.false_eq_true,if_false,hc,Option.isNone_some,Sem.run_pure]
 rw[hcall] at hres
 refine Calls.mono hres ?_
 rintro e w' ⟨v',rfl,φ',r1,r2,r3⟩
 rw[r1.bool_inv]
 refine⟨rfl,fun b hb=>r3.frame b hb (fun i im hl=>?_),r3.size,r3.os,r3.tape,r3.output,r3.frz⟩
 obtain⟨x,hx,_⟩:=hl
 have:(hOf emptyH).blks i=none:=rfl
 rw[this] at hx;simp at hx
end
end Go.Ab
namespace Go.Ab
set_option linter.unusedVariables false
theorem frozen_at {w w':World} {a:Addr} (h:w'.heap[a.block]?=w.heap[a.block]?):w'.frozen? a=w.frozen? a:=by unfold World.frozen?;rw[h]
def noCells:Obj->Bool
 | .cells .. =>false
 | _=>true
theorem frozen_no {w:World} {a:Addr} {o:Obj} (h:w.heap[a.block]?=some o) (hn:noCells o=true):w.frozen? a=false:=by
 unfold World.frozen?
 rw[h]
 cases o<;>first|rfl|simp[noCells] at hn
def Off (φ:Phi) (h:Heap) (D:Nat):Prop := ∀i im,h.live i->φ i=some im->im.blk≠D
section
variable {P:Program} {φ φ':Phi} {h h':Heap} {w w':World}
theorem Off.ext (hx:Ext φ h w φ' h' w') {D:Nat} (ho:Off φ h D) (hd:D<w.heap.size):Off φ' h' D:=by
 intro i im hl hi heq
 rcases hx.new i im hl hi with hge|⟨j,jm,hj,hjm,he⟩
 ·omega
 ·exact ho j jm hj hjm (he.trans heq)
theorem HRel.other (hr:HRel φ h w) (hs:w.heap.size<=w'.heap.size) (hk : ∀i im,h.live i->φ i=some im->w'.heap[im.blk]?=w.heap[im.blk]?):HRel φ h w' where
 dom:=fun i im hi=>⟨(hr.dom i im hi).1,Nat.lt_of_lt_of_le (hr.dom i im hi).2 hs⟩
 none:=hr.none
 cells:=fun i im c g hi hb=>by
  obtain⟨arr,e,h1,h2⟩:=hr.cells i im c g hi hb
  exact⟨arr,e,by rw[hk i im ⟨_,hb,by simp⟩ hi];exact h1,h2⟩
 map:=fun i im es hi hb=>by
  obtain⟨ents,cl,h1,h2⟩:=hr.map i im es hi hb
  exact⟨ents,cl,by rw[hk i im ⟨_,hb,by simp⟩ hi];exact h1,h2⟩
 inj:=hr.inj
def World.lay (w:World) (D:Nat) (o:Obj):World := {w with heap:=w.heap.setIfInBounds D o}
theorem lay_ne {D b:Nat} {o:Obj} (hne:b≠D):(World.lay w D o).heap[b]?=w.heap[b]?:=Array.getElem?_setIfInBounds_ne (Ne.symm hne)
theorem lay_size {D:Nat} {o:Obj}:(World.lay w D o).heap.size=w.heap.size:=by simp[World.lay]
theorem lay_self {D:Nat} {o p:Obj} (hp:w.heap[D]?=some p):(World.lay w D o).heap[D]?=some o:=by
 have hlt:D<w.heap.size:=(Array.getElem?_eq_some_iff.1 hp).1
 simp[World.lay,hlt]
theorem lay_frozen {D:Nat} {o p:Obj} (hp:w.heap[D]?=some p) (np:noCells p=true) (no:noCells o=true) (a:Addr):(World.lay w D o).frozen? a=w.frozen? a:=by
 by_cases he:a.block=D
 ·rw[frozen_no (o:=o) (by rw[he];exact lay_self hp) no,frozen_no (o:=p) (by rw[he];exact hp) np]
 ·exact frozen_at (lay_ne he)
theorem HRel.lay (hr:HRel φ h w) {D:Nat} {o:Obj} (ho:Off φ h D):HRel φ h (World.lay w D o) :=
 hr.other (by rw[lay_size];exact Nat.le_refl _) fun i im hl hi=>lay_ne (ho i im hl hi)
theorem Ext.lay {w1:World} (hx:Ext φ h w φ' h' w1) {D:Nat} {o p:Obj} (hD:w.heap.size<=D) (hp:w1.heap[D]?=some p) (np:noCells p=true) (no:noCells o=true) :
  Ext φ h w φ' h' (World.lay w1 D o) where
 mono:=hx.mono
 frame:=fun b hb hn=>by rw[lay_ne (by omega)];exact hx.frame b hb hn
 new:=hx.new
 size:=by rw[lay_size];exact hx.size
 next:=hx.next
 os:=hx.os
 tape:=hx.tape
 output:=hx.output
 old:=hx.old
 full:=hx.full
 frz:=fun a=>(lay_frozen hp np no a).trans (hx.frz a)
def World.more (w:World) (o:Obj):World := {w with heap:=w.heap.push o}
theorem more_lt {o:Obj} {b:Nat} (hb:b<w.heap.size):(World.more w o).heap[b]?=w.heap[b]?:=by
 show(w.heap.push o)[b]?=_
 rw[Array.getElem?_push,if_neg (by omega)]
theorem more_self {o:Obj}:(World.more w o).heap[w.heap.size]?=some o:=by
 show(w.heap.push o)[w.heap.size]?=_
 rw[Array.getElem?_push,if_pos rfl]
theorem more_size {o:Obj}:(World.more w o).heap.size=w.heap.size+1:=by
 show(w.heap.push o).size=_
 rw[Array.size_push]
theorem HRel.more (hr:HRel φ h w) (o:Obj):HRel φ h (World.more w o) :=
 hr.other (by rw[more_size];omega) fun i im hl hi=>more_lt (hr.dom i im hi).2
theorem Ext.more {w1:World} (hx:Ext φ h w φ' h' w1) {o:Obj} (no:noCells o=true):Ext φ h w φ' h' (World.more w1 o) where
 mono:=hx.mono
 frame:=fun b hb hn=>by rw[more_lt (Nat.lt_of_lt_of_le hb hx.size)];exact hx.frame b hb hn
 new:=hx.new
 size:=by rw[more_size];have:=hx.size;omega
 next:=hx.next
 os:=hx.os
 tape:=hx.tape
 output:=hx.output
 old:=hx.old
 full:=hx.full
 frz:=fun a=>by
  rw[<- hx.frz a]
  by_cases hlt:a.block<w1.heap.size
  ·exact frozen_at (more_lt hlt)
  ·by_cases he:a.block=w1.heap.size
   ·rw[frozen_no (o:=o) (by rw[he];exact more_self) no]
    unfold World.frozen?
    rw[he,Array.getElem?_eq_none (Nat.le_refl _)]
   ·unfold World.frozen?
    rw[Array.getElem?_eq_none (by rw[more_size];omega),Array.getElem?_eq_none (by omega)]
theorem Off.more (hr:HRel φ h w):Off φ h w.heap.size:=by
 intro i im hl hi heq
 have:=(hr.dom i im hi).2
 omega
inductive Pend where
 | coll
 | fn (f:Value)
inductive PsRel (φ:Phi) (h:Heap) (N:Nat) (w:World):List Pend->List Deferred->Prop where
 | nil:PsRel φ h N w [] []
 | coll (ps:List Pend) (ds:List Deferred) (D:Nat) (h1:N<=D) (h2:w.heap[D]?=some (.deferred (some []))) (h3:Off φ h D) (h4 : ∀d∈ds,d.target ≠ .collected D) (h5:PsRel φ h N w ps ds) :
   PsRel φ h N w (.coll::ps) (⟨.collected D,#[]⟩::ds)
 | fn (ps:List Pend) (ds:List Deferred) (g:Nat) (first caps first' caps':List Value) (h1:LRel φ first first') (h2:LRel φ caps caps') (h5:PsRel φ h N w ps ds) :
   PsRel φ h N w (.fn (.func (.func g) ⟨first⟩ ⟨caps⟩)::ps) (⟨.fn (.func g) ⟨caps'⟩,⟨first'⟩⟩::ds)
theorem PsRel.lt {N:Nat} {ps:List Pend} {ds:List Deferred} (hp:PsRel φ h N w ps ds) : ∀d∈ds,∀D,d.target = .collected D->D<w.heap.size:=by
 induction hp with
 | nil=>intro d hd;simp at hd
 | coll ps ds D h1 h2 h3 h4 h5 ih =>
  intro d hd D' he
  rcases List.mem_cons.1 hd with rfl|hd
  ·simp only[Target.collected.injEq] at he;subst he
   exact(Array.getElem?_eq_some_iff.1 h2).1
  ·exact ih d hd D' he
 | fn ps ds g a b c e h1 h2 h5 ih =>
  intro d hd D' he
  rcases List.mem_cons.1 hd with rfl|hd
  ·simp at he
  ·exact ih d hd D' he
theorem PsRel.ext {N:Nat} {ps:List Pend} {ds:List Deferred} (hp:PsRel φ h N w ps ds) (hx:Ext φ h w φ' h' w'):PsRel φ' h' N w' ps ds:=by
 induction hp with
 | nil=>exact .nil
 | coll ps ds D h1 h2 h3 h4 h5 ih =>
  have hlt:D<w.heap.size:=(Array.getElem?_eq_some_iff.1 h2).1
  exact .coll ps ds D h1 (by rw[hx.frame D hlt h3];exact h2) (h3.ext hx hlt) h4 ih
 | fn ps ds g a b c e h1 h2 h5 ih=>exact .fn ps ds g a b c e (h1.mono hx.mono) (h2.mono hx.mono) ih
theorem PsRel.lay {N:Nat} {ps:List Pend} {ds:List Deferred} (hp:PsRel φ h N w ps ds) {D:Nat} {o:Obj} (hn : ∀d∈ds,d.target ≠ .collected D):PsRel φ h N (World.lay w D o) ps ds:=by
 induction hp with
 | nil=>exact .nil
 | coll ps ds D' h1 h2 h3 h4 h5 ih =>
  refine .coll ps ds D' h1 ?_ h3 h4 (ih fun d hd=>hn d (List.mem_cons_of_mem _ hd))
  rw[lay_ne (fun e=>hn _ (List.mem_cons_self ..) (by rw[e]))]
  exact h2
 | fn ps ds g a b c e h1 h2 h5 ih=>exact .fn ps ds g a b c e h1 h2 (ih fun d hd=>hn d (List.mem_cons_of_mem _ hd))
def SRelD (nt N:Nat) (ps:List Pend) (φ:Phi) (t:Fm) (h:Heap) (a:Act) (w:World):Prop :=
 TRel φ t a/\HRel φ h w/\a.tmps.size=nt/\PsRel φ h N w ps a.defers/\Full φ h/\N<=w.heap.size
def CRD (P:Program) (nt:Nat) (c:Code) (t:Fm) (h:Heap) (ps:List Pend) (e:Exit) (t':Fm) (h':Heap) (ps':List Pend):Prop :=
 ∀N φ a w,SRelD nt N ps φ t h a w->c.wp P (fun e' a' w'=>e'=e /\ ∃φ',SRelD nt N ps' φ' t' h' a' w'/\Ext φ h w φ' h' w') a w
variable {tt:T TI} (hT:TOk P tt) {nt:Nat} {t t1 t':Fm} {h1:Heap} {e:Exit} {ps ps1 ps':List Pend}
theorem CRD.of {c:Code} (hc:CR P nt c t h e t' h'):CRD P nt c t h ps e t' h' ps:=by
 rintro N φ a w ⟨q1,q2,q3,q4,q5,q6⟩
 refine wp_mono (hc a.defers φ a w ⟨q1,q2,q3,rfl,q5⟩) ?_
 rintro e' a' w' ⟨rfl,φ',⟨r1,r2,r3,r4,r5⟩,hx⟩
 exact⟨rfl,φ',⟨r1,r2,r3,by rw[r4];exact q4.ext hx,r5,Nat.le_trans q6 hx.size⟩,hx⟩
theorem CRD.seq {x y:Code} (hx:CRD P nt x t h ps .normal t1 h1 ps1) (hy:CRD P nt y t1 h1 ps1 e t' h' ps'):CRD P nt (.seq x y) t h ps e t' h' ps':=by
 intro N φ a w hr
 refine wp_seq (wp_mono (hx N φ a w hr) ?_)
 rintro e' a' w' ⟨rfl,φ',hr',hx'⟩
 refine wp_mono (hy N φ' a' w' hr') ?_
 rintro e2 a2 w2 ⟨rfl,φ2,hr2,hx2⟩
 exact⟨rfl,φ2,hr2,hx'.trans hx2⟩
theorem CRD.seq_out {x y:Code} (hx:CRD P nt x t h ps e t' h' ps') (he:e ≠ .normal):CRD P nt (.seq x y) t h ps e t' h' ps':=by
 intro N φ a w hr
 refine wp_seq (wp_mono (hx N φ a w hr) ?_)
 rintro e' a' w' ⟨rfl,φ',hr',hx'⟩
 cases e'<;>first|exact absurd rfl he|exact⟨rfl,φ',hr',hx'⟩
theorem CRD.block {i:Nat} {c:Code} (hc:CRD P nt c t h ps e t' h' ps') (he : ∀j,e = .exit j->j≠i):CRD P nt (.block i c) t h ps e t' h' ps':=by
 intro N φ a w hr
 refine wp_block (wp_mono (hc N φ a w hr) ?_)
 rintro e' a' w' ⟨rfl,φ',hr',hx'⟩
 cases e' with
 | exit j=>simp only[Exit.inBlock];rw[if_neg (he j rfl)];exact⟨trivial,φ',hr',hx'⟩
 | _=>exact⟨rfl,φ',hr',hx'⟩
theorem CRD.block_exit {i:Nat} {c:Code} (hc:CRD P nt c t h ps (.exit i) t' h' ps'):CRD P nt (.block i c) t h ps .normal t' h' ps':=by
 intro N φ a w hr
 refine wp_block (wp_mono (hc N φ a w hr) ?_)
 rintro e' a' w' ⟨rfl,φ',hr',hx'⟩
 simp only[Exit.inBlock,if_true]
 exact⟨trivial,φ',hr',hx'⟩
include hT in
theorem value_sound {fv fv' v:Value} {args args' cargs:List Value} {f:Nat} (hfv:VRel φ fv fv') (ha:LRel φ args args') (hcv:calleeV tt fv args=some (f,cargs))
  (hN:CallNext P f cargs h v h') (hr:HRel φ h w) (hfull:Full φ h):ResOK P φ h w v h' ((do let d<-Deferred.ofValue fv' ⟨args'⟩;invoke d.target d.args:Sem Next).run P w):=by
 unfold calleeV at hcv
 split at hcv
 ·rename_i g first captured
  simp only[Option.some.injEq,Prod.mk.injEq] at hcv
  obtain⟨rfl,rfl⟩:=hcv
  cases hfv with
  | func _ x1 x2 y1 y2 h1 h2 =>
   have e1:(do let d<-Deferred.ofValue (.func (.func g) ⟨x2⟩ ⟨y2⟩) ⟨args'⟩;invoke d.target d.args:Sem Next).run P w=(callFunc g ⟨x2++args'++y2⟩).run P w:=by
    simp only[Deferred.ofValue,Sem.run_bind,Sem.run_pure,Result.andThen_ok,invoke,array_app]
   rw[e1]
   exact hN φ _ w ((h1.append ha).append h2) hr hfull
 ·rename_i name first captured
  split at hcv
  case h_2=>simp at hcv
  rename_i r rest hfr
  cases hfv with
  | func _ x1 x2 y1 y2 h1 h2 =>
   have hall:=h1.append ha
   have hfr':x1++args=r::rest:=hfr
   rw[hfr'] at hall
   obtain⟨r',rest',hl,hr',hrest'⟩:=hall.extract1
   obtain⟨cargs',k1,k2⟩:=run_callMethod hT hcv hr' hrest'
   have e1:(do let d<-Deferred.ofValue (.func (.method name) ⟨x2⟩ ⟨y2⟩) ⟨args'⟩;invoke d.target d.args:Sem Next).run P w=(callMethod r' name ⟨rest'⟩).run P w:=by
    simp only[Deferred.ofValue,Sem.run_bind,Sem.run_pure,Result.andThen_ok,invoke,array_app,hl]
    rw[extract1_eq]
    rfl
   rw[e1,k2]
   exact hN φ _ w k1 hr hfull
 ·rename_i ty' name first captured
  split at hcv
  case h_2=>simp at hcv
  rename_i i r rest hi hfr
  cases hifc:isIface i.desc with
  | true=>rw[hifc] at hcv;simp at hcv
  | false =>
   rw[hifc] at hcv
   simp only[cond_false] at hcv
   cases hfv with
   | func _ x1 x2 y1 y2 h1 h2 =>
    have hall:=h1.append ha
    have hfr':x1++args=r::rest:=hfr
    rw[hfr'] at hall
    obtain⟨r',rest',hl,hr',hrest'⟩:=hall.extract1
    obtain⟨cargs',k1,k2⟩:=run_callMethod hT hcv (.iface ty' _ _ hr') hrest'
    have hu:=hT.desc _ _ hi
    have e1:(do let d<-Deferred.ofValue (.func (.methodOf ty' name) ⟨x2⟩ ⟨y2⟩) ⟨args'⟩;invoke d.target d.args:Sem Next).run P w=(callMethod (.iface ty' r') name ⟨rest'⟩).run P w:=by
     simp only[Deferred.ofValue,Sem.run_bind,Sem.run_pure,Result.andThen_ok,invoke,array_app,hl,List.getElem?_toArray,List.getElem?_cons_zero,run_underlying hu]
     rw[extract1_eq]
     cases hd:i.desc<;>first|rfl|(rw[hd] at hifc;simp[isIface] at hifc)
    rw[e1,k2]
    exact hN φ _ w k1 hr hfull
 ·simp at hcv
def loopOf (fn:FuncId) (tmps:Array Value) (params:Array Tmp) (assign body:Code) (D:Nat):Obj :=
 .loop {state := .ready,pending:=none,fn,tmps,params,assign,body,defers:=D}
theorem Frame.at_eval (b:Frame) (a:Act) (todo:List Item) (ds:List Deferred):({b.at a todo with defers:=ds}:Frame).eval=a.eval:=by
 funext x;cases x<;>rfl
theorem step_rangeFunc {b:Frame} {a:Act} {k:List Item} {cs:List Frame} {g:Operand} {ps:Array Tmp} {assign body:Code} {S:GStep}
  (hS:(stepG.apply P true {b.at a (.inRangeFunc (w.heap.size+1)::k) with defers:=⟨.collected w.heap.size,#[]⟩::a.defers} cs none
   (do let d<-Deferred.ofValue (a.eval g) #[.func (.yield (w.heap.size+1)) #[] #[]];invoke d.target d.args)
   (World.more (World.more w (.deferred (some []))) (loopOf b.fn a.tmps ps assign body w.heap.size))).bare=S) :
  (stepG P true {frame:=b.at a (.code (.rangeFunc g ps assign body)::k),callers:=cs,status := .running,dying:=none} w).bare=S:=by
 subst hS
 have he:=Frame.at_eval b a (.inRangeFunc (w.heap.size+1)::k) (⟨.collected w.heap.size,#[]⟩::a.defers)
 simp only[Frame.at] at he
 have hrun:(Instr.enterLoop b.fn a.tmps ps assign body none).run P w = .ok (w.heap.size+1,[⟨.collected w.heap.size,#[]⟩]) (World.more (World.more w (.deferred (some []))) (loopOf b.fn a.tmps ps assign body w.heap.size)):=by
  unfold Instr.enterLoop loopOf
  simp only[Sem.run_bind,run_newObj,Result.andThen_ok,Sem.run_pure,Array.size_push]
  rfl
 simp only[stepG,stepG.exec,Frame.at,Sem.runT_eq,hrun,resolve,GStep.bare_after,List.cons_append,List.nil_append,List.map_toArray,List.map_cons,List.map_nil,he,Act.eval]
end
end Go.Ab
namespace Go.Ab
set_option linter.unusedVariables false
section
variable {P:Program} {φ φ':Phi} {h h':Heap} {w w':World} {tt:T TI} (hT:TOk P tt) {nt:Nat} {t t1 t':Fm} {h1:Heap} {e:Exit} {ps ps1 ps':List Pend}
def loopEnd (fn:FuncId) (tmps:Array Value) (params:Array Tmp) (assign body:Code) (D:Nat):Obj :=
 .loop {state := .exhausted,pending:=none,fn,tmps,params,assign,body,defers:=D}
theorem step_endRange {b:Frame} {a:Act} {k:List Item} {cs:List Frame} {l:Nat} {fn:FuncId} {tmps:Array Value} {ps:Array Tmp} {assign body:Code} {D:Nat}
  (hl:w.heap[l]?=some (loopOf fn tmps ps assign body D)) :
  step P (lone (b.at a (.endRangeFunc l::k)) cs w) = .next (lone (b.at a k) cs (World.lay w l (loopEnd fn tmps ps assign body D))):=by
 refine step_lone_go ?_
 have hrun:(Instr.endLoop l).run P w = .ok none (World.lay w l (loopEnd fn tmps ps assign body D)):=by
  unfold Instr.endLoop Instr.getLoop
  have h1:(getObj l).run P w = .ok (loopOf fn tmps ps assign body D) w:=by simp only[getObj,Sem.run,hl];rfl
  have h2:(setObj l (loopEnd fn tmps ps assign body D)).run P w = .ok () (World.lay w l (loopEnd fn tmps ps assign body D)):=by simp only[setObj,Sem.run,hl];rfl
  simp only[Sem.run_bind,h1,Result.andThen_ok,loopOf,Sem.run_pure]
  have:(LoopState.ready==LoopState.busy)=false:=rfl
  simp only[this,Bool.false_eq_true,if_false,Sem.run_bind,Sem.run_pure]
  show((setObj l (loopEnd fn tmps ps assign body D)).run P w).andThen _=_
  rw[h2];rfl
 simp only[stepG,stepG.exec,Frame.at,Sem.runT_eq,hrun,GStep.bare_after]
 rfl
theorem apply_steps {b:Frame} {a:Act} {l:Nat} {k:List Item} {cs:List Frame} {s:Sem Next} {v:Value} (hres:ResOK P φ h w v h' (s.run P w)) {m:Machine}
  (hm : ∀fr' cs' w',(stepG.apply P true (b.at a (.inRangeFunc l::k)) cs none s w).bare = .go {frame:=fr',callers:=cs',status := .running,dying:=none} w'->step P m = .next (lone fr' cs' w')) :
  ∃φ' w',HRel φ' h' w'/\Ext φ h w φ' h' w'/\Steps P m (lone (b.at a (.endRangeFunc l::k)) cs w'):=by
 generalize hr:s.run P w=r at hres
 cases r with
 | halt x w'=>exact hres.elim
 | ok n w' =>
  cases n<;>simp only[ResOK] at hres<;>(try exact hres.elim)
  case value v' =>
   obtain⟨φ',q1,q2,q3⟩:=hres
   exact⟨φ',w',q2,q3,.one (hm _ _ _ (by simp[stepG.apply,hr,Frame.at,Frame.finish]))⟩
  case skip =>
   obtain⟨φ',q1,q2,q3⟩:=hres
   exact⟨φ',w',q2,q3,.one (hm _ _ _ (by simp[stepG.apply,hr,Frame.at,Frame.finish]))⟩
  case enter f args =>
   obtain⟨e,w'',fr,⟨v',rfl,φ',q1,q2,q3⟩,hsteps,_,hleave⟩:=hres (b.at a (.inRangeFunc l::k)::cs)
   refine⟨φ',w'',q2,q3,.head (hm (Frame.enter P f args .normal) (b.at a (.inRangeFunc l::k)::cs) w' (by simp[stepG.apply,hr,Frame.at])) (Steps.trans hsteps (.one ?_))⟩
   have:=step_leave_returned (P:=P) (c:=b.at a (.inRangeFunc l::k)) (cs:=cs) hleave
   simpa [Frame.finish,Frame.at] using this
include hT in
theorem CRD.rangeFunc {g:Operand} {xs:Array Tmp} {assign body:Code} {f:Nat} {cargs:List Value} {v:Value} (hok:okO g=true) (hc:calleeV tt (evalO t g) [.chan (some 1)]=some (f,cargs))
  (hN:CallNext P f cargs h v h'):CRD P nt (.rangeFunc g xs assign body) t h ps .normal t h' (.coll::ps):=by
 rintro N φ a w ⟨q1,q2,q3,q4,q5,q6⟩ b k cs
 let D:=w.heap.size
 let l:=w.heap.size+1
 let w1:=World.more w (.deferred (some []))
 let w2:=World.more w1 (loopOf b.fn a.tmps xs assign body D)
 let a2:Act := {tmps:=a.tmps,defers:=⟨.collected D,#[]⟩::a.defers}
 have s1:w1.heap.size=D+1:=more_size
 have s2:w2.heap.size=D+2:=by show(World.more w1 _).heap.size=_;rw[more_size,s1]
 have hr1:HRel φ h w1:=q2.more _
 have hr2:HRel φ h w2:=hr1.more _
 have hx2:Ext φ h w φ h w2:=((Ext.refl φ h w).more rfl).more rfl
 have hD:Off φ h D:=Off.more q2
 have hl:Off φ h l:=by have:=Off.more hr1;rw[s1] at this;exact this
 have hDw:w2.heap[D]?=some (.deferred (some [])):=by
  show(World.more w1 _).heap[D]?=_
  rw[more_lt (by rw[s1];omega)];exact more_self
 have hlw:w2.heap[l]?=some (loopOf b.fn a.tmps xs assign body D):=by
  show(World.more w1 _).heap[l]?=_
  have:l=w1.heap.size:=by rw[s1]
  rw[this];exact more_self
 have hres:=value_sound hT (fv':=a.eval g) (args' := [.func (.yield l) #[] #[]]) (evalO_rel q1 hok) (.cons _ _ _ _ (.yield l) .nil) hc hN hr2 q5
 obtain⟨φ',w3,r1,r2,r3⟩:=apply_steps (b:=b) (a:=a2) (l:=l) (k:=k) (cs:=cs) hres (m:=lone (b.at a (.code (.rangeFunc g xs assign body)::k)) cs w)
  (fun fr' cs' w' hb=>step_lone_go (step_rangeFunc (S := .go {frame:=fr',callers:=cs',status := .running,dying:=none} w') hb))
 have hl3:w3.heap[l]?=some (loopOf b.fn a.tmps xs assign body D):=by rw[r2.frame l (by rw[s2];omega) hl];exact hlw
 have hD3:w3.heap[D]?=some (.deferred (some [])):=by rw[r2.frame D (by rw[s2];omega) hD];exact hDw
 have hx3:Ext φ h w φ' h' w3:=hx2.trans r2
 have hoff:Off φ' h' l:=hl.ext r2 (by rw[s2];omega)
 have hoffD:Off φ' h' D:=hD.ext r2 (by rw[s2];omega)
 have hne : ∀d∈a.defers,d.target ≠ .collected l:=by
  intro d hd he
  have:=q4.lt d hd l he
  omega
 have hneD : ∀d∈a.defers,d.target ≠ .collected D:=by
  intro d hd he
  have:=q4.lt d hd D he
  omega
 refine⟨.normal,a2,World.lay w3 l (loopEnd b.fn a.tmps xs assign body D),⟨rfl,φ',⟨?_,?_,q3,?_,?_,?_⟩,?_⟩,?_⟩
 ·exact fun k=>(q1 k).mono hx3.mono
 ·exact r1.lay hoff
 ·refine .coll ps a.defers D q6 ?_ hoffD hneD ((q4.ext hx3).lay hne)
  rw[lay_ne (by omega)];exact hD3
 ·exact hx3.full q5
 ·rw[lay_size];exact Nat.le_trans q6 hx3.size
 ·exact hx3.lay (by omega) hl3 rfl rfl
 ·exact Steps.trans r3 (.one (step_endRange hl3))
theorem run_resolve_defer {a:Act} {x:Operand} {g:Nat} {first caps:List Value} {ty:TypeId} (hx:a.eval x = .func (.func g) ⟨first⟩ ⟨caps⟩) (ats:Array TypeId) :
  (execOp a.eval ⟨none,.defer ⟨.value x,#[],ats⟩,ty, "",#[],none⟩).run P w = .ok (.defer ⟨.fn (.func g) ⟨caps⟩,⟨first⟩⟩) w:=by
 have:execOp a.eval ⟨none,.defer ⟨.value x,#[],ats⟩,ty, "",#[],none⟩=(do pure (.defer (<- resolve a.eval ⟨.value x,#[],ats⟩ ty))):=rfl
 rw[this]
 simp only[resolve,hx,Deferred.ofValue,Sem.run_bind,Sem.run_pure,Result.andThen_ok,List.map_toArray,List.map_nil]
 rw[Array.append_empty]
def deferOf (ops:List Oper):Option (Oper×Operand):=match ops with
 | [o,⟨none,.defer ⟨.value x,⟨[]⟩,_⟩,_,_,_,none⟩]=>some (o,x)
 | _=>none
include hT in
theorem CRD.defer {id:Nat} {ops:Array Oper} {o:Oper} {x:Operand} (hd:deferOf ops.toList=some (o,x)) (hs:Seq P tt ops nt [0] t h t' h') (hok:okO x=true)
  {g:Nat} {first caps:List Value} (hx:evalO t' x = .func (.func g) ⟨first⟩ ⟨caps⟩) :
  CRD P nt (.region id ops false) t h ps .normal t' h' (.fn (.func (.func g) ⟨first⟩ ⟨caps⟩)::ps):=by
 rintro N φ a w ⟨q1,q2,q3,q4,q5,q6⟩
 unfold deferOf at hd
 split at hd
 case h_2=>simp at hd
 rename_i o' x' ats ty pos af hops
 simp only[Option.some.injEq,Prod.mk.injEq] at hd
 obtain⟨rfl,rfl⟩:=hd
 have hsz:ops.size=2:=by rw[<- Array.length_toList,hops];rfl
 have h1:ops[1]?=some ⟨none,.defer ⟨.value x',⟨[]⟩,ats⟩,ty,pos,af,none⟩:=by rw[<- Array.getElem?_toList,hops];rfl
 refine wp_region ?_
 rw[hsz]
 show wpOps P ops _ [0,1] a w
 rw[wpOps_cons]
 cases hs with
 | cons i l o c v t0 h0 t1 h1' t2 h2 ho hk hst hl =>
  cases hl
  refine step_sound hT ho hk hst (ds:=a.defers) ⟨q1,q2,q3,rfl,q5⟩ ?_
  rintro φ' a' w' ⟨r1,r2,r3,r4,r5⟩ hx'
  rw[wpOps_cons]
  unfold wpOp
  rw[h1]
  simp only[Region.wanted,if_true]
  refine .inl ?_
  have hv:=evalO_rel r1 hok
  rw[hx] at hv
  generalize hev:a'.eval x'=fv at hv
  cases hv with
  | func _ x1 x2 y1 y2 k1 k2 =>
   unfold Oper.wp
   have hrun:=run_resolve_defer (P:=P) (w:=w') (a:=a') (x:=x') (g:=g) (first:=x2) (caps:=y2) (ty:=ty) hev ats
   have hrun':(execOp a'.eval ⟨none,.defer ⟨.value x',⟨[]⟩,ats⟩,ty,pos,af,none⟩).run P w' = .ok (.defer ⟨.fn (.func g) ⟨y2⟩,⟨x2⟩⟩) w':=hrun
   rw[hrun']
   rw[Oper.upon_defer]
   refine⟨rfl,φ',⟨r1,r2,r3,?_,r5,Nat.le_trans q6 hx'.size⟩,hx'⟩
   refine .fn ps a'.defers g first caps x2 y2 k1 k2 ?_
   rw[r4];exact q4.ext hx'
def IdleD (P:Program) (g n:Nat):Prop:=(∀args w,(callFunc g args).run P w = .ok (.enter g args) w) /\
 ∀(args:List Value) w,args.length=n->CallsD P g ⟨args⟩ .returning w fun e u' w'=>(∃v,e = .returned v)/\u' = .returning/\w'=w
def nIdle (idle:List (Nat×Nat)) (g n:Nat):Bool:=match idle with
 | []=>false
 | (a,b)::l=>bif Nat.beq a g&&Nat.beq b n then true else nIdle l g n
theorem nIdle_mem : ∀{idle:List (Nat×Nat)} {g n:Nat},nIdle idle g n=true->(g,n)∈idle
 | [],g,n,hh=>by simp[nIdle] at hh
 | (a,b)::l,g,n,hh=>by
  simp only[nIdle] at hh
  cases hb:(Nat.beq a g&&Nat.beq b n) with
  | true =>
   simp only[Bool.and_eq_true] at hb
   rw[beq_eq' hb.1,beq_eq' hb.2];simp
  | false=>rw[hb] at hh;exact List.mem_cons_of_mem _ (nIdle_mem hh)
def pIdle (idle:List (Nat×Nat)):Pend->Bool
 | .coll=>true
 | .fn (.func (.func g) ⟨first⟩ ⟨caps⟩)=>nIdle idle g (Nat.add first.length caps.length)
 | _=>false
structure Laid (N:Nat) (w w':World):Prop where
 size:w'.heap.size=w.heap.size
 low : ∀b,b<N->w'.heap[b]?=w.heap[b]?
 os:w'.os=w.os
 tape:w'.tape=w.tape
 output:w'.output=w.output
 frz : ∀a,w'.frozen? a=w.frozen? a
theorem Laid.refl (N:Nat) (w:World):Laid N w w:=⟨rfl,fun _ _=>rfl,rfl,rfl,rfl,fun _=>rfl⟩
theorem Ext.laid {w0:World} (hx:Ext φ h w0 φ' h' w) (hl:Laid w0.heap.size w w'):Ext φ h w0 φ' h' w' where
 mono:=hx.mono
 frame:=fun b hb hn=>by rw[hl.low b hb];exact hx.frame b hb hn
 new:=hx.new
 size:=by rw[hl.size];exact hx.size
 next:=hx.next
 os:=hl.os.trans hx.os
 tape:=hl.tape.trans hx.tape
 output:=hl.output.trans hx.output
 old:=hx.old
 full:=hx.full
 frz:=fun a=>(hl.frz a).trans (hx.frz a)
theorem step_coll {fr:Frame} {cs:List Frame} {D:Nat} {ds:List Deferred} (hm:fr.mode ≠ .run) (hd:fr.defers=⟨.collected D,#[]⟩::ds) (hw:w.heap[D]?=some (.deferred (some []))) :
  step P (lone fr cs w) = .next (lone {fr with defers:=ds} cs (World.lay w D (.deferred none))):=by
 have hrun:(Instr.takeDeferred D).run P w = .ok [] (World.lay w D (.deferred none)):=by
  unfold Instr.takeDeferred
  have h1:(getObj D).run P w = .ok (.deferred (some [])) w:=by simp[getObj,Sem.run,hw]
  have h2:(setObj D (.deferred none)).run P w = .ok () (World.lay w D (.deferred none)):=by simp[setObj,Sem.run,hw,World.lay]
  simp only[Sem.run_bind,h1,Result.andThen_ok,Sem.run_pure,h2]
 refine step_lone_go ?_
 cases hmode:fr.mode with
 | run=>exact absurd hmode hm
 | returning=>simp[stepG,unwind,hmode,hd,hrun]
 | panicking chain=>simp[stepG,unwind,hmode,hd,hrun]
theorem pend_steps {N:Nat} {idle:List (Nat×Nat)} (hi : ∀x,x∈idle->IdleD P x.1 x.2) : ∀{ps:List Pend} {ds:List Deferred} {w:World},allB (pIdle idle) ps=true->PsRel φ h N w ps ds->HRel φ h w ->
  ∀(fr:Frame) (cs:List Frame),fr.mode = .returning->fr.defers=ds -> ∃w',HRel φ h w'/\Laid N w w'/\Steps P (lone fr cs w) (lone {fr with defers := []} cs w'):=by
 have key : ∀{ps:List Pend} {ds:List Deferred} {w:World},PsRel φ h N w ps ds->allB (pIdle idle) ps=true->HRel φ h w ->
   ∀(fr:Frame) (cs:List Frame),fr.mode = .returning->fr.defers=ds -> ∃w',HRel φ h w'/\Laid N w w'/\Steps P (lone fr cs w) (lone {fr with defers := []} cs w'):=by
  intro ps
  induction ps with
  | nil =>
   intro ds w hp ha hr fr cs hm hd
   cases hp
   refine⟨w,hr,.refl _ _,?_⟩
   have : {fr with defers := []}=fr:=by rw[<- hd]
   rw[this];exact .refl _ _
  | cons p ps ih =>
   intro ds w hp ha hr fr cs hm hd
   simp only[allB] at ha
   cases hp with
   | coll _ ds D h1 h2 h3 h4 h5 =>
    have ha':allB (pIdle idle) ps=true:=by simpa [pIdle] using ha
    obtain⟨w',r1,r2,r3⟩:=ih (h5.lay (o := .deferred none) h4) ha' (hr.lay h3) {fr with defers:=ds} cs hm rfl
    refine⟨w',r1,⟨?_,?_,r2.os,r2.tape,r2.output,?_⟩,.head (step_coll (by rw[hm];simp) hd h2) r3⟩
    ·rw[r2.size,lay_size]
    ·intro b hb;rw[r2.low b hb,lay_ne (by omega)]
    ·intro a;rw[r2.frz a];exact lay_frozen h2 rfl rfl a
   | fn _ ds g first caps first' caps' h1 h2 h5 =>
    cases hb:pIdle idle (.fn (.func (.func g) ⟨first⟩ ⟨caps⟩)) with
    | false=>rw[hb] at ha;simp at ha
    | true =>
     rw[hb] at ha
     have hg:=nIdle_mem (show nIdle idle g (Nat.add first.length caps.length)=true from hb)
     obtain⟨k1,k2⟩:=hi _ hg
     have hlen:(first'++caps').length=Nat.add first.length caps.length:=by
      rw[List.length_append,<-h1.length,<-h2.length];rfl
     have hinv:(invoke (.fn (.func g) ⟨caps'⟩) ⟨first'⟩).run P w = .ok (.enter g ⟨first'++caps'⟩) w:=by
      show(callFunc g (⟨first'⟩++⟨caps'⟩)).run P w=_
      rw[array_app,k1]
     have hst:=step_defer (P:=P) (fr:=fr) (cs:=cs) (w:=w) (d:=⟨.fn (.func g) ⟨caps'⟩,⟨first'⟩⟩) (ds:=ds) (by rw[hm];simp) hd rfl hinv
     obtain⟨e,u',w1,frX,⟨⟨v,rfl⟩,rfl,rfl⟩,hsteps,hkX,hgo⟩:=k2 (first'++caps') w hlen {fr with defers:=ds} cs hm
     have h3:=step_going_returned (c := {{fr with defers:=ds} with mode := .returning}) (cs:=cs) hkX hgo
     obtain⟨w',r1,r2,r3⟩:=ih h5 ha hr {fr with defers:=ds} cs hm rfl
     refine⟨w',r1,r2,.head hst (Steps.trans hsteps (.head h3 ?_))⟩
     have:({{{fr with defers:=ds} with mode:=FrameMode.returning} with mode:=settle FrameMode.returning}:Frame) = {fr with defers:=ds}:=by
      show({{fr with defers:=ds} with mode:=FrameMode.returning}:Frame)=_
      rw[<- hm]
     rw[this];exact r3
 intro ps ds w ha hp hr
 exact key hp ha hr
include hT in
theorem call_codeD {idle:List (Nat×Nat)} (hi : ∀x,x∈idle->IdleD P x.1 x.2) {f:Nat} {fn:Func} {c:Code} {rs:List RVar} {args:List Value} {vs:List Value} (hf:P.funcs[f]?=some fn)
  (hname:(fn.name == "runtime.NumGoroutine")=false) (hb:fn.body=some c) (hrs:compRes tt fn.results.toList=some rs) (hlen:args.length<=fn.ntmps)
  (hc:CRD P fn.ntmps c (argsT args) h [] e t' h' ps') (he:e = .normal\/e = .ret) (hps:allB (pIdle idle) ps'=true) (hv:resV t' h' rs=some vs):CallNext P f args h (one vs) h':=by
 intro φ args' w ha hr hfull
 have hcall:(callFunc f ⟨args'⟩).run P w = .ok (.enter f ⟨args'⟩) w:=by
  have h1:fn.name ≠ "runtime.NumGoroutine" :=by simpa using hname
  simp only[callFunc,Sem.run_bind,run_program,Result.andThen_ok,hf,hname,Bool.false_eq_true,if_false,hb,Option.isNone_some,Sem.run_pure]
 rw[hcall]
 have hl':=ha.length
 let A:Act := {tmps:=(⟨args'⟩:Array Value)++Array.replicate (fn.ntmps-(⟨args'⟩:Array Value).size) undef,defers := []}
 have hsr:SRelD fn.ntmps w.heap.size [] φ (argsT args) h A w:=by
  refine⟨fun k=>?_,hr,?_,.nil,hfull,Nat.le_refl _⟩
  ·show VRel φ ((nth args k).getD undef) _
   rw[nth_eq]
   by_cases hk:k<args.length
   ·have hk1:args[k]?=some args[k]:=List.getElem?_eq_getElem hk
    obtain⟨u,g1,g2⟩:=ha.get k _ hk1
    rw[hk1,Option.getD_some]
    have:((⟨args'⟩:Array Value)++Array.replicate (fn.ntmps-(⟨args'⟩:Array Value).size) undef).getD k undef=u:=by
     rw[Array.getD_eq_getD_getElem?,Array.getElem?_append_left (by simp;omega)]
     simp[g1]
    rw[this];exact g2
   ·have hk1:args[k]?=none:=List.getElem?_eq_none (by omega)
    rw[hk1,Option.getD_none]
    have:((⟨args'⟩:Array Value)++Array.replicate (fn.ntmps-(⟨args'⟩:Array Value).size) undef).getD k undef=undef:=by
     rw[Array.getD_eq_getD_getElem?,Array.getElem?_append_right (by simp;omega),Array.getElem?_replicate]
     split<;>rfl
    rw[this];exact undef_rel φ
  ·simp[A];omega
 intro cs
 let b:Frame := {(default:Frame) with fn:=f,kind := .normal}
 have henter:Frame.enter P f ⟨args'⟩ .normal=b.at A [.code c]:=by
  simp[Frame.enter,Frame.at,hf,hb,b,A]
 obtain⟨e',a',w',⟨rfl,φ',⟨q1,q2,q3,q4,q5,q6⟩,hx⟩,harr⟩:=hc w.heap.size φ A w hsr b [] cs
 rw[<- henter] at harr
 have key : ∀todo,Steps P (lone (Frame.enter P f ⟨args'⟩ .normal) cs w) (lone {b.at a' todo with mode := .returning} cs w') ->
   ∃e w'' fr,(∃v',e = .returned v' /\ ∃φ',VRel φ' (one vs) v'/\HRel φ' h' w''/\Ext φ h w φ' h' w'')/\Comes P (lone (Frame.enter P f ⟨args'⟩ .normal) cs w) (lone fr cs w'') e/\fr.fn=f/\fr.leaving P w'' e:=by
  intro todo hsteps
  obtain⟨w'',r1,r2,r3⟩:=pend_steps hi hps q4 q2 {b.at a' todo with mode := .returning} cs rfl rfl
  obtain⟨v',g1,g2⟩:=run_results hT hrs r1 q1 hv
  exact⟨.returned v',w'',{{b.at a' todo with mode := .returning} with defers := []},⟨v',rfl,φ',g2,r1,hx.laid r2⟩,Steps.trans hsteps r3,rfl,rfl,rfl,rfl,fn,hf,g1⟩
 rcases he with rfl|rfl
 ·exact key [] (Steps.trans harr (.one step_end))
 ·obtain⟨todo,hs⟩:=harr
  exact key todo hs
end
end Go.Ab
namespace Go.Ab
set_option linter.unusedVariables false
abbrev KP:=Fr->FH->List Pend->R
structure DC where
 f:CallT->Fr->FH->List Pend->KP->(Nat->KP)->KP->R
noncomputable def liftD (c:FC):DC:=FC.rec (motive:=fun _=>DC) (fun c=>⟨fun call t h ps k ke kr=>c call t h (fun t' h'=>k t' h' ps) (fun i t' h'=>ke i t' h' ps) (fun t' h'=>kr t' h' ps)⟩) c
noncomputable def vFn (v:Value) (k:R):R:=match v with
 | .func (.func _) _ _=>k
 | _ => .fail "defer"
theorem vFn_yes {v:Value} {k:R} (h:vFn v k = .yes) : ∃g first caps,v = .func (.func g) ⟨first⟩ ⟨caps⟩/\k = .yes:=by
 unfold vFn at h
 split at h
 ·rename_i g a b;exact⟨g,a.toList,b.toList,rfl,h⟩
 ·simp at h
noncomputable def deferD (tt:T TI) (nt:Nat) (ops:Array Oper) (o:Oper) (x:Operand):DC :=
 match mkEnts tt ops nt (befs ops.toList []) [o] 0 with
 | some l=>bif' (allDst l&&okO x) ⟨fun call t h ps k _ _=>(opsF tt l).f call t h [] fun t' h'=>vFn (evalO (tOf t') x) (k t' h' (.fn (evalO (tOf t') x)::ps))⟩ ⟨fun _ _ _ _ _ _ _ => .fail "defer"⟩
 | none=>⟨fun _ _ _ _ _ _ _ => .fail "defer"⟩
noncomputable def codeD (tt:T TI) (nt:Nat):Code->DC
 | .seq a b=>DC.rec (motive:=fun _=>DC) (fun a=>DC.rec (motive:=fun _=>DC) (fun b=>⟨fun call t h ps k ke kr=>a call t h ps (fun t' h' ps'=>b call t' h' ps' k ke kr) ke kr⟩) (codeD tt nt b)) (codeD tt nt a)
 | .block id c=>DC.rec (motive:=fun _=>DC) (fun c=>⟨fun call t h ps k ke kr=>c call t h ps k (fun i t' h' ps'=>bif' (Nat.beq i id) (k t' h' ps') (ke i t' h' ps')) kr⟩) (codeD tt nt c)
 | .rangeFunc g _ _ _=>bif' (okO g) ⟨fun call t h ps k _ _=>vOpt (calleeV tt (evalO (tOf t) g) [.chan (some 1)]) fun p=>call p.1 p.2 h fun _ h'=>k t h' (.coll::ps)⟩ ⟨fun _ _ _ _ _ _ _ => .fail "range"⟩
 | .region id ops false=>match deferOf ops.toList with
  | some (o,x)=>deferD tt nt ops o x
  | none=>liftD (codeF tt nt (.region id ops false))
 | c=>liftD (codeF tt nt c)
def FinD (k:KP) (ke:Nat->KP) (kr:KP) (e:Exit) (s:Fr) (h:FH) (ps:List Pend):Prop:=match e with
 | .normal=>k s h ps = .yes
 | .exit i=>ke i s h ps = .yes
 | .ret=>kr s h ps = .yes
 | _=>False
def DCok (P:Program) (nt:Nat) (c:Code) (fc:DC):Prop := ∀call,CallS P call -> ∀s h ps k ke kr,fc.f call s h ps k ke kr = .yes -> ∃e s' h' ps',FinD k ke kr e s' h' ps'/\CRD P nt c (tOf s) (hOf h) ps e (tOf s') (hOf h') ps'
theorem idx_one (l:List Ent) (h2:l.length=1) (h3 : ∀k e,l[k]?=some e->e.i=0+k):l.map (·.i) = [0]:=by
 cases l with
 | nil=>simp at h2
 | cons e l =>
  have:l = []:=by simpa using h2
  subst this
  have:=h3 0 e (by simp)
  simp[this]
section
variable {P:Program} {tt:T TI}
theorem liftD_ok {nt:Nat} {c:Code} {fc:FC} (hc:FCok P nt c fc):DCok P nt c (liftD fc):=by
 intro call hcs s h ps k ke kr hy
 obtain⟨e,s',h',hf,hcr⟩:=hc call hcs s h (fun t' h'=>k t' h' ps) (fun i t' h'=>ke i t' h' ps) (fun t' h'=>kr t' h' ps) hy
 refine⟨e,s',h',ps,?_,.of hcr⟩
 cases e<;>first|exact hf|exact hf.elim
theorem deferD_ok (hT:TOk P tt) {nt id:Nat} {ops:Array Oper} {o:Oper} {x:Operand} (hd:deferOf ops.toList=some (o,x)):DCok P nt (.region id ops false) (deferD tt nt ops o x):=by
 intro call hcs s h ps k ke kr hy
 have hbs : ∀k b,nth (befs ops.toList []) k=some b -> ∀j,b.testBit j=true->Bef ops j k :=
  befs_sound ops.toList [] 0 rfl (fun k o hk=>by simpa using hk) (fun k b hk=>by simp[nth] at hk)
 have h0:ops[0]?=some o:=by
  unfold deferOf at hd
  split at hd
  case h_2=>simp at hd
  rename_i o' x' ats ty pos af hops
  simp only[Option.some.injEq,Prod.mk.injEq] at hd
  obtain⟨rfl,rfl⟩:=hd
  rw[<- Array.getElem?_toList,hops];rfl
 unfold deferD at hy
 cases hm:mkEnts tt ops nt (befs ops.toList []) [o] 0 with
 | none=>rw[hm] at hy;simp at hy
 | some l =>
  rw[hm] at hy
  simp only at hy
  obtain⟨i1,i2,i3⟩:=mkEnts_is hbs [o] 0 l (fun k o' hk=>by
   cases k with
   | zero=>simp at hk;subst hk;simpa using h0
   | succ k=>simp at hk) hm
  cases hb:(allDst l&&okO x) with
  | false=>rw[hb,bif'_false] at hy;simp at hy
  | true =>
   rw[hb,bif'_true] at hy
   simp only[Bool.and_eq_true] at hb
   have hy':(opsF tt l).f call s h [] (fun t' h'=>vFn (evalO (tOf t') x) (k t' h' (.fn (evalO (tOf t') x)::ps))) = .yes:=hy
   obtain⟨s',h',h1,h2⟩:=opsF_ok (P:=P) (allDst_mem hb.1) hcs hy'
   obtain⟨g,first,caps,h3,h4⟩:=vFn_yes h1
   have hidx:l.map (·.i) = [0]:=idx_one l i2 i3
   have hseq:=trace_seq h2 i1
   rw[hidx] at hseq
   exact⟨.normal,s',h',.fn (evalO (tOf s') x)::ps,h4,by rw[h3];exact CRD.defer hT hd hseq hb.2 h3⟩
theorem codeD_ok (hT:TOk P tt) (hm:P.follows .mixedOrders=true) {nt:Nat} : ∀c:Code,DCok P nt c (codeD tt nt c)
 | .seq a b=>by
  intro call hcs s h ps k ke kr hy
  obtain⟨e,s1,h1,ps1,hf,hcr⟩:=codeD_ok hT hm a call hcs s h ps (fun t' h' ps'=>(codeD tt nt b).f call t' h' ps' k ke kr) ke kr hy
  cases e with
  | normal =>
   obtain⟨e2,s2,h2,ps2,hf2,hcr2⟩:=codeD_ok hT hm b call hcs s1 h1 ps1 k ke kr hf
   exact⟨e2,s2,h2,ps2,hf2,.seq hcr hcr2⟩
  | exit i=>exact⟨.exit i,s1,h1,ps1,hf,.seq_out hcr (by simp)⟩
  | ret=>exact⟨.ret,s1,h1,ps1,hf,.seq_out hcr (by simp)⟩
  | _=>exact hf.elim
 | .block id c=>by
  intro call hcs s h ps k ke kr hy
  obtain⟨e,s1,h1,ps1,hf,hcr⟩:=codeD_ok hT hm c call hcs s h ps k (fun i t' h' ps'=>bif' (Nat.beq i id) (k t' h' ps') (ke i t' h' ps')) kr hy
  cases e with
  | normal=>exact⟨.normal,s1,h1,ps1,hf,.block hcr (fun j h=>by simp at h)⟩
  | exit i =>
   have hf':bif' (Nat.beq i id) (k s1 h1 ps1) (ke i s1 h1 ps1) = .yes:=hf
   cases hb:Nat.beq i id with
   | true =>
    rw[hb,bif'_true] at hf'
    have:=beq_eq' hb;subst this
    exact⟨.normal,s1,h1,ps1,hf',.block_exit hcr⟩
   | false =>
    rw[hb,bif'_false] at hf'
    exact⟨.exit i,s1,h1,ps1,hf',.block hcr (fun j h=>by simp only[Exit.exit.injEq] at h;subst h;exact beq_ne' hb)⟩
  | ret=>exact⟨.ret,s1,h1,ps1,hf,.block hcr (fun j h=>by simp at h)⟩
  | _=>exact hf.elim
 | .rangeFunc g xs assign body=>by
  intro call hcs s h ps k ke kr hy
  cases hok:okO g with
  | false=>simp only[codeD,hok,bif'_false] at hy;simp at hy
  | true =>
   simp only[codeD,hok,bif'_true] at hy
   obtain⟨⟨f,as⟩,h1,h2⟩:=vOpt_yes hy
   obtain⟨v,h',h3,h4⟩:=hcs _ _ _ _ h2
   exact⟨.normal,s,h',.coll::ps,h3,CRD.rangeFunc hT hok h1 h4⟩
 | .region id ops draw=>by
  cases draw with
  | true=>exact liftD_ok (codeF_ok hT hm _)
  | false =>
   unfold codeD
   split
   ·rename_i o x hd;exact deferD_ok hT hd
   ·exact liftD_ok (codeF_ok hT hm _)
 | .skip=>liftD_ok (codeF_ok hT hm _)
 | .label _=>liftD_ok (codeF_ok hT hm _)
 | .cond .. =>liftD_ok (codeF_ok hT hm _)
 | .loop _=>liftD_ok (codeF_ok hT hm _)
 | .exit _=>liftD_ok (codeF_ok hT hm _)
 | .ret=>liftD_ok (codeF_ok hT hm _)
 | .scope _=>liftD_ok (codeF_ok hT hm _)
 | .goto _=>liftD_ok (codeF_ok hT hm _)
 | .refuse _=>liftD_ok (codeF_ok hT hm _)
noncomputable def codeDD (tt:T TI) (idle:List (Nat×Nat)) (nt:Nat) (rs:List RVar) (c:Code):FF :=
 DC.rec (motive:=fun _=>FF) (fun c=>⟨fun call args h k=>bif' (Nat.ble args.length nt) (c call (frameL args 0 fr0) h [] (fun t h ps=>bif' (allB (pIdle idle) ps) (vOpt (resV (tOf t) (hOf h) rs) fun vs=>k (one vs) h) (.fail "deferred")) (fun _ _ _ _ => .fail "exit") (fun t h ps=>bif' (allB (pIdle idle) ps) (vOpt (resV (tOf t) (hOf h) rs) fun vs=>k (one vs) h) (.fail "deferred"))) (.fail "arguments")⟩) (codeD tt nt c)
noncomputable def funD (tt:T TI) (idle:List (Nat×Nat)) (fn:Func):FF:=match fn.body with
 | none=>⟨fun _ _ _ _ => .fail "no body"⟩
 | some c=>match compRes tt fn.results.toList with
  | none=>⟨fun _ _ _ _ => .fail "results"⟩
  | some rs=>bif' (Nat.ble fn.ntmps 512) (bif' (fn.name == "runtime.NumGoroutine") ⟨fun _ _ _ _ => .fail "name"⟩ (codeDD tt idle fn.ntmps rs c)) ⟨fun _ _ _ _ => .fail "temporaries"⟩
theorem funD_ok (hT:TOk P tt) (hm:P.follows .mixedOrders=true) {idle:List (Nat×Nat)} (hi : ∀x,x∈idle->IdleD P x.1 x.2) {f:Nat} {fn:Func} (hf:P.funcs[f]?=some fn):FFok P f (funD tt idle fn):=by
 intro call hcs args h k hy
 unfold funD at hy
 split at hy
 ·simp at hy
 rename_i c hb
 split at hy
 ·simp at hy
 rename_i rs hrs
 cases hn:Nat.ble fn.ntmps 512 with
 | false=>rw[hn,bif'_false] at hy;simp at hy
 | true =>
  rw[hn,bif'_true] at hy
  cases hname:(fn.name == "runtime.NumGoroutine") with
  | true=>rw[hname,bif'_true] at hy;simp at hy
  | false =>
   rw[hname,bif'_false] at hy
   have hy':bif' (Nat.ble args.length fn.ntmps) ((codeD tt fn.ntmps c).f call (frameL args 0 fr0) h [] (fun t h ps=>bif' (allB (pIdle idle) ps) (vOpt (resV (tOf t) (hOf h) rs) fun vs=>k (one vs) h) (.fail "deferred")) (fun _ _ _ _ => .fail "exit") (fun t h ps=>bif' (allB (pIdle idle) ps) (vOpt (resV (tOf t) (hOf h) rs) fun vs=>k (one vs) h) (.fail "deferred"))) (.fail "arguments") = .yes:=hy
   obtain⟨h1,h2⟩:=bif'_fail hy'
   have hlen:=ble_le h1
   have hnt:=ble_le hn
   obtain⟨e,s',h',ps',hf2,hcr⟩:=codeD_ok hT hm c call hcs _ _ _ _ _ _ h2
   rw[frameL_args args (by omega)] at hcr
   cases e with
   | normal =>
    obtain⟨g1,g2⟩:=bif'_fail (show bif' (allB (pIdle idle) ps') (vOpt (resV (tOf s') (hOf h') rs) fun vs=>k (one vs) h') (.fail "deferred") = .yes from hf2)
    obtain⟨vs,h3,h4⟩:=vOpt_yes g2
    exact⟨one vs,h',h4,call_codeD hT hi hf hname hb hrs hlen hcr (.inl rfl) g1 h3⟩
   | ret =>
    obtain⟨g1,g2⟩:=bif'_fail (show bif' (allB (pIdle idle) ps') (vOpt (resV (tOf s') (hOf h') rs) fun vs=>k (one vs) h') (.fail "deferred") = .yes from hf2)
    obtain⟨vs,h3,h4⟩:=vOpt_yes g2
    exact⟨one vs,h',h4,call_codeD hT hi hf hname hb hrs hlen hcr (.inr rfl) g1 h3⟩
   | exit i=>simp[FinD] at hf2
   | _=>exact hf2.elim
noncomputable def withDs (tt:T TI) (idle:List (Nat×Nat)):List (Nat×Func)->T FF->T FF
 | [],F=>F
 | (f,fn)::l,F=>withDs tt idle l (F.set f (funD tt idle fn))
theorem withDs_ok (hT:TOk P tt) (hm:P.follows .mixedOrders=true) {idle:List (Nat×Nat)} (hi : ∀x,x∈idle->IdleD P x.1 x.2) : ∀(l:List (Nat×Func)) (F:T FF),(∀x,x∈l->P.funcs[x.1]?=some x.2) ->
  (∀f ff,F.get f=some ff->FFok P f ff) -> ∀f ff,(withDs tt idle l F).get f=some ff->FFok P f ff
 | [],F,_,hF=>hF
 | (g,fn)::l,F,hp,hF=>withDs_ok hT hm hi l _ (fun x hx=>hp x (by simp[hx])) fun f ff h=>by
  rw[T.get_set] at h
  split at h
  ·rename_i he
   subst he
   obtain rfl:=Option.some.inj h
   exact funD_ok hT hm hi (hp (f,fn) (by simp))
  ·exact hF f ff h
noncomputable def withFFs:List (Nat×FF)->T FF->T FF
 | [],F=>F
 | (f,ff)::l,F=>withFFs l (F.set f ff)
theorem withFFs_ok : ∀(l:List (Nat×FF)) (F:T FF),(∀x,x∈l->FFok P x.1 x.2)->(∀f ff,F.get f=some ff->FFok P f ff) -> ∀f ff,(withFFs l F).get f=some ff->FFok P f ff
 | [],F,_,hF=>hF
 | (g,ff)::l,F,hp,hF=>withFFs_ok l _ (fun x hx=>hp x (by simp[hx])) fun f ff' h=>by
  rw[T.get_set] at h
  split at h
  ·rename_i he
   subst he
   obtain rfl:=Option.some.inj h
   exact hp (f,ff) (by simp)
  ·exact hF f ff' h
def EmptyKeys (P:Program) (f:Nat):Prop:=(∀args w,(callFunc f args).run P w = .ok (.enter f args) w) /\
 ∀(y:Value) (b r:Nat) (cl:Nat) (w:World),w.cell? ⟨b,0,none⟩=some (.map (some r))->w.heap[r]?=some (.map #[] cl) ->
  Calls P f #[y,.pointer (some ⟨b,0,none⟩)] w fun e w'=>e = .returned (.tuple #[]) /\ ∃o d,noCells o=true/\w' = {World.more w o with drawn:=d}
noncomputable def keysFF:FF:=⟨fun _ args h k=>match args with
 | [_,.pointer (some ⟨b,0,none⟩)]=>load1K h ⟨b,0,none⟩ fun v=>match v with
  | .map (some r)=>(match T.getR h.t r with
   | some (.map [])=>k (.tuple ⟨[]⟩) h
   | _ => .fail "keys: map")
  | _ => .fail "keys: cell"
 | _ => .fail "keys: arguments"⟩
theorem keysFF_ok {f:Nat} (hE:EmptyKeys P f):FFok P f keysFF:=by
 intro call hcs args h k hy
 unfold keysFF at hy
 simp only at hy
 split at hy
 case h_2=>simp at hy
 rename_i y b
 obtain⟨v,h1,h2⟩:=load1K_yes hy
 split at h2
 case h_2=>simp at h2
 rename_i r
 split at h2
 case h_2=>simp at h2
 rename_i hg
 refine⟨_,h,h2,?_⟩
 intro φ args' w ha hr hfull
 cases ha with
 | cons _ y' _ _ hy' ha =>
  cases ha with
  | cons _ p' _ _ hp' ha =>
   cases ha
   obtain⟨b',rfl,hA⟩:=hp'.ptr_inv
   obtain⟨v',g1,g2⟩:=m_load1 hr hA h1
   obtain⟨im,rfl,him⟩:=g2.map_inv
   obtain⟨imb,hb1,hb2,hb3⟩:=hA
   subst hb2
   obtain⟨ents,cl,q1,q2⟩:=hr.map r im [] him hg
   have he:ents = #[]:=by
    obtain⟨l⟩:=ents
    cases l with
    | nil=>rfl
    | cons a l=>exact q2.elim
   subst he
   rw[hE.1]
   have:=hE.2 y' imb.blk im.blk cl w g1 q1
   refine Calls.mono this ?_
   rintro e w' ⟨rfl,o,d,ho,rfl⟩
   have hs:Same (World.more w o) {World.more w o with drawn:=d}:=⟨rfl,rfl,rfl,rfl⟩
   exact⟨_,rfl,φ,.tuple _ _ .nil,(hr.more o).same hs,((Ext.refl φ (hOf h) w).more ho).trans (hs.ext φ (hOf h))⟩
end
end Go.Ab
namespace Go.Ab
set_option linter.unusedVariables false
noncomputable def freshFF (c:List Value):FF:=⟨fun _ args h k=>match args with
 | []=>withNext h fun nx=>k (.pointer (some ⟨nx,0,none⟩)) (pushF h (.cells c none))
 | _ => .fail "fresh"⟩
noncomputable def freshK (c:List Value):KV:=fun v h=>match v with
 | .pointer (some ⟨b,0,none⟩)=>(match T.getR h.t b with
  | some x=>bif' (bsame x (.cells c none)) .yes (.fail "fresh: cells")
  | none => .fail "fresh: block")
 | _ => .fail "fresh: value"
def intV:Value->Bool
 | .int _ _=>true
 | _=>false
theorem intV_move {φ ψ:Phi} {v u:Value} (hv:intV v=true) (hr:VRel φ v u):VRel ψ v u:=by
 cases v with
 | int k n=>rw[hr.int_inv];exact .int _ _
 | _=>simp[intV] at hv
section
variable {P:Program}
theorem fresh_ok {F:T FF} (hF : ∀f ff,F.get f=some ff->FFok P f ff) {n f:Nat} {c:List Value} (hc:allB intV c=true)
  (hy:okR (runF F n f [] emptyH (freshK c))=true):FFok P f (freshFF c):=by
 obtain⟨v,h1,k1,k2⟩:=runF_ok hF n f [] emptyH (freshK c) (okR_yes hy)
 unfold freshK at k1
 split at k1
 case h_2=>simp at k1
 rename_i b
 split at k1
 case h_2=>simp at k1
 rename_i x hx
 obtain⟨k3,_⟩:=bif'_fail k1
 have hxe:=bsame_eq k3
 subst hxe
 have hcell:(hOf h1).blks b=some (.cells c none):=hx
 intro call hcs args h k hy'
 cases args with
 | cons a l=>have:R.fail "fresh" = .yes:=hy';simp at this
 | nil =>
  have hy2:withNext h (fun nx=>k (.pointer (some ⟨nx,0,none⟩)) (pushF h (.cells c none))) = .yes:=hy'
  rw[withNext_eq] at hy2
  refine⟨_,_,hy2,?_⟩
  rw[pushF_eq]
  intro φ args' w ha hr hfull
  cases ha
  have hr0:HRel (fun _=>none) (hOf emptyH) w:=by
   refine⟨by simp,fun i _=>rfl,by simp,by simp,?_⟩
   rintro i j im jm ⟨b,hb,_⟩
   have:(hOf emptyH).blks i=none:=rfl
   rw[this] at hb;simp at hb
  have hfull0:Full (fun _=>none) (hOf emptyH):=by
   rintro i ⟨b,hb,_⟩
   have:(hOf emptyH).blks i=none:=rfl
   rw[this] at hb;simp at hb
  have hdead : ∀i,¬(hOf emptyH).live i:=by
   rintro i ⟨b,hb,_⟩
   have:(hOf emptyH).blks i=none:=rfl
   rw[this] at hb;simp at hb
  have hplain : ∀v∈c,intV v=true:=by rw[allB_iff] at hc;exact hc
  have fin : ∀(v':Value) (w':World) (φ1:Phi),VRel φ1 (.pointer (some ⟨b,0,none⟩)) v'->HRel φ1 (hOf h1) w'->Ext (fun _=>none) (hOf emptyH) w φ1 (hOf h1) w' ->
    ∃φ',VRel φ' (.pointer (some ⟨(hOf h).next,0,none⟩)) v'/\HRel φ' ((hOf h).push (.cells c none)) w'/\Ext φ (hOf h) w φ' ((hOf h).push (.cells c none)) w':=by
   intro v' w' φ1 q1 q2 q3
   obtain⟨b',rfl,im,him,hb',hs⟩:=q1.ptr_inv
   obtain⟨arr,e,r1,r2,r3⟩:=q2.cells b im c none him hcell
   obtain⟨g1,g2⟩:=r3
   have hge:w.heap.size<=im.blk:=by
    rcases q3.new b im ⟨_,hcell,by simp⟩ him with h|⟨j,jm,hj,_⟩
    ·exact h
    ·exact absurd hj (hdead j)
   have hlow : ∀b,b<w.heap.size->w'.heap[b]?=w.heap[b]?:=fun b hb=>q3.frame b hb fun i im hl=>absurd hl (hdead i)
   have hnone:=hr_next_none hr
   refine⟨phiPut φ (hOf h).next im,?_,?_,?_⟩
   ·refine .ptr _ _ ⟨im,phiPut_self _ _ _,hb',?_⟩
    rw[g1];rfl
   ·refine⟨?_,?_,?_,?_,?_⟩
    ·intro i jm hi
     by_cases he:i=(hOf h).next
     ·subst he
      rw[phiPut_self] at hi
      obtain rfl:=Option.some.inj hi
      exact⟨Nat.lt_succ_self _,(q2.dom b im him).2⟩
     ·rw[phiPut_ne _ _ he] at hi
      have:=hr.dom i jm hi
      exact⟨Nat.lt_succ_of_lt this.1,Nat.lt_of_lt_of_le this.2 q3.size⟩
    ·intro i hi
     have hi':(hOf h).next+1<=i:=hi
     rw[Heap.get_push,if_neg (by omega)]
     exact hr.none i (by omega)
    ·intro i jm c' g' hi hg
     rw[Heap.get_push] at hg
     by_cases he:i=(hOf h).next
     ·subst he
      rw[phiPut_self] at hi
      obtain rfl:=Option.some.inj hi
      rw[if_pos rfl] at hg
      simp only[Option.some.injEq,Blk.cells.injEq] at hg
      obtain⟨rfl,rfl⟩:=hg
      refine⟨arr,e,r1,?_,g1,g2⟩
      intro k v hk
      obtain⟨u,hu,hvu⟩:=r2 k v hk
      refine⟨u,hu,?_⟩
      exact intV_move (hplain v (List.mem_of_getElem? hk)) hvu
     ·rw[phiPut_ne _ _ he] at hi
      rw[if_neg he] at hg
      obtain⟨arr',e',s1,s2,s3⟩:=hr.cells i jm c' g' hi hg
      refine⟨arr',e',by rw[hlow _ (hr.dom i jm hi).2];exact s1,?_,s3⟩
      intro k v hk
      obtain⟨u,hu,hvu⟩:=s2 k v hk
      exact⟨u,hu,hvu.mono (hr_put_le hr im)⟩
    ·intro i jm es hi hg
     rw[Heap.get_push] at hg
     by_cases he:i=(hOf h).next
     ·rw[if_pos he] at hg;simp at hg
     ·rw[phiPut_ne _ _ he] at hi
      rw[if_neg he] at hg
      obtain⟨ents,cl,s1,s2⟩:=hr.map i jm es hi hg
      exact⟨ents,cl,by rw[hlow _ (hr.dom i jm hi).2];exact s1,s2.mono (hr_put_le hr im)⟩
    ·intro i j jm km hi hj h1 h2 h3
     by_cases he:i=(hOf h).next
     ·by_cases he2:j=(hOf h).next
      ·rw[he,he2]
      ·exfalso
       subst he
       rw[phiPut_self] at h1
       obtain rfl:=Option.some.inj h1
       rw[phiPut_ne _ _ he2] at h2
       have:=(hr.dom j km h2).2
       omega
     ·rw[phiPut_ne _ _ he] at h1
      by_cases he2:j=(hOf h).next
      ·exfalso
       subst he2
       rw[phiPut_self] at h2
       obtain rfl:=Option.some.inj h2
       have:=(hr.dom i jm h1).2
       omega
      ·rw[phiPut_ne _ _ he2] at h2
       have l1:(hOf h).live i:=by obtain⟨x,hx,hn⟩:=hi;rw[Heap.get_push,if_neg he] at hx;exact⟨x,hx,hn⟩
       have l2:(hOf h).live j:=by obtain⟨x,hx,hn⟩:=hj;rw[Heap.get_push,if_neg he2] at hx;exact⟨x,hx,hn⟩
       exact hr.inj i j jm km l1 l2 h1 h2 h3
   ·refine⟨hr_put_le hr im,fun b hb _=>hlow b hb,?_,q3.size,Nat.le_succ _,q3.os,q3.tape,q3.output,?_,?_,q3.frz⟩
    ·intro i jm hl hi
     by_cases he:i=(hOf h).next
     ·subst he
      rw[phiPut_self] at hi
      obtain rfl:=Option.some.inj hi
      exact .inl hge
     ·rw[phiPut_ne _ _ he] at hi
      obtain⟨x,hx,hn⟩:=hl
      rw[Heap.get_push,if_neg he] at hx
      exact .inr ⟨i,jm,⟨x,hx,hn⟩,hi,rfl⟩
    ·intro i hi
     exact phiPut_ne _ _ (by omega)
    ·intro hf i hl
     by_cases he:i=(hOf h).next
     ·subst he;exact⟨im,phiPut_self _ _ _⟩
     ·obtain⟨x,hx,hn⟩:=hl
      rw[Heap.get_push,if_neg he] at hx
      obtain⟨jm,hj⟩:=hf i ⟨x,hx,hn⟩
      exact⟨jm,by rw[phiPut_ne _ _ he];exact hj⟩
  have hres:=k2 (fun _=>none) [] w .nil hr0 hfull0
  generalize (callFunc f ⟨[]⟩).run P w=r at hres
  cases r with
  | halt x w'=>exact hres.elim
  | ok n w' =>
   cases n<;>simp only[ResOK] at hres<;>(try exact hres.elim)<;>simp only[ResOK]
   ·obtain⟨φ1,q1,q2,q3⟩:=hres;exact fin _ _ φ1 q1 q2 q3
   ·obtain⟨φ1,q1,q2,q3⟩:=hres;exact fin _ _ φ1 q1 q2 q3
   ·refine Calls.mono hres ?_
    rintro e w'' ⟨v',rfl,φ1,q1,q2,q3⟩
    exact⟨v',rfl,fin _ _ φ1 q1 q2 q3⟩
end
end Go.Ab
namespace Go.Ab
set_option linter.unusedVariables false
def numsOf:List Value->Option (List Nat)
 | []=>some []
 | .int .u8 (.ofNat n)::l=>bif Nat.blt n 256 then (match numsOf l with|some r=>some (n::r)|none=>none) else none
 | _=>none
theorem numsOf_get {l:List Value} : ∀{r:List Nat},numsOf l=some r->r.length=l.length/\(∀n,n∈r->n<256) /\ ∀(k:Nat) (v:Value),l[k]?=some v -> ∃n:Nat,r[k]?=some n/\v=Value.int .u8 (.ofNat n):=by
 induction l with
 | nil=>intro r h;simp only[numsOf,Option.some.injEq] at h;subst h;exact⟨rfl,by simp,by simp⟩
 | cons u l ih =>
  intro r h
  unfold numsOf at h
  split at h
  ·rename_i heq;simp at heq
  ·rename_i n l' heq
   simp only[List.cons.injEq] at heq
   obtain⟨rfl,rfl⟩:=heq
   obtain⟨h1,h2⟩:=bif_some h
   split at h2
   ·rename_i r' hr
    simp only[Option.some.injEq] at h2;subst h2
    obtain⟨i1,i2,i3⟩:=ih hr
    refine⟨by simp[i1],?_,?_⟩
    ·intro m hm
     rcases List.mem_cons.1 hm with rfl|hm
     ·exact blt_lt h1
     ·exact i2 m hm
    ·intro k v hk
     cases k with
     | zero=>simp only[List.getElem?_cons_zero,Option.some.injEq] at hk;subst hk;exact⟨n,rfl,rfl⟩
     | succ k=>simpa using i3 k v (by simpa using hk)
   ·simp at h2
  ·simp at h
def eqN:List Nat->List Nat->Bool
 | [],[]=>true
 | a::l,b::m=>bif Nat.beq a b then eqN l m else false
 | _,_=>false
theorem eqN_iff : ∀(l m:List Nat),eqN l m=true↔l=m
 | [],[]=>by simp[eqN]
 | [],_::_=>by simp[eqN]
 | _::_,[]=>by simp[eqN]
 | a::l,b::m=>by
  simp only[eqN,List.cons.injEq]
  cases h:Nat.beq a b with
  | true=>simp only[cond_true,eqN_iff l m,beq_eq' h,true_and]
  | false=>simp only[cond_false,Bool.false_eq_true,beq_ne' h,false_and]
theorem bytes_inj : ∀(l m:List Nat),(∀n,n∈l->n<256)->(∀n,n∈m->n<256)->(Lib.bytesOf (l.map Int.ofNat)=Lib.bytesOf (m.map Int.ofNat)↔l=m)
 | [],[],_,_=>by simp
 | [],_::_,_,_=>by simp[Lib.bytesOf]
 | _::_,[],_,_=>by simp[Lib.bytesOf]
 | a::l,b::m,h1,h2=>by
  have ih:=bytes_inj l m (fun n hn=>h1 n (by simp[hn])) (fun n hn=>h2 n (by simp[hn]))
  simp only[Lib.bytesOf,List.map_cons,List.cons.injEq] at ih ⊢
  rw[ih]
  refine and_congr_left fun _=>?_
  have ha:=h1 a (by simp)
  have hb:=h2 b (by simp)
  constructor
  ·intro h
   have:=congrArg UInt8.toNat h
   simp only[UInt8.toNat_ofNat',Int.ofNat_eq_natCast,Int.toNat_natCast] at this
   omega
  ·rintro rfl;rfl
theorem eqN_bytes {l m:List Nat} (h1 : ∀n,n∈l->n<256) (h2 : ∀n,n∈m->n<256):(Lib.bytesOf (l.map Int.ofNat)==Lib.bytesOf (m.map Int.ofNat))=eqN l m:=by
 rw[Bool.eq_iff_iff,beq_iff_eq,bytes_inj l m h1 h2,eqN_iff]
structure EqBytes (P:Program) (f:Nat) (src e dst:TypeId):Prop where
 enter : ∀args w,(callFunc f args).run P w = .ok (.enter f args) w
 ts:P.underlying src=some (.slice e)
 te:P.underlying e=some (.int .u8)
 td:P.underlying dst=some .string
 walk : ∀(v1 v2:Value) (xs ys:List Int) (w:World),(convert src dst v1).run P w = .ok (.string (strOfNums xs)) w->(convert src dst v2).run P w = .ok (.string (strOfNums ys)) w ->
  Calls P f #[v1,v2] w fun e w'=>e = .returned (.bool (Lib.bytesOf xs==Lib.bytesOf ys))/\w'=w
def isSl:Value->Bool
 | .slice .. =>true
 | .chan (some 0)=>true
 | _=>false
noncomputable def eqFF:FF:=⟨fun _ args h k=>match args with
 | [x,y]=>bif' (isSl x&&isSl y) (lenVF x fun n=>firstK h 1 n x fun l=>lenVF y fun m=>firstK h 1 m y fun r=>match numsOf l,numsOf r with
  | some a,some b=>k (.bool (eqN a b)) h
  | _,_ => .fail "equal: bytes") (.fail "equal: slices")
 | _ => .fail "equal: arguments"⟩
section
variable {P:Program} {φ:Phi} {h:Heap} {w:World}
theorem convert_zero {src e dst:TypeId} (hs:P.underlying src=some (.slice e)) (he:P.underlying e=some (.int .u8)) (hd:P.underlying dst=some .string) (p:Option Addr) (c:Nat) :
  (convert src dst (.slice p 0 c)).run P w = .ok (.string (strOfNums [])) w:=by
 rw[run_convert_bytes_string w src dst e _ 0 c hs he hd]
 cases p<;>simp[Conv.bytesToString,loadCells]
 all_goals rfl
theorem convert_rel {f:Nat} {src e dst:TypeId} (E:EqBytes P f src e dst) (hr:HRel φ h w) {x x':Value} (hx:VRel φ x x') (hsl:isSl x=true) {n:Nat} (hn:lenV x=some n) {l:List Value} (hl:firstV h 1 n x=some l)
  {a:List Nat} (ha:numsOf l=some a):(convert src dst x').run P w = .ok (.string (strOfNums (a.map Int.ofNat))) w:=by
 obtain⟨a1,a2,a3⟩:=numsOf_get ha
 unfold isSl at hsl
 split at hsl
 ·rename_i p len cap
  simp only[lenV,Option.some.injEq] at hn;subst hn
  cases p with
  | none =>
   simp only[firstV] at hl
   obtain⟨h1,h2⟩:=bif_some hl
   have h0:=beq_eq' h1
   simp only[Option.some.injEq] at h2;subst h2
   rw[hx.sliceNil_inv,h0]
   have:a = []:=by simpa using a1
   rw[this]
   exact convert_zero E.ts E.te E.td none cap
  | some p =>
   simp only[firstV,Nat.mul_one] at hl
   obtain⟨im,c',rfl,g1,g2,_,_⟩:=hx.slice_inv
   unfold Heap.loadN at hl
   split at hl
   case h_2=>simp at hl
   rename_i c g hg
   obtain⟨im2,arr,et,q1,q2,k2,k3,_⟩:=ARel.cell hr (a:=p) (a':=⟨im.blk,p.off,none⟩) ⟨im,g1,rfl,g2⟩ hg
   rw[dropN_eq] at hl
   obtain⟨t1,t2⟩:=takeN_some hl
   have hlen:l.length=len:=by rw[t1];simp at t2 ⊢;omega
   obtain rfl:im2=im:=by rw[g1] at q1;exact(Option.some.inj q1).symm
   refine run_convert_bytes_arg w src e E.ts E.te im2.blk p.off len c' (a.map Int.ofNat) (by simp[a1,hlen]) ?_ dst E.td
   intro i hi
   have hli:l[i]?=c[p.off+i]?:=by rw[t1,List.getElem?_take,if_pos hi,List.getElem?_drop]
   have hil:i<l.length:=by omega
   obtain⟨nn,r1,r2⟩:=a3 i (l[i]) (List.getElem?_eq_getElem hil)
   obtain⟨v',s1,s2⟩:=k3 (p.off+i) (l[i]) (by rw[<- hli];exact List.getElem?_eq_getElem hil)
   rw[cell_of k2,s1]
   rw[r2] at s2
   rw[s2.int_inv]
   have:(a.map Int.ofNat).getD i 0=Int.ofNat nn:=by simp[List.getD_eq_getElem?_getD,List.getElem?_map,r1]
   rw[this]
 ·simp only[lenV,Option.some.injEq] at hn;subst hn
  simp only[firstV] at hl
  obtain⟨h1,h2⟩:=bif_some hl
  simp only[Option.some.injEq] at h2;subst h2
  obtain⟨b,c,rfl⟩:=hx.poison_inv
  have:a = []:=by simpa using a1
  rw[this]
  exact convert_zero E.ts E.te E.td b c
 ·simp at hsl
theorem eqFF_ok {f:Nat} {src e dst:TypeId} (E:EqBytes P f src e dst):FFok P f eqFF:=by
 intro call hcs args h k hy
 unfold eqFF at hy
 simp only at hy
 split at hy
 case h_2=>simp at hy
 rename_i x y
 obtain⟨h1,h2⟩:=bif'_fail hy
 simp only[Bool.and_eq_true] at h1
 obtain⟨n,n1,n2⟩:=lenVF_yes h2
 obtain⟨l,l1,l2⟩:=firstK_yes n2
 obtain⟨m,m1,m2⟩:=lenVF_yes l2
 obtain⟨r,r1,r2⟩:=firstK_yes m2
 split at r2
 case h_2=>simp at r2
 rename_i a b ha hb
 refine⟨_,h,r2,?_⟩
 intro φ args' w hargs hr hfull
 cases hargs with
 | cons _ x' _ _ hx hargs =>
  cases hargs with
  | cons _ y' _ _ hy' hargs =>
   cases hargs
   rw[E.enter]
   refine Calls.mono (E.walk x' y' _ _ w (convert_rel E hr hx h1.1 n1 l1 ha) (convert_rel E hr hy' h1.2 m1 r1 hb)) ?_
   rintro e w' ⟨rfl,rfl⟩
   refine⟨_,rfl,φ,?_,hr,.refl _ _ _⟩
   rw[eqN_bytes (numsOf_get ha).2.1 (numsOf_get hb).2.1]
   exact .bool _
end
end Go.Ab
