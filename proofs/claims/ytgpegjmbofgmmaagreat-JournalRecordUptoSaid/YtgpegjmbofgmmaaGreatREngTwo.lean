/- A part of the proof. No condition. -/
import Derived.Test.YtgpegjmbofgmmaaGreatREngOne
import Derived.Orders
import Derived.Laws.Sem
import Derived.Laws.Externs
namespace Go.Ab
section
variable {P:Program} {φ:Phi} {h:Heap} {w:World}
theorem HRel.setMap (hr:HRel φ h w) {i:Nat} {im:Img} {es es2:List (Value×Value)} {ents ents2:Array MapEntry} {cl cl2:Nat} (hi:h.blks i=some (.map es)) (him:φ i=some im)
  (hb:w.heap[im.blk]?=some (.map ents cl)) (hm:MRel φ es2 ents2.toList) :
  HRel φ (h.setB i (.map es2)) {w with heap:=w.heap.setIfInBounds im.blk (.map ents2 cl2)}/\Ext φ h w φ (h.setB i (.map es2)) {w with heap:=w.heap.setIfInBounds im.blk (.map ents2 cl2)}:=by
 have live : ∀j,(h.setB i (.map es2)).live j↔h.live j:=by
  intro j
  unfold Heap.live
  constructor
  ·rintro⟨b,hj,hne⟩
   rw[Heap.get_setB] at hj
   split at hj
   ·rename_i hji;subst hji;exact⟨_,hi,by simp⟩
   ·exact⟨b,hj,hne⟩
  ·rintro⟨b,hj,hne⟩
   by_cases hji:j=i
   ·subst hji;exact⟨.map es2,by rw[Heap.get_setB,if_pos rfl],by simp⟩
   ·exact⟨b,by rw[Heap.get_setB,if_neg hji];exact hj,hne⟩
 have hlive:h.live i:=⟨_,hi,by simp⟩
 have other : ∀j jm,h.live j->φ j=some jm->j≠i->im.blk≠jm.blk:=fun j jm hj hjm hne he=>hne (hr.inj j i jm im hj hlive hjm him he.symm)
 have hlt:im.blk<w.heap.size:=(Array.getElem?_eq_some_iff.1 hb).1
 constructor
 ·refine⟨?_,?_,?_,?_,?_⟩
  ·intro j jm hj;simp only[Array.size_setIfInBounds];exact hr.dom j jm hj
  ·intro j hj
   rw[Heap.get_setB]
   split
   ·rename_i hji;subst hji
    have:=hr.none j hj
    rw[hi] at this;simp at this
   ·exact hr.none j hj
  ·intro j jm c' g' k1 hj
   rw[Heap.get_setB] at hj
   split at hj
   ·simp at hj
   ·rename_i hji
    obtain⟨arr',e',k2,k3,k4⟩:=hr.cells j jm c' g' k1 hj
    exact⟨arr',e',by simp only[Array.getElem?_setIfInBounds_ne (other j jm ⟨_,hj,by simp⟩ k1 hji)];exact k2,k3,k4⟩
  ·intro j jm es k1 hj
   rw[Heap.get_setB] at hj
   split at hj
   ·rename_i hji;subst hji
    rw[him] at k1;obtain rfl:=Option.some.inj k1
    simp only[Option.some.injEq,Blk.map.injEq] at hj
    subst hj
    exact⟨ents2,cl2,by simp[hlt],hm⟩
   ·rename_i hji
    obtain⟨ents,cl,k2,k3⟩:=hr.map j jm es k1 hj
    exact⟨ents,cl,by simp only[Array.getElem?_setIfInBounds_ne (other j jm ⟨_,hj,by simp⟩ k1 hji)];exact k2,k3⟩
  ·intro j k jm km hj hk h1 h2 h3
   exact hr.inj j k jm km ((live j).1 hj) ((live k).1 hk) h1 h2 h3
 ·refine⟨fun _ _ h=>h,?_,?_,by simp,Nat.le_refl _,rfl,rfl,rfl,fun _ _=>rfl,fun hf j hj=>hf j ((live j).1 hj),fun a=>by
   unfold World.frozen?
   by_cases he:im.blk=a.block
   ·rw[<- he,hb];simp[hlt]
   ·simp only[Array.getElem?_setIfInBounds_ne he]⟩
  ·intro b _ hn
   exact Array.getElem?_setIfInBounds_ne (hn i im hlive him)
  ·intro j jm hj hjm
   exact .inr ⟨j,jm,(live j).1 hj,hjm,rfl⟩
theorem VRel.mapNil_inv {v:Value} (hv:VRel φ (.map none) v):v = .map none:=by cases hv;rfl
theorem VRel.map_inv {r:Nat} {v:Value} (hv:VRel φ (.map (some r)) v) : ∃im:Img,v = .map (some im.blk)/\φ r=some im:=by cases hv;exact⟨_,rfl,by assumption⟩
theorem MRel.length {φ:Phi} : ∀{es:List (Value×Value)} {ents:List MapEntry},MRel φ es ents->es.length=ents.length
 | [],[],_=>rfl
 | (_,_)::_,_::_,⟨_,_,h3⟩=>by simp[MRel.length h3]
 | [],_::_,h=>h.elim
 | _::_,[],h=>h.elim
theorem sameKey {d:TypeDesc} {k j j':Value} {b:Bool} (hd:fitsD d k=true) (hs:scEq k j=some b) (hj:VRel φ j j'):Instr.sameNow d k j'=some b/\(b=true->Instr.sameBits 10000 j' k=true):=by
 unfold scEq at hs
 split at hs
 ·simp only[Option.some.injEq] at hs;subst hs
  rw[hj.bool_inv]
  refine⟨by cases d<;>first|rfl|simp[fitsD] at hd,?_⟩
  intro h;simp only[beq_iff_eq] at h;subst h;simp[Instr.sameBits]
 ·obtain⟨hsk,hs2⟩:=bif_some hs
  obtain rfl:=sameKind_eq hsk
  simp only[Option.some.injEq] at hs2;subst hs2
  rw[hj.int_inv,ieq_eq]
  refine⟨by cases d<;>first|(simp[Instr.sameNow];done)|simp[fitsD] at hd,?_⟩
  intro h;simp only[beq_iff_eq] at h;subst h;simp[Instr.sameBits]
 ·simp only[Option.some.injEq] at hs;subst hs
  rw[hj.string_inv,beqBytes_eq,<-beq_toListBytes]
  refine⟨by cases d<;>first|rfl|simp[fitsD] at hd,?_⟩
  intro h;rw[beq_toListBytes] at h;simp only[beq_iff_eq] at h
  rw[ByteArray.toList_eq,ByteArray.toList_eq] at h
  rename_i x y
  obtain⟨⟨x⟩⟩:=x;obtain⟨⟨y⟩⟩:=y
  obtain rfl:x=y:=h
  show((⟨⟨x⟩⟩:ByteArray)==⟨⟨x⟩⟩)=true
  rw[beq_toListBytes];simp
 ·simp at hs
theorem m_put {d:TypeDesc} {k v v':Value} (hd:fitsD d k=true) (hkk:VRel φ k k) (hv:VRel φ v v') : ∀{es es':List (Value×Value)} {ents:List MapEntry} (i:Nat),keyPut k v es=some es'->MRel φ es ents ->
  (Instr.findNow d k ents i=some none /\ ∀b,MRel φ es' (ents ++ [{key:=k,val:=v',born:=b}])) \/
  (∃p e x,Instr.findNow d k ents i=some (some (i+p,x))/\ents[p]?=some e/\Instr.sameBits 10000 e.key k=true/\MRel φ es' (ents.modify p fun e => {e with key:=k,val:=v'}))
 | [],es',[],i,hp,_=>by
  simp only[keyPut,Option.some.injEq] at hp;subst hp
  exact .inl ⟨rfl,fun b=>⟨hkk,hv,trivial⟩⟩
 | [],_,_::_,_,_,hm=>hm.elim
 | _::_,_,[],_,_,hm=>hm.elim
 | (j,x)::es,es',e::ents,i,hp,⟨h1,h2,h3⟩=>by
  simp only[keyPut] at hp
  cases hs:scEq k j with
  | none=>rw[hs] at hp;simp at hp
  | some b =>
   rw[hs] at hp
   obtain⟨n1,n2⟩:=sameKey hd hs h1
   cases b with
   | true =>
    simp only[Option.some.injEq] at hp;subst hp
    exact .inr ⟨0,e,e.val,by simp only[Instr.findNow,n1];rfl,rfl,n2 rfl,hkk,hv,h3⟩
   | false =>
    simp only at hp
    cases hq:keyPut k v es with
    | none=>rw[hq] at hp;simp at hp
    | some r =>
     rw[hq] at hp
     simp only[Option.some.injEq] at hp;subst hp
     rcases m_put hd hkk hv (i+1) hq h3 with ⟨a1,a2⟩|⟨p,e',x',a1,a2,a3,a4⟩
     ·exact .inl ⟨by simp only[Instr.findNow,n1];exact a1,fun b=>⟨h1,h2,a2 b⟩⟩
     ·refine .inr ⟨p+1,e',x',by simp only[Instr.findNow,n1];rw[a1];congr 3;omega,a2,a3,?_⟩
      exact⟨h1,h2,a4⟩
variable {tt:T TI} (hT:TOk P tt) {t:Fm} {a:Act} (ht:TRel φ t a) (hr:HRel φ h w)
include hr in
theorem mem_makeMap (ti:TypeId) (r:Option Operand) {dst ty ps af gd} {io:IOp} {v:Value} {h':Heap} (hc:compOp tt ⟨dst,.makeMap ti r,ty,ps,af,gd⟩=some io) (hv:memV t h io=some (v,h')) :
  MemGoal P φ h w a ⟨dst,.makeMap ti r,ty,ps,af,gd⟩ v h':=by
 cases r with
 | some r=>simp[compOp] at hc
 | none =>
  simp only[compOp,Option.some.injEq] at hc;subst hc
  simp only[memV,Option.some.injEq,Prod.mk.injEq] at hv
  obtain⟨rfl,rfl⟩:=hv
  obtain⟨g1,g2,g3⟩:=m_push hr (b := .map []) (o := .map #[] 0) (w' := {w with heap:=w.heap.push (.map #[] 0)}) (im:=⟨w.heap.size,none⟩) rfl rfl rfl rfl rfl (by simp) (fun es he=>by
   simp only[Blk.map.injEq] at he;subst he;exact⟨#[],0,rfl,trivial⟩)
  refine .of_val (v' := .map (some w.heap.size)) (show _=valS (Instr.makeMap ti none) from rfl) ?_ (.map _ _ _ g3) g1 g2
  rfl
include hT ht hr in
theorem mem_insert_gen (ti:TypeId) (m k x:Operand) {v:Value} {h':Heap} {i:TI} {kt et:TypeId} {j:TI} (hok:okO m=true) (hokk:okO k=true) (hokx:okO x=true)
  (hi:tt.get ti=some i) (hd:i.desc = .map kt et) (hj:tt.get kt=some j) (hv:memV t h (.insert j.desc m k x)=some (v,h')) :
  v=undef /\ ∃w',(Instr.mapUpdate ti (a.eval m) (a.eval k) (a.eval x)).run P w = .ok () w'/\HRel φ h' w'/\Ext φ h w φ h' w':=by
 have hu:=hT.desc _ _ hi
 rw[hd] at hu
 have huk:=hT.desc _ _ hj
 have e1:=evalO_rel ht hok
 have e2:=evalO_rel ht hokk
 have e3:=evalO_rel ht hokx
 simp only[memV] at hv
 split at hv
 case h_2=>simp at hv
 rename_i r hm
 rw[hm] at e1
 split at hv
 case h_2=>simp at hv
 rename_i es hg
 obtain⟨hfit,hv⟩:=bif_some hv
 split at hv
 case h_2=>simp at hv
 rename_i es' hput
 simp only[Option.some.injEq,Prod.mk.injEq] at hv
 obtain⟨rfl,rfl⟩:=hv
 refine⟨rfl,?_⟩
 have hkk:=fits_same hfit e2
 rw[hkk] at e2
 obtain⟨im,q1,q2⟩:=e1.map_inv
 obtain⟨ents,cl,p2,p3⟩:=hr.map _ _ _ q2 hg
 rw[q1]
 have hck:=run_checkKey (P:=P) (w:=w) huk hfit false _ rfl
 rcases m_put hfit e2 e3 0 hput p3 with ⟨a1,a2⟩|⟨p,e',x',a1,a2,a3,a4⟩
 ·obtain⟨b1,b2⟩:=HRel.setMap hr (ents2:=ents.push {key:=evalO t k,val:=a.eval x,born:=cl}) (cl2:=cl+1) hg q2 p2 (by rw[Array.toList_push];exact a2 cl)
  refine⟨_,?_,b1,b2⟩
  have hfk:=run_findKey (w:=w) huk a1
  simp only[Instr.mapUpdate,Sem.run_bind,run_underlying hu,Result.andThen_ok,run_getObj_map p2,hck,hkk,hfk]
  exact run_setObj_map _ p2
 ·obtain⟨b1,b2⟩:=HRel.setMap hr (ents2:=ents.modify p fun e => {e with key:=evalO t k,val:=a.eval x}) (cl2:=cl) hg q2 p2 (by rw[Array.toList_modify];exact a4)
  refine⟨_,?_,b1,b2⟩
  rw[Nat.zero_add] at a1
  have hfk:=run_findKey (w:=w) huk a1
  have hget:ents[p]?=some e':=by rw[<- Array.getElem?_toList];exact a2
  simp only[Instr.mapUpdate,Sem.run_bind,run_underlying hu,Result.andThen_ok,run_getObj_map p2,hck,hkk,hfk,hget,Option.map_some,Option.getD_some,Instr.keyThatStays,a3,if_true,Sem.run_pure]
  exact run_setObj_map _ p2
include hT ht hr in
theorem mem_lookup_gen (ti:TypeId) (m k:Operand) (ok:Bool) {z:Value} {v:Value} {h':Heap} {i:TI} {kt et:TypeId} {j q:TI} (hokm:okO m=true) (hokk:okO k=true)
  (hi:tt.get ti=some i) (hd:i.desc = .map kt et) (hj:tt.get kt=some j) (hq:tt.get et=some q) (hz:q.zero=some z) (hv:memV t h (.lookup j.desc m k z ok)=some (v,h')) :
  h'=h /\ ∃v',(Instr.lookup ti (a.eval m) (a.eval k) ok).run P w = .ok v' w/\VRel φ v v':=by
 have hu:=hT.desc _ _ hi
 rw[hd] at hu
 have huk:=hT.desc _ _ hj
 obtain⟨inf,hinf,_,_,hi3,_⟩:=hT.info _ _ hq
 have hzz:=(hi3 z hz)
 have hzr:VRel φ z z:=plainV_rel 8 z hzz.2
 have e1:=evalO_rel ht hokm
 have e2:=evalO_rel ht hokk
 simp only[memV] at hv
 split at hv
 ·rename_i hm
  rw[hm] at e1
  obtain⟨hfit,hv⟩:=bif_some hv
  simp only[Option.some.injEq,Prod.mk.injEq] at hv
  obtain⟨rfl,rfl⟩:=hv
  refine⟨rfl,?_⟩
  have hkk:=fits_same hfit e2
  rw[e1.mapNil_inv,hkk]
  have hck:=run_checkKey (P:=P) (w:=w) huk hfit true _ rfl
  have hfk:=run_findKey (P:=P) (w:=w) (k:=evalO t k) (es := []) (q:=none) huk rfl
  have hrun:(Instr.lookup ti (.map none) (evalO t k) ok).run P w = .ok (if ok then .tuple #[z,.bool false] else z) w:=by
   simp only[Instr.lookup,Sem.run_bind,run_underlying hu,Result.andThen_ok,Sem.run_pure,show(#[]:Array MapEntry).isEmpty=true from rfl,hck,hfk,run_zeroValue' w hinf hzz.1]
  refine⟨_,hrun,?_⟩
  cases ok
  ·exact hzr
  ·exact .tuple _ _ (.cons _ _ _ _ hzr (.cons _ _ _ _ (.bool _) .nil))
 ·rename_i r hm
  rw[hm] at e1
  split at hv
  case h_2=>simp at hv
  rename_i es hg
  obtain⟨hfit,hv⟩:=bif_some hv
  have hkk:=fits_same hfit e2
  obtain⟨im,q1,q2⟩:=e1.map_inv
  obtain⟨ents,cl,p2,p3⟩:=hr.map _ _ _ q2 hg
  rw[q1,hkk]
  have hck:=fun b=>run_checkKey (P:=P) (w:=w) huk hfit b _ rfl
  split at hv
  ·rename_i x hf
   simp only[Option.some.injEq,Prod.mk.injEq] at hv
   obtain⟨rfl,rfl⟩:=hv
   obtain⟨_,f1,jj,x',rfl,f2⟩:=m_find huk hfit 0 hf p3
   have hfk:=run_findKey (P:=P) (w:=w) huk f1
   refine⟨rfl,if ok then .tuple #[x',.bool true] else x',?_,?_⟩
   ·simp only[Instr.lookup,Sem.run_bind,run_underlying hu,Result.andThen_ok,run_getObj_map p2,Sem.run_pure,hck,hfk]
   ·cases ok
    ·exact f2
    ·exact .tuple _ _ (.cons _ _ _ _ f2 (.cons _ _ _ _ (.bool _) .nil))
  ·rename_i hf
   simp only[Option.some.injEq,Prod.mk.injEq] at hv
   obtain⟨rfl,rfl⟩:=hv
   obtain⟨_,f1,rfl⟩:=m_find huk hfit 0 hf p3
   have hfk:=run_findKey (P:=P) (w:=w) huk f1
   refine⟨rfl,if ok then .tuple #[z,.bool false] else z,?_,?_⟩
   ·simp only[Instr.lookup,Sem.run_bind,run_underlying hu,Result.andThen_ok,run_getObj_map p2,Sem.run_pure,hck,hfk,run_zeroValue' w hinf hzz.1]
   ·cases ok
    ·exact hzr
    ·exact .tuple _ _ (.cons _ _ _ _ hzr (.cons _ _ _ _ (.bool _) .nil))
  ·simp at hv
 ·simp at hv
include hT ht hr in
theorem mem_lenm (x:Operand) {i:TI} {t1 kt et:TypeId} {dst ty ps af gd} {v:Value} {h':Heap} (hox:okO x=true) (hi:tt.get t1=some i) (hd:i.desc = .map kt et)
  (hv:memV t h (.lenm x)=some (v,h')):MemGoal P φ h w a ⟨dst,.call ⟨.builtin .len,⟨[x]⟩,⟨[t1]⟩⟩,ty,ps,af,gd⟩ v h':=by
 have hu:=hT.desc _ _ hi
 rw[hd] at hu
 have e1:=evalO_rel ht hox
 obtain⟨consts,hex⟩:=exec_builtin (a:=a) (b := .len) (args := [x]) (ats := [t1]) (dst:=dst) (ty:=ty) (ps:=ps) (af:=af) (gd:=gd)
 have hexs:execOp a.eval ⟨dst,.call ⟨.builtin .len,⟨[x]⟩,⟨[t1]⟩⟩,ty,ps,af,gd⟩=valS (Builtin.len_ #[t1] ty #[a.eval x]):=hex
 simp only[memV] at hv
 split at hv
 ·rename_i hm
  rw[hm] at e1
  simp only[Option.some.injEq,Prod.mk.injEq] at hv
  obtain⟨rfl,rfl⟩:=hv
  refine .of_val (v' := .int .i64 (.ofNat 0)) hexs ?_ (.int _ _) hr (.refl _ _ _)
  rw[e1.mapNil_inv]
  simp only[Builtin.len_,List.getElem?_toArray,List.getElem?_cons_zero,Sem.run_bind,run_underlying hu,Result.andThen_ok,Sem.run_pure]
  rfl
 ·rename_i r hm
  rw[hm] at e1
  split at hv
  case h_2=>simp at hv
  rename_i es hg
  simp only[Option.some.injEq,Prod.mk.injEq] at hv
  obtain⟨rfl,rfl⟩:=hv
  obtain⟨im,q1,q2⟩:=e1.map_inv
  obtain⟨ents,cl,p2,p3⟩:=hr.map _ _ _ q2 hg
  refine .of_val (v' := .int .i64 (.ofNat es.length)) hexs ?_ (.int _ _) hr (.refl _ _ _)
  rw[q1]
  have hl:ents.size=es.length:=by rw[MRel.length p3];simp
  simp only[Builtin.len_,List.getElem?_toArray,List.getElem?_cons_zero,Sem.run_bind,run_underlying hu,Result.andThen_ok,run_getObj_map p2,Sem.run_pure,hl]
  rfl
 ·simp at hv
end
end Go.Ab
namespace Go.Ab
section
variable {P:Program} {tt:T TI} (hT:TOk P tt) {φ:Phi} {t:Fm} {a:Act} (ht:TRel φ t a) {h:Heap} {w:World} (hr:HRel φ h w)
include hT ht hr in
theorem mem_sound (o:Oper) {io:IOp} {v:Value} {h':Heap} (hok : ∀x∈o.op.operands,okO x=true) (hc:compOp tt o=some io) (hm:isMem io=true) (hv:memV t h io=some (v,h')):MemGoal P φ h w a o v h':=by
 obtain⟨dst,op,ty,ps,af,gd⟩:=o
 cases op
 case load ti x=>exact mem_load hT ht hr x ti (hok x (by simp[Op.operands])) hc hv
 case alloc e=>exact mem_alloc hT hr e hc hv
 case box e x=>exact mem_box ht hr e x (hok x (by simp[Op.operands])) hc hv
 case buildSlice ti len parts=>exact mem_buildSl hT ht hr ti len parts hok hc hv
 case makeSlice ti l c=>exact mem_makeSl hT ht hr ti l c (hok l (by simp[Op.operands])) (hok c (by simp[Op.operands])) hc hv
 case store ti x y=>exact mem_store hT ht hr ti x y (hok x (by simp[Op.operands])) (hok y (by simp[Op.operands])) hc hv
 case makeMap ti r=>exact mem_makeMap hr ti r hc hv
 case insert ti m k x =>
  simp only[compOp] at hc
  split at hc
  case h_2=>simp at hc
  rename_i i hi
  split at hc
  case h_2=>simp at hc
  rename_i kt et hd
  split at hc
  case h_2=>simp at hc
  rename_i j hj
  cases hs:scalarD j.desc<;>rw[hs] at hc<;>simp only[cond_true,cond_false,Option.some.injEq,reduceCtorEq] at hc
  subst hc
  obtain⟨rfl,w',q1,q2,q3⟩:=mem_insert_gen hT ht hr ti m k x (hok m (by simp[Op.operands])) (hok k (by simp[Op.operands])) (hok x (by simp[Op.operands])) hi hd hj hv
  exact .of_unit (show _=(do Instr.mapUpdate ti (a.eval m) (a.eval k) (a.eval x);pure Next.skip:Sem Next) from rfl) q1 q2 q3
 case mapUpdate ti m k x =>
  simp only[compOp] at hc
  split at hc
  case h_2=>simp at hc
  rename_i i hi
  split at hc
  case h_2=>simp at hc
  rename_i kt et hd
  split at hc
  case h_2=>simp at hc
  rename_i j hj
  cases hs:scalarD j.desc<;>rw[hs] at hc<;>simp only[cond_true,cond_false,Option.some.injEq,reduceCtorEq] at hc
  subst hc
  obtain⟨rfl,w',q1,q2,q3⟩:=mem_insert_gen hT ht hr ti m k x (hok m (by simp[Op.operands])) (hok k (by simp[Op.operands])) (hok x (by simp[Op.operands])) hi hd hj hv
  exact .of_unit (show _=(do Instr.mapUpdate ti (a.eval m) (a.eval k) (a.eval x);pure Next.skip:Sem Next) from rfl) q1 q2 q3
 case lookup ti m k ok =>
  simp only[compOp] at hc
  split at hc
  case h_2=>simp at hc
  rename_i i hi
  split at hc
  case h_2=>simp at hc
  rename_i kt et hd
  split at hc
  case h_2=>simp at hc
  rename_i j q hj hq
  split at hc
  case h_2=>simp at hc
  rename_i z hz
  obtain⟨_,hc⟩:=bif_some hc
  simp only[Option.some.injEq] at hc
  subst hc
  obtain⟨rfl,v',q1,q2⟩:=mem_lookup_gen hT ht hr ti m k ok (hok m (by simp[Op.operands])) (hok k (by simp[Op.operands])) hi hd hj hq hz hv
  exact .of_val (show _=valS (Instr.lookup ti (a.eval m) (a.eval k) ok) from rfl) q1 q2 hr (.refl _ _ _)
 case call c =>
  obtain⟨cal,⟨args⟩,⟨ats⟩⟩:=c
  cases cal with
  | value x=>cases x<;>simp only[compOp,Option.some.injEq] at hc<;>subst hc<;>simp[isMem] at hm
  | invoke x n=>simp only[compOp,Option.some.injEq] at hc;subst hc;simp[isMem] at hm
  | builtin b =>
   have hall : ∀x∈args,okO x=true:=fun x hx=>hok x (by simp[Op.operands,Call.operands,hx])
   simp only[compOp] at hc
   cases b<;>first|(simp only[compBuiltin,reduceCtorEq] at hc;done)|skip
   case append =>
    match args,ats,hc with
    | [x,y],[t1,t2],hc=>exact mem_append hT ht hr x y t1 t2 (hall x (by simp)) (hall y (by simp)) hc hv
   case clear =>
    match args,ats,hc with
    | [x],[t1],hc=>exact mem_clear hT ht hr x t1 (hall x (by simp)) hc hv
   case copy =>
    match args,ats,hc with
    | [x,y],[t1,t2],hc=>exact mem_copy hT ht hr x y t1 t2 (hall x (by simp)) (hall y (by simp)) hc hv
   case len =>
    match args,ats,hc with
    | [x],[t1],hc =>
     simp only[compBuiltin] at hc
     split at hc
     case h_2=>simp at hc
     rename_i i hi
     split at hc
     case h_3 kt et hd =>
      simp only[Option.some.injEq] at hc;subst hc
      exact mem_lenm hT ht hr x (hall x (by simp)) hi hd hv
     all_goals first
      | (simp only[Option.some.injEq,reduceCtorEq] at hc;subst hc;simp[isMem] at hm;done)
      | (simp at hc;done)
      | skip
     split at hc
     case h_2=>simp at hc
     split at hc<;>simp only[Option.some.injEq,reduceCtorEq] at hc
     subst hc;simp[isMem] at hm
   case cap =>
    match args,ats,hc with
    | [x],[t1],hc =>
     simp only[compBuiltin] at hc
     split at hc
     case h_2=>simp at hc
     split at hc<;>simp only[Option.some.injEq,reduceCtorEq] at hc
     subst hc;simp[isMem] at hm
   case min =>
    match args,hc with
    | x::r,hc=>simp only[compBuiltin,Option.some.injEq] at hc;subst hc;simp[isMem] at hm
   case max =>
    match args,hc with
    | x::r,hc=>simp only[compBuiltin,Option.some.injEq] at hc;subst hc;simp[isMem] at hm
 case binOp op xt x y yt =>
  simp only[compOp] at hc
  split at hc
  case h_2=>simp at hc
  simp only[Option.some.injEq] at hc;subst hc
  simp only[compBin] at hm
  split at hm<;>simp[isMem] at hm
 all_goals
  simp only[compOp,reduceCtorEq] at hc
  repeat' (first|(simp only[Option.some.injEq,reduceCtorEq] at hc;subst hc;simp[isMem] at hm;done)|(simp at hc;done)|split at hc|(rw[Bool.cond_eq_ite] at hc;split at hc))
end
end Go.Ab
namespace Go.Ab
section
variable {P:Program}
def ResOK (P:Program) (φ:Phi) (h:Heap) (w:World) (v:Value) (h':Heap):Result Next->Prop
 | .ok (.value v') w' => ∃φ',VRel φ' v v'/\HRel φ' h' w'/\Ext φ h w φ' h' w'
 | .ok .skip w' => ∃φ',VRel φ' v undef/\HRel φ' h' w'/\Ext φ h w φ' h' w'
 | .ok (.enter f args) w'=>Calls P f args w' fun e w'' => ∃v',e = .returned v' /\ ∃φ',VRel φ' v v'/\HRel φ' h' w''/\Ext φ h w φ' h' w''
 | _=>False
theorem ResOK.wp {φ:Phi} {h h':Heap} {w:World} {v:Value} {o:Oper} {a:Act} {next:Act->World->Prop} {Q:Exit->Act->World->Prop}
  (hres:ResOK P φ h w v h' ((execOp a.eval o).run P w))
  (hn : ∀φ' v' w',VRel φ' v v'->HRel φ' h' w'->Ext φ h w φ' h' w'->next (a.put o.dst v') w'):o.wp P a w next Q:=by
 unfold Oper.wp
 generalize (execOp a.eval o).run P w=r at hres
 cases r with
 | halt x w'=>exact hres.elim
 | ok n w' =>
  cases n<;>simp only[ResOK] at hres<;>(try exact hres.elim)<;>simp only[Oper.upon]
  ·obtain⟨φ',h1,h2,h3⟩:=hres;exact hn φ' _ w' h1 h2 h3
  ·obtain⟨φ',h1,h2,h3⟩:=hres;exact hn φ' _ w' h1 h2 h3
  ·refine Calls.mono hres ?_
   rintro e w'' ⟨v',rfl,φ',h1,h2,h3⟩
   exact hn φ' v' w'' h1 h2 h3
theorem wp_const {o:Oper} {a:Act} {w:World} {X:Prop} (h:o.wp P a w (fun _ _=>X) (fun _ _ _=>X)):X:=by
 unfold Oper.wp at h
 generalize (execOp a.eval o).run P w=r at h
 cases r with
 | halt x w'=>cases x<;>simp only[Oper.upon] at h<;>first|exact h|exact h.elim
 | ok n w' =>
  cases n<;>simp only[Oper.upon] at h<;>(try exact h)<;>(try exact h.elim)
  ·obtain⟨e,w'',fr,hR,_⟩:=h []
   cases e with
   | returned v=>exact hR
   | panicked c=>exact hR
   | outgrown=>obtain⟨_,_,hR⟩:=hR;exact hR
  ·obtain⟨_,_,hR,_⟩:=h (default:Frame) []
   exact hR
theorem MemGoal.res {φ:Phi} {h h':Heap} {w:World} {a:Act} {o:Oper} {v:Value} (hg:MemGoal P φ h w a o v h'):ResOK P φ h w v h' ((execOp a.eval o).run P w):=by
 obtain⟨φ',v',w',nx,h1,h2,h3,h4,h5⟩:=hg
 rw[h1]
 rcases h2 with rfl|⟨rfl,rfl⟩
 ·exact⟨φ',h3,h4,h5⟩
 ·exact⟨φ',h3,h4,h5⟩
theorem PureGoal.res {φ:Phi} {h:Heap} {w:World} {a:Act} {o:Oper} {v:Value} (hr:HRel φ h w) (hg:PureGoal P φ a w o v):ResOK P φ h w v h ((execOp a.eval o).run P w):=by
 obtain⟨v',w',h1,h2,h3⟩:=hg
 rw[h1]
 exact⟨φ,h2,hr.same h3,h3.ext φ h⟩
def CallNext (P:Program) (f:Nat) (args:List Value) (h:Heap) (v:Value) (h':Heap):Prop :=
 ∀φ (args':List Value) w,LRel φ args args'->HRel φ h w->Full φ h->ResOK P φ h w v h' ((callFunc f ⟨args'⟩).run P w)
variable (tt:T TI)
def methodFind (name:String):List Method->Option Method
 | []=>none
 | m::l=>bif m.name==name then some m else methodFind name l
def methodOf (t:TypeId) (name:String):Option Nat:=match tt.get t with
 | some i=>match methodFind name i.methods.toList with
  | some m=>match m.path.toList,m.func with
   | [],some (f,p)=>(match i.desc with
    | .pointer _=>bif p then some f else none
    | _=>bif p then none else some f)
   | _,_=>none
  | none=>none
 | none=>none
def calleeM (recv:Value) (name:String) (args:List Value):Option (Nat×List Value):=match recv with
 | .iface t v=>match methodOf tt t name with|some f=>some (f,v::args)|none=>none
 | _=>none
def calleeV (f:Value) (args:List Value):Option (Nat×List Value):=match f with
 | .func (.func f) first captured=>some (f,first.toList++args++captured.toList)
 | .func (.method name) first _=>match first.toList++args with
  | r::rest=>calleeM tt r name rest
  | []=>none
 | .func (.methodOf ty name) first _=>match tt.get ty,first.toList++args with
  | some i,r::rest=>bif isIface i.desc then none else calleeM tt (.iface ty r) name rest
  | _,_=>none
 | _=>none
def callee (t:Fm):IOp->Option (Nat×List Value)
 | .call f args=>some (f,args.map (evalO t))
 | .callv x args=>calleeV tt (evalO t x) (args.map (evalO t))
 | .meth x name args=>calleeM tt (evalO t x) name (args.map (evalO t))
 | _=>none
variable {tt}
variable (hT:TOk P tt) {φ:Phi} {t:Fm} {a:Act} {h h':Heap} {w:World} {v:Value}
include hT in
theorem run_callMethod {recv recv':Value} {name:String} {args:List Value} {args':List Value} {f:Nat} {cargs:List Value} (hc:calleeM tt recv name args=some (f,cargs))
  (hv:VRel φ recv recv') (ha:LRel φ args args') : ∃cargs',LRel φ cargs cargs' /\ ∀w,(callMethod recv' name ⟨args'⟩).run P w=(callFunc f ⟨cargs'⟩).run P w:=by
 unfold calleeM at hc
 split at hc
 case h_2=>simp at hc
 rename_i ty v
 obtain⟨v',rfl,hv'⟩:=hv.iface_inv
 split at hc
 case h_2=>simp at hc
 rename_i g hg
 simp only[Option.some.injEq,Prod.mk.injEq] at hc
 obtain⟨rfl,rfl⟩:=hc
 refine⟨v'::args',.cons _ _ _ _ hv' ha,fun w=>?_⟩
 unfold methodOf at hg
 split at hg
 case h_2=>simp at hg
 rename_i i hi
 have hu:=hT.desc _ _ hi
 obtain⟨inf,hinf,_,_,_,hm⟩:=hT.info _ _ hi
 split at hg
 case h_2=>simp at hg
 rename_i m hmf
 have hfind : ∀l:List Method,methodFind name l=some m->l.find? (fun m=>m.name==name)=some m:=by
  intro l
  induction l with
  | nil=>intro h;simp[methodFind] at h
  | cons x l ih =>
   intro h
   simp only[methodFind] at h
   cases hx:(x.name==name)<;>rw[hx] at h
   ·simp only[cond_false] at h;rw[List.find?_cons,hx];exact ih h
   ·simp only[cond_true,Option.some.injEq] at h;subst h;rw[List.find?_cons,hx]
 have hfi:inf.methods.find? (fun m=>m.name==name)=some m:=by rw[hm,<-Array.find?_toList];exact hfind _ hmf
 split at hg
 case h_2=>simp at hg
 rename_i p1 p2 hpath hfunc
 have hmethod:(method (P.types.size+Made.depth) ty v' name).run P w = .ok (g,v') w:=by
  have hd0:0<Made.depth:=by decide
  obtain⟨n,hn⟩ : ∃n,P.types.size+Made.depth=n+1:=⟨P.types.size+Made.depth-1,by omega⟩
  rw[hn]
  unfold method
  simp only[Sem.run_bind,run_typeInfo' w hinf,Result.andThen_ok,hfi,hpath,follow,Sem.run_pure,hfunc,receiverAt,run_underlying hu]
  split at hg
  ·rename_i e hd
   obtain⟨hp,hg⟩:=bif_some hg
   simp only[Option.some.injEq] at hg;subst hg
   simp only[hp,Place.get,Sem.run_pure,Result.andThen_ok,hd]
  ·rename_i hd
   cases p2 with
   | true=>simp at hg
   | false =>
    simp only[cond_false,Option.some.injEq] at hg;subst hg
    cases hdd:i.desc<;>first|(exact absurd hdd (hd _))|(simp only[Place.get,Sem.run_pure,Result.andThen_ok];done)
 have he:(#[v']++(⟨args'⟩:Array Value))=⟨v'::args'⟩:=by apply Array.ext';simp
 unfold callMethod
 simp only[Sem.run_bind,run_program,Result.andThen_ok,hmethod,he]
theorem LRel.extract1 {r:Value} {rest l':List Value} (hl:LRel φ (r::rest) l') : ∃r' rest',l'=r'::rest'/\VRel φ r r'/\LRel φ rest rest':=by
 cases hl with
 | cons _ w _ m h t=>exact⟨w,m,rfl,h,t⟩
theorem extract1_eq (r:Value) (rest:List Value):(⟨r::rest⟩:Array Value).extract 1 (⟨r::rest⟩:Array Value).size=⟨rest⟩:=by
 apply Array.ext';simp
theorem array_app (l m:List Value):(⟨l⟩:Array Value)++(⟨m⟩:Array Value)=⟨l++m⟩:=by apply Array.ext';simp
include hT in
theorem call_sound (o:Oper) {io:IOp} {f:Nat} {cargs:List Value} (hok : ∀x∈o.op.operands,okO x=true) (hc:compOp tt o=some io) (hcal:callee tt t io=some (f,cargs))
  (hN:CallNext P f cargs h v h') (ht:TRel φ t a) (hr:HRel φ h w) (hfull:Full φ h):ResOK P φ h w v h' ((execOp a.eval o).run P w):=by
 obtain⟨dst,op,ty,ps,af,gd⟩:=o
 cases op
 case call c =>
  obtain⟨cal,⟨args⟩,⟨ats⟩⟩:=c
  have hm:((⟨args⟩:Array Operand).map a.eval)=⟨args.map a.eval⟩:=by apply Array.ext';simp
  have hargs:LRel φ (args.map (evalO t)) (args.map a.eval):=evalOs_rel ht fun x hx=>hok x (by simp[Op.operands,Call.operands,hx])
  cases cal with
  | builtin b =>
   exfalso
   simp only[compOp] at hc
   cases b<;>simp only[compBuiltin,reduceCtorEq] at hc <;>
    repeat' (first|(simp only[Option.some.injEq,reduceCtorEq] at hc;subst hc;simp[callee] at hcal;done)|(simp at hc;done)|split at hc|(rw[Bool.cond_eq_ite] at hc;split at hc))
  | invoke r name =>
   simp only[compOp,Option.some.injEq] at hc;subst hc
   simp only[callee] at hcal
   have hr0:=evalO_rel ht (hok r (by simp[Op.operands,Call.operands]))
   obtain⟨cargs',h1,h2⟩:=run_callMethod hT hcal hr0 hargs
   have he:(execOp a.eval ⟨dst,.call ⟨.invoke r name,⟨args⟩,⟨ats⟩⟩,ty,ps,af,gd⟩).run P w=(callMethod (a.eval r) name ⟨args.map a.eval⟩).run P w:=by
    have e1:(#[a.eval r]++(⟨args⟩:Array Operand).map a.eval)=⟨a.eval r::args.map a.eval⟩:=by rw[hm];apply Array.ext';simp
    simp only[execOp,resolve,e1,Sem.run_bind,Sem.run_pure,Result.andThen_ok,invoke]
    rw[extract1_eq]
    rfl
   rw[he,h2]
   exact hN φ cargs' w h1 hr hfull
  | value x =>
   have hx0:=evalO_rel ht (hok x (by simp[Op.operands,Call.operands]))
   have key : ∀{fv fv':Value},VRel φ fv fv'->calleeV tt fv (args.map (evalO t))=some (f,cargs)->a.eval x=fv' ->
     ResOK P φ h w v h' ((execOp a.eval ⟨dst,.call ⟨.value x,⟨args⟩,⟨ats⟩⟩,ty,ps,af,gd⟩).run P w):=by
    intro fv fv' hfv hcv hx
    have he:execOp a.eval ⟨dst,.call ⟨.value x,⟨args⟩,⟨ats⟩⟩,ty,ps,af,gd⟩=(do let d<-Deferred.ofValue fv' ⟨args.map a.eval⟩;invoke d.target d.args):=by
     rw[<- hm,<-hx];rfl
    rw[he]
    unfold calleeV at hcv
    split at hcv
    ·rename_i g first captured
     simp only[Option.some.injEq,Prod.mk.injEq] at hcv
     obtain⟨rfl,rfl⟩:=hcv
     cases hfv with
     | func _ x1 x2 y1 y2 h1 h2 =>
      have e1:(do let d<-Deferred.ofValue (.func (.func g) ⟨x2⟩ ⟨y2⟩) ⟨args.map a.eval⟩;invoke d.target d.args:Sem Next).run P w=(callFunc g ⟨x2++args.map a.eval++y2⟩).run P w:=by
       simp only[Deferred.ofValue,Sem.run_bind,Sem.run_pure,Result.andThen_ok,invoke,array_app]
      rw[e1]
      exact hN φ _ w ((h1.append hargs).append h2) hr hfull
    ·rename_i name first captured
     split at hcv
     case h_2=>simp at hcv
     rename_i r rest hfr
     cases hfv with
     | func _ x1 x2 y1 y2 h1 h2 =>
      have hall:=h1.append hargs
      have hfr':x1++List.map (evalO t) args=r::rest:=hfr
      rw[hfr'] at hall
      obtain⟨r',rest',hl,hr',hrest'⟩:=hall.extract1
      obtain⟨cargs',k1,k2⟩:=run_callMethod hT hcv hr' hrest'
      have e1:(do let d<-Deferred.ofValue (.func (.method name) ⟨x2⟩ ⟨y2⟩) ⟨args.map a.eval⟩;invoke d.target d.args:Sem Next).run P w=(callMethod r' name ⟨rest'⟩).run P w:=by
       simp only[Deferred.ofValue,Sem.run_bind,Sem.run_pure,Result.andThen_ok,invoke,array_app,hl]
       rw[extract1_eq]
       rfl
      rw[e1,k2]
      exact hN φ _ w k1 hr hfull
    ·rename_i ty' name first captured
     split at hcv
     case h_2=>simp at hcv
     rename_i i r rest hi hfr
     cases hifc:isIface i.desc with
     | true=>rw[hifc] at hcv;simp at hcv
     | false =>
      rw[hifc] at hcv
      simp only[cond_false] at hcv
      cases hfv with
      | func _ x1 x2 y1 y2 h1 h2 =>
       have hall:=h1.append hargs
       have hfr':x1++List.map (evalO t) args=r::rest:=hfr
       rw[hfr'] at hall
       obtain⟨r',rest',hl,hr',hrest'⟩:=hall.extract1
       obtain⟨cargs',k1,k2⟩:=run_callMethod hT hcv (.iface ty' _ _ hr') hrest'
       have hu:=hT.desc _ _ hi
       have e1:(do let d<-Deferred.ofValue (.func (.methodOf ty' name) ⟨x2⟩ ⟨y2⟩) ⟨args.map a.eval⟩;invoke d.target d.args:Sem Next).run P w=(callMethod (.iface ty' r') name ⟨rest'⟩).run P w:=by
        simp only[Deferred.ofValue,Sem.run_bind,Sem.run_pure,Result.andThen_ok,invoke,array_app,hl,List.getElem?_toArray,List.getElem?_cons_zero,run_underlying hu]
        rw[extract1_eq]
        cases hd:i.desc<;>first|rfl|(rw[hd] at hifc;simp[isIface] at hifc)
       rw[e1,k2]
       exact hN φ _ w k1 hr hfull
    ·simp at hcv
   cases x with
   | func g =>
    simp only[compOp,Option.some.injEq] at hc;subst hc
    simp only[callee,Option.some.injEq,Prod.mk.injEq] at hcal
    exact key (fv := .func (.func g) #[] #[]) (.func _ _ _ _ _ .nil .nil) (by simp only[calleeV];simpa using hcal) rfl
   | tmp k=>simp only[compOp,Option.some.injEq] at hc;subst hc;exact key hx0 hcal rfl
   | const c=>simp only[compOp,Option.some.injEq] at hc;subst hc;exact key hx0 hcal rfl
   | global g=>simp only[compOp,Option.some.injEq] at hc;subst hc;exact key hx0 hcal rfl
 case binOp op xt x y yt =>
  simp only[compOp] at hc
  split at hc
  case h_2=>simp at hc
  simp only[Option.some.injEq] at hc;subst hc
  simp only[compBin] at hcal
  split at hcal<;>simp[callee] at hcal
 case makeMap ti r =>
  cases r with
  | some r=>simp[compOp] at hc
  | none=>simp only[compOp,Option.some.injEq] at hc;subst hc;simp[callee] at hcal
 all_goals
  exfalso
  simp only[compOp,reduceCtorEq] at hc
  repeat' (first|(simp only[Option.some.injEq,reduceCtorEq] at hc;subst hc;simp[callee] at hcal;done)|(simp at hc;done)|split at hc|(rw[Bool.cond_eq_ite] at hc;split at hc))
end
end Go.Ab
namespace Go.Ab
def oList:Option Operand->List Operand
 | none => []
 | some x => [x]
def partOps:List (Nat×Nat×Operand)->List Operand
 | [] => []
 | p::l=>p.2.2::partOps l
def IOp.ops:IOp->List Operand
 | .mov x | .nilc x | .un _ x | .conv _ x | .iface _ x | .faddr x _ | .fieldv x _ _ | .extr x _ | .lenv x | .lent x | .capv x | .s2ap _ x | .tassert x _ _ _ | .load _ x | .box x | .clearS x _ _ | .lenm x => [x]
 | .pick a b c => [a,b,c]
 | .bin _ _ _ x y | .eqs _ _ x y | .iaddrS x y _ | .iaddrA x y _ _ | .indexA x y _ _ _ | .indexS x y | .makeSl x y _ _ _ | .store _ x y | .append x y _ _ | .appendZ x y _ _ _ | .copy x y _ | .lookup _ x y _ _ => [x,y]
 | .mkfn _ a b=>a++b
 | .sliceS x lo hi mx _ | .sliceP x lo hi mx _ _=>x::(oList lo++oList hi++oList mx)
 | .sliceT x lo hi=>x::(oList lo++oList hi)
 | .lenc _ | .alloc _ | .makeMap => []
 | .minmax _ x r=>x::r
 | .build _ ps | .buildSl _ _ ps=>partOps ps
 | .call _ args=>args
 | .callv x args=>x::args
 | .meth x _ args=>x::args
 | .insert _ m k v => [m,k,v]
theorem map_congrO {t t':Fm} {l:List Operand} (h : ∀x∈l,evalO t x=evalO t' x):l.map (evalO t)=l.map (evalO t'):=List.map_congr_left h
theorem bound_congr {t t':Fm} {x:Option Operand} (h : ∀y∈oList x,evalO t y=evalO t' y) (d:Nat):boundOf t x d=boundOf t' x d:=by
 cases x with
 | none=>rfl
 | some y=>simp only[boundOf,h y (by simp[oList])]
theorem fillP_congr {t t':Fm} : ∀{ps:List (Nat×Nat×Operand)} (c:List Value),(∀x∈partOps ps,evalO t x=evalO t' x)->fillP t ps c=fillP t' ps c
 | [],c,_=>rfl
 | (o,s,x)::ps,c,h=>by
  simp only[fillP,h x (by simp[partOps])]
  cases putAt (evalO t' x).cells.toList o c with
  | none=>rfl
  | some c'=>simp only[fillP_congr (ps:=ps) c' fun y hy=>h y (by simp only[partOps,List.mem_cons];exact .inr hy)]
theorem foldMM_congr {t t':Fm} {m:Bool} : ∀{r:List Operand} (v:Value),(∀x∈r,evalO t x=evalO t' x)->foldMM m t r v=foldMM m t' r v
 | [],v,_=>rfl
 | x::r,v,h=>by
  simp only[foldMM,h x (by simp)]
  cases minmaxV m v (evalO t' x) with
  | none=>rfl
  | some w=>exact foldMM_congr w fun y hy=>h y (by simp[hy])
theorem pureV_congr {t t':Fm} {io:IOp} (h : ∀x∈io.ops,evalO t x=evalO t' x):pureV t io=pureV t' io:=by
 cases io<;>simp only[IOp.ops,List.mem_cons,List.not_mem_nil,or_false,forall_eq_or_imp,forall_eq,List.mem_append] at h<;>try(simp only[pureV];done)
 case mkfn=>simp only[pureV,map_congrO fun x hx=>h x (.inl hx),map_congrO fun x hx=>h x (.inr hx)]
 case sliceS=>simp only[pureV,h.1,bound_congr fun y hy=>h.2 y (.inl (.inl hy)),bound_congr fun y hy=>h.2 y (.inl (.inr hy)),bound_congr fun y hy=>h.2 y (.inr hy)]
 case sliceP=>simp only[pureV,h.1,bound_congr fun y hy=>h.2 y (.inl (.inl hy)),bound_congr fun y hy=>h.2 y (.inl (.inr hy)),bound_congr fun y hy=>h.2 y (.inr hy)]
 case sliceT=>simp only[pureV,h.1,bound_congr fun y hy=>h.2 y (.inl hy),bound_congr fun y hy=>h.2 y (.inr hy)]
 case minmax=>simp only[pureV,h.1,foldMM_congr _ h.2]
 case build=>simp only[pureV,fillP_congr _ h]
 all_goals (simp only[pureV,h])
theorem memV_congr {t t':Fm} {hp:Heap} {io:IOp} (h : ∀x∈io.ops,evalO t x=evalO t' x):memV t hp io=memV t' hp io:=by
 cases io<;>simp only[IOp.ops,List.mem_cons,List.not_mem_nil,or_false,forall_eq_or_imp,forall_eq,List.mem_append] at h<;>try(simp only[memV];done)
 case buildSl=>simp only[memV,fillP_congr _ h]
 all_goals (simp only[memV,h])
theorem callee_congr {tt:T TI} {t t':Fm} {io:IOp} (h : ∀x∈io.ops,evalO t x=evalO t' x):callee tt t io=callee tt t' io:=by
 cases io<;>simp only[IOp.ops,List.mem_cons,List.not_mem_nil,or_false,forall_eq_or_imp,forall_eq,List.mem_append] at h<;>try(simp only[callee];done)
 case call=>simp only[callee,map_congrO h]
 case callv=>simp only[callee,h.1,map_congrO h.2]
 case meth=>simp only[callee,h.1,map_congrO h.2]
def OpRes (P:Program) (tt:T TI) (t:Fm) (h:Heap) (io:IOp) (v:Value) (h':Heap):Prop :=
 (isPure io=true/\pureV t io=some v/\h'=h)\/(isMem io=true/\memV t h io=some (v,h'))\/(∃f args,callee tt t io=some (f,args)/\CallNext P f args h v h')
theorem OpRes.congr {P:Program} {tt:T TI} {t t':Fm} {h h':Heap} {io:IOp} {v:Value} (hr:OpRes P tt t h io v h') (he : ∀x∈io.ops,evalO t x=evalO t' x):OpRes P tt t' h io v h':=by
 rcases hr with ⟨h1,h2,h3⟩|⟨h1,h2⟩|⟨f,args,h1,h2⟩
 ·exact .inl ⟨h1,by rw[<- pureV_congr he];exact h2,h3⟩
 ·exact .inr (.inl ⟨h1,by rw[<- memV_congr he];exact h2⟩)
 ·exact .inr (.inr ⟨f,args,by rw[<- callee_congr he];exact h1,h2⟩)
section
variable {P:Program} {tt:T TI} (hT:TOk P tt) {φ:Phi} {t:Fm} {a:Act} {h h':Heap} {w:World} {v:Value}
include hT in
theorem op_sound (o:Oper) {io:IOp} (hok : ∀x∈o.op.operands,okO x=true) (hc:compOp tt o=some io) (hres:OpRes P tt t h io v h') (ht:TRel φ t a) (hr:HRel φ h w) (hfull:callee tt t io≠none->Full φ h) :
  ResOK P φ h w v h' ((execOp a.eval o).run P w):=by
 rcases hres with ⟨h1,h2,rfl⟩|⟨h1,h2⟩|⟨f,args,h1,h2⟩
 ·exact(pure_sound hT ht w o hok hc h1 h2).res hr
 ·exact(mem_sound hT ht hr o hok hc h1 h2).res
 ·exact call_sound hT o hok hc h1 h2 ht hr (hfull (by rw[h1];simp))
def tmpsOf:List Operand->List Nat
 | [] => []
 | .tmp k::l=>k::tmpsOf l
 | _::l=>tmpsOf l
theorem mem_tmpsOf {k:Nat} : ∀{l:List Operand},k∈tmpsOf l↔Operand.tmp k∈l
 | []=>by simp[tmpsOf]
 | x::l=>by cases x<;>simp[tmpsOf,mem_tmpsOf (l:=l)]
def maskT (S:List Nat) (t:Fm):Fm:=fun k=>if k∈S then t k else undef
def maskA (S:List Nat) (a:Act):Act := {a with tmps:=a.tmps.mapIdx fun i v=>if i∈S then v else undef}
theorem maskA_get (S:List Nat) (a:Act) (k:Nat):(maskA S a).tmps.getD k undef=if k∈S then a.tmps.getD k undef else undef:=by
 simp only[maskA,Array.getD_eq_getD_getElem?,Array.getElem?_mapIdx]
 cases a.tmps[k]? with
 | none=>simp
 | some v=>by_cases hk:k∈S<;>simp[hk]
include hT in
theorem op_sound' (o:Oper) {io:IOp} (hok : ∀x∈o.op.operands,okO x=true) (hc:compOp tt o=some io) (hsub : ∀k∈tmpsOf io.ops,k∈tmpsOf o.op.operands.toList)
  (hres:OpRes P tt t h io v h') (ht : ∀k∈tmpsOf o.op.operands.toList,VRel φ (t k) (a.tmps.getD k undef)) (hr:HRel φ h w) (hfull:callee tt t io≠none->Full φ h) :
  ResOK P φ h w v h' ((execOp a.eval o).run P w):=by
 have e1:execOp a.eval o=execOp (maskA (tmpsOf o.op.operands.toList) a).eval o:=by
  refine execOp_congr o ?_ ?_
  ·intro cs b hs
   obtain⟨dst,op,ty,ps,af,gd⟩:=o
   obtain rfl:op = .select cs b:=hs
   simp[compOp] at hc
  ·intro x hx
   cases x with
   | tmp k =>
    show a.tmps.getD k undef=(maskA _ a).tmps.getD k undef
    rw[maskA_get,if_pos (mem_tmpsOf.2 (by simpa using hx))]
   | _=>rfl
 rw[e1]
 refine op_sound hT (t:=maskT (tmpsOf o.op.operands.toList) t) o hok hc (hres.congr ?_) ?_ hr ?_
 ·intro x hx
  cases x with
  | tmp k =>
   have:=hsub k (mem_tmpsOf.2 hx)
   show t k=maskT _ t k
   rw[maskT,if_pos this]
  | _=>rfl
 ·intro k
  rw[maskA_get]
  show VRel φ (maskT _ t k) _
  rw[maskT]
  by_cases hk:k∈tmpsOf o.op.operands.toList
  ·rw[if_pos hk,if_pos hk];exact ht k hk
  ·rw[if_neg hk,if_neg hk];exact undef_rel φ
 ·intro hne
  refine hfull ?_
  rw[callee_congr (t':=maskT (tmpsOf o.op.operands.toList) t)]
  ·exact hne
  ·intro x hx
   cases x with
   | tmp k =>
    have:=hsub k (mem_tmpsOf.2 hx)
    show t k=maskT _ t k
    rw[maskT,if_pos this]
   | _=>rfl
end
end Go.Ab
namespace Go.Ab
structure COp where
 dst:Option Nat
 io:IOp
 guard:Option (Nat×Bool)
def wantedC (c:COp) (t:Fm):Bool:=match c.guard with
 | none=>true
 | some (d,g)=>match t d with
  | .bool b=>b==g
  | _=>false
structure COk (tt:T TI) (ops:Array Oper) (nt:Nat) (o:Oper) (c:COp):Prop where
 comp:compOp tt o=some c.io
 okx : ∀x∈o.op.operands,okO x=true
 sub : ∀k∈tmpsOf c.io.ops,k∈tmpsOf o.op.operands.toList
 dst:o.dst=c.dst
 dlt : ∀d,c.dst=some d->d<nt
 guard:(o.guard=none/\c.guard=none) \/ ∃j g d,o.guard=some (j,g)/\(ops[j]?).bind (·.dst)=some d/\c.guard=some (d,g)/\d<nt
def COp.reads (o:Oper) (c:COp):List Nat:=tmpsOf o.op.operands.toList++(match c.guard with|none => []|some (d,_) => [d])
def StepC (P:Program) (tt:T TI) (c:COp) (t:Fm) (h:Heap) (v:Value) (t':Fm) (h':Heap):Prop :=
 t'=putT t c.dst v/\(wantedC c t=true->OpRes P tt t h c.io v h')/\(wantedC c t=false->v=undef/\h'=h)
section
variable {P:Program} {tt:T TI} (hT:TOk P tt) {ops:Array Oper} {nt:Nat}
theorem wanted_eq {o:Oper} {c:COp} (hk:COk tt ops nt o c) {φ:Phi} {t:Fm} {a:Act} (hs:a.tmps.size=nt) (ht : ∀d g,c.guard=some (d,g)->VRel φ (t d) (a.tmps.getD d undef)) :
  Region.wanted o (yielded ops a.tmps)=wantedC c t:=by
 rcases hk.guard with ⟨h1,h2⟩|⟨j,g,d,h1,h2,h3,h4⟩
 ·simp only[Region.wanted,h1,wantedC,h2]
 ·simp only[Region.wanted,h1,wantedC,h3]
  have hv:=ht d g h3
  have hd:a.tmps[d]?=some (a.tmps.getD d undef):=by
   have hlt:d<a.tmps.size:=by rw[hs];exact h4
   rw[Array.getD_eq_getD_getElem?,Array.getElem?_eq_getElem hlt];rfl
  have hy:yielded ops a.tmps j=match a.tmps.getD d undef with | .bool b=>some b|_=>none:=by
   simp only[yielded,h2,Option.bind_some,hd]
   cases a.tmps.getD d undef<;>rfl
  rw[hy]
  generalize a.tmps.getD d undef=v at hv
  generalize t d=u at hv
  cases hv<;>first|rfl|(simp;done)
theorem act_put_size (a:Act) (d:Option Nat) (v:Value):(a.put d v).tmps.size=a.tmps.size:=by cases d<;>simp[Act.put]
theorem put_get (a:Act) (d k:Nat) (v:Value) (hd:d<a.tmps.size):(a.put (some d) v).tmps.getD k undef=if k=d then v else a.tmps.getD k undef:=by
 simp only[Act.put,Array.getD_eq_getD_getElem?,Array.getElem?_setIfInBounds]
 by_cases h:d=k
 ·subst h;simp[hd]
 ·rw[if_neg h,if_neg (fun e=>h e.symm)]
theorem wpOp_of {o:Oper} {c:COp} {i:Nat} (ho:ops[i]?=some o) (hk:COk tt ops nt o c) {φ:Phi} {t:Fm} {a:Act} {h h':Heap} {w:World} {v:Value}
  {K:Act->World->Prop} {Q:Exit->Act->World->Prop}
  (hw:Region.wanted o (yielded ops a.tmps)=wantedC c t)
  (hyes:wantedC c t=true->ResOK P φ h w v h' ((execOp a.eval o).run P w))
  (hn:wantedC c t=true -> ∀φ' v' w',VRel φ' v v'->HRel φ' h' w'->Ext φ h w φ' h' w'->K (a.put c.dst v') w')
  (hno:wantedC c t=false->K (a.put c.dst undef) w):wpOp P ops Q i K a w:=by
 unfold wpOp
 rw[ho]
 simp only[hw]
 cases hb:wantedC c t with
 | true =>
  simp only[if_true]
  refine .inl (ResOK.wp (hyes hb) ?_)
  rw[hk.dst];exact hn hb
 | false =>
  simp only[Bool.false_eq_true,if_false]
  rw[hk.dst];exact hno hb
inductive Seq (P:Program) (tt:T TI) (ops:Array Oper) (nt:Nat):List Nat->Fm->Heap->Fm->Heap->Prop where
 | nil (t h):Seq P tt ops nt [] t h t h
 | cons (i:Nat) (l:List Nat) (o:Oper) (c:COp) (v:Value) (t h t' h' t2 h2) (ho:ops[i]?=some o) (hk:COk tt ops nt o c) (hs:StepC P tt c t h v t' h') (hl:Seq P tt ops nt l t' h' t2 h2) :
   Seq P tt ops nt (i::l) t h t2 h2
def SRel (nt:Nat) (ds:List Deferred) (φ:Phi) (t:Fm) (h:Heap) (a:Act) (w:World):Prop:=TRel φ t a/\HRel φ h w/\a.tmps.size=nt/\a.defers=ds/\Full φ h
theorem act_put_defers (a:Act) (d:Option Nat) (v:Value):(a.put d v).defers=a.defers:=by cases d<;>rfl
include hT in
theorem step_sound {o:Oper} {c:COp} {i:Nat} (ho:ops[i]?=some o) (hk:COk tt ops nt o c) {t t':Fm} {h h':Heap} {v:Value} (hs:StepC P tt c t h v t' h')
  {ds:List Deferred} {φ:Phi} {a:Act} {w:World} (hr:SRel nt ds φ t h a w) {K:Act->World->Prop} {Q:Exit->Act->World->Prop}
  (hK : ∀φ' a' w',SRel nt ds φ' t' h' a' w'->Ext φ h w φ' h' w'->K a' w'):wpOp P ops Q i K a w:=by
 obtain⟨h1,h2,h3,h4,h5⟩:=hr
 obtain⟨rfl,s2,s3⟩:=hs
 have hput : ∀φ' v',φ.le φ'->VRel φ' v v'->TRel φ' (putT t c.dst v) (a.put c.dst v'):=fun φ' v' hle hv=>(h1.mono hle).put (fun k hkd=>by have:=hk.dlt k hkd;omega) hv
 refine wpOp_of ho hk (wanted_eq hk h3 fun d g _=>h1 d) (fun hb=>op_sound hT o hk.okx hk.comp (s2 hb) h1 h2 fun _=>h5) ?_ ?_
 ·intro _ φ' v' w' hv hh hx
  exact hK φ' _ w' ⟨hput φ' v' hx.mono hv,hh,by rw[act_put_size];exact h3,by rw[act_put_defers];exact h4,hx.full h5⟩ hx
 ·intro hb
  obtain⟨rfl,rfl⟩:=s3 hb
  exact hK φ _ w ⟨hput φ _ (fun _ _ h=>h) (undef_rel _),h2,by rw[act_put_size];exact h3,by rw[act_put_defers];exact h4,h5⟩ (.refl _ _ _)
include hT in
theorem seq_sound {l:List Nat} {t t':Fm} {h h':Heap} (hs:Seq P tt ops nt l t h t' h') {ds:List Deferred} {Q:Exit->Act->World->Prop} :
  ∀{φ:Phi} {a:Act} {w:World},SRel nt ds φ t h a w->(∀φ' a' w',SRel nt ds φ' t' h' a' w'->Ext φ h w φ' h' w'->Q .normal a' w')->wpOps P ops Q l a w:=by
 induction hs with
 | nil t h=>intro φ a w hr hQ;exact hQ φ a w hr (.refl _ _ _)
 | cons i l o c v t h t' h' t2 h2 ho hk hs hl ih =>
  intro φ a w hr hQ
  rw[wpOps_cons]
  exact step_sound hT ho hk hs hr fun φ' a' w' hr' hx=>ih hr' fun φ2 a2 w2 hr2 hx2=>hQ φ2 a2 w2 hr2 (hx.trans hx2)
def Feas (nt:Nat) (t:Fm) (h:Heap):Prop := ∃φ a w,TRel φ t a/\HRel φ h w/\a.tmps.size=nt/\Full φ h
theorem wpOp_const {i:Nat} {a:Act} {w:World} {X:Prop} (h:wpOp P ops (fun _ _ _=>X) i (fun _ _=>X) a w):X:=by
 unfold wpOp at h
 split at h
 ·exact h
 ·split at h
  ·rcases h with h|⟨_,_,_,h⟩
   ·exact wp_const h
   ·exact h
  ·exact h
include hT in
theorem feas_step {o:Oper} {c:COp} {i:Nat} (ho:ops[i]?=some o) (hk:COk tt ops nt o c) {t t':Fm} {h h':Heap} {v:Value} (hs:StepC P tt c t h v t' h') (hf:Feas nt t h) :
  Feas nt t' h'/\h.next<=h'.next:=by
 obtain⟨φ,a,w,h1,h2,h3,h4⟩:=hf
 exact wpOp_const (P:=P) (ops:=ops) (i:=i) (a:=a) (w:=w) (X:=Feas nt t' h'/\h.next<=h'.next)
  (step_sound hT ho hk hs (ds:=a.defers) ⟨h1,h2,h3,rfl,h4⟩ fun φ' a' w' hr hx=>⟨⟨φ',a',w',hr.1,hr.2.1,hr.2.2.1,hr.2.2.2.2⟩,hx.next⟩)
end
end Go.Ab
namespace Go.Ab
def cut (ψ:Phi) (M:Nat):Phi:=fun i=>if i<M then ψ i else none
theorem cut_le (ψ:Phi) (M:Nat):(cut ψ M).le ψ:=by
 intro i im h
 unfold cut at h
 split at h
 ·exact h
 ·simp at h
theorem cut_some {ψ:Phi} {M i:Nat} {im:Img} (h:ψ i=some im) (hlt:i<M):cut ψ M i=some im:=by simp[cut,hlt,h]
mutual
theorem VRel.bound {ψ φg:Phi} {M:Nat} (hb : ∀i im,φg i=some im->i<M) : ∀{v v' u:Value},VRel ψ v v'->VRel φg v u->VRel (cut ψ M) v v'
 | _,_,_,.bool b,_ => .bool b
 | _,_,_,.int k n,_ => .int k n
 | _,_,_,.float k b,_ => .float k b
 | _,_,_,.nan k b c h1 h2,_ => .nan k b c h1 h2
 | _,_,_,.complex k a b,_ => .complex k a b
 | _,_,_,.string s,_ => .string s
 | _,_,_,.ptrNil,_ => .ptrNil
 | _,_,_,.ptr a b ⟨im,h,hb',hs⟩,.ptr _ _ ⟨_,h2,_,_⟩ => .ptr a b ⟨im,cut_some h (hb _ _ h2),hb',hs⟩
 | _,_,_,.sliceNil l c,_ => .sliceNil l c
 | _,_,_,.slice a b l c c' im h hb' hs hc hl,.slice _ _ _ _ _ _ h2 _ _ _ _ => .slice a b l c c' im (cut_some h (hb _ _ h2)) hb' hs hc hl
 | _,_,_,.mapNil,_ => .mapNil
 | _,_,_,.map r r' g h,.map _ _ _ h2 => .map r r' g (cut_some h (hb _ _ h2))
 | _,_,_,.func f a b c d h1 h2,.func _ _ _ _ _ k1 k2 => .func f a b c d (LRel.bound hb h1 k1) (LRel.bound hb h2 k2)
 | _,_,_,.nilFunc,_ => .nilFunc
 | _,_,_,.iface t v w h,.iface _ _ _ k => .iface t v w (VRel.bound hb h k)
 | _,_,_,.nilIface,_ => .nilIface
 | _,_,_,.agg a b h,.agg _ _ k => .agg a b (LRel.bound hb h k)
 | _,_,_,.tuple a b h,.tuple _ _ k => .tuple a b (LRel.bound hb h k)
 | _,_,_,.poison b c,_ => .poison b c
 | _,_,_,.yield l,_ => .yield l
theorem LRel.bound {ψ φg:Phi} {M:Nat} (hb : ∀i im,φg i=some im->i<M) : ∀{v v' u:List Value},LRel ψ v v'->LRel φg v u->LRel (cut ψ M) v v'
 | _,_,_,.nil,_ => .nil
 | _,_,_,.cons v w l m h t,.cons _ _ _ _ k s => .cons v w l m (VRel.bound hb h k) (LRel.bound hb t s)
end
theorem MRel.bound {ψ φg:Phi} {M:Nat} (hb : ∀i im,φg i=some im->i<M) : ∀{v:List (Value×Value)} {v' u:List MapEntry},MRel ψ v v'->MRel φg v u->MRel (cut ψ M) v v'
 | [],[],[],_,_=>trivial
 | (_,_)::_,_::_,_::_,⟨h1,h2,h3⟩,⟨k1,k2,k3⟩=>⟨h1.bound hb k1,h2.bound hb k2,MRel.bound hb h3 k3⟩
 | [],_::_,_,h,_=>h.elim
 | _::_,[],_,h,_=>h.elim
 | [],[],_::_,_,k=>k.elim
 | _::_,_::_,[],_,k=>k.elim
theorem CRel.bound {ψ φg:Phi} {M:Nat} (hb : ∀i im,φg i=some im->i<M) {c:List Value} {x y:Array Value} (h:CRel ψ c x) (k:CRel φg c y):CRel (cut ψ M) c x:=by
 intro j v hj
 obtain⟨v',h1,h2⟩:=h j v hj
 obtain⟨u,_,k2⟩:=k j v hj
 exact⟨v',h1,h2.bound hb k2⟩
theorem CRel.mono {φ ψ:Phi} (hle:φ.le ψ) {c:List Value} {x:Array Value} (h:CRel φ c x):CRel ψ c x:=by
 intro j v hj
 obtain⟨v',h1,h2⟩:=h j v hj
 exact⟨v',h1,h2.mono hle⟩
def isLoad:IOp->Bool | .load .. =>true|_=>false
def isAlloc:IOp->Bool | .alloc _ | .box _ | .buildSl .. | .makeSl .. | .makeMap=>true|_=>false
def isHeavy (io:IOp):Bool:=!(isPure io||isLoad io||isAlloc io)
theorem alloc_any {t:Fm} {h h':Heap} {io:IOp} {v:Value} (ha:isAlloc io=true) (hm:memV t h io=some (v,h')) :
  ∃b,b ≠ .gone/\h'=h.push b /\ ∀h2:Heap,h2.next=h.next->memV t h2 io=some (v,h2.push b):=by
 cases io<;>simp only[isAlloc,Bool.false_eq_true] at ha
 case alloc z =>
  simp only[memV,Option.some.injEq,Prod.mk.injEq] at hm
  obtain⟨rfl,rfl⟩:=hm
  exact⟨_,by simp,rfl,fun h2 hn=>by simp only[memV,hn]⟩
 case box x =>
  simp only[memV,Option.some.injEq,Prod.mk.injEq] at hm
  obtain⟨rfl,rfl⟩:=hm
  exact⟨_,by simp,rfl,fun h2 hn=>by simp only[memV,hn]⟩
 case buildSl len cells ps =>
  simp only[memV] at hm
  cases hf:fillP t ps cells with
  | none=>rw[hf] at hm;simp at hm
  | some c =>
   rw[hf] at hm
   simp only[Option.some.injEq,Prod.mk.injEq] at hm
   obtain⟨rfl,rfl⟩:=hm
   exact⟨_,by simp,rfl,fun h2 hn=>by simp only[memV,hf,hn]⟩
 case makeSl l c es eb z =>
  simp only[memV] at hm
  split at hm
  case h_2=>simp at hm
  rename_i l' c' hl hc
  obtain⟨g,hm⟩:=bif_some hm
  simp only[Option.some.injEq,Prod.mk.injEq] at hm
  obtain⟨rfl,rfl⟩:=hm
  exact⟨_,by simp,rfl,fun h2 hn=>by simp only[memV,hl,hc,g,cond_true,hn]⟩
 case makeMap =>
  simp only[memV,Option.some.injEq,Prod.mk.injEq] at hm
  obtain⟨rfl,rfl⟩:=hm
  exact⟨_,by simp,rfl,fun h2 hn=>by simp only[memV,hn]⟩
theorem isPure_not {io:IOp} (h:isPure io=true):isLoad io=false/\isAlloc io=false/\isMem io=false /\ ∀tt t,callee tt t io=none:=by
 cases io<;>first|(simp[isPure] at h;done)|exact⟨rfl,rfl,rfl,fun _ _=>rfl⟩
theorem isAlloc_not {io:IOp} (h:isAlloc io=true):isPure io=false /\ ∀tt t,callee tt t io=none:=by
 cases io<;>first|(simp[isAlloc] at h;done)|exact⟨rfl,fun _ _=>rfl⟩
theorem isLoad_not {io:IOp} (h:isLoad io=true):isPure io=false/\isAlloc io=false/\isMem io=true /\ ∀tt t,callee tt t io=none:=by
 cases io<;>first|(simp[isLoad] at h;done)|exact⟨rfl,rfl,rfl,fun _ _=>rfl⟩
theorem light_heap {P:Program} {tt:T TI} {t:Fm} {h h':Heap} {io:IOp} {v:Value} (hl:isHeavy io=false) (hr:OpRes P tt t h io v h') :
  (isAlloc io=false/\h'=h)\/(isAlloc io=true /\ ∃b,b ≠ .gone/\h'=h.push b /\ ∀h2:Heap,h2.next=h.next->OpRes P tt t h2 io v (h2.push b)):=by
 cases hp:isPure io with
 | true =>
  obtain⟨p1,p2,p3,p4⟩:=isPure_not hp
  rcases hr with ⟨_,_,rfl⟩|⟨hm,_⟩|⟨f,args,hc,_⟩
  ·exact .inl ⟨p2,rfl⟩
  ·rw[p3] at hm;simp at hm
  ·rw[p4] at hc;simp at hc
 | false =>
  cases hld:isLoad io with
  | true =>
   obtain⟨p1,p2,p3,p4⟩:=isLoad_not hld
   rcases hr with ⟨hq,_⟩|⟨_,hm⟩|⟨f,args,hc,_⟩
   ·rw[p1] at hq;simp at hq
   ·refine .inl ⟨p2,?_⟩
    cases io<;>simp only[isLoad,Bool.false_eq_true] at hld
    simp only[memV] at hm
    split at hm
    ·split at hm
     ·split at hm
      ·simp only[Option.some.injEq,Prod.mk.injEq] at hm;exact hm.2.symm
      ·simp at hm
     ·split at hm
      ·simp only[Option.some.injEq,Prod.mk.injEq] at hm;exact hm.2.symm
      ·simp at hm
    ·simp at hm
   ·rw[p4] at hc;simp at hc
  | false =>
   have ha:isAlloc io=true:=by simp[isHeavy,hp,hld] at hl;exact hl
   obtain⟨p1,p4⟩:=isAlloc_not ha
   rcases hr with ⟨hq,_⟩|⟨hi,hm⟩|⟨f,args,hc,_⟩
   ·rw[p1] at hq;simp at hq
   ·obtain⟨b,b1,b2,b3⟩:=alloc_any ha hm
    exact .inr ⟨ha,b,b1,b2,fun h2 hn => .inr (.inl ⟨hi,b3 h2 hn⟩)⟩
   ·rw[p4] at hc;simp at hc
inductive Bef (ops:Array Oper):Nat->Nat->Prop where
 | edge (i j:Nat) (o:Oper) (e:Edge) (ho:ops[i]?=some o) (he:e∈o.after) (hb:Region.binds .any e=true) (hj:e.on=j):Bef ops j i
 | trans (i j k:Nat) (h1:Bef ops i j) (h2:Bef ops j k):Bef ops i k
end Go.Ab
namespace Go.Ab
structure Plan (P:Program) (tt:T TI) (ops:Array Oper) (nt:Nat) (idx:Nat->Nat) (op:Nat->Oper) (cop:Nat->COp) (T:Nat->Fm) (H:Nat->Heap) (V:Nat->Value):Prop where
 get : ∀p,p<ops.size->ops[idx p]?=some (op p)
 ok : ∀p,p<ops.size->COk tt ops nt (op p) (cop p)
 step : ∀p,p<ops.size->StepC P tt (cop p) (T p) (H p) (V p) (T (p+1)) (H (p+1))
 inj : ∀p p',p<ops.size->p'<ops.size->idx p=idx p'->p=p'
 surj : ∀i,i<ops.size -> ∃p,p<ops.size/\idx p=i
 edge : ∀p,p<ops.size -> ∀e,e∈(op p).after->Region.binds .any e=true -> ∃p',p'<p/\idx p'=e.on
 rd : ∀p p',p<ops.size->p'<ops.size->p'≠p -> ∀k,k∈(cop p).reads (op p)->(cop p').dst=some k->(p'<p/\Bef ops (idx p') (idx p))\/(p<p'/\Bef ops (idx p) (idx p'))
 wr : ∀p p',p<ops.size->p'<ops.size->p≠p' -> ∀d,(cop p).dst=some d->(cop p').dst≠some d
 hv : ∀p p',p<p'->p'<ops.size->isHeavy (cop p').io=true->Bef ops (idx p) (idx p')
 ld : ∀p p',p'<p->p<ops.size->isLoad (cop p).io=true->isHeavy (cop p').io=true->wantedC (cop p) (T p)=true->Bef ops (idx p') (idx p)\/memV (T p) (H p') (cop p).io=some (V p,H p')
section
variable {P:Program} {tt:T TI} (hT:TOk P tt) {ops:Array Oper} {nt:Nat} {idx:Nat->Nat} {op:Nat->Oper} {cop:Nat->COp} {T:Nat->Fm} {H:Nat->Heap} {V:Nat->Value}
 (pl:Plan P tt ops nt idx op cop T H V) (hf0:Feas nt (T 0) (H 0))
include hT pl hf0
theorem Plan.feas : ∀p,p<=ops.size->Feas nt (T p) (H p)
 | 0,_=>hf0
 | p+1,h=>(feas_step hT (pl.get p h) (pl.ok p h) (pl.step p h) (Plan.feas p (Nat.le_of_succ_le h))).1
theorem Plan.next1 (p:Nat) (h:p<ops.size):(H p).next<=(H (p+1)).next :=
 (feas_step hT (pl.get p h) (pl.ok p h) (pl.step p h) (Plan.feas hT pl hf0 p (Nat.le_of_lt h))).2
theorem Plan.next_mono : ∀{p p':Nat},p<=p'->p'<=ops.size->(H p).next<=(H p').next:=by
 intro p p' h
 induction h with
 | refl=>intro _;exact Nat.le_refl _
 | step h ih=>intro h2;exact Nat.le_trans (ih (Nat.le_of_succ_le h2)) (Plan.next1 hT pl hf0 _ h2)
theorem Plan.none {p:Nat} (h:p<=ops.size) {i:Nat} (hi:(H p).next<=i):(H p).blks i=none:=by
 obtain⟨φ,a,w,_,h2,_⟩:=Plan.feas hT pl hf0 p h
 exact h2.none i hi
omit hT hf0 in
theorem Plan.tget1 {p' k:Nat} (hp':p'<ops.size) (hd:(cop p').dst=some k) : ∀{p:Nat},p'<p->p<=ops.size->T p k=V p':=by
 intro p h
 induction h with
 | refl =>
  intro _
  obtain⟨s1,_⟩:=pl.step p' hp'
  rw[s1,hd];simp[putT]
 | @step m h ih =>
  intro h2
  obtain⟨s1,_⟩:=pl.step m h2
  rw[s1]
  have hm:p'≠m:=Nat.ne_of_lt h
  have hnd:=pl.wr p' m hp' h2 hm k hd
  rw[<- ih (Nat.le_of_succ_le h2)]
  cases hmd:(cop m).dst with
  | none=>rfl
  | some d =>
   have hne:k≠d:=fun e=>hnd (by rw[hmd,e])
   have hb:Nat.beq k d=false:=by cases hb:Nat.beq k d<;>simp_all
   show(bif Nat.beq k d then V m else T m k)=_
   rw[hb];rfl
omit hT hf0 in
theorem Plan.tget0 {k:Nat} : ∀{p:Nat},p<=ops.size->(∀p',p'<p->(cop p').dst≠some k)->T p k=T 0 k
 | 0,_,_=>rfl
 | p+1,h,hn=>by
  obtain⟨s1,_⟩:=pl.step p h
  rw[s1,<-Plan.tget0 (p:=p) (Nat.le_of_succ_le h) fun p' hp'=>hn p' (Nat.lt_succ_of_lt hp')]
  cases hmd:(cop p).dst with
  | none=>rfl
  | some d =>
   have hne:k≠d:=fun e=>hn p (Nat.lt_succ_self p) (by rw[hmd,e])
   have hb:Nat.beq k d=false:=by cases hb:Nat.beq k d<;>simp_all
   show(bif Nat.beq k d then V p else T p k)=_
   rw[hb];rfl
end
def Late (n:Nat) (cop:Nat->COp) (T:Nat->Fm) (H:Nat->Heap) (p id:Nat):Prop:=p<n/\isAlloc (cop p).io=true/\wantedC (cop p) (T p)=true/\id=(H p).next
open Classical in
noncomputable def HC (n:Nat) (cop:Nat->COp) (T:Nat->Fm) (H:Nat->Heap) (q:Nat):Heap :=
 ⟨(H n).next,fun id=>if id<(H q).next then (H q).blks id else if h : ∃p,q<=p/\Late n cop T H p id then (H (Classical.choose h+1)).blks id else none⟩
section
variable {P:Program} {tt:T TI} (hT:TOk P tt) {ops:Array Oper} {nt:Nat} {idx:Nat->Nat} {op:Nat->Oper} {cop:Nat->COp} {T:Nat->Fm} {H:Nat->Heap} {V:Nat->Value}
 (pl:Plan P tt ops nt idx op cop T H V) (hf0:Feas nt (T 0) (H 0))
include pl in
theorem Plan.light {p:Nat} (h:p<ops.size) (hl:isHeavy (cop p).io=false) :
  (H (p+1)=H p /\ ¬∃id,Late ops.size cop T H p id)\/(Late ops.size cop T H p (H p).next /\ ∃b,b ≠ .gone/\H (p+1)=(H p).push b /\ ∀h2:Heap,h2.next=(H p).next->OpRes P tt (T p) h2 (cop p).io (V p) (h2.push b)):=by
 obtain⟨_,s2,s3⟩:=pl.step p h
 cases hw:wantedC (cop p) (T p) with
 | false=>exact .inl ⟨(s3 hw).2,fun⟨id,hL⟩=>by have:=hL.2.2.1;rw[hw] at this;simp at this⟩
 | true =>
  rcases light_heap hl (s2 hw) with ⟨h1,h2⟩|⟨h1,b,h2,h3,h4⟩
  ·exact .inl ⟨h2,fun⟨id,hL⟩=>by have:=hL.2.1;rw[h1] at this;simp at this⟩
  ·exact .inr ⟨⟨h,h1,hw,rfl⟩,b,h2,h3,h4⟩
omit pl in
theorem isAlloc_light {io:IOp} (h:isAlloc io=true):isHeavy io=false:=by simp[isHeavy,h]
include pl in
theorem Plan.late_next {p id:Nat} (hL:Late ops.size cop T H p id):(H (p+1)).next=id+1:=by
 rcases Plan.light pl hL.1 (isAlloc_light hL.2.1) with ⟨_,h2⟩|⟨_,b,_,h3,_⟩
 ·exact absurd ⟨id,hL⟩ h2
 ·rw[h3,hL.2.2.2];rfl
include hT pl hf0
theorem Plan.late_uniq {p p' id:Nat} (h1:Late ops.size cop T H p id) (h2:Late ops.size cop T H p' id):p=p':=by
 rcases Nat.lt_trichotomy p p' with h|h|h
 ·have e1:=Plan.late_next pl h1
  have e2:=Plan.next_mono hT pl hf0 (p:=p+1) (p':=p') h (Nat.le_of_lt h2.1)
  have e3:=h2.2.2.2
  omega
 ·exact h
 ·have e1:=Plan.late_next pl h2
  have e2:=Plan.next_mono hT pl hf0 (p:=p'+1) (p':=p) h (Nat.le_of_lt h1.1)
  have e3:=h1.2.2.2
  omega
theorem Plan.late_ge {q p id:Nat} (hq:q<=p) (h1:Late ops.size cop T H p id):(H q).next<=id/\id<(H ops.size).next:=by
 have e1:=Plan.next_mono hT pl hf0 hq (Nat.le_of_lt h1.1)
 have e2:=Plan.late_next pl h1
 have e3:=Plan.next_mono hT pl hf0 (p:=p+1) h1.1 (Nat.le_refl _)
 have e4:=h1.2.2.2
 omega
theorem HC_late {q p id:Nat} (hq:q<=p) (hL:Late ops.size cop T H p id):(HC ops.size cop T H q).blks id=(H (p+1)).blks id:=by
 have hge:=(Plan.late_ge hT pl hf0 hq hL).1
 have hex : ∃p,q<=p/\Late ops.size cop T H p id:=⟨p,hq,hL⟩
 show(if id<(H q).next then _ else _)=_
 rw[if_neg (by omega),dif_pos hex]
 have:=Plan.late_uniq hT pl hf0 (Classical.choose_spec hex).2 hL
 rw[this]
omit hT pl hf0 in
theorem HC_old {q id:Nat} (h:id<(H q).next):(HC ops.size cop T H q).blks id=(H q).blks id:=by
 show(if id<(H q).next then _ else _)=_
 rw[if_pos h]
omit hT pl hf0 in
theorem HC_some {q id:Nat} {b:Blk} (h:(HC ops.size cop T H q).blks id=some b):id<(H q).next \/ ∃p,q<=p/\Late ops.size cop T H p id:=by
 by_cases h1:id<(H q).next
 ·exact .inl h1
 ·by_cases h2 : ∃p,q<=p/\Late ops.size cop T H p id
  ·exact .inr h2
  ·have:(HC ops.size cop T H q).blks id=none:=by
    show(if id<(H q).next then _ else _)=_
    rw[if_neg h1,dif_neg h2]
   rw[this] at h;simp at h
theorem HC_none {q id:Nat} (hq:q<=ops.size) (h:(H ops.size).next<=id):(HC ops.size cop T H q).blks id=none:=by
 cases hb:(HC ops.size cop T H q).blks id with
 | none=>rfl
 | some b =>
  rcases HC_some hb with h1|⟨p,h1,h2⟩
  ·have:=Plan.next_mono hT pl hf0 hq (Nat.le_refl _);omega
  ·have:=(Plan.late_ge hT pl hf0 h1 h2).2;omega
theorem HC_at {q:Nat} : ∀{p:Nat},q<=p->p<=ops.size->(∀r,q<=r->r<p->isHeavy (cop r).io=false) -> ∀id,id<(H p).next->(HC ops.size cop T H q).blks id=(H p).blks id:=by
 intro p h
 induction h with
 | refl=>intro _ _ id hid;exact HC_old hid
 | @step m h ih =>
  intro h2 hl id hid
  have hm:m<ops.size:=h2
  have ih':=ih (Nat.le_of_lt hm) fun r h3 h4=>hl r h3 (Nat.lt_succ_of_lt h4)
  rcases Plan.light pl hm (hl m h (Nat.lt_succ_self m)) with ⟨h3,_⟩|⟨hL,b,_,h4,_⟩
  ·rw[h3] at hid ⊢;exact ih' id hid
  ·by_cases he:id=(H m).next
   ·subst he;exact HC_late hT pl hf0 h hL
   ·rw[h4] at hid ⊢
    have hid':id<(H m).next+1:=hid
    rw[Heap.get_push,if_neg he]
    exact ih' id (by omega)
omit hT hf0 pl in
theorem first_heavy (cop:Nat->COp) (q:Nat) : ∀p,q<=p->(∀r,q<=r->r<p->isHeavy (cop r).io=false) \/ ∃p1,q<=p1/\p1<p/\isHeavy (cop p1).io=true /\ ∀r,q<=r->r<p1->isHeavy (cop r).io=false:=by
 intro p h
 induction h with
 | refl=>exact .inl fun r h1 h2=>absurd h1 (by omega)
 | @step m h ih =>
  rcases ih with h1|⟨p1,h1,h2,h3,h4⟩
  ·cases hm:isHeavy (cop m).io with
   | false =>
    refine .inl fun r h2 h3=>?_
    by_cases he:r=m
    ·rw[he];exact hm
    ·exact h1 r h2 (by omega)
   | true=>exact .inr ⟨m,h,Nat.lt_succ_self m,hm,h1⟩
  ·exact .inr ⟨p1,h1,Nat.lt_succ_of_lt h2,h3,h4⟩
end
end Go.Ab
namespace Go.Ab
section
variable {P:Program} {tt:T TI} (hT:TOk P tt) {ops:Array Oper} {nt:Nat} {idx:Nat->Nat} {op:Nat->Oper} {cop:Nat->COp} {T:Nat->Fm} {H:Nat->Heap} {V:Nat->Value}
 (pl:Plan P tt ops nt idx op cop T H V) (hf0:Feas nt (T 0) (H 0)) (ds:List Deferred) (φ0:Phi) (w0:World)
def On (listed:Array Bool) (i:Nat):Prop:=listed.getD i false=true
theorem On.set {listed:Array Bool} {i j:Nat} (hi:i<listed.size):On (listed.setIfInBounds i true) j↔(j=i\/On listed j):=by
 unfold On
 simp only[Array.getD_eq_getD_getElem?,Array.getElem?_setIfInBounds]
 by_cases h:i=j
 ·subst h;simp[hi]
 ·rw[if_neg h]
  constructor
  ·exact .inr
  ·rintro(e|e)
   ·exact absurd e.symm h
   ·exact e
structure Tm (ops:Array Oper) (idx:Nat->Nat) (cop:Nat->COp) (T:Nat->Fm) (V:Nat->Value) (nt:Nat) (ds:List Deferred) (listed:Array Bool) (ψ:Phi) (a:Act):Prop where
 tm : ∀p,p<ops.size->On listed (idx p) -> ∀d,(cop p).dst=some d->VRel ψ (V p) (a.tmps.getD d undef)
 t0 : ∀k,(∀p,p<ops.size->On listed (idx p)->(cop p).dst≠some k)->VRel ψ (T 0 k) (a.tmps.getD k undef)
 sz:a.tmps.size=nt
 df:a.defers=ds
structure Es (ops:Array Oper) (idx:Nat->Nat) (cop:Nat->COp) (listed:Array Bool) (q:Nat):Prop where
 qle:q<=ops.size
 lsz:listed.size=ops.size
 pre : ∀p,p<q->On listed (idx p)
 nohe : ∀p,q<=p->p<ops.size->On listed (idx p)->isHeavy (cop p).io=false
 closed : ∀i j,Bef ops j i->On listed i->On listed j
structure Mem (ops:Array Oper) (idx:Nat->Nat) (cop:Nat->COp) (T:Nat->Fm) (H:Nat->Heap) (φ0:Phi) (w0:World) (listed:Array Bool) (q:Nat) (ψ:Phi) (w:World):Prop where
 hr:HRel ψ (HC ops.size cop T H q) w
 pdom : ∀id im,ψ id=some im->(H q).next<=id -> ∃p,q<=p/\On listed (idx p)/\Late ops.size cop T H p id
 pfull : ∀p id,q<=p->On listed (idx p)->Late ops.size cop T H p id -> ∃im,ψ id=some im
 qfull:Full ψ (H q)
 eold : ∀i,i<(H 0).next->ψ i=φ0 i
 efr : ∀b,b<w0.heap.size->(∀i im,(H 0).live i->φ0 i=some im->im.blk≠b)->w.heap[b]?=w0.heap[b]?
 enew : ∀i im,(HC ops.size cop T H q).live i->ψ i=some im->w0.heap.size<=im.blk \/ ∃j jm,(H 0).live j/\φ0 j=some jm/\jm.blk=im.blk
 esz:w0.heap.size<=w.heap.size
 eos:w.os=w0.os
 etape:w.tape=w0.tape
 eout:w.output=w0.output
 efz : ∀a,w.frozen? a=w0.frozen? a
def IsReady (ops:Array Oper) (listed:Array Bool) (i:Nat):Prop:=i<ops.size /\ ¬On listed i /\ ∀o,ops[i]?=some o -> ∀e,e∈o.after->Region.binds .any e=true->On listed e.on
theorem ready_is {listed:Array Bool} (hl:listed.size=ops.size) {i:Nat} (h:i∈Region.ready .any ops listed):IsReady ops listed i:=by
 simp only[Region.ready,List.mem_filter,List.mem_range,Bool.and_eq_true] at h
 obtain⟨h1,h2,h3⟩:=h
 have hi:i<listed.size:=by omega
 refine⟨h1,?_,?_⟩
 ·unfold On
  simp only[Array.getD_eq_getD_getElem?,Array.getElem?_eq_getElem hi,Option.getD_some] at h2 ⊢
  simpa using h2
 ·intro o ho e he hb
  rw[ho] at h3
  simp only[Option.map_some,Option.getD_some,Array.all_eq_true_iff_forall_mem] at h3
  have:=h3 e he
  rw[hb] at this
  simpa [On] using this
theorem bef_on {listed:Array Bool} {i:Nat} (hr:IsReady ops listed i) (hc : ∀i j,Bef ops j i->On listed i->On listed j) : ∀{j k:Nat},Bef ops j k->k=i->On listed j:=by
 intro j k hb
 induction hb with
 | edge i' j o e ho he hb hj=>rintro rfl;subst hj;exact hr.2.2 o ho e he hb
 | trans i' j' k' h1 h2 ih1 ih2=>rintro rfl;exact hc _ _ h1 (ih2 rfl)
include pl in
theorem Es.step {listed:Array Bool} {q p:Nat} (es:Es ops idx cop listed q) (hp:p<ops.size) (hr:IsReady ops listed (idx p)) :
  q<=p/\(isHeavy (cop p).io=false->Es ops idx cop (listed.setIfInBounds (idx p) true) q) /\
   (isHeavy (cop p).io=true->(∀r,r<p->On listed (idx r))/\Es ops idx cop (listed.setIfInBounds (idx p) true) (p+1)):=by
 have hi:idx p<listed.size:=by rw[es.lsz];exact hr.1
 have hq:q<=p:=by
  rcases Nat.lt_or_ge p q with h|h
  ·exact absurd (es.pre p h) hr.2.1
  ·exact h
 have hcl : ∀i j,Bef ops j i->On (listed.setIfInBounds (idx p) true) i->On (listed.setIfInBounds (idx p) true) j:=by
  intro i j hb h
  rw[On.set hi] at h ⊢
  rcases h with rfl|h
  ·exact .inr (bef_on hr es.closed hb rfl)
  ·exact .inr (es.closed i j hb h)
 have hsz:(listed.setIfInBounds (idx p) true).size=ops.size:=by simp[es.lsz]
 refine⟨hq,fun hl=>⟨es.qle,hsz,fun r h=>(On.set hi).2 (.inr (es.pre r h)),?_,hcl⟩,fun hh=>?_⟩
 ·intro r h1 h2 h3
  rcases(On.set hi).1 h3 with h|h
  ·rw[pl.inj r p h2 hp h];exact hl
  ·exact es.nohe r h1 h2 h
 ·have hall : ∀r,r<p->On listed (idx r):=fun r h=>bef_on hr es.closed (pl.hv r p h hp hh) rfl
  refine⟨hall,hp,hsz,?_,?_,hcl⟩
  ·intro r h
   rw[On.set hi]
   rcases Nat.lt_succ_iff_lt_or_eq.1 h with h|rfl
   ·exact .inr (hall r h)
   ·exact .inl rfl
  ·intro r h1 h2 h3
   rcases(On.set hi).1 h3 with h|h
   ·exact absurd (pl.inj r p h2 hp h) (by omega)
   ·exact es.nohe r (by omega) h2 h
include pl in
theorem Tm.step {listed:Array Bool} {p:Nat} {ψ ψ':Phi} {a:Act} (tm:Tm ops idx cop T V nt ds listed ψ a) (hl:listed.size=ops.size) (hp:p<ops.size) (hi:idx p<ops.size) (hle:ψ.le ψ')
  {v':Value} (hv:VRel ψ' (V p) v'):Tm ops idx cop T V nt ds (listed.setIfInBounds (idx p) true) ψ' (a.put (cop p).dst v'):=by
 have hi':idx p<listed.size:=by omega
 have get : ∀k,(cop p).dst≠some k->(a.put (cop p).dst v').tmps.getD k undef=a.tmps.getD k undef:=by
  intro k hk
  cases hd:(cop p).dst with
  | none=>rfl
  | some d =>
   have:=(pl.ok p hp).dlt d hd
   rw[put_get _ _ _ _ (by rw[tm.sz];exact this),if_neg (fun e=>hk (by rw[hd,e]))]
 refine⟨?_,?_,by rw[act_put_size];exact tm.sz,by rw[act_put_defers];exact tm.df⟩
 ·intro r hr hon d hd
  by_cases he:r=p
  ·subst he
   have:=(pl.ok r hp).dlt d hd
   rw[hd,put_get _ _ _ _ (by rw[tm.sz];exact this),if_pos rfl]
   exact hv
  ·rw[get d (pl.wr r p hr hp he d hd)]
   rcases(On.set hi').1 hon with h|h
   ·exact absurd (pl.inj r p hr hp h) he
   ·exact(tm.tm r hr h d hd).mono hle
 ·intro k hk
  rw[get k (hk p hp ((On.set hi').2 (.inl rfl)))]
  exact(tm.t0 k fun r hr hon=>hk r hr ((On.set hi').2 (.inr hon))).mono hle
include pl in
theorem Tm.reads {listed:Array Bool} {q p:Nat} {ψ:Phi} {a:Act} (tm:Tm ops idx cop T V nt ds listed ψ a) (es:Es ops idx cop listed q) (hp:p<ops.size) (hr:IsReady ops listed (idx p)) :
  ∀k,k∈(cop p).reads (op p)->VRel ψ (T p k) (a.tmps.getD k undef):=by
 intro k hk
 by_cases hex : ∃r,r<ops.size/\r≠p/\(cop r).dst=some k
 ·obtain⟨r,hr1,hr2,hr3⟩:=hex
  rcases pl.rd p r hp hr1 hr2 k hk hr3 with ⟨h1,h2⟩|⟨h1,h2⟩
  ·rw[Plan.tget1 pl hr1 hr3 h1 (Nat.le_of_lt hp)]
   exact tm.tm r hr1 (bef_on hr es.closed h2 rfl) k hr3
  ·rw[Plan.tget0 pl (Nat.le_of_lt hp) (fun s hs hd=>by
    have hne:s≠r:=by omega
    exact pl.wr s r (by omega) hr1 hne k hd hr3)]
   refine tm.t0 k fun s hs hon hd=>?_
   by_cases he:s=r
   ·subst he;exact hr.2.1 (es.closed _ _ h2 hon)
   ·exact pl.wr s r hs hr1 he k hd hr3
 ·have hno : ∀s,s<ops.size->s≠p->(cop s).dst≠some k:=fun s h1 h2 h3=>hex ⟨s,h1,h2,h3⟩
  rw[Plan.tget0 pl (Nat.le_of_lt hp) fun s hs=>hno s (by omega) (by omega)]
  refine tm.t0 k fun s hs hon=>hno s hs fun e=>?_
  subst e;exact hr.2.1 hon
end
end Go.Ab
namespace Go.Ab
section
variable {P:Program} {tt:T TI} (hT:TOk P tt) {ops:Array Oper} {nt:Nat} {idx:Nat->Nat} {op:Nat->Oper} {cop:Nat->COp} {T:Nat->Fm} {H:Nat->Heap} {V:Nat->Value}
 (pl:Plan P tt ops nt idx op cop T H V) (hf0:Feas nt (T 0) (H 0)) {φ0:Phi} {w0:World}
 {listed:Array Bool} {q:Nat} {ψ:Phi} {w:World}
theorem Mem.frame0 (m:Mem ops idx cop T H φ0 w0 listed q ψ w) {b:Nat} (hb:b<w0.heap.size) (hn : ∀i im,(H 0).live i->φ0 i=some im->im.blk≠b) :
  ∀i im,(HC ops.size cop T H q).live i->ψ i=some im->im.blk≠b:=by
 intro i im h1 h2 e
 rcases m.enew i im h1 h2 with h|⟨j,jm,k1,k2,k3⟩
 ·omega
 ·exact hn j jm k1 k2 (k3.trans e)
include pl in
theorem Mem.light (m:Mem ops idx cop T H φ0 w0 listed q ψ w) (es:Es ops idx cop listed q) {p:Nat} (hi:idx p<ops.size) (hp:p<ops.size) (hnl : ¬∃id,Late ops.size cop T H p id)
  {φ':Phi} {w':World} (hr:HRel φ' (HC ops.size cop T H q) w') (hx:Ext ψ (HC ops.size cop T H q) w φ' (HC ops.size cop T H q) w') :
  φ'=ψ/\Mem ops idx cop T H φ0 w0 (listed.setIfInBounds (idx p) true) q ψ w':=by
 have e:φ'=ψ:=by
  funext i
  by_cases h:i<(HC ops.size cop T H q).next
  ·exact hx.old i h
  ·have h1:φ' i=none:=by
    cases hh:φ' i with
    | none=>rfl
    | some im=>exact absurd (hr.dom i im hh).1 h
   have h2:ψ i=none:=by
    cases hh:ψ i with
    | none=>rfl
    | some im=>exact absurd (m.hr.dom i im hh).1 h
   rw[h1,h2]
 subst e
 have hi':idx p<listed.size:=by rw[es.lsz];exact hi
 refine⟨rfl,hr,?_,?_,m.qfull,m.eold,?_,m.enew,Nat.le_trans m.esz hx.size,hx.os.trans m.eos,hx.tape.trans m.etape,hx.output.trans m.eout,fun a=>(hx.frz a).trans (m.efz a)⟩
 ·intro id im h1 h2
  obtain⟨r,k1,k2,k3⟩:=m.pdom id im h1 h2
  exact⟨r,k1,(On.set hi').2 (.inr k2),k3⟩
 ·intro r id h1 h2 h3
  rcases(On.set hi').1 h2 with h|h
  ·rw[pl.inj r p h3.1 hp h] at h3;exact absurd ⟨id,h3⟩ hnl
  ·exact m.pfull r id h1 h h3
 ·intro b hb hn
  rw[hx.frame b (Nat.lt_of_lt_of_le hb m.esz) (m.frame0 hb hn)]
  exact m.efr b hb hn
include hT pl hf0 in
theorem Mem.late (m:Mem ops idx cop T H φ0 w0 listed q ψ w) (es:Es ops idx cop listed q) {p:Nat} (hr0:IsReady ops listed (idx p)) (hq:q<=p) (hL:Late ops.size cop T H p (H p).next) {b:Blk} (hb:b ≠ .gone)
  (hH:H (p+1)=(H p).push b) {φ':Phi} {w':World} (hr:HRel φ' ((⟨(H p).next,fun _=>none⟩:Heap).push b) w')
  (hx:Ext (cut ψ (H p).next) ⟨(H p).next,fun _=>none⟩ w φ' ((⟨(H p).next,fun _=>none⟩:Heap).push b) w') :
  ∃ψ',ψ.le ψ'/\φ'.le ψ'/\Mem ops idx cop T H φ0 w0 (listed.setIfInBounds (idx p) true) q ψ' w':=by
 have hp:=hL.1
 have hi':idx p<listed.size:=by rw[es.lsz];exact hr0.1
 have hge:=Plan.late_ge hT pl hf0 hq hL
 have hnew:ψ (H p).next=none:=by
  cases hh:ψ (H p).next with
  | none=>rfl
  | some im =>
   obtain⟨r,k1,k2,k3⟩:=m.pdom _ im hh hge.1
   have:=Plan.late_uniq hT pl hf0 k3 hL
   subst this
   exact absurd k2 hr0.2.1
 have hframe : ∀b,b<w.heap.size->w'.heap[b]?=w.heap[b]?:=fun b hb=>hx.frame b hb (fun i im hl=>by
  obtain⟨x,hx,_⟩:=hl;simp at hx)
 have hlivep:((⟨(H p).next,fun _=>none⟩:Heap).push b).live (H p).next:=⟨b,by rw[Heap.get_push,if_pos rfl],hb⟩
 obtain⟨im0,him0⟩:=hx.full (fun i hl=>by obtain⟨x,hx,_⟩:=hl;simp at hx) _ hlivep
 have hblk:w.heap.size<=im0.blk:=by
  rcases hx.new _ _ hlivep him0 with h|⟨j,jm,hl,_⟩
  ·exact h
  ·obtain⟨x,hx,_⟩:=hl;simp at hx
 have hdomp : ∀i im,φ' i=some im->i<(H p).next+1:=fun i im h=>(hr.dom i im h).1
 let ψ':Phi:=fun i=>if i=(H p).next then some im0 else ψ i
 have p0:ψ' (H p).next=some im0:=by simp[ψ']
 have p1 : ∀i,i≠(H p).next->ψ' i=ψ i:=fun i h=>by simp[ψ',h]
 have hle:ψ.le ψ':=by
  intro i im h
  by_cases he:i=(H p).next
  ·subst he;rw[hnew] at h;simp at h
  ·rw[p1 i he];exact h
 have hle':φ'.le ψ':=by
  intro i im h
  by_cases he:i=(H p).next
  ·subst he;rw[him0] at h;rw[p0];exact h
  ·rw[p1 i he]
   have hlt:=hdomp i im h
   have:=hx.old i (show i<(H p).next by omega)
   rw[this] at h
   exact cut_le _ _ i im h
 have hcell:(HC ops.size cop T H q).blks (H p).next=some b:=by
  rw[HC_late hT pl hf0 hq hL,hH,Heap.get_push,if_pos rfl]
 have hpb:((⟨(H p).next,fun _=>none⟩:Heap).push b).blks (H p).next=some b:=by rw[Heap.get_push,if_pos rfl]
 refine⟨ψ',hle,hle',⟨⟨?_,m.hr.none,?_,?_,?_⟩,?_,?_,?_,?_,?_,?_,Nat.le_trans m.esz hx.size,hx.os.trans m.eos,hx.tape.trans m.etape,hx.output.trans m.eout,fun a=>(hx.frz a).trans (m.efz a)⟩⟩
 ·intro i im h
  by_cases he:i=(H p).next
  ·subst he;rw[p0] at h;obtain rfl:=Option.some.inj h
   exact⟨hge.2,(hr.dom _ _ him0).2⟩
  ·rw[p1 i he] at h
   obtain⟨k1,k2⟩:=m.hr.dom i im h
   exact⟨k1,Nat.lt_of_lt_of_le k2 hx.size⟩
 ·intro i im c g h1 h2
  by_cases he:i=(H p).next
  ·subst he;rw[p0] at h1;obtain rfl:=Option.some.inj h1
   rw[hcell] at h2
   obtain⟨arr,e,k1,k2,k3⟩:=hr.cells _ _ c g him0 (by rw[hpb];exact h2)
   exact⟨arr,e,k1,k2.mono hle',k3⟩
  ·rw[p1 i he] at h1
   obtain⟨arr,e,k1,k2,k3⟩:=m.hr.cells i im c g h1 h2
   exact⟨arr,e,by rw[hframe _ (m.hr.dom i im h1).2];exact k1,k2.mono hle,k3⟩
 ·intro i im es' h1 h2
  by_cases he:i=(H p).next
  ·subst he;rw[p0] at h1;obtain rfl:=Option.some.inj h1
   rw[hcell] at h2
   obtain⟨ents,cl,k1,k2⟩:=hr.map _ _ es' him0 (by rw[hpb];exact h2)
   exact⟨ents,cl,k1,k2.mono hle'⟩
  ·rw[p1 i he] at h1
   obtain⟨ents,cl,k1,k2⟩:=m.hr.map i im es' h1 h2
   exact⟨ents,cl,by rw[hframe _ (m.hr.dom i im h1).2];exact k1,k2.mono hle⟩
 ·intro i j im jm hi hj h1 h2 h3
  by_cases he:i=(H p).next
  ·by_cases he2:j=(H p).next
   ·rw[he,he2]
   ·rw[he,p0] at h1;obtain rfl:=Option.some.inj h1
    rw[p1 j he2] at h2
    have:=(m.hr.dom j jm h2).2;omega
  ·rw[p1 i he] at h1
   by_cases he2:j=(H p).next
   ·rw[he2,p0] at h2;obtain rfl:=Option.some.inj h2
    have:=(m.hr.dom i im h1).2;omega
   ·rw[p1 j he2] at h2
    exact m.hr.inj i j im jm hi hj h1 h2 h3
 ·intro id im h1 h2
  by_cases he:id=(H p).next
  ·subst he;exact⟨p,hq,(On.set hi').2 (.inl rfl),hL⟩
  ·rw[p1 id he] at h1
   obtain⟨r,k1,k2,k3⟩:=m.pdom id im h1 h2
   exact⟨r,k1,(On.set hi').2 (.inr k2),k3⟩
 ·intro r id h1 h2 h3
  by_cases he:id=(H p).next
  ·subst he;exact⟨im0,p0⟩
  ·rw[p1 id he]
   rcases(On.set hi').1 h2 with h|h
   ·have:=pl.inj r p h3.1 hp h
    subst this
    exact absurd h3.2.2.2 he
   ·exact m.pfull r id h1 h h3
 ·intro i hl
  obtain⟨im,h⟩:=m.qfull i hl
  exact⟨im,hle i im h⟩
 ·intro i hi
  rw[p1 i (by have:=Plan.next_mono hT pl hf0 (Nat.zero_le p) (Nat.le_of_lt hp);omega)]
  exact m.eold i hi
 ·intro b' hb' hn
  rw[hframe _ (Nat.lt_of_lt_of_le hb' m.esz)]
  exact m.efr b' hb' hn
 ·intro i im hl h
  by_cases he:i=(H p).next
  ·subst he;rw[p0] at h;obtain rfl:=Option.some.inj h
   exact .inl (Nat.le_trans m.esz hblk)
  ·rw[p1 i he] at h;exact m.enew i im hl h
include hT pl hf0 in
theorem Mem.at (m:Mem ops idx cop T H φ0 w0 listed q ψ w) {p:Nat} (hq:q<=p) (hp:p<=ops.size) (hl : ∀r,q<=r->r<p->isHeavy (cop r).io=false) (hon : ∀r,q<=r->r<p->On listed (idx r)) :
  HRel (cut ψ (H p).next) (H p) w/\Full (cut ψ (H p).next) (H p):=by
 have hat:=HC_at hT pl hf0 hq hp hl
 obtain⟨φg,ag,wg,g1,g2,g3,g4⟩:=Plan.feas hT pl hf0 p hp
 have hgb : ∀i im,φg i=some im->i<(H p).next:=fun i im h=>(g2.dom i im h).1
 have hcut : ∀{i im},cut ψ (H p).next i=some im->ψ i=some im/\i<(H p).next:=by
  intro i im h
  unfold cut at h
  split at h
  ·exact⟨h,by assumption⟩
  ·simp at h
 have hlive : ∀i,(H p).live i->i<(H p).next:=by
  rintro i ⟨b,h,_⟩
  rcases Nat.lt_or_ge i (H p).next with h1|h1
  ·exact h1
  ·rw[Plan.none hT pl hf0 hp h1] at h;simp at h
 refine⟨⟨?_,fun i h=>Plan.none hT pl hf0 hp h,?_,?_,?_⟩,?_⟩
 ·intro i im h
  obtain⟨h1,h2⟩:=hcut h
  exact⟨h2,(m.hr.dom i im h1).2⟩
 ·intro i im c g h1 h2
  obtain⟨h1,h3⟩:=hcut h1
  obtain⟨arr,e,k1,k2,k3⟩:=m.hr.cells i im c g h1 (by rw[hat i h3];exact h2)
  obtain⟨img,hg⟩:=g4 i ⟨_,h2,by simp⟩
  obtain⟨arrg,eg,_,k5,_⟩:=g2.cells i img c g hg h2
  exact⟨arr,e,k1,k2.bound hgb k5,k3⟩
 ·intro i im es' h1 h2
  obtain⟨h1,h3⟩:=hcut h1
  obtain⟨ents,cl,k1,k2⟩:=m.hr.map i im es' h1 (by rw[hat i h3];exact h2)
  obtain⟨img,hg⟩:=g4 i ⟨_,h2,by simp⟩
  obtain⟨entsg,clg,_,k5⟩:=g2.map i img es' hg h2
  exact⟨ents,cl,k1,k2.bound hgb k5⟩
 ·intro i j im jm hi hj h1 h2 h3
  obtain⟨h1,h4⟩:=hcut h1
  obtain⟨h2,h5⟩:=hcut h2
  refine m.hr.inj i j im jm ?_ ?_ h1 h2 h3
  ·obtain⟨b,hb,hn⟩:=hi;exact⟨b,by rw[hat i h4];exact hb,hn⟩
  ·obtain⟨b,hb,hn⟩:=hj;exact⟨b,by rw[hat j h5];exact hb,hn⟩
 ·intro i hl2
  have hlt:=hlive i hl2
  obtain⟨b,hb,hn⟩:=hl2
  have hb':=hb
  rw[<- hat i hlt] at hb'
  by_cases h1:i<(H q).next
  ·have:(H q).live i:=⟨b,by rw[<- HC_old h1 (cop:=cop) (T:=T) (ops:=ops)];exact hb',hn⟩
   obtain⟨im,him⟩:=m.qfull i this
   exact⟨im,cut_some him hlt⟩
  ·rcases HC_some hb' with h2|⟨r,h2,h3⟩
   ·exact absurd h2 h1
   ·have hr:r<p:=by
     rcases Nat.lt_or_ge r p with h|h
     ·exact h
     ·have:=(Plan.late_ge hT pl hf0 h h3).1;omega
    obtain⟨im,him⟩:=m.pfull r i h2 (hon r h2 hr) h3
    exact⟨im,cut_some him hlt⟩
include hT pl hf0 in
theorem Mem.heavy (m:Mem ops idx cop T H φ0 w0 listed q ψ w) (es:Es ops idx cop listed q) {p:Nat} (hr0:IsReady ops listed (idx p)) (hq:q<=p) (hp:p<ops.size) (hhv:isHeavy (cop p).io=true)
  (hl : ∀r,q<=r->r<p->isHeavy (cop r).io=false) (hon : ∀r,q<=r->r<p->On listed (idx r)) {φ':Phi} {w':World} (hr:HRel φ' (H (p+1)) w')
  (hx:Ext (cut ψ (H p).next) (H p) w φ' (H (p+1)) w') :
  ∃ψ',ψ.le ψ'/\φ'.le ψ'/\Mem ops idx cop T H φ0 w0 (listed.setIfInBounds (idx p) true) (p+1) ψ' w':=by
 have hi':idx p<listed.size:=by rw[es.lsz];exact hr0.1
 have hat:=HC_at hT pl hf0 hq (Nat.le_of_lt hp) hl
 obtain⟨hm1,hm2⟩:=m.at hT pl hf0 hq (Nat.le_of_lt hp) hl hon
 have hnx:=Plan.next1 hT pl hf0 p hp
 have hq1:=Plan.next_mono hT pl hf0 hq (Nat.le_of_lt hp)
 have hpn:=Plan.next_mono hT pl hf0 (p:=p+1) hp (Nat.le_refl _)
 have hz:=Plan.next_mono hT pl hf0 (Nat.zero_le p) (Nat.le_of_lt hp)
 have hnotp : ∀id,¬Late ops.size cop T H p id:=fun id hL=>by
  have:=isAlloc_light hL.2.1;rw[hhv] at this;simp at this
 have hbeyond : ∀i im,ψ i=some im->(H p).next<=i->(H (p+1)).next<=i /\ ∃r,p+1<=r/\q<=r/\On listed (idx r)/\Late ops.size cop T H r i:=by
  intro i im h1 h2
  obtain⟨r,k1,k2,k3⟩:=m.pdom i im h1 (by omega)
  have hrp:p<r:=by
   rcases Nat.lt_trichotomy r p with h|h|h
   ·have e1:=Plan.late_next pl k3
    have e2:=Plan.next_mono hT pl hf0 (p:=r+1) (p':=p) h (Nat.le_of_lt hp)
    omega
   ·subst h;exact absurd k3 (hnotp i)
   ·exact h
  exact⟨(Plan.late_ge hT pl hf0 hrp k3).1,r,hrp,k1,k2,k3⟩
 let ψ':Phi:=fun i=>if i<(H (p+1)).next then φ' i else ψ i
 have p0 : ∀i,i<(H (p+1)).next->ψ' i=φ' i:=fun i h=>by simp[ψ',h]
 have p1 : ∀i,(H (p+1)).next<=i->ψ' i=ψ i:=fun i h=>by simp only[ψ'];rw[if_neg (by omega)]
 have hle':φ'.le ψ':=fun i im h=>by rw[p0 i (hr.dom i im h).1];exact h
 have hle:ψ.le ψ':=by
  intro i im h
  rcases Nat.lt_or_ge i (H p).next with h1|h1
  ·rw[p0 i (by omega),hx.old i h1];exact cut_some h h1
  ·rw[p1 i (hbeyond i im h h1).1];exact h
 have hlate : ∀i im,ψ i=some im->(H (p+1)).next<=i->(∀b,(HC ops.size cop T H (p+1)).blks i=some b->b ≠ .gone->w'.heap[im.blk]?=w.heap[im.blk]?)/\(HC ops.size cop T H (p+1)).blks i=(HC ops.size cop T H q).blks i:=by
  intro i im h1 h2
  obtain⟨_,r,k1,k2,k3,k4⟩:=hbeyond i im h1 (by omega)
  have heq:(HC ops.size cop T H (p+1)).blks i=(HC ops.size cop T H q).blks i:=by rw[HC_late hT pl hf0 k1 k4,HC_late hT pl hf0 k2 k4]
  refine⟨fun b hb hne=>hx.frame _ (m.hr.dom i im h1).2 fun j jm hj hjm he=>?_,heq⟩
  have hj1:ψ j=some jm/\j<(H p).next:=by
   unfold cut at hjm
   split at hjm
   ·exact⟨hjm,by assumption⟩
   ·simp at hjm
  have hjl:(HC ops.size cop T H q).live j:=by
   obtain⟨b2,hb2,hn2⟩:=hj
   exact⟨b2,by rw[hat j hj1.2];exact hb2,hn2⟩
  have hil:(HC ops.size cop T H q).live i:=⟨b,by rw[<- heq];exact hb,hne⟩
  have:=m.hr.inj j i jm im hjl hil hj1.1 h1 he
  omega
 have hold : ∀i,i<(H (p+1)).next->(HC ops.size cop T H (p+1)).blks i=(H (p+1)).blks i:=fun i h=>HC_old h
 refine⟨ψ',hle,hle',⟨⟨?_,fun i h=>HC_none hT pl hf0 hp h,?_,?_,?_⟩,?_,?_,?_,?_,?_,?_,Nat.le_trans m.esz hx.size,hx.os.trans m.eos,hx.tape.trans m.etape,hx.output.trans m.eout,fun a=>(hx.frz a).trans (m.efz a)⟩⟩
 ·intro i im h
  rcases Nat.lt_or_ge i (H (p+1)).next with h1|h1
  ·rw[p0 i h1] at h
   exact⟨Nat.lt_of_lt_of_le h1 hpn,(hr.dom i im h).2⟩
  ·rw[p1 i h1] at h
   obtain⟨k1,k2⟩:=m.hr.dom i im h
   exact⟨k1,Nat.lt_of_lt_of_le k2 hx.size⟩
 ·intro i im c g h1 h2
  rcases Nat.lt_or_ge i (H (p+1)).next with h3|h3
  ·rw[p0 i h3] at h1
   rw[hold i h3] at h2
   obtain⟨arr,e,k1,k2,k3⟩:=hr.cells i im c g h1 h2
   exact⟨arr,e,k1,k2.mono hle',k3⟩
  ·rw[p1 i h3] at h1
   obtain⟨f1,f2⟩:=hlate i im h1 h3
   obtain⟨arr,e,k1,k2,k3⟩:=m.hr.cells i im c g h1 (by rw[<- f2];exact h2)
   exact⟨arr,e,by rw[f1 _ h2 (by simp)];exact k1,k2.mono hle,k3⟩
 ·intro i im es' h1 h2
  rcases Nat.lt_or_ge i (H (p+1)).next with h3|h3
  ·rw[p0 i h3] at h1
   rw[hold i h3] at h2
   obtain⟨ents,cl,k1,k2⟩:=hr.map i im es' h1 h2
   exact⟨ents,cl,k1,k2.mono hle'⟩
  ·rw[p1 i h3] at h1
   obtain⟨f1,f2⟩:=hlate i im h1 h3
   obtain⟨ents,cl,k1,k2⟩:=m.hr.map i im es' h1 (by rw[<- f2];exact h2)
   exact⟨ents,cl,by rw[f1 _ h2 (by simp)];exact k1,k2.mono hle⟩
 ·have mixed : ∀i j im jm,(HC ops.size cop T H (p+1)).live i->(HC ops.size cop T H (p+1)).live j->i<(H (p+1)).next->(H (p+1)).next<=j->φ' i=some im->ψ j=some jm->im.blk=jm.blk->False:=by
   intro i j im jm hi hj h1 h2 h3 h4 h5
   have hil:(H (p+1)).live i:=by obtain⟨b,hb,hn⟩:=hi;exact⟨b,by rw[<- hold i h1];exact hb,hn⟩
   have hjl:(HC ops.size cop T H q).live j:=by obtain⟨b,hb,hn⟩:=hj;exact⟨b,by rw[<- (hlate j jm h4 h2).2];exact hb,hn⟩
   have hjb:=(m.hr.dom j jm h4).2
   rcases hx.new i im hil h3 with h|⟨k,km,g1,g2,g3⟩
   ·omega
   ·have hk:ψ k=some km/\k<(H p).next:=by
     unfold cut at g2
     split at g2
     ·exact⟨g2,by assumption⟩
     ·simp at g2
    have hkl:(HC ops.size cop T H q).live k:=by obtain⟨b,hb,hn⟩:=g1;exact⟨b,by rw[hat k hk.2];exact hb,hn⟩
    have:=m.hr.inj k j km jm hkl hjl hk.1 h4 (g3.trans h5)
    omega
  intro i j im jm hi hj h1 h2 h3
  rcases Nat.lt_or_ge i (H (p+1)).next with h4|h4
  ·rw[p0 i h4] at h1
   rcases Nat.lt_or_ge j (H (p+1)).next with h5|h5
   ·rw[p0 j h5] at h2
    refine hr.inj i j im jm ?_ ?_ h1 h2 h3
    ·obtain⟨b,hb,hn⟩:=hi;exact⟨b,by rw[<- hold i h4];exact hb,hn⟩
    ·obtain⟨b,hb,hn⟩:=hj;exact⟨b,by rw[<- hold j h5];exact hb,hn⟩
   ·rw[p1 j h5] at h2
    exact(mixed i j im jm hi hj h4 h5 h1 h2 h3).elim
  ·rw[p1 i h4] at h1
   rcases Nat.lt_or_ge j (H (p+1)).next with h5|h5
   ·rw[p0 j h5] at h2
    exact(mixed j i jm im hj hi h5 h4 h2 h1 h3.symm).elim
   ·rw[p1 j h5] at h2
    refine m.hr.inj i j im jm ?_ ?_ h1 h2 h3
    ·obtain⟨b,hb,hn⟩:=hi;exact⟨b,by rw[<- (hlate i im h1 h4).2];exact hb,hn⟩
    ·obtain⟨b,hb,hn⟩:=hj;exact⟨b,by rw[<- (hlate j jm h2 h5).2];exact hb,hn⟩
 ·intro id im h1 h2
  rw[p1 id h2] at h1
  obtain⟨_,r,k1,k2,k3,k4⟩:=hbeyond id im h1 (by omega)
  exact⟨r,k1,(On.set hi').2 (.inr k3),k4⟩
 ·intro r id h1 h2 h3
  rcases(On.set hi').1 h2 with h|h
  ·have:=pl.inj r p h3.1 hp h;omega
  ·obtain⟨im,him⟩:=m.pfull r id (by omega) h h3
   exact⟨im,hle id im him⟩
 ·intro i hl2
  obtain⟨im,him⟩:=hx.full hm2 i hl2
  exact⟨im,hle' i im him⟩
 ·intro i hi
  rw[p0 i (by omega),hx.old i (by omega)]
  show(if i<(H p).next then ψ i else none)=_
  rw[if_pos (by omega)]
  exact m.eold i hi
 ·intro b hb hn
  rw[hx.frame b (Nat.lt_of_lt_of_le hb m.esz) fun i im h1 h2=>?_]
  ·exact m.efr b hb hn
  ·have hi:ψ i=some im/\i<(H p).next:=by
    unfold cut at h2
    split at h2
    ·exact⟨h2,by assumption⟩
    ·simp at h2
   obtain⟨b2,hb2,hn2⟩:=h1
   exact m.frame0 hb hn i im ⟨b2,by rw[hat i hi.2];exact hb2,hn2⟩ hi.1
 ·intro i im hl2 h
  rcases Nat.lt_or_ge i (H (p+1)).next with h1|h1
  ·rw[p0 i h1] at h
   have hil:(H (p+1)).live i:=by obtain⟨b,hb,hn⟩:=hl2;exact⟨b,by rw[<- hold i h1];exact hb,hn⟩
   rcases hx.new i im hil h with h2|⟨k,km,g1,g2,g3⟩
   ·exact .inl (Nat.le_trans m.esz h2)
   ·have hk:ψ k=some km/\k<(H p).next:=by
     unfold cut at g2
     split at g2
     ·exact⟨g2,by assumption⟩
     ·simp at g2
    have hkl:(HC ops.size cop T H q).live k:=by obtain⟨b,hb,hn⟩:=g1;exact⟨b,by rw[hat k hk.2];exact hb,hn⟩
    rcases m.enew k km hkl hk.1 with h3|⟨j,jm,j1,j2,j3⟩
    ·exact .inl (g3▸h3)
    ·exact .inr ⟨j,jm,j1,j2,j3.trans g3⟩
  ·rw[p1 i h1] at h
   refine m.enew i im ?_ h
   obtain⟨b,hb,hn⟩:=hl2;exact⟨b,by rw[<- (hlate i im h h1).2];exact hb,hn⟩
end
end Go.Ab
namespace Go.Ab
theorem load_any {t:Fm} {h h':Heap} {io:IOp} {v:Value} (hl:isLoad io=true) (hm:memV t h io=some (v,h')) :
  h'=h /\ ∃b,h.blks b≠none /\ ∀h2:Heap,h2.blks b=h.blks b->memV t h2 io=some (v,h2):=by
 cases io<;>simp only[isLoad,Bool.false_eq_true] at hl
 rename_i n x
 simp only[memV] at hm
 split at hm
 case h_2=>simp at hm
 rename_i a hx
 split at hm
 ·split at hm
  case h_2=>simp at hm
  rename_i u hu
  simp only[Option.some.injEq,Prod.mk.injEq] at hm
  obtain⟨rfl,rfl⟩:=hm
  refine⟨rfl,a.block,?_,fun h2 he=>?_⟩
  ·intro hn;unfold Heap.load1 at hu;rw[hn] at hu;simp at hu
  ·have:h2.load1 a=h.load1 a:=by unfold Heap.load1;rw[he]
   simp only[memV,hx,this,hu]
 ·split at hm
  case h_2=>simp at hm
  rename_i u hu
  simp only[Option.some.injEq,Prod.mk.injEq] at hm
  obtain⟨rfl,rfl⟩:=hm
  refine⟨rfl,a.block,?_,fun h2 he=>?_⟩
  ·intro hn;unfold Heap.loadN at hu;rw[hn] at hu;simp at hu
  ·have : ∀k,h2.loadN a k=h.loadN a k:=fun k=>by unfold Heap.loadN;rw[he]
   simp only[memV,hx,this,hu]
section
variable {P:Program} {tt:T TI} (hT:TOk P tt) {ops:Array Oper} {nt:Nat} {idx:Nat->Nat} {op:Nat->Oper} {cop:Nat->COp} {T:Nat->Fm} {H:Nat->Heap} {V:Nat->Value}
 (pl:Plan P tt ops nt idx op cop T H V) (hf0:Feas nt (T 0) (H 0)) {ds:List Deferred} {φ0:Phi} {w0:World}
def Way (ops:Array Oper) (nt:Nat) (idx:Nat->Nat) (cop:Nat->COp) (T:Nat->Fm) (H:Nat->Heap) (V:Nat->Value) (ds:List Deferred) (φ0:Phi) (w0:World) (listed:Array Bool) (a:Act) (w:World):Prop :=
 ∃q ψ,Es ops idx cop listed q/\Tm ops idx cop T V nt ds listed ψ a/\Mem ops idx cop T H φ0 w0 listed q ψ w
theorem call_heavy {tt:Go.Ab.T TI} {t:Fm} {io:IOp} (h:isHeavy io=false):callee tt t io=none:=by
 cases hp:isPure io with
 | true=>exact(isPure_not hp).2.2.2 tt t
 | false =>
  cases hl:isLoad io with
  | true=>exact(isLoad_not hl).2.2.2 tt t
  | false=>exact(isAlloc_not (by simp[isHeavy,hp,hl] at h;exact h)).2 tt t
include hT pl hf0 in
theorem way_step {listed:Array Bool} {a:Act} {w:World} (hw:Way ops nt idx cop T H V ds φ0 w0 listed a w) {i:Nat} (hr:IsReady ops listed i) {Q:Exit->Act->World->Prop} :
  wpOp P ops Q i (fun a w=>Way ops nt idx cop T H V ds φ0 w0 (listed.setIfInBounds i true) a w) a w:=by
 obtain⟨q,ψ,es,tm,m⟩:=hw
 obtain⟨p,hp,rfl⟩:=pl.surj i hr.1
 obtain⟨hq,es1,es2⟩:=Es.step pl es hp hr
 have hrd:=Tm.reads pl ds tm es hp hr
 have hk:=pl.ok p hp
 have hrdo : ∀k,k∈tmpsOf (op p).op.operands.toList->VRel ψ (T p k) (a.tmps.getD k undef):=fun k h=>hrd k (by simp[COp.reads,h])
 obtain⟨φg,ag,wg,g1,g2,g3,g4⟩:=Plan.feas hT pl hf0 p (Nat.le_of_lt hp)
 have hgb : ∀i im,φg i=some im->i<(H p).next:=fun i im h=>(g2.dom i im h).1
 have hrdc : ∀k,k∈tmpsOf (op p).op.operands.toList->VRel (cut ψ (H p).next) (T p k) (a.tmps.getD k undef):=fun k h=>(hrdo k h).bound hgb (g1 k)
 obtain⟨_,s2,s3⟩:=pl.step p hp
 have hwant:Region.wanted (op p) (yielded ops a.tmps)=wantedC (cop p) (T p):=wanted_eq hk tm.sz fun d g h=>hrd d (by simp[COp.reads,h])
 have tmstep : ∀{ψ':Phi} {v':Value},ψ.le ψ'->VRel ψ' (V p) v'->Tm ops idx cop T V nt ds (listed.setIfInBounds (idx p) true) ψ' (a.put (cop p).dst v') :=
  fun hle hv=>Tm.step pl ds tm es.lsz hp hr.1 hle hv
 cases hhv:isHeavy (cop p).io with
 | true =>
  obtain⟨hall,es'⟩:=es2 hhv
  have hl : ∀r,q<=r->r<p->isHeavy (cop r).io=false:=fun r h1 h2=>es.nohe r h1 (by omega) (hall r h2)
  have hon : ∀r,q<=r->r<p->On listed (idx r):=fun r _ h2=>hall r h2
  obtain⟨hm1,hm2⟩:=m.at hT pl hf0 hq (Nat.le_of_lt hp) hl hon
  refine wpOp_of (pl.get p hp) hk hwant (fun hb=>op_sound' hT (op p) hk.okx hk.comp hk.sub (s2 hb) hrdc hm1 fun _=>hm2) ?_ ?_
  ·intro _ φ' v' w' hv hh hx
   obtain⟨ψ',k1,k2,k3⟩:=m.heavy hT pl hf0 es hr hq hp hhv hl hon hh hx
   exact⟨p+1,ψ',es',tmstep k1 (hv.mono k2),k3⟩
  ·intro hb
   obtain⟨e1,e2⟩:=s3 hb
   obtain⟨ψ',k1,k2,k3⟩:=m.heavy hT pl hf0 es hr hq hp hhv hl hon (by rw[e2];exact hm1) (by rw[e2];exact .refl _ _ _)
   exact⟨p+1,ψ',es',tmstep k1 (by rw[e1];exact undef_rel _),k3⟩
 | false =>
  have es':=es1 hhv
  rcases Plan.light pl hp hhv with ⟨hsame,hnl⟩|⟨hL,b,hb,hH,hany⟩
  ·
   have hrun:wantedC (cop p) (T p)=true->OpRes P tt (T p) (HC ops.size cop T H q) (cop p).io (V p) (HC ops.size cop T H q):=by
    intro hwt
    have hres:=s2 hwt
    rw[hsame] at hres
    rcases hres with ⟨h1,h2,_⟩|⟨h1,h2⟩|⟨f,args,h1,_⟩
    ·exact .inl ⟨h1,h2,rfl⟩
    ·have hld:isLoad (cop p).io=true:=by
      cases hld:isLoad (cop p).io with
      | true=>rfl
      | false =>
       have hpu:isPure (cop p).io=false:=by
        cases hpu:isPure (cop p).io with
        | false=>rfl
        | true=>have:=(isPure_not hpu).2.2.1;rw[h1] at this;simp at this
       have hal:isAlloc (cop p).io=true:=by simp[isHeavy,hpu,hld] at hhv;exact hhv
       exact absurd ⟨(H p).next,hp,hal,hwt,rfl⟩ hnl
     have key : ∀r,q<=r->r<=ops.size->(∀s,q<=s->s<r->isHeavy (cop s).io=false)->memV (T p) (H r) (cop p).io=some (V p,H r) ->
       memV (T p) (HC ops.size cop T H q) (cop p).io=some (V p,HC ops.size cop T H q):=by
      intro r hr1 hr2 hr3 hr4
      obtain⟨_,blk,hb1,hb2⟩:=load_any hld hr4
      refine hb2 _ (HC_at hT pl hf0 hr1 hr2 hr3 blk ?_)
      rcases Nat.lt_or_ge blk (H r).next with h|h
      ·exact h
      ·exact absurd (Plan.none hT pl hf0 hr2 h) hb1
     refine .inr (.inl ⟨h1,?_⟩)
     rcases first_heavy cop q p hq with hno|⟨p1,f1,f2,f3,f4⟩
     ·exact key p hq (Nat.le_of_lt hp) hno h2
     ·rcases pl.ld p p1 f2 hp hld f3 hwt with hbef|hm1
      ·have:=bef_on hr es.closed hbef rfl
       have:=es.nohe p1 f1 (by omega) this
       rw[f3] at this;simp at this
      ·exact key p1 f1 (by omega) f4 hm1
    ·rw[call_heavy hhv] at h1;simp at h1
   refine wpOp_of (pl.get p hp) hk hwant (fun hb=>op_sound' hT (op p) hk.okx hk.comp hk.sub (hrun hb) hrdo m.hr fun hc=>absurd (call_heavy hhv) hc) ?_ ?_
   ·intro _ φ' v' w' hv hh hx
    obtain⟨rfl,k3⟩:=m.light pl es hr.1 hp hnl hh hx
    exact⟨q,φ',es',tmstep (fun _ _ h=>h) hv,k3⟩
   ·intro hb
    obtain⟨e1,e2⟩:=s3 hb
    obtain⟨_,k3⟩:=m.light pl es hr.1 hp hnl m.hr (.refl _ _ _)
    exact⟨q,ψ,es',tmstep (fun _ _ h=>h) (by rw[e1];exact undef_rel _),k3⟩
  ·
   have htriv:HRel (cut ψ (H p).next) ⟨(H p).next,fun _=>none⟩ w:=by
    refine⟨?_,fun _ _=>rfl,by simp,by simp,?_⟩
    ·intro i im h
     unfold cut at h
     split at h
     ·exact⟨by assumption,(m.hr.dom i im h).2⟩
     ·simp at h
    ·rintro i j im jm ⟨x,hx,_⟩;simp at hx
   refine wpOp_of (pl.get p hp) hk hwant (fun _=>op_sound' hT (op p) hk.okx hk.comp hk.sub (hany ⟨(H p).next,fun _=>none⟩ rfl) hrdc htriv fun hc=>absurd (call_heavy hhv) hc) ?_ ?_
   ·intro _ φ' v' w' hv hh hx
    obtain⟨ψ',k1,k2,k3⟩:=m.late hT pl hf0 es hr hq hL hb hH hh hx
    exact⟨q,ψ',es',tmstep k1 (hv.mono k2),k3⟩
   ·intro hb2
    have:=hL.2.2.1;rw[hb2] at this;simp at this
def toCome (listed:Array Bool):List Nat->Nat
 | []=>0
 | i::l=>(if listed.getD i false then 0 else 1)+toCome listed l
theorem toCome_le (listed:Array Bool) (i:Nat) (hi:i<listed.size) : ∀l,toCome (listed.setIfInBounds i true) l<=toCome listed l
 | []=>Nat.le_refl _
 | j::l=>by
  have ih:=toCome_le listed i hi l
  have:=(On.set (listed:=listed) (j:=j) hi)
  unfold On at this
  simp only[toCome]
  by_cases h1:listed.getD j false=true
  ·rw[if_pos h1,if_pos (this.2 (.inr h1))];omega
  ·rw[if_neg h1];split<;>omega
theorem toCome_lt (listed:Array Bool) (i:Nat) (hi:i<listed.size) (hn : ¬On listed i) : ∀l,i∈l->toCome (listed.setIfInBounds i true) l<toCome listed l
 | [],h=>by simp at h
 | j::l,h=>by
  have ih:=toCome_le listed i hi l
  simp only[toCome]
  by_cases he:j=i
  ·subst he
   have h1:=(On.set (listed:=listed) (i:=j) (j:=j) hi).2 (.inl rfl)
   unfold On at h1 hn
   rw[if_pos h1,if_neg hn];omega
  ·have hm:i∈l:=by rcases List.mem_cons.1 h with h|h;exact absurd h.symm he;exact h
   have ih2:=toCome_lt listed i hi hn l hm
   have:=(On.set (listed:=listed) (j:=j) hi)
   unfold On at this
   by_cases h1:listed.getD j false=true
   ·rw[if_pos h1,if_pos (this.2 (.inr h1))];omega
   ·rw[if_neg h1];split<;>omega
theorem toCome_zero (listed:Array Bool) : ∀l,toCome listed l=0 -> ∀i,i∈l->On listed i
 | [],_,i,h=>by simp at h
 | j::l,h0,i,h=>by
  simp only[toCome] at h0
  have h1:toCome listed l=0:=by omega
  rcases List.mem_cons.1 h with rfl|h
  ·unfold On
   by_cases h2:listed.getD i false=true
   ·exact h2
   ·rw[if_neg h2] at h0;omega
  ·exact toCome_zero listed l h1 i h
include pl in
theorem all_on {listed:Array Bool} (hl:listed.size=ops.size) (hn:Region.ready .any ops listed = []) : ∀p,p<ops.size->On listed (idx p):=by
 intro p
 induction p using Nat.strongRecOn with
 | _ p ih =>
  intro hp
  rcases Classical.em (On listed (idx p)) with h|h
  ·exact h
  ·exfalso
   have hget:=pl.get p hp
   have hi:idx p<ops.size:=(Array.getElem?_eq_some_iff.1 hget).1
   have hmem:idx p∈Region.ready .any ops listed:=by
    simp only[Region.ready,List.mem_filter,List.mem_range,Bool.and_eq_true]
    refine⟨hi,?_,?_⟩
    ·have hlt:idx p<listed.size:=by omega
     unfold On at h
     simp only[Array.getD_eq_getD_getElem?,Array.getElem?_eq_getElem hlt,Option.getD_some] at h ⊢
     simpa using h
    ·rw[hget]
     simp only[Option.map_some,Option.getD_some,Array.all_eq_true_iff_forall_mem]
     intro e he
     cases hb:Region.binds .any e with
     | false=>rfl
     | true =>
      obtain⟨p',hp',hidx⟩:=pl.edge p hp e he hb
      have:=ih p' hp' (by omega)
      rw[hidx] at this
      simpa [On] using this
   rw[hn] at hmem;simp at hmem
include hT pl hf0 in
theorem way_end {listed:Array Bool} {a:Act} {w:World} (hd : ∀i im,φ0 i=some im->i<(H 0).next) (hw:Way ops nt idx cop T H V ds φ0 w0 listed a w) (hall : ∀p,p<ops.size->On listed (idx p)) :
  ∃φ',SRel nt ds φ' (T ops.size) (H ops.size) a w/\Ext φ0 (H 0) w0 φ' (H ops.size) w:=by
 obtain⟨q,ψ,es,tm,m⟩:=hw
 have hl : ∀r,q<=r->r<ops.size->isHeavy (cop r).io=false:=fun r h1 h2=>es.nohe r h1 h2 (hall r h2)
 obtain⟨h1,h2⟩:=m.at hT pl hf0 es.qle (Nat.le_refl _) hl (fun r _ h=>hall r h)
 have hat:=HC_at hT pl hf0 es.qle (Nat.le_refl _) hl
 have hcut:cut ψ (H ops.size).next=ψ:=by
  funext i
  unfold cut
  by_cases hi:i<(H ops.size).next
  ·rw[if_pos hi]
  ·rw[if_neg hi]
   cases hh:ψ i with
   | none=>rfl
   | some im=>exact absurd (m.hr.dom i im hh).1 hi
 rw[hcut] at h1 h2
 refine⟨ψ,⟨fun k=>?_,h1,tm.sz,tm.df,h2⟩,?_⟩
 ·show VRel ψ (T ops.size k) _
  by_cases hex : ∃p,p<ops.size/\(cop p).dst=some k
  ·obtain⟨p,hp,hd⟩:=hex
   rw[Plan.tget1 pl hp hd hp (Nat.le_refl _)]
   exact tm.tm p hp (hall p hp) k hd
  ·rw[Plan.tget0 pl (Nat.le_refl _) fun p hp hd=>hex ⟨p,hp,hd⟩]
   exact tm.t0 k fun p hp _ hd=>hex ⟨p,hp,hd⟩
 ·refine⟨?_,m.efr,?_,m.esz,Plan.next_mono hT pl hf0 (Nat.zero_le _) (Nat.le_refl _),m.eos,m.etape,m.eout,m.eold,fun _=>h2,m.efz⟩
  ·intro i im h
   rw[m.eold i (hd i im h)];exact h
  ·intro i im hl2 h
   refine m.enew i im ?_ h
   obtain⟨b,hb,hn⟩:=hl2
   exact⟨b,by rw[hat i (h1.dom i im h).1];exact hb,hn⟩
include hT pl hf0 in
theorem way_any (hd : ∀i im,φ0 i=some im->i<(H 0).next) {Q:Exit->Act->World->Prop} (hQ : ∀φ' a' w',SRel nt ds φ' (T ops.size) (H ops.size) a' w'->Ext φ0 (H 0) w0 φ' (H ops.size) w'->Q .normal a' w') :
  ∀(fuel:Nat) (listed:Array Bool) (a:Act) (w:World),listed.size=ops.size->toCome listed (List.range ops.size)<=fuel->Way ops nt idx cop T H V ds φ0 w0 listed a w->wpAny P .any ops Q fuel listed a w
 | 0,listed,a,w,hl,hf,hw=>by
  have hz:=toCome_zero listed (List.range ops.size) (Nat.le_zero.1 hf)
  have hall : ∀p,p<ops.size->On listed (idx p):=fun p hp=>hz _ (List.mem_range.2 (Array.getElem?_eq_some_iff.1 (pl.get p hp)).1)
  refine⟨?_,?_⟩
  ·have : ∀i,i∉Region.ready .any ops listed:=fun i h=>by
    have hr:=ready_is hl h
    exact hr.2.1 (hz i (List.mem_range.2 hr.1))
   exact List.eq_nil_iff_forall_not_mem.2 this
  ·obtain⟨φ',h1,h2⟩:=way_end hT pl hf0 hd hw hall
   exact hQ φ' a w h1 h2
 | fuel+1,listed,a,w,hl,hf,hw=>by
  refine⟨fun hn=>?_,fun i hi=>?_⟩
  ·obtain⟨φ',h1,h2⟩:=way_end hT pl hf0 hd hw (all_on pl hl hn)
   exact hQ φ' a w h1 h2
  ·have hr:=ready_is hl hi
   refine wpOp_mono ?_ (way_step hT pl hf0 hw hr)
   intro a' w' hw'
   have hlt:=toCome_lt listed i (by rw[hl];exact hr.1) hr.2.1 (List.range ops.size) (List.mem_range.2 hr.1)
   exact way_any hd hQ fuel _ a' w' (by simp[hl]) (by omega) hw'
include hT pl in
theorem drawn_sound {id:Nat} (hm:P.follows .mixedOrders=true) {Q:Exit->Act->World->Prop} {a:Act} {w:World} (hr:SRel nt ds φ0 (T 0) (H 0) a w)
  (hQ : ∀φ' a' w',SRel nt ds φ' (T ops.size) (H ops.size) a' w'->Ext φ0 (H 0) w φ' (H ops.size) w'->Q .normal a' w'):(Code.region id ops true).wp P Q a w:=by
 obtain⟨h1,h2,h3,h4,h5⟩:=hr
 have hf0:Feas nt (T 0) (H 0):=⟨φ0,a,w,h1,h2,h3,h5⟩
 refine wp_region_any hm ?_
 have hd : ∀i im,φ0 i=some im->i<(H 0).next:=fun i im h=>(h2.dom i im h).1
 have hoff : ∀i,¬On (Array.replicate ops.size false) i:=by
  intro i h
  unfold On at h
  simp only[Array.getD_eq_getD_getElem?,Array.getElem?_replicate] at h
  split at h<;>simp at h
 have hext:Ext φ0 (H 0) w φ0 (H 0) {w with drawn:=w.drawn+1}:=(⟨rfl,rfl,rfl,rfl⟩:Same w {w with drawn:=w.drawn+1}).ext φ0 (H 0)
 have h2':HRel φ0 (H 0) {w with drawn:=w.drawn+1}:=h2.same ⟨rfl,rfl,rfl,rfl⟩
 refine way_any (w0:=w) (φ0:=φ0) hT pl hf0 hd hQ ops.size _ a _ (by simp) ?_ ?_
 ·have : ∀l:List Nat,toCome (Array.replicate ops.size false) l<=l.length:=by
   intro l
   induction l with
   | nil=>exact Nat.le_refl _
   | cons i l ih=>simp only[toCome,List.length_cons];split<;>omega
  have:=this (List.range ops.size)
  simpa using this
 ·refine⟨0,φ0,⟨Nat.zero_le _,by simp,fun p h=>absurd h (Nat.not_lt_zero p),fun p _ _ h=>absurd h (hoff _),fun i j _ h=>absurd h (hoff _)⟩,
   ⟨fun p _ h=>absurd h (hoff _),fun k _=>h1 k,h3,h4⟩,?_⟩
  have hlt:=Plan.next_mono hT pl hf0 (Nat.zero_le ops.size) (Nat.le_refl _)
  refine⟨⟨?_,fun i h=>HC_none hT pl hf0 (Nat.zero_le _) h,?_,?_,?_⟩,?_,?_,h5,fun _ _=>rfl,fun _ _ _=>rfl,?_,Nat.le_refl _,rfl,rfl,rfl,fun _=>rfl⟩
  ·intro i im h
   exact⟨Nat.lt_of_lt_of_le (hd i im h) hlt,(h2.dom i im h).2⟩
  ·intro i im c g k1 k2
   rw[HC_old (hd i im k1)] at k2
   exact h2'.cells i im c g k1 k2
  ·intro i im es' k1 k2
   rw[HC_old (hd i im k1)] at k2
   exact h2'.map i im es' k1 k2
  ·intro i j im jm hi hj k1 k2 k3
   refine h2.inj i j im jm ?_ ?_ k1 k2 k3
   ·obtain⟨b,hb,hn⟩:=hi;exact⟨b,by rw[<- HC_old (hd i im k1) (cop:=cop) (T:=T) (ops:=ops)];exact hb,hn⟩
   ·obtain⟨b,hb,hn⟩:=hj;exact⟨b,by rw[<- HC_old (hd j jm k2) (cop:=cop) (T:=T) (ops:=ops)];exact hb,hn⟩
  ·intro id im k1 k2
   have:=hd id im k1;omega
  ·intro p id _ h;exact absurd h (hoff _)
  ·intro i im hi k1
   obtain⟨b,hb,hn⟩:=hi
   exact .inr ⟨i,im,⟨b,by rw[<- HC_old (hd i im k1) (cop:=cop) (T:=T) (ops:=ops)];exact hb,hn⟩,k1,rfl⟩
end
end Go.Ab
namespace Go.Ab
def loadV (h:Heap) (n:Option Nat) (v:Value):Option Value :=
 match v with
 | .pointer (some a)=>match n with
  | none=>h.load1 a
  | some n=>match h.loadN a n with|some l=>some (.agg ⟨l⟩)|none=>none
 | _=>none
section
variable {P:Program} {tt:T TI} (hT:TOk P tt)
def CR (P:Program) (nt:Nat) (c:Code) (t:Fm) (h:Heap) (e:Exit) (t':Fm) (h':Heap):Prop :=
 ∀ds φ a w,SRel nt ds φ t h a w->c.wp P (fun e' a' w'=>e'=e /\ ∃φ',SRel nt ds φ' t' h' a' w'/\Ext φ h w φ' h' w') a w
def LR (P:Program) (nt:Nat) (c:Code) (t:Fm) (h:Heap) (e:Exit) (t':Fm) (h':Heap):Prop :=
 ∀ds φ a w,SRel nt ds φ t h a w -> ∀(b:Frame) (k:List Item) (cs:List Frame),∃e' a' w',(e'=e /\ ∃φ',SRel nt ds φ' t' h' a' w'/\Ext φ h w φ' h' w') /\
  Arrives P (lone (b.at a (.code c :: .inLoop c::k)) cs w) b k cs e' a' w'
variable {nt:Nat} {t t1 t':Fm} {h h1 h':Heap} {e:Exit}
theorem CR.skip:CR P nt .skip t h .normal t h:=fun _ φ _ _ hr=>wp_skip ⟨rfl,φ,hr,.refl _ _ _⟩
theorem CR.label {l:Nat}:CR P nt (.label l) t h .normal t h:=fun _ φ _ _ hr=>wp_label ⟨rfl,φ,hr,.refl _ _ _⟩
theorem CR.exit {i:Nat}:CR P nt (.exit i) t h (.exit i) t h:=fun _ φ _ _ hr=>wp_exit ⟨rfl,φ,hr,.refl _ _ _⟩
theorem CR.ret:CR P nt .ret t h .ret t h:=fun _ φ _ _ hr=>wp_ret ⟨rfl,φ,hr,.refl _ _ _⟩
theorem CR.seq {x y:Code} (hx:CR P nt x t h .normal t1 h1) (hy:CR P nt y t1 h1 e t' h'):CR P nt (.seq x y) t h e t' h':=by
 intro ds φ a w hr
 refine wp_seq (wp_mono (hx ds φ a w hr) ?_)
 rintro e' a' w' ⟨rfl,φ',hr',hx'⟩
 refine wp_mono (hy ds φ' a' w' hr') ?_
 rintro e2 a2 w2 ⟨rfl,φ2,hr2,hx2⟩
 exact⟨rfl,φ2,hr2,hx'.trans hx2⟩
theorem CR.seq_out {x y:Code} (hx:CR P nt x t h e t' h') (he:e ≠ .normal):CR P nt (.seq x y) t h e t' h':=by
 intro ds φ a w hr
 refine wp_seq (wp_mono (hx ds φ a w hr) ?_)
 rintro e' a' w' ⟨rfl,φ',hr',hx'⟩
 cases e'<;>first|exact absurd rfl he|exact⟨rfl,φ',hr',hx'⟩
theorem CR.cond {c:Operand} {x y:Code} {b:Bool} (hok:okO c=true) (hc:evalO t c = .bool b) (hxy:CR P nt (if b then x else y) t h e t' h'):CR P nt (.cond c x y) t h e t' h':=by
 intro ds φ a w hr
 have:=evalO_rel hr.1 hok
 rw[hc] at this
 exact wp_cond this.bool_inv (hxy ds φ a w hr)
theorem CR.block {i:Nat} {c:Code} (hc:CR P nt c t h e t' h') (he : ∀j,e = .exit j->j≠i):CR P nt (.block i c) t h e t' h':=by
 intro ds φ a w hr
 refine wp_block (wp_mono (hc ds φ a w hr) ?_)
 rintro e' a' w' ⟨rfl,φ',hr',hx'⟩
 cases e' with
 | exit j=>simp only[Exit.inBlock];rw[if_neg (he j rfl)];exact⟨trivial,φ',hr',hx'⟩
 | _=>exact⟨rfl,φ',hr',hx'⟩
theorem CR.block_exit {i:Nat} {c:Code} (hc:CR P nt c t h (.exit i) t' h'):CR P nt (.block i c) t h .normal t' h':=by
 intro ds φ a w hr
 refine wp_block (wp_mono (hc ds φ a w hr) ?_)
 rintro e' a' w' ⟨rfl,φ',hr',hx'⟩
 simp only[Exit.inBlock,if_true]
 exact⟨trivial,φ',hr',hx'⟩
theorem LR.out {c:Code} (hc:CR P nt c t h e t' h') (he:e ≠ .normal):LR P nt c t h e t' h':=by
 intro ds φ a w hr b k cs
 obtain⟨e',a',w',hq,harr⟩:=hc ds φ a w hr b (.inLoop c::k) cs
 refine⟨e',a',w',hq,?_⟩
 obtain⟨rfl,_⟩:=hq
 exact .pass (x := .inLoop c) rfl (fun _ _ => .inl he) harr
theorem LR.again {c:Code} (hc:CR P nt c t h .normal t1 h1) (hl:LR P nt c t1 h1 e t' h'):LR P nt c t h e t' h':=by
 intro ds φ a w hr b k cs
 obtain⟨e1,a1,w1,⟨rfl,φ1,hr1,hx1⟩,harr⟩:=hc ds φ a w hr b (.inLoop c::k) cs
 obtain⟨e2,a2,w2,⟨he2,φ2,hr2,hx2⟩,harr2⟩:=hl ds φ1 a1 w1 hr1 b k cs
 exact⟨e2,a2,w2,⟨he2,φ2,hr2,hx1.trans hx2⟩,.of_steps (Steps.trans harr (.one step_inLoop)) harr2⟩
theorem CR.loop {c:Code} (hl:LR P nt c t h e t' h'):CR P nt (.loop c) t h e t' h':=by
 intro ds φ a w hr b k cs
 obtain⟨e',a',w',hq,harr⟩:=hl ds φ a w hr b k cs
 exact⟨e',a',w',hq,.of_steps (.one step_loop) harr⟩
include hT in
theorem CR.region {id:Nat} {ops:Array Oper} (hs:Seq P tt ops nt (List.range ops.size) t h t' h'):CR P nt (.region id ops false) t h .normal t' h':=by
 intro ds φ a w hr
 exact wp_region (seq_sound hT hs hr fun φ' a' w' hr' hx=>⟨rfl,φ',hr',hx⟩)
include hT in
theorem CR.drawn {id:Nat} {ops:Array Oper} {idx:Nat->Nat} {op:Nat->Oper} {cop:Nat->COp} {T:Nat->Fm} {H:Nat->Heap} {V:Nat->Value} (pl:Plan P tt ops nt idx op cop T H V)
  (hm:P.follows .mixedOrders=true):CR P nt (.region id ops true) (T 0) (H 0) .normal (T ops.size) (H ops.size):=by
 intro ds φ a w hr
 exact drawn_sound hT pl hm hr fun φ' a' w' hr' hx=>⟨rfl,φ',hr',hx⟩
inductive RVar where
 | tmp (k:Nat)
 | cell (k:Nat) (n:Option Nat)
def compRes (tt:T TI):List ResultVar->Option (List RVar)
 | []=>some []
 | .tmp k::l=>match compRes tt l with|some r=>some (.tmp k::r)|none=>none
 | .cell k ty::l=>match tt.get ty,compRes tt l with|some i,some r=>some (.cell k (aggOf i)::r)|_,_=>none
def resV (t:Fm) (h:Heap):List RVar->Option (List Value)
 | []=>some []
 | .tmp k::l=>match resV t h l with|some r=>some (t k::r)|none=>none
 | .cell k n::l=>match loadV h n (t k),resV t h l with|some v,some r=>some (v::r)|_,_=>none
def one:List Value->Value
 | [v]=>v
 | l => .tuple ⟨l⟩
include hT in
theorem run_loadVar {φ:Phi} {w:World} (hr:HRel φ h w) {ty:TypeId} {i:TI} (hi:tt.get ty=some i) {v v' u:Value} (hv:VRel φ v v') (hl:loadV h (aggOf i) v=some u) :
  ∃u',(do loadVar ty (<- asAddr v'):Sem Value).run P w = .ok u' w/\VRel φ u u':=by
 have hu:=hT.desc _ _ hi
 obtain⟨inf,hinf,hi1,_⟩:=hT.info _ _ hi
 unfold loadV at hl
 split at hl
 case h_2=>simp at hl
 rename_i a
 obtain⟨a',rfl,hA⟩:=hv.ptr_inv
 split at hl
 ·rename_i hag
  have hnot:isAggD i.desc=false:=by unfold aggOf at hag;split at hag<;>simp_all
  obtain⟨u',g1,g2⟩:=m_load1 hr hA hl
  refine⟨u',?_,g2⟩
  simp only[asAddr,Sem.run_bind,Sem.run_pure,Result.andThen_ok,loadVar,run_isAgg' w hu,hnot,Bool.false_eq_true,if_false,run_load,g1]
 ·rename_i n hag
  have hyes:isAggD i.desc=true/\n=i.size:=by unfold aggOf at hag;split at hag<;>simp_all
  split at hl
  case h_2=>simp at hl
  rename_i l hln
  simp only[Option.some.injEq] at hl;subst hl
  obtain⟨l',m1,m2,m3⟩:=m_loadN (P:=P) hr hA hln
  refine⟨.agg ⟨l'⟩,?_,.agg _ _ m2⟩
  simp only[asAddr,Sem.run_bind,Sem.run_pure,Result.andThen_ok,loadVar,run_isAgg' w hu,hyes.1,if_true,run_sizeOf' w hinf,hi1,<-hyes.2,m1 w rfl]
def rvS (tmps:Array Value):ResultVar->Sem Value
 | .tmp t=>pure (tmps.getD t undef)
 | .cell a t=>do loadVar t (<- asAddr (tmps.getD a undef))
include hT in
theorem run_results {fn:Func} {rs:List RVar} (hrs:compRes tt fn.results.toList=some rs) {φ:Phi} {a:Act} {w:World} (hr:HRel φ h w) (ht:TRel φ t a) {vs:List Value} (hv:resV t h rs=some vs) :
  ∃v',(results fn a.tmps).run P w = .ok v' w/\VRel φ (one vs) v':=by
 have key : ∀(l:List ResultVar) (rs:List RVar) (vs:List Value),compRes tt l=some rs->resV t h rs=some vs ->
   ∃vs',(l.mapM (rvS a.tmps)).run P w = .ok vs' w/\LRel φ vs vs':=by
  intro l
  induction l with
  | nil =>
   intro rs vs h1 h2
   simp only[compRes,Option.some.injEq] at h1;subst h1
   simp only[resV,Option.some.injEq] at h2;subst h2
   exact⟨[],rfl,.nil⟩
  | cons x l ih =>
   intro rs vs h1 h2
   cases x with
   | tmp k =>
    simp only[compRes] at h1
    split at h1
    case h_2=>simp at h1
    rename_i r hr1
    simp only[Option.some.injEq] at h1;subst h1
    simp only[resV] at h2
    split at h2
    case h_2=>simp at h2
    rename_i vs1 hv1
    simp only[Option.some.injEq] at h2;subst h2
    obtain⟨vs',q1,q2⟩:=ih r vs1 hr1 hv1
    refine⟨a.tmps.getD k undef::vs',?_,.cons _ _ _ _ (ht k) q2⟩
    rw[List.mapM_cons,Sem.run_bind]
    show((pure (a.tmps.getD k undef):Sem Value).run P w).andThen _=_
    simp only[Sem.run_bind,Sem.run_pure,Result.andThen_ok,q1]
   | cell k ty =>
    simp only[compRes] at h1
    split at h1
    case h_2=>simp at h1
    rename_i i r hi hr1
    simp only[Option.some.injEq] at h1;subst h1
    simp only[resV] at h2
    split at h2
    case h_2=>simp at h2
    rename_i v vs1 hv0 hv1
    simp only[Option.some.injEq] at h2;subst h2
    obtain⟨vs',q1,q2⟩:=ih r vs1 hr1 hv1
    obtain⟨u',g1,g2⟩:=run_loadVar hT hr hi (ht k) hv0
    refine⟨u'::vs',?_,.cons _ _ _ _ g2 q2⟩
    rw[List.mapM_cons,Sem.run_bind]
    show((do loadVar ty (<- asAddr (a.tmps.getD k undef)):Sem Value).run P w).andThen _=_
    rw[g1]
    simp only[Result.andThen_ok,Sem.run_bind,Sem.run_pure,q1]
 obtain⟨vs',q1,q2⟩:=key _ _ _ hrs hv
 have hrun:(results fn a.tmps).run P w = .ok (if h:(⟨vs'⟩:Array Value).size=1 then (⟨vs'⟩:Array Value)[0] else .tuple ⟨vs'⟩) w:=by
  have hres:results fn a.tmps=(do let vs<-fn.results.mapM (rvS a.tmps);pure (if h:vs.size=1 then vs[0] else .tuple vs)):=rfl
  rw[hres,Sem.run_bind,Array.mapM_eq_mapM_toList]
  have:(List.toArray <$> (fn.results.toList.mapM (rvS a.tmps))).run P w = .ok ⟨vs'⟩ w:=by
   rw[map_eq_pure_bind,Sem.run_bind,q1];rfl
  rw[this]
  rfl
 refine⟨_,hrun,?_⟩
 cases q2 with
 | nil=>exact .tuple _ _ .nil
 | cons v v' l l' h1 h2 =>
  cases h2 with
  | nil=>exact h1
  | cons v2 v2' l2 l2' h3 h4 =>
   rw[dif_neg (by simp)]
   exact .tuple _ _ (.cons _ _ _ _ h1 (.cons _ _ _ _ h3 h4))
def argsT (args:List Value):Fm:=fun k=>(nth args k).getD undef
include hT in
theorem call_code {f:Nat} {fn:Func} {c:Code} {rs:List RVar} {args:List Value} {vs:List Value} (hf:P.funcs[f]?=some fn) (hname:(fn.name == "runtime.NumGoroutine")=false) (hb:fn.body=some c)
  (hrs:compRes tt fn.results.toList=some rs) (hlen:args.length<=fn.ntmps) (hc:CR P fn.ntmps c (argsT args) h e t' h') (he:e = .normal\/e = .ret) (hv:resV t' h' rs=some vs) :
  CallNext P f args h (one vs) h':=by
 intro φ args' w ha hr hfull
 have hcall:(callFunc f ⟨args'⟩).run P w = .ok (.enter f ⟨args'⟩) w:=by
  have h1:fn.name ≠ "runtime.NumGoroutine" :=by simpa using hname
  simp only[callFunc,Sem.run_bind,run_program,Result.andThen_ok,hf,hname,Bool.false_eq_true,if_false,hb,Option.isNone_some,Sem.run_pure]
 rw[hcall]
 refine calls_of_wp hf hb ?_
 have hl':=ha.length
 have hsr:SRel fn.ntmps [] φ (argsT args) h {tmps:=(⟨args'⟩:Array Value)++Array.replicate (fn.ntmps-(⟨args'⟩:Array Value).size) undef,defers := []} w:=by
  refine⟨fun k=>?_,hr,?_,rfl,hfull⟩
  ·show VRel φ ((nth args k).getD undef) _
   rw[nth_eq]
   by_cases hk:k<args.length
   ·have hk1:args[k]?=some args[k]:=List.getElem?_eq_getElem hk
    obtain⟨u,g1,g2⟩:=ha.get k _ hk1
    rw[hk1,Option.getD_some]
    have:((⟨args'⟩:Array Value)++Array.replicate (fn.ntmps-(⟨args'⟩:Array Value).size) undef).getD k undef=u:=by
     rw[Array.getD_eq_getD_getElem?,Array.getElem?_append_left (by simp;omega)]
     simp[g1]
    rw[this];exact g2
   ·have hk1:args[k]?=none:=List.getElem?_eq_none (by omega)
    rw[hk1,Option.getD_none]
    have:((⟨args'⟩:Array Value)++Array.replicate (fn.ntmps-(⟨args'⟩:Array Value).size) undef).getD k undef=undef:=by
     rw[Array.getD_eq_getD_getElem?,Array.getElem?_append_right (by simp;omega),Array.getElem?_replicate]
     split<;>rfl
    rw[this];exact undef_rel φ
  ·simp;omega
 refine wp_mono (hc [] φ _ w hsr) ?_
 rintro e' a' w' ⟨rfl,φ',⟨h1,h2,h3,h4,h5⟩,hx⟩
 obtain⟨v',r1,r2⟩:=run_results hT hrs h2 h1 hv
 rcases he with rfl|rfl
 ·exact⟨h4,v',r1,v',rfl,φ',r2,h2,hx⟩
 ·exact⟨h4,v',r1,v',rfl,φ',r2,h2,hx⟩
inductive Prim where
 | f32from|f32bits|f64from|f64bits|even
def primV (p:Prim) (args:List Value):Option Value :=
 match p,args with
 | .f32from,[.int .u32 (.ofNat n)]=>some (.float .f32 n)
 | .f64from,[.int .u64 (.ofNat n)]=>some (.float .f64 n)
 | .f32bits,[.float .f32 n]=>bif (FloatKind.f32.decode n).isNaN then none else some (.int .u32 (.ofNat n))
 | .f64bits,[.float .f64 n]=>bif (FloatKind.f64.decode n).isNaN then none else some (.int .u64 (.ofNat n))
 | .even,[.float .f64 n]=>match FloatKind.f64.decode n with
  | .nan _ _=>none
  | d=>some (.float .f64 (FloatKind.f64.encode (d.integral .even)))
 | _,_=>none
def primE:Prim->Array Value->Sem Value
 | .f32from=>Extern.MathFloatBits.float32frombits
 | .f32bits=>Extern.MathFloatBits.float32bits
 | .f64from=>Extern.MathFloatBits.float64frombits
 | .f64bits=>Extern.MathFloatBits.float64bits
 | .even=>Extern.MathFloor.toIntegral "math.RoundToEven" .even
theorem VRel.float_inv' {φ:Phi} {k:FloatKind} {n:Nat} {v:Value} (hv:VRel φ (.float k n) v) (hn:(k.decode n).isNaN=false):v = .float k n:=by
 cases hv with
 | float=>rfl
 | nan _ _ _ hb _=>unfold isNaN at hb;rw[hn] at hb;simp at hb
theorem prim_sound {p:Prim} {φ:Phi} {args args':List Value} {v:Value} (ha:LRel φ args args') (hv:primV p args=some v) (w:World) :
  ∃v',(primE p ⟨args'⟩).run P w = .ok v' w/\VRel φ v v':=by
 unfold primV at hv
 split at hv
 ·simp only[Option.some.injEq] at hv;subst hv
  cases ha with|cons _ _ _ _ h1 h2=>cases h2;rw[h1.int_inv];exact⟨_,rfl,.float _ _⟩
 ·simp only[Option.some.injEq] at hv;subst hv
  cases ha with|cons _ _ _ _ h1 h2=>cases h2;rw[h1.int_inv];exact⟨_,rfl,.float _ _⟩
 ·rename_i n
  cases hn:(FloatKind.f32.decode n).isNaN with
  | true=>rw[hn] at hv;simp at hv
  | false =>
   rw[hn] at hv;simp only[cond_false,Option.some.injEq] at hv;subst hv
   cases ha with|cons _ _ _ _ h1 h2=>cases h2;rw[h1.float_inv' hn];exact⟨_,rfl,.int _ _⟩
 ·rename_i n
  cases hn:(FloatKind.f64.decode n).isNaN with
  | true=>rw[hn] at hv;simp at hv
  | false =>
   rw[hn] at hv;simp only[cond_false,Option.some.injEq] at hv;subst hv
   cases ha with|cons _ _ _ _ h1 h2=>cases h2;rw[h1.float_inv' hn];exact⟨_,rfl,.int _ _⟩
 ·rename_i n
  split at hv
  ·simp at hv
  ·rename_i d hd
   simp only[Option.some.injEq] at hv;subst hv
   have hn:(FloatKind.f64.decode n).isNaN=false:=by
    cases hdd:FloatKind.f64.decode n<;>first|rfl|exact absurd hdd (hd _ _)
   cases ha with
   | cons _ _ _ _ h1 h2 =>
    cases h2
    rw[h1.float_inv' hn]
    refine⟨.float .f64 (FloatKind.f64.encode ((FloatKind.f64.decode n).integral .even)),?_,.float _ _⟩
    show(Extern.MathFloor.toIntegral "math.RoundToEven" .even #[.float .f64 n]).run P w=_
    show Sem.run P (match FloatKind.f64.decode n with
     | .nan s t=>if FloatKind.f64.format.quiet t=t then pure (Value.float .f64 n) else do
      let kept<-choose (.extern "math.Floor,Ceil,Trunc,RoundToEven.signallingNaN kept" 2)
      pure (Value.float .f64 (if kept==1 then n else FloatKind.f64.encode (.nan s (FloatKind.f64.format.quiet t))))
     | d=>pure (Value.float .f64 (FloatKind.f64.encode (d.integral .even)))) w=_
    cases hdd:FloatKind.f64.decode n<;>first|(exact absurd hdd (hd _ _))|rfl
 ·simp at hv
theorem call_prim {f:Nat} {fn:Func} {p:Prim} (hf:P.funcs[f]?=some fn) (hname:(fn.name == "runtime.NumGoroutine")=false) (hb:fn.body.isNone=true) (hn:Extern.findNext fn=none)
  (he:Extern.find fn=some (primE p)) {args:List Value} {v:Value} (hv:primV p args=some v):CallNext P f args h v h:=by
 intro φ args' w ha hr hfull
 rw[run_callFunc_extern hf hname hb hn he]
 obtain⟨v',h1,h2⟩:=prim_sound (P:=P) ha hv w
 rw[h1]
 exact⟨φ,h2,hr,.refl _ _ _⟩
end
end Go.Ab
