/- A part of the proof. No condition. -/
import Derived.Test.YtgpegjmbofgmmaaGreatRows
import Derived.Test.YtgpegjmbofgmmaaGreatRLd
import Derived.Deep.Slices
import Derived.Deep.Fields
import Derived.ChangeSame
import Derived.ChangeSlices
import Derived.Lib.SmallJoins
import Derived.OpenShut
import Derived.Conc.HoldsTime
import Derived.Clock
import Derived.Leaving
import Derived.JoinedCond
namespace Go.Proofs.YtgpegjmbofgmmaaGreat.actO
open Go.ChangeShapes Go.WideShapes Go.ChangeAt Go.RowKit Go.Deep Go.Proofs.YtgpegjmbofgmmaaGreatW.PrintWords Go.Proofs.YtgpegjmbofgmmaaGreat.PJop
set_option linter.unusedVariables false
theorem cells25:Tryz.prog.cellsOf 25=2:=by kernel_rfl
theorem cells58:Tryz.prog.cellsOf 58=3:=by kernel_rfl
theorem cells3:Tryz.prog.cellsOf 3=1:=by kernel_rfl
theorem cells23:Tryz.prog.cellsOf 23=1:=by kernel_rfl
theorem cells26:Tryz.prog.cellsOf 26=1:=by kernel_rfl
theorem cells27:Tryz.prog.cellsOf 27=1:=by kernel_rfl
theorem cells29:Tryz.prog.cellsOf 29=4:=by kernel_rfl
theorem cells31:Tryz.prog.cellsOf 31=12:=by kernel_rfl
theorem cells56:Tryz.prog.cellsOf 56=1:=by kernel_rfl
section
variable {H:Type}
theorem bulk_pos (d:DataW H):1<=Rows.uptoBulk d:=by
 cases d with
 | lit x=>cases x<;>simp[Rows.uptoBulk]
 | _=>simp[Rows.uptoBulk]
theorem bulk_len : ∀l:List (DataW H),l.length<=Rows.uptoBulkAll l
 | []=>Nat.zero_le _
 | d::l=>by
  have h1:=bulk_len l
  have h2:=bulk_pos d
  simp only[Rows.uptoBulkAll,List.length_cons]
  omega
theorem bulk_mem {d:DataW H} : ∀{l:List (DataW H)},d∈l->Rows.uptoBulk d<=Rows.uptoBulkAll l
 | [],h=>by simp at h
 | x::l,h=>by
  simp only[Rows.uptoBulkAll]
  rcases List.mem_cons.1 h with rfl|h
  ·omega
  ·have:=bulk_mem h;omega
end
section
variable {H:Type} {enc:TypeId×Value->H} {W:World} {base:Nat} {spare:Nat->Bool} {held:Bool}
theorem choose_list {α:Type} (z:α) (Q:Nat->α->Prop) : ∀n,(∀i,i<n -> ∃x,Q i x) -> ∃l:List α,l.length=n /\ ∀i,i<n -> ∃x,l[i]?=some x/\Q i x
 | 0,_=>⟨[],rfl,fun i h=>by omega⟩
 | n+1,h=>by
  obtain⟨l,hl,hq⟩:=choose_list z Q n fun i hi=>h i (by omega)
  obtain⟨x,hx⟩:=h n (by omega)
  refine⟨l ++ [x],by simp[hl],fun i hi=>?_⟩
  by_cases e:i<n
  ·obtain⟨y,hy,hQ⟩:=hq i e
   exact⟨y,by rw[List.getElem?_append_left (by omega)];exact hy,hQ⟩
  ·obtain rfl:i=n:=by omega
   exact⟨x,by simp[<- hl],hx⟩
theorem u32_of {n:Int} (h:(Lit.int .u32 n).wf=true):pln.U32 n:=by
 simp[Lit.wf,IntKind.min,IntKind.max,IntKind.signed,IntKind.bits] at h
 exact h
theorem open_samples {fuel:Nat} {v:Value} {x:DataW H×List MemPlace} (h:DataW.trod enc Tryz.prog W base spare held fuel 27 [v]=some x) :
  ∃(A:Option Addr) (c:Nat) (l:List Int),v = .slice A l.length c/\l.length<=c/\(Kd.int .u32).C W A l.length l/\pln.AllU l/\l.length<=Rows.uptoBulk x.1:=by
 rcases open_ints Tryz.underlying27 Tryz.underlying56 cells56 h with ⟨hcs,_⟩|⟨a,len,cap,zs,hcs,_,hl,hm,hz,hxx,hcell,hwz⟩
 ·obtain rfl:=(List.cons.inj hcs).1
  exact⟨none,0,[],rfl,Nat.le_refl _,Kd.C_nil _ _,fun x hx=>by simp at hx,Nat.zero_le _⟩
 ·obtain rfl:=(List.cons.inj hcs).1
  have hlz:len<=zs.length:=by rw[hz];split<;>omega
  have hln:(zs.take len).length=len:=by simp;omega
  refine⟨some a,cap,zs.take len,by rw[hln],by rw[hln];exact hl,?_,fun x hx=>u32_of (hwz x (List.mem_of_mem_take hx)),?_⟩
  rotate_left
  ·have h1:=bulk_len (lits (H:=H) .u32 (zs.take len))
   rw[hxx]
   simp only[Rows.uptoBulk]
   simp only[lits,List.length_map] at h1 ⊢
   omega
  rw[hln]
  refine Kd.C_of_reads (d:=(0:Int)) (h1:=fun _=>rfl) ⟨hln,by unfold maxLen at hm;omega,fun h0=>⟨a,rfl,fun j hj=>?_⟩⟩
  rw[hcell j (by omega)]
  simp only[List.getD_eq_getElem?_getD,List.getElem?_take,if_pos hj]
theorem open_numbers {fuel:Nat} {v:Value} {x:DataW H×List MemPlace} (h:DataW.trod enc Tryz.prog W base spare held fuel 26 [v]=some x) :
  ∃(A:Option Addr) (c:Nat) (l:List Int),v = .slice A l.length c/\l.length<=c/\(Kd.int .i64).C W A l.length l/\l.length<=Rows.uptoBulk x.1:=by
 rcases open_ints Tryz.underlying26 Tryz.underlying3 cells3 h with ⟨hcs,_⟩|⟨a,len,cap,zs,hcs,_,hl,hm,hz,hxx,hcell,hwz⟩
 ·obtain rfl:=(List.cons.inj hcs).1
  exact⟨none,0,[],rfl,Nat.le_refl _,Kd.C_nil _ _,Nat.zero_le _⟩
 ·obtain rfl:=(List.cons.inj hcs).1
  have hlz:len<=zs.length:=by rw[hz];split<;>omega
  have hln:(zs.take len).length=len:=by simp;omega
  refine⟨some a,cap,zs.take len,by rw[hln],by rw[hln];exact hl,?_,?_⟩
  rotate_left
  ·have h1:=bulk_len (lits (H:=H) .i64 (zs.take len))
   rw[hxx]
   simp only[Rows.uptoBulk]
   simp only[lits,List.length_map] at h1 ⊢
   omega
  rw[hln]
  refine Kd.C_of_reads (d:=(0:Int)) (h1:=fun _=>rfl) ⟨hln,by unfold maxLen at hm;omega,fun h0=>⟨a,rfl,fun j hj=>?_⟩⟩
  rw[hcell j (by omega)]
  simp only[List.getD_eq_getElem?_getD,List.getElem?_take,if_pos hj]
set_option maxRecDepth 100000 in
theorem open_pic {fuel:Nat} {c0 c1:Value} {x:DataW H×List MemPlace} (h:DataW.trod enc Tryz.prog W base spare held fuel 25 [c0,c1]=some x) :
  ∃(sp:Int) (A:Option Addr) (c:Nat) (l:List S58),c0 = .int .i64 sp/\c1 = .slice A l.length c/\l.length<=c/\Kd.C k58 W A l.length l/\pln.UL l/\l.length<=Rows.uptoBulk x.1 /\ ∀j:Nat,j<l.length->(rd_T58 l j).f2.length<=Rows.uptoBulk x.1:=by
 obtain⟨ys0,n0,hn0,hy0,hcl0,hyl0,hf0⟩:=DataW.trod_struct Tryz.underlying25 h
 have g0:=hf0 0 _ rfl
 have g1:=hf0 1 _ rfl
 match ys0,hyl0 with
 | [y0,y1],_ =>
 simp[cells3,cells23] at g0 g1
 have h0:=g0
 have h1:=g1
 obtain⟨sp,hs,_,_⟩:=DataW.trod_int Tryz.underlying3 h0
 obtain rfl:=(List.cons.inj hs).1
 have hd:x.1 = .agg [y0.1,y1.1]:=congrArg Prod.fst hy0
 rcases open_slice Tryz.underlying23 h1 with ⟨hcs,_⟩|⟨a,len,cap,m,n',D,Pl,hcs,hb,hl,hm,hmm,hx,hi⟩
 ·obtain rfl:=(List.cons.inj hcs).1
  exact⟨sp,none,0,[],rfl,rfl,Nat.le_refl _,Kd.C_nil _ _,fun j hj=>by simp at hj,Nat.zero_le _,fun j hj=>by simp at hj⟩
 ·obtain rfl:=(List.cons.inj hcs).1
  have hlm:len<=m:=by rw[hmm];split<;>omega
  have hel : ∀i,i<len -> ∃x:S58,(∃cs,cs.length=3/\k58.K W x cs /\ ∀j u,cs[j]?=some u->W.cell? (a.add (i*3+j))=some u)/\pln.AllU x.f2/\x.f2.length<=Rows.uptoBulk (D i):=by
   intro i hil
   obtain⟨cs,hc,ht⟩:=hi i (by omega)
   rw[cells58] at hc
   obtain⟨ys,n2,hn,hy,hcl,hyl,hf⟩:=DataW.trod_struct Tryz.underlying58 ht
   obtain⟨_,hcl',hat⟩:=World.cells?_some hc
   match cs,hcl' with
   | [c0,c1,c2],_ =>
    have f0:=hf 0 _ rfl
    have f1:=hf 1 _ rfl
    have f2:=hf 2 _ rfl
    match ys,hyl with
    | [z0,z1,z2],_ =>
     simp[cells3,cells27] at f0 f1 f2
     obtain⟨wd,e0,_,_⟩:=DataW.trod_int Tryz.underlying3 f0
     obtain⟨hg,e1,_,_⟩:=DataW.trod_int Tryz.underlying3 f1
     obtain⟨A2,cc,l2,rfl,hlc,hC2,hU2,hB2⟩:=open_samples f2
     obtain rfl:=(List.cons.inj e0).1
     obtain rfl:=(List.cons.inj e1).1
     refine⟨⟨wd,hg,l2⟩,⟨[.int .i64 wd,.int .i64 hg,.slice A2 l2.length cc],rfl,k58_mk W ⟨wd,hg,l2⟩ hlc hC2,fun j u hu=>?_⟩,hU2,by
      have e:D i = .agg ([z0,z1,z2].map (·.1)):=congrArg Prod.fst hy
      rw[e]
      have h3:=bulk_mem (show z2.1 ∈ [z0,z1,z2].map (·.1) by simp)
      simp only[Rows.uptoBulk]
      exact Nat.le_trans hB2 (Nat.le_trans h3 (Nat.le_succ _))⟩
     have hj:j<3:=by
      have:=(List.getElem?_eq_some_iff.1 hu).1
      simpa using this
     rw[<- Go.Deep.add_add,hat j hj]
     exact hu
  obtain⟨l,hln,hq⟩:=choose_list (⟨0,0,[]⟩:S58) (fun i x=>(∃cs,cs.length=3/\k58.K W x cs /\ ∀j u,cs[j]?=some u->W.cell? (a.add (i*3+j))=some u)/\pln.AllU x.f2/\x.f2.length<=Rows.uptoBulk (D i)) len hel
  refine⟨sp,some a,cap,l,rfl,by rw[hln],by omega,⟨rfl,by unfold maxLen at hm;omega,fun h0=>⟨a,rfl,fun j x hx=>?_⟩⟩,fun j hj=>?_,?_,fun j hj=>?_⟩
  ·have hj:j<len:=by have:=(List.getElem?_eq_some_iff.1 hx).1;omega
   obtain⟨x',hx',⟨cs,h1,h2,h3⟩,_,_⟩:=hq j hj
   rw[hx] at hx'
   obtain rfl:=Option.some.inj hx'
   exact⟨cs,h1,h2,h3⟩
  ·obtain⟨x',hx',_,hU,_⟩:=hq j (by omega)
   have:rd_T58 l j=x':=by unfold rd_T58;rw[Int.toNat_natCast,List.getD_eq_getElem?_getD,hx'];rfl
   rw[this]
   exact hU
  ·have h2:=bulk_len ((List.range len).map D)
   rw[List.length_map,List.length_range] at h2
   rw[hd,hx]
   simp only[Rows.uptoBulk,Rows.uptoBulkAll]
   omega
  ·obtain⟨x',hx',_,_,hB⟩:=hq j (by omega)
   have e:rd_T58 l j=x':=by unfold rd_T58;rw[Int.toNat_natCast,List.getD_eq_getElem?_getD,hx'];rfl
   have h2:=bulk_mem (show D j∈(List.range len).map D from List.mem_map.2 ⟨j,List.mem_range.2 (by omega),rfl⟩)
   rw[e,hd,hx]
   simp only[Rows.uptoBulk,Rows.uptoBulkAll]
   omega
theorem open_rect {fuel:Nat} {c0 c1 c2 c3:Value} {x:DataW H×List MemPlace} (h:DataW.trod enc Tryz.prog W base spare held fuel 29 [c0,c1,c2,c3]=some x) :
  ∃r0 r1 r2 r3:Int,c0 = .int .i64 r0/\c1 = .int .i64 r1/\c2 = .int .i64 r2/\c3 = .int .i64 r3:=by
 obtain⟨ys,n,hn,hy,hcl,hyl,hf⟩:=DataW.trod_struct Tryz.underlying29 h
 have f0:=hf 0 _ rfl
 have f1:=hf 1 _ rfl
 have f2:=hf 2 _ rfl
 have f3:=hf 3 _ rfl
 match ys,hyl with
 | [z0,z1,z2,z3],_ =>
  simp[cells3] at f0 f1 f2 f3
  obtain⟨r0,e0,_,_⟩:=DataW.trod_int Tryz.underlying3 f0
  obtain⟨r1,e1,_,_⟩:=DataW.trod_int Tryz.underlying3 f1
  obtain⟨r2,e2,_,_⟩:=DataW.trod_int Tryz.underlying3 f2
  obtain⟨r3,e3,_,_⟩:=DataW.trod_int Tryz.underlying3 f3
  exact⟨r0,r1,r2,r3,(List.cons.inj e0).1,(List.cons.inj e1).1,(List.cons.inj e2).1,(List.cons.inj e3).1⟩
set_option maxRecDepth 100000 in
theorem open_act {r:Reach} {b0:Nat} {v:Value} {d:DataW H} {p:List MemPlace} (hv:Value.okWide Tryz.prog W r b0 31 v) (h:DataW.Trod enc Tryz.prog W base spare held 31 v d p) :
  ∃(kind node x y sp:Int) (AP:Option Addr) (cP:Nat) (l:List S58) (AN:Option Addr) (cN:Nat) (xs:List Int) (AB:Option Addr) (cB:Nat) (zs:List Int) (r0 r1 r2 r3:Int),
   v = .agg #[.int .i64 kind,.int .i64 node,.int .i64 x,.int .i64 y,.int .i64 sp,.slice AP l.length cP,.slice AN xs.length cN,.slice AB zs.length cB,.int .i64 r0,.int .i64 r1,.int .i64 r2,.int .i64 r3] /\
   (l.length<=cP/\Kd.C k58 W AP l.length l/\pln.UL l/\l.length<=Rows.uptoBulk d /\ ∀j:Nat,j<l.length->(rd_T58 l j).f2.length<=Rows.uptoBulk d)/\(xs.length<=cN/\Kd.C (Kd.int .i64) W AN xs.length xs/\xs.length<=Rows.uptoBulk d)/\zs.length<=cB/\Kd.C (Kd.int .u32) W AB zs.length zs/\pln.AllU zs/\zs.length<=Rows.uptoBulk d:=by
 obtain⟨cs,rfl,hsz⟩:=okWide_struct Tryz.underlying31 hv
 rw[cells31] at hsz
 obtain⟨fuel,hf⟩:=h
 obtain⟨cs⟩:=cs
 match cs,hsz with
 | [c0,c1,c2,c3,c4,c5,c6,c7,c8,c9,c10,c11],_ =>
  obtain⟨ys,n,hn,hy,hcl,hyl,hfs⟩:=DataW.trod_struct Tryz.underlying31 hf
  have f0:=hfs 0 _ rfl
  have f1:=hfs 1 _ rfl
  have f2:=hfs 2 _ rfl
  have f3:=hfs 3 _ rfl
  have f4:=hfs 4 _ rfl
  have f5:=hfs 5 _ rfl
  have f6:=hfs 6 _ rfl
  have f7:=hfs 7 _ rfl
  match ys,hyl with
  | [z0,z1,z2,z3,z4,z5,z6,z7],_ =>
   simp[cells3,cells25,cells26,cells27,cells29,Value.cells] at f0 f1 f2 f3 f4 f5 f6 f7
   obtain⟨kind,e0,_,_⟩:=DataW.trod_int Tryz.underlying3 f0
   obtain⟨node,e1,_,_⟩:=DataW.trod_int Tryz.underlying3 f1
   obtain⟨x,e2,_,_⟩:=DataW.trod_int Tryz.underlying3 f2
   obtain⟨y,e3,_,_⟩:=DataW.trod_int Tryz.underlying3 f3
   obtain⟨sp,AP,cP,l,e4,e5,q1,q2,q3,q4,q5⟩:=open_pic f4
   obtain⟨AN,cN,xs,e6,n1,n2,n3⟩:=open_numbers f5
   obtain⟨AB,cB,zs,e7,m1,m2,m3,m4⟩:=open_samples f6
   obtain⟨r0,r1,r2,r3,e8,e9,e10,e11⟩:=open_rect f7
   obtain rfl:=(List.cons.inj e0).1
   obtain rfl:=(List.cons.inj e1).1
   obtain rfl:=(List.cons.inj e2).1
   obtain rfl:=(List.cons.inj e3).1
   subst e4 e5 e6 e7 e8 e9 e10 e11
   have hd:d = .agg [z0.1,z1.1,z2.1,z3.1,z4.1,z5.1,z6.1,z7.1]:=congrArg Prod.fst hy
   have b4:Rows.uptoBulk z4.1<=Rows.uptoBulk d:=by
    have h3:=bulk_mem (show z4.1 ∈ [z0.1,z1.1,z2.1,z3.1,z4.1,z5.1,z6.1,z7.1] by simp)
    rw[hd];simp only[Rows.uptoBulk];omega
   have b5:Rows.uptoBulk z5.1<=Rows.uptoBulk d:=by
    have h3:=bulk_mem (show z5.1 ∈ [z0.1,z1.1,z2.1,z3.1,z4.1,z5.1,z6.1,z7.1] by simp)
    rw[hd];simp only[Rows.uptoBulk];omega
   have b6:Rows.uptoBulk z6.1<=Rows.uptoBulk d:=by
    have h3:=bulk_mem (show z6.1 ∈ [z0.1,z1.1,z2.1,z3.1,z4.1,z5.1,z6.1,z7.1] by simp)
    rw[hd];simp only[Rows.uptoBulk];omega
   exact⟨kind,node,x,y,sp,AP,cP,l,AN,cN,xs,AB,cB,zs,r0,r1,r2,r3,rfl,⟨q1,q2,q3,Nat.le_trans q4 b4,fun j hj=>Nat.le_trans (q5 j hj) b4⟩,⟨n1,n2,Nat.le_trans n3 b5⟩,m1,m2,m3,Nat.le_trans m4 b6⟩
end
end Go.Proofs.YtgpegjmbofgmmaaGreat.actO
namespace Go.Proofs.YtgpegjmbofgmmaaGreat.leave
open Go
theorem leaving_of_handed {a:Assume} {C:Checked} {os:Os} {f:FuncId} {r:Reach} {Pre:World->Array Value->Prop} {Post:World->Array Value->Value->World->Prop}
  (h:ReturnsInHanded a C os f r Pre Post):ReturnsInLeavingWide a C os f r Pre Post:=fun enter=>by
 obtain⟨e,own,st,wit,run⟩:=h enter
 refine⟨e,own,st,wit,fun w tape i hh=>?_⟩
 obtain⟨N,v,w',hn,hc,hroom,hp,⟨M,last,h2,h3,hq,ho,he⟩,hal⟩:=run w tape i hh
 exact⟨N,v,w',hn,hc,hroom,hp,⟨M,last,h2,h3,ho,onlyLeaving_of_quiet hq,he⟩,hal⟩
end Go.Proofs.YtgpegjmbofgmmaaGreat.leave
namespace Go.Proofs.YtgpegjmbofgmmaaGreat.leave
open Go Go.ChangeShapes
section
variable {H:Type} {enc:TypeId×Value->H}
theorem returns_upto {C:Checked} {os:Os} {f:FuncId} {fn:Func} {s:ChangeSpec} {t:OpenSpec} {k:(H:Type)->List (DataW H)->Bool} (ht:t = {OpenSpec.ofChange s with cond:=some k}) {F:Stop.Interp} {conds:List PathCond} {apart fresh handsOn:Bool}
  (own:ownKnob C.prog.godebug=none) (started:os.Started) (noInit:C.prog.inits.idxOf? f=none) (hfn:C.prog.funcs[f]?=some fn)
  (i:Input) (fuel:Nat)
  (hv:(World.plainHolding C.prog os i).variablesB C.prog=true)
  (hr:((World.plainHolding C.prog os i).heap.toList.drop C.prog.globals.size).take ((begin C.prog (fun _ _=>0) default).world.heap.size-C.prog.globals.size) =
   (begin C.prog (fun _ _=>0) default).world.heap.toList.drop C.prog.globals.size)
  (hok:Input.okWideB C.prog (World.plainHolding C.prog os i) f ⟨#[],i.args,[]⟩=true)
  {x:List (DataW H)×List (DataW H)×List MemPlace} (hx:DataW.whole enc C.prog (World.plainHolding C.prog os i).memory fn.params.toList t.vars apart i.args.toList fuel=some x)
  (hconds:conds.all (PathCond.test C.prog ⟨fn.params.toList,x.1,t.bare.plain.varTypes C.prog,x.2.1⟩)=true) (hkk:k H (x.1++x.2.1)=true)
  (hsz:t.bare.sizedB enc C.prog fn apart (World.plainHolding C.prog os i).memory i.args fuel=true)
  (contract : ∀(W:World) (base:Nat) (args:Array Value) (ds gs:List (DataW H)) (before:List MemPlace),
   (∀(j:Nat) t v,fn.params[j]?=some t->args[j]?=some v->Value.okWide C.prog W .any base t v) ->
   DataW.Whole enc C.prog fn.params.toList s.vars apart W args.toList ds gs before->k H (ds++gs)=true ->
   Calls C.prog f args W fun e W' => ∃v,e = .returned v/\s.post enc C.prog fn apart fresh handsOn false W args v W'/\W'.os=W.os) :
  ReturnsInHanded {calm:=true} C os f .any (t.pre6 enc C.prog fn conds apart) (t.postWith enc C.prog fn F (outsideKept [.timePasses]) apart fresh handsOn):=by
 subst ht
 refine returnsInHanded_of_calls own started noInit ⟨World.holding C.prog os i,fun _ _=>0,⟨#[],i.args,[]⟩,rfl,World.shaped_of_B hv hr,(Input.okWide_of_okWideB (base:=0) hok).1,(Input.okWide_of_okWideB hok).2,
  ⟨(OpenSpec.pre_some rfl conds apart _ _).2 ⟨x.1,x.2.1,x.2.2,DataW.Whole_of_whole hx,hconds,hkk⟩,sizedMet_of_sizedB hsz⟩,Clock.calm_noughts _ rfl⟩ ?_
 intro w tape j _ _ _ hokj hpre _
 obtain⟨_,_,_,fn',hfn',_,_,_,_,hval⟩:=hokj
 obtain rfl:fn'=fn:=Option.some.inj (hfn'.symm.trans hfn)
 obtain⟨ds,gs,before,hw,_,hk⟩:=(OpenSpec.pre_some rfl conds apart _ _).1 hpre.1
 refine(contract (w.forCall tape j) w.heap.size j.args ds gs before hval (DataW.Whole.of_heap (w':=w.forCall tape j) (by rfl) hw) hk).mono fun e W' ⟨v,he,hp,hos⟩=>?_
 subst he
 have hsame : {W' with os:=(w.forCall tape j).os}=W':=by rw[<- hos]
 have h1:=Clock.postWith_of_post (F:=F) (s:=s) (W:=w.forCall tape j) (W':=W') (args:=j.args) (v:=v) (by rw[hsame];exact hp) (hos▸Clock.Later.refl _)
 exact h1
end
theorem holds_upto {p:Pinned} {t:OpenSpec} {c:OpenClaim} (f:FuncId) (fn:Func)
  (names:c.program=p.name/\c.sum=p.sum/\c.spec=t.name) (hstart:c.start = .entering) (hout:c.outside = [.timePasses])
  (lists:c.inits = []/\c.under=none/\c.initsInPlace = []/\c.initsUnfollowed=false/\c.initsRecurse=false/\c.initsNamed = []/\c.initsPassed = [])
  (flags:c.noBlocks=false/\c.leaving=true/\c.followed=none/\c.narrowed=t.cond.isSome/\c.still=false/\c.again=false)
  (hfn:p.checked.prog.funcNamed c.func=some f) (hf:p.checked.prog.funcs[f]?=some fn)
  (closed:joinedFacts p.checked.prog f fn t.bare c=true)
  (hinst:fn.isInstance p.checked.prog c.origin c.targs) (hwrap:fn.isWrapper p.checked.prog c.wrapper c.mainSum)
  (h : ∀os:Os,os.Started -> ∀(H:Type) (enc:TypeId×Value->H),(∀a b,enc a=enc b->a=b) ->
   ∀F:Stop.Interp,ReturnsInLeavingWide c.assume p.checked os f .any (c.pre enc p.checked.prog fn t) (t.postWith enc p.checked.prog fn F (outsideKept [.timePasses]) c.apart c.fresh c.handsOn)):c.holds p t:=by
 obtain⟨n1,n2,n3⟩:=names
 obtain⟨i1,i2,i3⟩:=lists
 obtain⟨g1,g2,g3,g4,g5,g6⟩:=flags
 simp only[joinedFacts,Bool.and_eq_true,beq_iff_eq,Array.all_eq_true_iff_forall_mem,List.all_eq_true,decide_eq_true_eq] at closed
 obtain⟨⟨⟨⟨⟨⟨⟨⟨⟨⟨⟨⟨⟨⟨⟨⟨⟨⟨⟨⟨⟨⟨⟨⟨⟨⟨⟨⟨⟨⟨⟨a1,a2⟩,a3⟩,a4⟩,a5⟩,a6⟩,a7⟩,a8⟩,a9⟩,b0⟩,b1⟩,b2⟩,b3⟩,b4⟩,b5⟩,b6⟩,b7⟩,b8⟩,b9⟩,c0⟩,c1⟩,c2⟩,c3⟩,c4⟩,c5⟩,c6⟩,c7⟩,c8⟩,c9⟩,d0⟩,d1⟩,d2⟩:=closed
 have quiet : ∀os:Os,Stop.quiet p.checked.prog os:=fun os x hx=>by rw[a9] at hx;cases hx
 have short:c.shortTexts=none:=by cases e:c.shortTexts with|none=>rfl|some _=>rw[e] at c4;cases c4
 refine⟨a1,n1,n2,n3,a2,a3,?fits,?told,f,fn,hfn,hf,⟨a4,c0⟩,fun hb=>(by rw[g1] at hb;cases hb),?names,hinst,hwrap,a6.trans a7.symm,⟨a8.trans a9.symm,?words,c5⟩,b0,b1,b2,b3,b4,⟨b5,d1,d2⟩,⟨b6,c1⟩,⟨b7,c2,c9,d0⟩,⟨c3,c7,c8,b8⟩,?narrow,
  fun n hn=>varReadable_some (b9 n hn),⟨_,by unfold OpenClaim.world;rw[hout,hstart];exact⟨WideRow.started_initial,fun o ho=>by simp at ho;subst ho;trivial⟩,quiet _⟩,[],?lists,fun os st _ H enc inj=>?run⟩
 case fits=>unfold OpenClaim.startFits;rw[hstart];exact c6
 case told=>unfold OpenClaim.startTold;rw[hstart];exact⟨i1,i2,i3⟩
 case names=>unfold OpenClaim.namedList;rw[g3];exact a5
 case words=>unfold Program.envWorded;rw[a9];rfl
 case narrow=>rw[hout,g4,short];simp[OutsideCond.fixesBytes]
 case lists=>unfold OpenClaim.lists;rw[g3]
 case run =>
  unfold OpenClaim.world at st
  rw[hout,hstart] at st
  rw[OpenClaim.post_not_still g5]
  unfold OpenClaim.form
  rw[hstart,a6]
  intro F
  have q1:c.okInput=Input.okWide:=by unfold OpenClaim.okInput;rw[g1]
  have q2:c.atReturn p.checked.prog=leavingAtReturn p.checked.prog:=by unfold OpenClaim.atReturn;rw[g2]
  have q3:c.always p.checked.prog []=nothingAlways:=by unfold OpenClaim.always;rw[g3]
  have q4:t.post enc p.checked.prog fn F c.outside c.apart c.fresh c.handsOn c.again=t.postWith enc p.checked.prog fn F (outsideKept [.timePasses]) c.apart c.fresh c.handsOn:=by rw[hout];rfl
  rw[q1,q2,q3]
  show ReturnsInOpen _ _ _ _ _ _ _ _ (t.post enc p.checked.prog fn F c.outside c.apart c.fresh c.handsOn c.again) _ _
  rw[q4]
  exact h os st.1 H enc inj F c6
end Go.Proofs.YtgpegjmbofgmmaaGreat.leave
