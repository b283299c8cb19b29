/- A part of the proof. No condition. -/
import Derived.Test.YtgpegjmbofgmmaaGreatRows
import Derived.Test.YtgpegjmbofgmmaaGreatRRu
import Derived.Test.YtgpegjmbofgmmaaGreatRAc
import Derived.WalkKit
import Derived.ProofKit
import Derived.OpenShut
import Derived.JoinedCond
import Derived.Below
import Derived.Carry
import Derived.ChangeOld
import Derived.Test.YtgpegjmbofgmmaaGreatRLaidA
import Derived.Test.YtgpegjmbofgmmaaGreatRLaidB
import Derived.Test.YtgpegjmbofgmmaaGreatRLaidC
import Derived.Test.YtgpegjmbofgmmaaGreatRLaidI
import Derived.Test.YtgpegjmbofgmmaaGreatRLaidJ
namespace Go.Proofs.YtgpegjmbofgmmaaGreat.journalRecord
open Go.ChangeShapes Go.WideShapes Go.ChangeAt Go.RowKit
set_option linter.unusedVariables false
theorem own:ownKnob Tryz.prog.godebug=none:=by kernel_rfl
theorem and_t {a b:Bool} (ha:a=true) (hb:b=true):(a&&b)=true:=by rw[ha,hb];rfl
theorem laidIs:(laidOutB Tryz.prog)=true:=by
 unfold laidOutB
 exact and_t (and_t laid.types laid.globals) laid.funcs
theorem rec31:Tryz.prog.readableRec 31=true:=by kernel_rfl
theorem lt31:31<Tryz.prog.types.size:=of_decide_eq_true (by kernel_rfl)
theorem known_b:jou.KnownB:=by
 intro w
 refine Calls.mono (Go.Ab.closed_trueF (Go.Ab.withTabs_ok _ _ jouRun.all_tabs jouRun.baseOK) (Go.Ab.okR_yes jouRun.ran7) Tryz.func7 (by kernel_rfl) (by kernel_rfl) w) ?_
 rintro e w' ⟨he,h1,h2,h3,h4,h5,h6⟩
 exact⟨he,⟨h3,h4,h5,h2,h1⟩⟩
set_option maxRecDepth 100000 in
theorem contract (H:Type) (enc:TypeId×Value->H) (W:World) (base:Nat) (args:Array Value) (ds gs:List (DataW H)) (before:List MemPlace)
  (hval : ∀(j:Nat) t v,Tryz.f4.params[j]?=some t->args[j]?=some v->Value.okWide Tryz.prog W .any base t v)
  (hW:DataW.Whole enc Tryz.prog Tryz.f4.params.toList Rows.journalRecordSpec.vars false W args.toList ds gs before) (hk:Rows.uptoSmall H (ds++gs)=true) :
  Calls Tryz.prog 4 args W fun e W' => ∃v,e = .returned v/\Rows.journalRecordSpec.post enc Tryz.prog Tryz.f4 false true false false W args v W'/\W'.os=W.os:=by
 have hW':=hW
 obtain⟨p,q,hA0,hV,rfl,hfz,hnd⟩:=hW
 have hA:DataW.TrodAll enc Tryz.prog W 0 (fun _=>true) true Tryz.f4.params.toList args.toList ds p:=hA0
 rw[Tryz.params4] at hA hval
 obtain⟨v0,vs0,d0,ds0,p0,q0,hargs,rfl,rfl,h0,r0⟩:=trodAll_cons hA
 obtain⟨rfl,rfl,rfl⟩:=trodAll_nil r0
 obtain rfl:args = #[v0]:=by cases args;simp_all
 obtain⟨rfl,rfl⟩:=trodVars_none hV
 have lt0 : ∀x∈p0,x.block<W.heap.size:=by obtain⟨m,hm⟩:=h0;exact DataW.trod_lt m _ _ _ hm
 have k0:=h0
 have hbk:Rows.uptoBulk d0<=1048576:=by
  have h:=of_decide_eq_true hk
  simp only[List.append_nil,Rows.uptoBulkAll] at h
  omega
 obtain⟨kind,node,x,y,sp,AP,cP,l,AN,cN,xs,AB,cB,zs,r0,r1,r2,r3,rfl,⟨a1,a2,a3,a4,a5⟩,⟨b1,b2,b3⟩,c1,c2,c3,c4⟩:=actO.open_act (hval 0 31 v0 rfl rfl) h0
 clear hA0
 refine(jou.law_all known_b W kind node x y sp AP cP l AN cN xs AB cB zs r0 r1 r2 r3 a2 b2 c2 a1 b1 c1 a3 c3 (by omega) (fun j hj=>by have:=a5 j hj;omega) (by omega) (by omega)).mono fun e W' ⟨he,bel⟩=>?_
 subst he
 exact⟨_,rfl,⟨_,_,_,[],_,[],hW',trodAll_mk1 (shut_bool Tryz.underlying4 _),(trodAll_cons_mk (Below.trod laidIs rec31 lt31 k0 bel lt0) trodAll_mk0),rfl,bel.frame _,fun h=>by cases h⟩,bel.os⟩
set_option maxRecDepth 100000 in
theorem lifted (os:Os) (started:os.Started) (H:Type) (enc:TypeId×Value->H) (F:Stop.Interp) :
  ReturnsInHanded {calm:=true} Tryz.checked os 4 .any (Rows.journalRecordUptoRow.pre enc Tryz.prog Tryz.f4 (Rows.OpenSpec.upto Rows.journalRecordSpec)) ((Rows.OpenSpec.upto Rows.journalRecordSpec).postWith enc Tryz.prog Tryz.f4 F (outsideKept [.timePasses]) false true false):=by
 rw[OpenClaim.pre_of_none' rfl]
 refine leave.returns_upto (C:=Tryz.checked) (s:=Rows.journalRecordSpec) (t:=Rows.OpenSpec.upto Rows.journalRecordSpec) (k:=Rows.uptoSmall) rfl own started (by kernel_rfl) Tryz.func4
  ⟨#[],#[.agg #[.int .i64 0,.int .i64 0,.int .i64 0,.int .i64 0,.int .i64 0,.slice none 0 0,.slice none 0 0,.slice none 0 0,.int .i64 0,.int .i64 0,.int .i64 0,.int .i64 0]],[]⟩ 8 (by kernel_rfl) (by kernel_rfl) (by kernel_rfl)
  (x:=([.agg [.lit (.int .i64 0),.lit (.int .i64 0),.lit (.int .i64 0),.lit (.int .i64 0),.agg [.lit (.int .i64 0),.nil],.nil,.nil,.agg [.lit (.int .i64 0),.lit (.int .i64 0),.lit (.int .i64 0),.lit (.int .i64 0)]]],[],[])) (by kernel_rfl) rfl (by kernel_rfl) (by kernel_rfl) ?_
 intro W base args ds gs before hval hW hk
 exact contract H enc W base args ds gs before hval hW hk
theorem mapsIs:(mapsRowed Tryz.prog)=true:=laid.maps
theorem stopsIs:(Tryz.prog.stopsHeard)=true:=by kernel_rfl
theorem mayIs:(Tryz.prog.mayEnter)=true:=by kernel_rfl
theorem plainIs:(Rows.journalRecordUptoRow.plainKeys==Tryz.prog.plainKeys)=true:=by kernel_rfl
set_option maxHeartbeats 4000000 in
theorem facts:joinedFacts Tryz.prog 4 Tryz.f4 (Rows.OpenSpec.upto Rows.journalRecordSpec).bare Rows.journalRecordUptoRow=true:=by
 unfold joinedFacts
 repeat' (with_reducible refine and_t ?_ ?_)
 all_goals first
  | with_reducible exact laid.inPlaceIs4
  | with_reducible exact laid.unfollowedIs4
  | with_reducible exact laid.recursesIs4
  | with_reducible exact laid.namedIs4
  | with_reducible exact laidIs
  | with_reducible exact mapsIs
  | with_reducible exact stopsIs
  | with_reducible exact mayIs
  | with_reducible exact plainIs
  | as_aux_lemma=>kernel_rfl
theorem namedIt:Tryz.prog.funcNamed Rows.journalRecordUptoRow.func=some 4:=by kernel_rfl
theorem over:Rows.journalRecordUptoRow.holds Tryz.pinned (Rows.OpenSpec.upto Rows.journalRecordSpec) :=
 leave.holds_upto 4 Tryz.f4 ⟨rfl,rfl,rfl⟩ rfl rfl ⟨rfl,rfl,rfl,rfl,rfl,rfl,rfl⟩ ⟨rfl,rfl,rfl,rfl,rfl,rfl⟩ namedIt Tryz.func4 facts
  (of_decide_eq_true (by kernel_rfl)) (by unfold Func.isWrapper;first|(rw[if_pos (by decide +kernel)];kernel_rfl)|(rw[if_neg (by decide +kernel)];exact⟨rfl,rfl⟩))
  (fun os started H enc _ F=>leave.leaving_of_handed (lifted os started H enc F))
theorem proved:Rows.JournalRecordUptoSaid :=
 over
#print axioms proved
end Go.Proofs.YtgpegjmbofgmmaaGreat.journalRecord
