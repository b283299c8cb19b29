/- The law 'AuditSides' answers true, for every three pictures of the bulk that the statement names: how far two pictures are apart is the same both ways, nothing just where they are the same, and three pictures meet the triangle. Condition: the statement's own bound on what it reads. -/
import Derived.Test.YtconnknbmhbmoaaGreatRows
import Derived.Test.YtconnknbmhbmoaaGreatSidTwo
import Derived.WalkKit
import Derived.ProofKit
import Derived.OpenShut
import Derived.JoinedCond
import Derived.Below
import Derived.Carry
import Derived.ChangeOld
namespace Go.Proofs.YtconnknbmhbmoaaGreat.auditSides
open Go.ChangeShapes Go.WideShapes Go.ChangeAt Go.RowKit
set_option linter.unusedVariables false

theorem own : ownKnob Tryz.prog.godebug = none := by kernel_rfl
theorem laidIs : (laidOutB Tryz.prog) = true := by kernel_rfl
theorem rec24 : Tryz.prog.readableRec 24 = true := by kernel_rfl
theorem lt24 : 24 < Tryz.prog.types.size := of_decide_eq_true (by kernel_rfl)

set_option maxRecDepth 100000 in
/-- What the walk gives, for every argument. -/
theorem contract (H : Type) (enc : TypeId × Value → H) (W : World) (base : Nat) (args : Array Value) (ds gs : List (DataW H)) (before : List MemPlace)
    (hval : ∀ (j : Nat) t v, Tryz.f4.params[j]? = some t → args[j]? = some v → Value.okWide Tryz.prog W .any base t v)
    (hW : DataW.Whole enc Tryz.prog Tryz.f4.params.toList Rows.auditSidesSpec.vars false W args.toList ds gs before) :
    Calls Tryz.prog 4 args W fun e W' => ∃ v, e = .returned v ∧ Rows.auditSidesSpec.post enc Tryz.prog Tryz.f4 false true false false W args v W' := by
  have hW' := hW
  obtain ⟨p, q, hA0, hV, rfl, hfz, hnd⟩ := hW
  have hA : DataW.TrodAll enc Tryz.prog W 0 (fun _ => true) true Tryz.f4.params.toList args.toList ds p := hA0
  rw [Tryz.params4] at hA hval
  obtain ⟨v0, vs0, d0, ds0, p0, q0, hargs, rfl, rfl, h0, r0⟩ := trodAll_cons hA
  obtain ⟨v1, vs1, d1, ds1, p1, q1, rfl, rfl, rfl, h1, r1⟩ := trodAll_cons r0
  obtain ⟨v2, vs2, d2, ds2, p2, q2, rfl, rfl, rfl, h2, r2⟩ := trodAll_cons r1
  obtain ⟨rfl, rfl, rfl⟩ := trodAll_nil r2
  obtain rfl : args = #[v0, v1, v2] := by cases args; simp_all
  obtain ⟨rfl, rfl⟩ := trodVars_none hV
  have lt0 : ∀ x ∈ p0, x.block < W.heap.size := by obtain ⟨m, hm⟩ := h0; exact DataW.trod_lt m _ _ _ hm
  have k0 := h0
  obtain ⟨sp0, A0, c0, l0, rfl, hc0, hC0, hU0⟩ := sides.open_picture (hval 0 24 v0 rfl rfl) h0
  have lt1 : ∀ x ∈ p1, x.block < W.heap.size := by obtain ⟨m, hm⟩ := h1; exact DataW.trod_lt m _ _ _ hm
  have k1 := h1
  obtain ⟨sp1, A1, c1, l1, rfl, hc1, hC1, hU1⟩ := sides.open_picture (hval 1 24 v1 rfl rfl) h1
  have lt2 : ∀ x ∈ p2, x.block < W.heap.size := by obtain ⟨m, hm⟩ := h2; exact DataW.trod_lt m _ _ _ hm
  have k2 := h2
  obtain ⟨sp2, A2, c2, l2, rfl, hc2, hC2, hU2⟩ := sides.open_picture (hval 2 24 v2 rfl rfl) h2
  clear hA0
  refine (sides.all_walk sp0 sp1 sp2 A0 A1 A2 c0 c1 c2 l0 l1 l2 W ⟨hC0, hc0, hU0, hC1, hc1, hU1, hC2, hc2, hU2⟩).mono fun e W' ⟨he, bel⟩ => ?_
  subst he
  exact ⟨_, rfl, _, _, _, [], _, [], hW', trodAll_mk1 (shut_bool Tryz.underlying4 _), (trodAll_cons_mk (Below.trod laidIs rec24 lt24 k0 bel lt0) (trodAll_cons_mk (Below.trod laidIs rec24 lt24 k1 bel lt1) (trodAll_cons_mk (Below.trod laidIs rec24 lt24 k2 bel lt2) trodAll_mk0))), rfl, bel.frame _, fun h => by cases h⟩

set_option maxRecDepth 100000 in
theorem lifted (os : Os) (started : os.Started) (H : Type) (enc : TypeId × Value → H) (F : Stop.Interp) :
    ReturnsInHanded {} Tryz.checked os 4 .any ((Rows.OpenSpec.upto Rows.auditSidesSpec).pre6 enc Tryz.prog Tryz.f4 Rows.auditSidesUptoRow.domain false) (((Rows.OpenSpec.upto Rows.auditSidesSpec).at F).post enc Tryz.prog Tryz.f4 false true false false) := by
  refine returnsInHanded_of_cond (C := Tryz.checked) (s := Rows.OpenSpec.upto Rows.auditSidesSpec) (k := Rows.uptoSmall) rfl own started (by kernel_rfl) Tryz.func4
    (OpenSpec.witness (enc := enc) (C := Tryz.checked) (s := Rows.OpenSpec.upto Rows.auditSidesSpec) (k := Rows.uptoSmall) rfl false ⟨#[], #[.agg #[.int .i64 0, .slice none 0 0], .agg #[.int .i64 0, .slice none 0 0], .agg #[.int .i64 0, .slice none 0 0]], []⟩ 8 (by kernel_rfl) (by kernel_rfl) (by kernel_rfl)
      (x := ([.agg [.lit (.int .i64 0), .nil], .agg [.lit (.int .i64 0), .nil], .agg [.lit (.int .i64 0), .nil]], [], [])) (by kernel_rfl) rfl (by kernel_rfl)) ?_
  intro W base args ds gs before hval hW _ hk _
  exact contract H enc W base args ds gs before hval hW

theorem and_t {a b : Bool} (ha : a = true) (hb : b = true) : (a && b) = true := by rw [ha, hb]; rfl

/-! The facts on the program, one by one: together they want more memory than one declaration has. -/
theorem inPlaceIs : (Rows.auditSidesUptoRow.inPlace == Tryz.prog.inPlace 4) = true := by kernel_rfl
theorem unfollowedIs : (Rows.auditSidesUptoRow.unfollowed == Tryz.prog.unfollowed 4) = true := by kernel_rfl
theorem recursesIs : (Rows.auditSidesUptoRow.recurses == Tryz.prog.recurses 4) = true := by kernel_rfl
theorem namedIs : (Rows.auditSidesUptoRow.named == Tryz.prog.varsNamed 4) = true := by kernel_rfl
theorem mapsIs : (mapsRowed Tryz.prog) = true := by kernel_rfl
theorem stopsIs : (Tryz.prog.stopsHeard) = true := by kernel_rfl
theorem mayIs : (Tryz.prog.mayEnter) = true := by kernel_rfl
theorem plainIs : (Rows.auditSidesUptoRow.plainKeys == Tryz.prog.plainKeys) = true := by kernel_rfl

set_option maxHeartbeats 4000000 in
theorem facts : joinedFacts Tryz.prog 4 Tryz.f4 (Rows.OpenSpec.upto Rows.auditSidesSpec).bare Rows.auditSidesUptoRow = true := by
  unfold joinedFacts
  repeat' (with_reducible refine and_t ?_ ?_)
  all_goals first
    | with_reducible exact inPlaceIs
    | with_reducible exact unfollowedIs
    | with_reducible exact recursesIs
    | with_reducible exact namedIs
    | with_reducible exact laidIs
    | with_reducible exact mapsIs
    | with_reducible exact stopsIs
    | with_reducible exact mayIs
    | with_reducible exact plainIs
    | as_aux_lemma => kernel_rfl

theorem namedIt : Tryz.prog.funcNamed Rows.auditSidesUptoRow.func = some 4 := by kernel_rfl

theorem over : Rows.auditSidesUptoRow.holds Tryz.pinned (Rows.OpenSpec.upto Rows.auditSidesSpec) :=
  OpenClaim.holds_of_cond 4 Tryz.f4 rfl rfl rfl rfl rfl rfl rfl ⟨rfl, rfl, rfl, rfl, rfl⟩ rfl rfl rfl rfl rfl namedIt Tryz.func4 facts
    (of_decide_eq_true (by kernel_rfl)) (by unfold Func.isWrapper; first | (rw [if_pos (by decide +kernel)]; kernel_rfl) | (rw [if_neg (by decide +kernel)]; exact ⟨rfl, rfl⟩))
    (fun os started H enc _ F => lifted os started H enc F)

/-- THE STATEMENT -/
theorem proved : Rows.AuditSidesUptoSaid :=
  over
#print axioms proved
end Go.Proofs.YtconnknbmhbmoaaGreat.auditSides
