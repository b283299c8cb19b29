/- The law 'AuditTrips' answers true, for every picture of the bulk that the statement names: to its own space and back nothing is apart; the counts of the classes add up; each sample's bits are from 1 to 56; lifted and back nothing is apart; by powers and back, numbers above naught are at most 32 apart. Condition: the statement's own bound on what it reads. -/
import Derived.Test.YtimghiiihjphiaaGreatRows
import Derived.Test.YtimghiiihjphiaaGreatTriV
import Derived.Test.YtimghiiihjphiaaGreatTriW
import Derived.WalkKit
import Derived.ProofKit
import Derived.OpenShut
import Derived.JoinedCond
import Derived.Below
import Derived.Carry
import Derived.ChangeOld
namespace Go.Proofs.YtimghiiihjphiaaGreat.auditTrips
open Go.ChangeShapes Go.WideShapes Go.ChangeAt Go.RowKit
set_option linter.unusedVariables false

theorem own : ownKnob Tryz.prog.godebug = none := by kernel_rfl
theorem laidIs : (laidOutB Tryz.prog) = true := by kernel_rfl
theorem rec24 : Tryz.prog.readableRec 24 = true := by kernel_rfl
theorem lt24 : 24 < Tryz.prog.types.size := of_decide_eq_true (by kernel_rfl)

set_option maxRecDepth 100000 in
/-- What the walk gives, for every argument. -/
theorem contract (H : Type) (enc : TypeId × Value → H) (W : World) (base : Nat) (args : Array Value) (ds gs : List (DataW H)) (before : List MemPlace)
    (hval : ∀ (j : Nat) t v, Tryz.f3.params[j]? = some t → args[j]? = some v → Value.okWide Tryz.prog W .any base t v)
    (hW : DataW.Whole enc Tryz.prog Tryz.f3.params.toList Rows.auditTripsSpec.vars false W args.toList ds gs before) :
    Calls Tryz.prog 3 args W fun e W' => ∃ v, e = .returned v ∧ Rows.auditTripsSpec.post enc Tryz.prog Tryz.f3 false true false false W args v W' := by
  have hW' := hW
  obtain ⟨p, q, hA0, hV, rfl, hfz, hnd⟩ := hW
  have hA : DataW.TrodAll enc Tryz.prog W 0 (fun _ => true) true Tryz.f3.params.toList args.toList ds p := hA0
  rw [Tryz.params3] at hA hval
  obtain ⟨v0, vs0, d0, ds0, p0, q0, hargs, rfl, rfl, h0, r0⟩ := trodAll_cons hA
  obtain ⟨rfl, rfl, rfl⟩ := trodAll_nil r0
  obtain rfl : args = #[v0] := by cases args; simp_all
  obtain ⟨rfl, rfl⟩ := trodVars_none hV
  have lt0 : ∀ x ∈ p0, x.block < W.heap.size := by obtain ⟨m, hm⟩ := h0; exact DataW.trod_lt m _ _ _ hm
  have k0 := h0
  obtain ⟨sp0, A0, c0, l0, rfl, hc0, hC0, hU0⟩ := sides.open_picture (hval 0 24 v0 rfl rfl) h0
  clear hA0
  refine (trips.law_all W sp0 A0 c0 l0 hC0 hc0 hU0).mono fun e W' ⟨he, bel⟩ => ?_
  subst he
  exact ⟨_, rfl, _, _, _, [], _, [], hW', trodAll_mk1 (shut_bool Tryz.underlying4 _), (trodAll_cons_mk (Below.trod laidIs rec24 lt24 k0 bel lt0) trodAll_mk0), rfl, bel.frame _, fun h => by cases h⟩

set_option maxRecDepth 100000 in
theorem lifted (os : Os) (started : os.Started) (H : Type) (enc : TypeId × Value → H) (F : Stop.Interp) :
    ReturnsInHanded {} Tryz.checked os 3 .any ((Rows.OpenSpec.upto Rows.auditTripsSpec).pre6 enc Tryz.prog Tryz.f3 Rows.auditTripsUptoRow.domain false) (((Rows.OpenSpec.upto Rows.auditTripsSpec).at F).post enc Tryz.prog Tryz.f3 false true false false) := by
  refine returnsInHanded_of_cond (C := Tryz.checked) (s := Rows.OpenSpec.upto Rows.auditTripsSpec) (k := Rows.uptoSmall) rfl own started (by kernel_rfl) Tryz.func3
    (OpenSpec.witness (enc := enc) (C := Tryz.checked) (s := Rows.OpenSpec.upto Rows.auditTripsSpec) (k := Rows.uptoSmall) rfl false ⟨#[], #[.agg #[.int .i64 0, .slice none 0 0]], []⟩ 8 (by kernel_rfl) (by kernel_rfl) (by kernel_rfl)
      (x := ([.agg [.lit (.int .i64 0), .nil]], [], [])) (by kernel_rfl) rfl (by kernel_rfl)) ?_
  intro W base args ds gs before hval hW _ hk _
  exact contract H enc W base args ds gs before hval hW

theorem and_t {a b : Bool} (ha : a = true) (hb : b = true) : (a && b) = true := by rw [ha, hb]; rfl

/-! The facts on the program, one by one: together they want more memory than one declaration has. -/
theorem inPlaceIs : (Rows.auditTripsUptoRow.inPlace == Tryz.prog.inPlace 3) = true := by kernel_rfl
theorem unfollowedIs : (Rows.auditTripsUptoRow.unfollowed == Tryz.prog.unfollowed 3) = true := by kernel_rfl
theorem recursesIs : (Rows.auditTripsUptoRow.recurses == Tryz.prog.recurses 3) = true := by kernel_rfl
theorem namedIs : (Rows.auditTripsUptoRow.named == Tryz.prog.varsNamed 3) = true := by kernel_rfl
theorem mapsIs : (mapsRowed Tryz.prog) = true := by kernel_rfl
theorem stopsIs : (Tryz.prog.stopsHeard) = true := by kernel_rfl
theorem mayIs : (Tryz.prog.mayEnter) = true := by kernel_rfl
theorem plainIs : (Rows.auditTripsUptoRow.plainKeys == Tryz.prog.plainKeys) = true := by kernel_rfl

set_option maxHeartbeats 4000000 in
theorem facts : joinedFacts Tryz.prog 3 Tryz.f3 (Rows.OpenSpec.upto Rows.auditTripsSpec).bare Rows.auditTripsUptoRow = true := by
  unfold joinedFacts
  repeat' (with_reducible refine and_t ?_ ?_)
  all_goals first
    | with_reducible exact inPlaceIs
    | with_reducible exact unfollowedIs
    | with_reducible exact recursesIs
    | with_reducible exact namedIs
    | with_reducible exact laidIs
    | with_reducible exact mapsIs
    | with_reducible exact stopsIs
    | with_reducible exact mayIs
    | with_reducible exact plainIs
    | as_aux_lemma => kernel_rfl

theorem namedIt : Tryz.prog.funcNamed Rows.auditTripsUptoRow.func = some 3 := by kernel_rfl

theorem over : Rows.auditTripsUptoRow.holds Tryz.pinned (Rows.OpenSpec.upto Rows.auditTripsSpec) :=
  OpenClaim.holds_of_cond 3 Tryz.f3 rfl rfl rfl rfl rfl rfl rfl ⟨rfl, rfl, rfl, rfl, rfl⟩ rfl rfl rfl rfl rfl namedIt Tryz.func3 facts
    (of_decide_eq_true (by kernel_rfl)) (by unfold Func.isWrapper; first | (rw [if_pos (by decide +kernel)]; kernel_rfl) | (rw [if_neg (by decide +kernel)]; exact ⟨rfl, rfl⟩))
    (fun os started H enc _ F => lifted os started H enc F)

/-- THE STATEMENT -/
theorem proved : Rows.AuditTripsUptoSaid :=
  over
#print axioms proved
end Go.Proofs.YtimghiiihjphiaaGreat.auditTrips
