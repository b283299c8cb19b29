/- The law 'JournalNames' answers true: the numbers of the document, and what the journal of a known session answers. No condition. -/
import Derived.Test.YtgpegjmbofgmmaaGreatRows
import Derived.Test.YtgpegjmbofgmmaaGreatJouRun
import Derived.WalkKit
import Derived.ProofKit
import Derived.OpenShut
import Derived.Test.YtgpegjmbofgmmaaGreatLeave
import Derived.Test.YtgpegjmbofgmmaaGreatLaidA
import Derived.Test.YtgpegjmbofgmmaaGreatLaidB
import Derived.Test.YtgpegjmbofgmmaaGreatLaidC
import Derived.Test.YtgpegjmbofgmmaaGreatLaidF
import Derived.Test.YtgpegjmbofgmmaaGreatLaidG
namespace Go.Proofs.YtgpegjmbofgmmaaGreat.journalNames
open Go.ChangeShapes Go.WideShapes Go.ChangeAt Go.RowKit
set_option linter.unusedVariables false      -- a walk need not use every 'w<i>' (that an integer argument fits its kind)

theorem own : ownKnob Tryz.prog.godebug = none := by kernel_rfl

/-! ### STEP 1: THE WALK: the Go text returns true. 'Grown w w'': the world has at most new blocks (Derived/RowKit3.lean). Part the cases AHEAD of 'go_enter' where a test parts the walk; take each callee by a contract of your own. -/
theorem walk  (w : World) :
    Calls Tryz.prog 3 #[] w fun e w' => e = .returned (.bool true) ∧ Grown w w' := by
  exact jouRun.walk3 w

/-! ### THE ROW's STEP: the row of a call that may leave others behind it, and at which the clock goes on: here there is nobody, and no look at the clock. -/
set_option maxRecDepth 100000 in
theorem lifted (os : Os) (started : os.Started) (H : Type) (enc : TypeId × Value → H) (F : Stop.Interp) :
    ReturnsInHanded { calm := true } Tryz.checked os 3 .any (Rows.journalNamesRow.pre enc Tryz.prog Tryz.f3 (OpenSpec.ofChange Rows.journalNamesSpec)) ((OpenSpec.ofChange Rows.journalNamesSpec).postWith enc Tryz.prog Tryz.f3 F (outsideKept [.timePasses]) false true false) := by
  rw [Clock.pre_unlisted rfl]
  refine Clock.returns_of_change (C := Tryz.checked) (X := fun _ _ => True) (fun _ _ _ _ h => h) own started (by kernel_rfl) Tryz.func3
    (Clock.witness (C := Tryz.checked) ⟨#[], #[], []⟩ 8 (by kernel_rfl) (by kernel_rfl) (by kernel_rfl) (by kernel_rfl)) ?_
  intro W base args ds gs before hval0 hW hcnd _ _ _
  have hval : ∀ (j : Nat) t v, Tryz.f3.params[j]? = some t → args[j]? = some v → Value.okWide Tryz.prog W .any base t v := hval0
  have hW' := hW
  obtain ⟨p, q, hA0, hV, rfl, hfz, hnd⟩ := hW
  have hA : DataW.TrodAll enc Tryz.prog W 0 (fun _ => true) true Tryz.f3.params.toList args.toList ds p := hA0
  rw [Tryz.params3] at hA hval
  obtain ⟨rfl, rfl, rfl⟩ := trodAll_none hA
  obtain ⟨rfl, rfl⟩ := trodVars_none hV
  clear hA0 hval0
  simp only [List.append_nil] at hW'
  refine (walk  W).mono fun e W' ⟨he, hg⟩ => ?_
  subst he
  have ho : W'.os = W.os := hg.1.1
  have hw : { W' with os := W.os } = W' := by rw [← ho]
  rw [hw]
  exact ⟨_, rfl, post_of_same (pa := []) (pv := []) hW' (fun _ _ _ => (trodAll_cons_mk (shut_bool Tryz.underlying4 _) trodAll_mk0)) (fun sp _ => rfl) (fun _ _ => rfl) rfl
    (hg.frame _) hg.2.1 (ok_one (by kernel_rfl) rfl (okWide_bool_mk Tryz.underlying4 _)), ho ▸ Clock.Later.refl _⟩

theorem and_t {a b : Bool} (ha : a = true) (hb : b = true) : (a && b) = true := by rw [ha, hb]; rfl

/-! The facts on the program, one by one: together they want more memory than one declaration has. -/
theorem inPlaceIs : (Rows.journalNamesRow.inPlace == Tryz.prog.inPlace 3) = true := laid.inPlaceIs
theorem unfollowedIs : (Rows.journalNamesRow.unfollowed == Tryz.prog.unfollowed 3) = true := laid.unfollowedIs
theorem recursesIs : (Rows.journalNamesRow.recurses == Tryz.prog.recurses 3) = true := laid.recursesIs
theorem namedIs : (Rows.journalNamesRow.named == Tryz.prog.varsNamed 3) = true := laid.namedIs
theorem laidIs : (laidOutB Tryz.prog) = true := by
  unfold laidOutB
  exact and_t (and_t laid.types laid.globals) laid.funcs
theorem mapsIs : (mapsRowed Tryz.prog) = true := laid.maps
theorem stopsIs : (Tryz.prog.stopsHeard) = true := by kernel_rfl
theorem mayIs : (Tryz.prog.mayEnter) = true := by kernel_rfl
theorem plainIs : (Rows.journalNamesRow.plainKeys == Tryz.prog.plainKeys) = true := by kernel_rfl

set_option maxHeartbeats 4000000 in
theorem facts : joinedFacts Tryz.prog 3 Tryz.f3 Rows.journalNamesSpec Rows.journalNamesRow = true := by
  unfold joinedFacts
  repeat' (with_reducible refine and_t ?_ ?_)
  all_goals first
    | with_reducible exact inPlaceIs
    | with_reducible exact unfollowedIs
    | with_reducible exact recursesIs
    | with_reducible exact namedIs
    | with_reducible exact laidIs
    | with_reducible exact mapsIs
    | with_reducible exact stopsIs
    | with_reducible exact mayIs
    | with_reducible exact plainIs
    | as_aux_lemma => kernel_rfl

theorem named3 : Tryz.prog.funcNamed Rows.journalNamesRow.func = some 3 := by kernel_rfl

theorem over : Rows.journalNamesRow.holds Tryz.pinned (OpenSpec.ofChange Rows.journalNamesSpec) :=
  OpenClaim.holds_of_wide_leaving_time 3 Tryz.f3 rfl rfl rfl rfl rfl rfl rfl ⟨rfl, rfl, rfl, rfl, rfl⟩ rfl rfl rfl rfl rfl named3 Tryz.func3 facts
    (of_decide_eq_true (by kernel_rfl)) (by unfold Func.isWrapper; first | (rw [if_pos (by decide +kernel)]; kernel_rfl) | (rw [if_neg (by decide +kernel)]; exact ⟨rfl, rfl⟩))
    (fun os started H enc _ F => leave.leaving_of_handed (lifted os started H enc F))

/-- ████ THE STATEMENT ████ -/
theorem proved : Rows.JournalNamesSaid :=
  over
#print axioms proved
end Go.Proofs.YtgpegjmbofgmmaaGreat.journalNames
