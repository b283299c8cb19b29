/- A part of the proof: the law's walk, for every picture. Condition: the samples are of 32 bits. -/
import Derived.Test.YtimghiiihjphiaaGreatTriU
import Derived.Test.YtimghiiihjphiaaGreatAuditRun
namespace Go.Proofs.YtimghiiihjphiaaGreat.trips
open Go.RowKit Go.Proofs.YtimghiiihjphiaaGreatW.PrintWords Go.Proofs.YtimghiiihjphiaaGreat.PTri Go.Proofs.YtimghiiihjphiaaGreat.sides
set_option linter.unusedVariables false

theorem known_b : KnownB := by
  intro w
  refine Calls.mono (Go.Ab.closed_true auditRun.mixed auditRun.primsOK (Go.Ab.okR_yes auditRun.ran) Tryz.func4 (by kernel_rfl) (by kernel_rfl) w) ?_
  rintro e w' ⟨he, h1, h2, h3, h4, h5, h6⟩
  exact ⟨he, ⟨h3, h4, h5, h2, h1⟩⟩

theorem law_all (w : World) (sp : Int) (A : Option Addr) (cap : Nat) (l : List S37) (hr : Kd.C k37 w A l.length l) (hcap : l.length ≤ cap) (hU : UL l) :
    Calls Tryz.prog 3 #[.agg #[.int .i64 sp, .slice A l.length cap]] w fun e w' => e = .returned (.bool true) ∧ Below w.heap.size w w' := by
  obtain ⟨b, hl⟩ := classes.light_f sp l
  cases b with
  | false => exact law_dark known_b w sp A cap l hr hcap 200 hl
  | true =>
    obtain ⟨er, hck, hgood⟩ := check_f sp l
    by_cases he : er = 0
    · subst he
      have hf := fine_of hck hU
      exact law_good known_b w sp A cap l hr hcap 200 hl hf (classes.light_small sp l hf.good.few (fun j hj => (hf.good.ok j hj).small) 200 hl)
    · exact law_bad known_b w sp er A cap l hr hcap 200 hl hck he
end Go.Proofs.YtimghiiihjphiaaGreat.trips
