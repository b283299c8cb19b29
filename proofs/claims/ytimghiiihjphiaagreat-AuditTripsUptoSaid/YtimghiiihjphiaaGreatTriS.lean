/- A part of the proof: what Apart answers, for every two pictures of samples; and what holds of its answers. Condition: the samples are of 32 bits. -/
import Derived.Test.YtimghiiihjphiaaGreatSidF
import Derived.Test.YtimghiiihjphiaaGreatSidG
namespace Go.Proofs.YtimghiiihjphiaaGreat.sides
open Go.RowKit Go.Proofs.YtimghiiihjphiaaGreatW.PrintWords Go.Proofs.YtimghiiihjphiaaGreat.PTri
set_option linter.unusedVariables false
set_option linter.unusedSimpArgs false

def UL (l : List S37) : Prop := ∀ j : Nat, j < l.length → AllU (rd_T37 l j).f2

/-- what Apart answers -/
def apartR (sp : Int) (lp : List S37) (sq : Int) (lq : List S37) : Mt × Int :=
  match picture_Check.f 20 sp lp with
  | some ep => if ep = 0 then (match picture_Check.f 20 sq lq with
    | some eq => if eq = 0 then (match audit_fit.f sp lp sq lq with
      | some true => (outer (rd_T37 lp 0).f0 lp lq zeroM lp.length, 0)
      | _ => (zeroM, 270)) else (zeroM, eq)
    | none => (zeroM, 270)) else (zeroM, ep)
  | none => (zeroM, 270)

theorem lens_of {lp lq : List S37} (hp : Good lp) (hq : Good lq) (hl : lp.length = lq.length) (h0 : (rd_T37 lp 0).f0 = (rd_T37 lq 0).f0) (h1 : (rd_T37 lp 0).f1 = (rd_T37 lq 0).f1) (k : Nat) (hk : k < lp.length) :
    (rd_T37 lp k).f0 = (rd_T37 lq k).f0 ∧ (rd_T37 lp k).f1 = (rd_T37 lq k).f1 ∧ (rd_T37 lp k).f2.length = (rd_T37 lq k).f2.length := by
  have a := hp.same k hk
  have b := hq.same k (by omega)
  have c := (hp.ok k hk).size
  have d := (hq.ok k (by omega)).size
  have e : (rd_T37 lp k).f0 = (rd_T37 lq k).f0 := by rw [a.1, b.1, h0]
  have f : (rd_T37 lp k).f1 = (rd_T37 lq k).f1 := by rw [a.2, b.2, h1]
  exact ⟨e, f, by rw [e, f, ← d] at c; omega⟩

theorem Fit.of {lp lq : List S37} (hp : Good lp) (hq : Good lq) (hl : lp.length = lq.length) (h0 : (rd_T37 lp 0).f0 = (rd_T37 lq 0).f0) (h1 : (rd_T37 lp 0).f1 = (rd_T37 lq 0).f1) (up : UL lp) (uq : UL lq) : Fit lp lq where
  few := hp.few
  len := hl.symm
  small := fun k hk => (hp.ok k hk).small
  same := fun k hk => (lens_of hp hq hl h0 h1 k hk).2.2.symm
  up := up
  uq := fun k hk => uq k (by omega)

theorem apart_any (sp sq : Int) (Ap Aq : Option Addr) (cp cq : Nat) (lp lq : List S37) (w : World)
    (hp : Kd.C k37 w Ap lp.length lp) (hcp : lp.length ≤ cp) (hq : Kd.C k37 w Aq lq.length lq) (hcq : lq.length ≤ cq) (up : UL lp) (uq : UL lq) :
    Calls Tryz.prog 9 #[.agg #[.int .i64 sp, .slice Ap lp.length cp], .agg #[.int .i64 sq, .slice Aq lq.length cq]] w fun e w' => e = told (apartR sp lp sq lq).1 (apartR sp lp sq lq).2 ∧ Below w.heap.size w w' := by
  obtain ⟨ep, hep, gp⟩ := check_f sp lp
  obtain ⟨eq, heq, gq⟩ := check_f sq lq
  by_cases c1 : ep = 0
  · by_cases c2 : eq = 0
    · have hgp := gp c1
      have hgq := gq c2
      obtain ⟨b, hb, hr⟩ := fit_f sp sq lp lq hgp.pos hgq.pos
      rw [c1] at hep
      rw [c2] at heq
      cases b with
      | false =>
        have := apart_fit 20 sp sq Ap Aq cp cq lp lq w hp hcp hq hcq hep heq hb
        simpa only [apartR, hep, heq, if_true, hb] using this
      | true =>
        obtain ⟨h1, h2, h3, h4⟩ := hr.1 rfl
        have := apart_ok 20 sp sq Ap Aq cp cq lp lq w hp hcp hq hcq hep heq hb hgp.pos (Fit.of hgp hgq h2 h3 h4 up uq) (by have := (hgp.ok 0 hgp.pos).w; rw [show ((0 : Nat) : Int) = 0 from rfl] at this; omega)
        simpa only [apartR, hep, heq, if_true, hb] using this
    · rw [c1] at hep
      have := apart_q 20 sp sq eq Ap Aq cp cq lp lq w hp hcp hq hcq hep heq c2
      simpa only [apartR, hep, heq, if_true, if_neg c2] using this
  · have := apart_p 20 sp sq ep Ap Aq cp cq lp lq w hp hcp hq hcq hep c1
    simpa only [apartR, hep, if_neg c1] using this

end Go.Proofs.YtimghiiihjphiaaGreat.sides
