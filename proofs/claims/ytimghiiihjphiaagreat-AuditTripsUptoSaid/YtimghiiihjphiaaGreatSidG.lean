/- A part of the proof: what the checks of a picture answer, in plain numbers. No condition. -/
import Derived.Test.YtimghiiihjphiaaGreatSidB
namespace Go.Proofs.YtimghiiihjphiaaGreat.sides
open Go.RowKit Go.Proofs.YtimghiiihjphiaaGreatW.PrintWords Go.Proofs.YtimghiiihjphiaaGreat.PTri
set_option linter.unusedVariables false
set_option linter.unusedSimpArgs false

theorem light_total (sp : Int) (l : List S37) : ∀ (d k i : Nat) (x : Int), i ≤ l.length → i ≤ 100 → 100 - i = d → d < k → ∃ b, halidelaw27_light.l0 k x i sp l = some b
  | d, 0, i, x, h1, h2, h3, h4 => by omega
  | d, k + 1, i, x, h1, h2, h3, h4 => by
    simp only [halidelaw27_light.l0]
    by_cases c1 : (i : Int) < (l.length : Int)
    · rw [if_pos c1]
      by_cases c2 : (i : Int) < 100
      · rw [if_pos c2, if_pos (by omega), wrap_id (x := (i : Int) + 1) (by omega) (by omega)]
        have := light_total sp l (100 - (i + 1)) k (i + 1) (wrap64 (x + (((rd_T37 l i).f2).length : Int))) (by omega) (by omega) rfl (by omega)
        simpa using this
      · rw [if_neg c2]; exact ⟨_, rfl⟩
    · rw [if_neg c1]; exact ⟨_, rfl⟩

theorem light_f (sp : Int) (l : List S37) : ∃ b, halidelaw27_light.f 200 sp l = some b := light_total sp l 100 200 0 _ (by omega) (by omega) rfl (by omega)

/-- what a plane that may be is -/
structure PlaneOK (x : S37) : Prop where
  w : 1 ≤ x.f0
  size : (x.f2.length : Int) = x.f0 * x.f1
  small : x.f2.length ≤ 65536

theorem size_f (w h : Int) : ∃ b, plane_size.f w h = some b ∧ (b = true → 1 ≤ w ∧ 1 ≤ h ∧ w ≤ 1024 ∧ h ≤ 1024 ∧ w * h ≤ 65536) := by
  unfold plane_size.f
  by_cases c1 : w ≥ 1
  · rw [if_pos c1]
    by_cases c2 : h ≥ 1
    · rw [if_pos c2]
      by_cases c3 : w ≤ 1024
      · rw [if_pos c3]
        by_cases c4 : h ≤ 1024
        · rw [if_pos c4]
          refine ⟨_, rfl, fun hb => ?_⟩
          have h1 : w * h ≤ 1024 * 1024 := Int.mul_le_mul c3 c4 (by omega) (by omega)
          have h2 : 0 ≤ w * h := Int.mul_nonneg (by omega) (by omega)
          rw [wrap_id (by omega) (by omega)] at hb
          exact ⟨c1, c2, c3, c4, of_decide_eq_true hb⟩
        · rw [if_neg c4]; exact ⟨_, rfl, fun h => by simp at h⟩
      · rw [if_neg c3]; exact ⟨_, rfl, fun h => by simp at h⟩
    · rw [if_neg c2]; exact ⟨_, rfl, fun h => by simp at h⟩
  · rw [if_neg c1]; exact ⟨_, rfl, fun h => by simp at h⟩

theorem plane_f (x : S37) : ∃ e, plane_Check.f x.f0 x.f1 x.f2 = some e ∧ (e = 0 → PlaneOK x) := by
  unfold plane_Check.f
  obtain ⟨b, hb, hs⟩ := size_f x.f0 x.f1
  rw [hb]
  simp only [Option.bind_some]
  cases b with
  | false => exact ⟨51 - 1, by simp, by simp⟩
  | true =>
    rw [if_pos rfl]
    obtain ⟨h1, h2, h3, h4, h5⟩ := hs rfl
    have h6 : 0 ≤ x.f0 * x.f1 := Int.mul_nonneg (by omega) (by omega)
    rw [wrap_id (by omega) (by omega)]
    by_cases c : (x.f2.length : Int) = x.f0 * x.f1
    · rw [if_pos c]; exact ⟨0, rfl, fun _ => ⟨h1, c, by omega⟩⟩
    · rw [if_neg c]; exact ⟨51, rfl, by simp⟩

theorem space_f (a b : Int) : ∃ e, picture_spaceOf.f a b = some e := by
  unfold picture_spaceOf.f
  repeat (first | exact ⟨_, rfl⟩ | split)

/-- what a picture that may be is -/
structure Good (l : List S37) : Prop where
  pos : 1 ≤ l.length
  few : l.length ≤ 4
  ok : ∀ j : Nat, j < l.length → PlaneOK (rd_T37 l j)
  same : ∀ j : Nat, j < l.length → (rd_T37 l j).f0 = (rd_T37 l 0).f0 ∧ (rd_T37 l j).f1 = (rd_T37 l 0).f1

theorem check_l1 (sp : Int) (l : List S37) (h0 : 1 ≤ l.length) (h4 : l.length ≤ 4) : ∀ (d k i : Nat), i ≤ l.length → l.length - i = d → d < k →
    ∃ e, picture_Check.l1 k l l.length i sp l = some e ∧ (e = 0 → ∀ j : Nat, i ≤ j → j < l.length → (rd_T37 l j).f0 = (rd_T37 l 0).f0 ∧ (rd_T37 l j).f1 = (rd_T37 l 0).f1)
  | d, 0, i, h1, h2, h3 => by omega
  | d, k + 1, i, h1, h2, h3 => by
    simp only [picture_Check.l1]
    by_cases c1 : (i : Int) < (l.length : Int)
    · rw [if_pos c1, if_pos (by omega), if_pos c1, if_pos (by omega)]
      by_cases c2 : (rd_T37 l i).f0 = (rd_T37 l 0).f0
      · rw [if_pos c2]
        by_cases c3 : (rd_T37 l i).f1 = (rd_T37 l 0).f1
        · rw [if_pos c3, wrap_id (x := (i : Int) + 1) (by omega) (by omega)]
          obtain ⟨e, he, hr⟩ := check_l1 sp l h0 h4 (l.length - (i + 1)) k (i + 1) (by omega) rfl (by omega)
          refine ⟨e, by simpa using he, fun h j hj1 hj2 => ?_⟩
          rcases Nat.eq_or_lt_of_le hj1 with rfl | hj
          · exact ⟨c2, c3⟩
          · exact hr h j (by omega) hj2
        · rw [if_neg c3]; exact ⟨80, rfl, by simp⟩
      · rw [if_neg c2]; exact ⟨80, rfl, by simp⟩
    · rw [if_neg c1]
      obtain ⟨e, he⟩ := space_f sp l.length
      rw [he]
      exact ⟨e, rfl, fun _ j hj1 hj2 => by omega⟩

theorem check_l0 (sp : Int) (l : List S37) (h0 : 1 ≤ l.length) (h4 : l.length ≤ 4) : ∀ (d k i : Nat), i ≤ l.length → l.length - i = d → d + 6 < k →
    ∃ e, picture_Check.l0 k l l.length i sp l = some e ∧ (e = 0 → (∀ j : Nat, i ≤ j → j < l.length → PlaneOK (rd_T37 l j)) ∧ ∀ j : Nat, j < l.length → (rd_T37 l j).f0 = (rd_T37 l 0).f0 ∧ (rd_T37 l j).f1 = (rd_T37 l 0).f1)
  | d, 0, i, h1, h2, h3 => by omega
  | d, k + 1, i, h1, h2, h3 => by
    simp only [picture_Check.l0]
    by_cases c1 : (i : Int) < (l.length : Int)
    · rw [if_pos c1, if_pos (by omega), if_pos c1]
      obtain ⟨e, he, hr⟩ := plane_f (rd_T37 l i)
      rw [he]
      simp only [Option.bind_some]
      by_cases c2 : e = 0
      · rw [if_pos c2, wrap_id (x := (i : Int) + 1) (by omega) (by omega)]
        obtain ⟨e', he', hr'⟩ := check_l0 sp l h0 h4 (l.length - (i + 1)) k (i + 1) (by omega) rfl (by omega)
        refine ⟨e', by simpa using he', fun h => ⟨fun j hj1 hj2 => ?_, (hr' h).2⟩⟩
        rcases Nat.eq_or_lt_of_le hj1 with rfl | hj
        · exact hr c2
        · exact (hr' h).1 j (by omega) hj2
      · rw [if_neg c2]; exact ⟨e, rfl, fun h => absurd h c2⟩
    · rw [if_neg c1]
      obtain ⟨e, he, hr⟩ := check_l1 sp l h0 h4 l.length k 0 (by omega) (by omega) (by omega)
      exact ⟨e, by simpa using he, fun h => ⟨fun j hj1 hj2 => by omega, fun j hj => hr h j (by omega) hj⟩⟩

theorem check_f (sp : Int) (l : List S37) : ∃ e, picture_Check.f 20 sp l = some e ∧ (e = 0 → Good l) := by
  unfold picture_Check.f
  by_cases c1 : (l.length : Int) = 0
  · rw [if_pos c1]
    exact ⟨80, by simp [picture_Check.j0], by simp⟩
  · rw [if_neg c1]
    by_cases c2 : (l.length : Int) > 4
    · exact ⟨80, by simp [picture_Check.j0, c2], by simp⟩
    · obtain ⟨e, he, hr⟩ := check_l0 sp l (by omega) (by omega) l.length 19 0 (by omega) (by omega) (by omega)
      refine ⟨e, ?_, fun h => ⟨by omega, by omega, fun j hj => (hr h).1 j (by omega) hj, (hr h).2⟩⟩
      simp only [picture_Check.j0, decide_eq_false c2]
      simpa using he

theorem fit_f (sp sq : Int) (lp lq : List S37) (h1 : 0 < lp.length) (h2 : 0 < lq.length) :
    ∃ b, audit_fit.f sp lp sq lq = some b ∧ (b = true ↔ sp = sq ∧ lp.length = lq.length ∧ (rd_T37 lp 0).f0 = (rd_T37 lq 0).f0 ∧ (rd_T37 lp 0).f1 = (rd_T37 lq 0).f1) := by
  unfold audit_fit.f
  by_cases c1 : sp = sq
  · rw [if_pos c1]
    by_cases c2 : (lp.length : Int) = (lq.length : Int)
    · rw [if_pos c2, if_pos (by omega), if_pos (by omega)]
      by_cases c3 : (rd_T37 lp 0).f0 = (rd_T37 lq 0).f0
      · rw [if_pos c3]
        refine ⟨_, rfl, ?_⟩
        simp [c1, c3, show lp.length = lq.length by omega]
      · rw [if_neg c3]; exact ⟨false, rfl, by simp [c3]⟩
    · rw [if_neg c2]; exact ⟨false, rfl, by simp; intro _ h; exact absurd (by omega) c2⟩
  · rw [if_neg c1]; exact ⟨false, rfl, by simp [c1]⟩

end Go.Proofs.YtimghiiihjphiaaGreat.sides
