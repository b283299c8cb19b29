/- A part of the proof: what the checks of a picture answer, what is guessed and what rests, in plain numbers. Condition: the samples are of 32 bits, the picture is one that may be. -/
import Derived.Test.YtimghiiihjphiaaGreatPTrix
import Derived.Laws.BitsAllLaws
namespace Go.Proofs.YtimghiiihjphiaaGreat.classes
open Go.RowKit Go.Proofs.YtimghiiihjphiaaGreatW.PrintWords Go.Proofs.YtimghiiihjphiaaGreat.PTri
set_option linter.unusedVariables false
set_option linter.unusedSimpArgs false

def key (s : Int) : Int := if s < 2147483648 then s + 2147483648 else 4294967295 - s
def U32 (x : Int) : Prop := 0 ≤ x ∧ x ≤ 4294967295
theorem key_u {x : Int} (h : U32 x) : 0 ≤ key x ∧ key x ≤ 4294967295 := by obtain ⟨h1, h2⟩ := h; unfold key; split <;> omega
theorem key_f {x : Int} (h : U32 x) : bits_Key.f x = some (key x) := by
  obtain ⟨h1, h2⟩ := h
  unfold bits_Key.f key
  split
  · rw [Int.emod_eq_of_lt (by omega) (by omega)]
  · rw [Int.emod_eq_of_lt (by omega) (by omega)]
theorem wrap_id {x : Int} (h1 : -9223372036854775808 ≤ x) (h2 : x ≤ 9223372036854775807) : wrap64 x = x := by unfold wrap64; omega
def AllU (l : List Int) : Prop := ∀ x ∈ l, U32 x
def UL (l : List S37) : Prop := ∀ j : Nat, j < l.length → AllU (rd_T37 l j).f2

theorem from_g {x : Int} (h : U32 x) : ∃ y, U32 y ∧ bits_FromKey.f x = some y := by
  obtain ⟨h1, h2⟩ := h
  unfold bits_FromKey.f
  by_cases c : x ≥ 2147483648
  · exact ⟨(x - 2147483648) % 4294967296, ⟨by omega, by omega⟩, by rw [if_pos c]⟩
  · exact ⟨(4294967295 - x) % 4294967296, ⟨by omega, by omega⟩, by rw [if_neg c]⟩
theorem Guess_g {a b c : Int} (ha : U32 a) (hb : U32 b) (hc : U32 c) : ∃ y, U32 y ∧ codec_Guess.f a b c = some y := by
  unfold codec_Guess.f
  rw [key_f ha, key_f hb, key_f hc]
  simp only [Option.bind_some, codec_middle.f]
  obtain ⟨y, h1, h2⟩ := from_g (x := (mx (mn (wrap64 (key a)) (wrap64 (key b))) (mn (mx (wrap64 (key a)) (wrap64 (key b))) (wrap64 ((wrap64 ((wrap64 (key a)) + (wrap64 (key b)))) - (wrap64 (key c)))))) % 4294967296) ⟨by omega, by omega⟩
  exact ⟨y, h1, by rw [h2]; rfl⟩
theorem rd_u {l : List Int} (h : AllU l) (i : Int) : U32 (rd l i) := by
  unfold rd
  rw [List.getD_eq_getElem?_getD]
  cases e : l[i.toNat]? with
  | none => exact ⟨by simp, by simp⟩
  | some x => exact h x (List.mem_of_getElem? e)
theorem guess_g {l : List Int} (hl : AllU l) {w : Int} (hw : 1 ≤ w) (hw2 : w ≤ 1024) (i k : Nat) (hi : i < l.length) (hs : l.length ≤ 65536) : ∃ y, U32 y ∧ codec_guessed.f (k + 1) l w i = some y := by
  unfold codec_guessed.f
  have d0 : 0 ≤ (i : Int) / w := Int.ediv_nonneg (by omega) (by omega)
  have d1 : (i : Int) / w ≤ i := Int.ediv_le_self _ (by omega)
  have d2 := Int.emod_nonneg (i : Int) (show w ≠ 0 by omega)
  have d3 := Int.emod_lt_of_pos (i : Int) (show 0 < w by omega)
  have d4 := Int.mul_ediv_add_emod (i : Int) w
  rw [if_neg (show w ≠ 0 by omega), Int.tmod_eq_emod_of_nonneg (by omega), Int.tdiv_eq_ediv_of_nonneg (by omega), wrap_id (x := (i : Int) / w) (by omega) (by omega)]
  simp only [codec_guessed.j0]
  generalize hq : (i : Int) / w = q at *
  generalize hm : (i : Int) % w = m at *
  have e1 : wrap64 ((i : Int) - 1) = (i : Int) - 1 := wrap_id (by omega) (by omega)
  have e2 : wrap64 ((i : Int) - w) = (i : Int) - w := wrap_id (by omega) (by omega)
  have e3 : wrap64 ((i : Int) - w - 1) = (i : Int) - w - 1 := wrap_id (by omega) (by omega)
  simp only [e1, e2, e3]
  by_cases c0 : (i : Int) = 0
  · have q0 : q = 0 := by omega
    subst q0
    have m0 : m = 0 := by omega
    subst m0
    rw [if_pos rfl]
    exact ⟨0, ⟨by omega, by omega⟩, by simp⟩
  · have a1 : 0 ≤ (i : Int) - 1 := by omega
    have a2 : (i : Int) - 1 < (l.length : Int) := by omega
    by_cases cq : q = 0
    · subst cq
      have mi : m ≠ 0 := by omega
      refine ⟨rd l ((i : Int) - 1), rd_u hl _, ?_⟩
      rw [if_neg mi, if_neg (by simp), if_pos rfl, if_pos a1, if_pos a2]
    · have hwi : w ≤ i := by
        have : w * 1 ≤ w * q := Int.mul_le_mul_of_nonneg_left (by omega) (by omega)
        omega
      have a3 : 0 ≤ (i : Int) - w := by omega
      have a4 : (i : Int) - w < (l.length : Int) := by omega
      have bq : (q == 0) = false := by simpa using cq
      by_cases cm : m = 0
      · refine ⟨rd l ((i : Int) - w), rd_u hl _, ?_⟩
        rw [if_pos cm, bq, if_neg (by simp), if_neg cq, if_pos cm, if_pos a3, if_pos a4]
      · have hwi2 : w + 1 ≤ i := by
          have : w * 1 ≤ w * q := Int.mul_le_mul_of_nonneg_left (by omega) (by omega)
          omega
        have a5 : 0 ≤ (i : Int) - w - 1 := by omega
        have a6 : (i : Int) - w - 1 < (l.length : Int) := by omega
        obtain ⟨y, h1, h2⟩ := Guess_g (rd_u hl ((i : Int) - 1)) (rd_u hl ((i : Int) - w)) (rd_u hl ((i : Int) - w - 1))
        refine ⟨y, h1, ?_⟩
        rw [if_neg cm, if_neg (by simp), if_neg cq, if_neg cm, if_pos a1, if_pos a2, if_pos a3, if_pos a4, if_pos a5, if_pos a6, h2]; rfl

theorem light_total (sp : Int) (l : List S37) : ∀ (d k i : Nat) (x : Int), i ≤ l.length → i ≤ 100 → 100 - i = d → d < k → ∃ b, halidelaw27_light.l0 k x i sp l = some b
  | d, 0, i, x, h1, h2, h3, h4 => by omega
  | d, k + 1, i, x, h1, h2, h3, h4 => by
    simp only [halidelaw27_light.l0]
    by_cases c1 : (i : Int) < (l.length : Int)
    · rw [if_pos c1]
      by_cases c2 : (i : Int) < 100
      · rw [if_pos c2, if_pos (by omega), wrap_id (x := (i : Int) + 1) (by omega) (by omega)]
        have := light_total sp l (100 - (i + 1)) k (i + 1) (wrap64 (x + (((rd_T37 l i).f2).length : Int))) (by omega) (by omega) rfl (by omega)
        simpa using this
      · rw [if_neg c2]; exact ⟨_, rfl⟩
    · rw [if_neg c1]; exact ⟨_, rfl⟩

theorem light_f (sp : Int) (l : List S37) : ∃ b, halidelaw27_light.f 200 sp l = some b := light_total sp l 100 200 0 _ (by omega) (by omega) rfl (by omega)

/-- what a plane that may be is -/
structure PlaneOK (x : S37) : Prop where
  w : 1 ≤ x.f0
  size : (x.f2.length : Int) = x.f0 * x.f1
  small : x.f2.length ≤ 65536
  wide : x.f0 ≤ 1024
  chk : plane_Check.f x.f0 x.f1 x.f2 = some 0

theorem size_f (w h : Int) : ∃ b, plane_size.f w h = some b ∧ (b = true → 1 ≤ w ∧ 1 ≤ h ∧ w ≤ 1024 ∧ h ≤ 1024 ∧ w * h ≤ 65536) := by
  unfold plane_size.f
  by_cases c1 : w ≥ 1
  · rw [if_pos c1]
    by_cases c2 : h ≥ 1
    · rw [if_pos c2]
      by_cases c3 : w ≤ 1024
      · rw [if_pos c3]
        by_cases c4 : h ≤ 1024
        · rw [if_pos c4]
          refine ⟨_, rfl, fun hb => ?_⟩
          have h1 : w * h ≤ 1024 * 1024 := Int.mul_le_mul c3 c4 (by omega) (by omega)
          have h2 : 0 ≤ w * h := Int.mul_nonneg (by omega) (by omega)
          rw [wrap_id (by omega) (by omega)] at hb
          exact ⟨c1, c2, c3, c4, of_decide_eq_true hb⟩
        · rw [if_neg c4]; exact ⟨_, rfl, fun h => by simp at h⟩
      · rw [if_neg c3]; exact ⟨_, rfl, fun h => by simp at h⟩
    · rw [if_neg c2]; exact ⟨_, rfl, fun h => by simp at h⟩
  · rw [if_neg c1]; exact ⟨_, rfl, fun h => by simp at h⟩

theorem plane_f (x : S37) : ∃ e, plane_Check.f x.f0 x.f1 x.f2 = some e ∧ (e = 0 → PlaneOK x) := by
  unfold plane_Check.f
  obtain ⟨b, hb, hs⟩ := size_f x.f0 x.f1
  rw [hb]
  simp only [Option.bind_some]
  cases b with
  | false => exact ⟨51 - 1, by simp, by simp⟩
  | true =>
    rw [if_pos rfl]
    obtain ⟨h1, h2, h3, h4, h5⟩ := hs rfl
    have h6 : 0 ≤ x.f0 * x.f1 := Int.mul_nonneg (by omega) (by omega)
    rw [wrap_id (by omega) (by omega)]
    by_cases c : (x.f2.length : Int) = x.f0 * x.f1
    · rw [if_pos c]; exact ⟨0, rfl, fun _ => ⟨h1, c, by omega, h3, by unfold plane_Check.f; rw [hb, Option.bind_some, if_pos rfl, wrap_id (x := x.f0 * x.f1) (by omega) (by omega), if_pos c]⟩⟩
    · rw [if_neg c]; exact ⟨51, rfl, by simp⟩

theorem space_f (a b : Int) : ∃ e, picture_spaceOf.f a b = some e := by
  unfold picture_spaceOf.f
  repeat (first | exact ⟨_, rfl⟩ | split)

/-- what a picture that may be is -/
structure Good (l : List S37) : Prop where
  pos : 1 ≤ l.length
  few : l.length ≤ 4
  ok : ∀ j : Nat, j < l.length → PlaneOK (rd_T37 l j)
  same : ∀ j : Nat, j < l.length → (rd_T37 l j).f0 = (rd_T37 l 0).f0 ∧ (rd_T37 l j).f1 = (rd_T37 l 0).f1

theorem check_l1 (sp : Int) (l : List S37) (h0 : 1 ≤ l.length) (h4 : l.length ≤ 4) : ∀ (d k i : Nat), i ≤ l.length → l.length - i = d → d < k →
    ∃ e, picture_Check.l1 k l l.length i sp l = some e ∧ (e = 0 → ∀ j : Nat, i ≤ j → j < l.length → (rd_T37 l j).f0 = (rd_T37 l 0).f0 ∧ (rd_T37 l j).f1 = (rd_T37 l 0).f1)
  | d, 0, i, h1, h2, h3 => by omega
  | d, k + 1, i, h1, h2, h3 => by
    simp only [picture_Check.l1]
    by_cases c1 : (i : Int) < (l.length : Int)
    · rw [if_pos c1, if_pos (by omega), if_pos c1, if_pos (by omega)]
      by_cases c2 : (rd_T37 l i).f0 = (rd_T37 l 0).f0
      · rw [if_pos c2]
        by_cases c3 : (rd_T37 l i).f1 = (rd_T37 l 0).f1
        · rw [if_pos c3, wrap_id (x := (i : Int) + 1) (by omega) (by omega)]
          obtain ⟨e, he, hr⟩ := check_l1 sp l h0 h4 (l.length - (i + 1)) k (i + 1) (by omega) rfl (by omega)
          refine ⟨e, by simpa using he, fun h j hj1 hj2 => ?_⟩
          rcases Nat.eq_or_lt_of_le hj1 with rfl | hj
          · exact ⟨c2, c3⟩
          · exact hr h j (by omega) hj2
        · rw [if_neg c3]; exact ⟨80, rfl, by simp⟩
      · rw [if_neg c2]; exact ⟨80, rfl, by simp⟩
    · rw [if_neg c1]
      obtain ⟨e, he⟩ := space_f sp l.length
      rw [he]
      exact ⟨e, rfl, fun _ j hj1 hj2 => by omega⟩

theorem check_l0 (sp : Int) (l : List S37) (h0 : 1 ≤ l.length) (h4 : l.length ≤ 4) : ∀ (d k i : Nat), i ≤ l.length → l.length - i = d → d + 6 < k →
    ∃ e, picture_Check.l0 k l l.length i sp l = some e ∧ (e = 0 → (∀ j : Nat, i ≤ j → j < l.length → PlaneOK (rd_T37 l j)) ∧ ∀ j : Nat, j < l.length → (rd_T37 l j).f0 = (rd_T37 l 0).f0 ∧ (rd_T37 l j).f1 = (rd_T37 l 0).f1)
  | d, 0, i, h1, h2, h3 => by omega
  | d, k + 1, i, h1, h2, h3 => by
    simp only [picture_Check.l0]
    by_cases c1 : (i : Int) < (l.length : Int)
    · rw [if_pos c1, if_pos (by omega), if_pos c1]
      obtain ⟨e, he, hr⟩ := plane_f (rd_T37 l i)
      rw [he]
      simp only [Option.bind_some]
      by_cases c2 : e = 0
      · rw [if_pos c2, wrap_id (x := (i : Int) + 1) (by omega) (by omega)]
        obtain ⟨e', he', hr'⟩ := check_l0 sp l h0 h4 (l.length - (i + 1)) k (i + 1) (by omega) rfl (by omega)
        refine ⟨e', by simpa using he', fun h => ⟨fun j hj1 hj2 => ?_, (hr' h).2⟩⟩
        rcases Nat.eq_or_lt_of_le hj1 with rfl | hj
        · exact hr c2
        · exact (hr' h).1 j (by omega) hj2
      · rw [if_neg c2]; exact ⟨e, rfl, fun h => absurd h c2⟩
    · rw [if_neg c1]
      obtain ⟨e, he, hr⟩ := check_l1 sp l h0 h4 l.length k 0 (by omega) (by omega) (by omega)
      exact ⟨e, by simpa using he, fun h => ⟨fun j hj1 hj2 => by omega, fun j hj => hr h j (by omega) hj⟩⟩

theorem check_f (sp : Int) (l : List S37) : ∃ e, picture_Check.f 20 sp l = some e ∧ (e = 0 → Good l) := by
  unfold picture_Check.f
  by_cases c1 : (l.length : Int) = 0
  · rw [if_pos c1]
    exact ⟨80, by simp [picture_Check.j0], by simp⟩
  · rw [if_neg c1]
    by_cases c2 : (l.length : Int) > 4
    · exact ⟨80, by simp [picture_Check.j0, c2], by simp⟩
    · obtain ⟨e, he, hr⟩ := check_l0 sp l (by omega) (by omega) l.length 19 0 (by omega) (by omega) (by omega)
      refine ⟨e, ?_, fun h => ⟨by omega, by omega, fun j hj => (hr h).1 j (by omega) hj, (hr h).2⟩⟩
      simp only [picture_Check.j0, decide_eq_false c2]
      simpa using he


theorem rests_loop {l : List Int} (hl : AllU l) {w h : Int} (hw : 1 ≤ w) (hw2 : w ≤ 1024) (hs : l.length ≤ 65536) : ∀ (d i K : Nat) (acc : List Int), i + d = l.length → acc.length = i → AllU acc → d + 2 ≤ K →
    ∃ rs, rs.length = l.length ∧ AllU rs ∧ codec_Rests.l0 K acc l l.length i w h l = some (rs, 0) := by
  intro d
  induction d with
  | zero =>
    intro i K acc hi ha hu hK
    obtain ⟨K', rfl⟩ : ∃ K', K = K' + 1 := ⟨K - 1, by omega⟩
    refine ⟨acc, by omega, hu, ?_⟩
    rw [codec_Rests.l0, if_neg (by omega)]
  | succ d ih =>
    intro i K acc hi ha hu hK
    obtain ⟨K', rfl⟩ : ∃ K', K = K' + 1 + 1 := ⟨K - 2, by omega⟩
    have hr := rd_u hl (i : Int)
    obtain ⟨g, hg, g1⟩ := guess_g hl hw hw2 i K' (by omega) hs
    have hk := key_u hr
    obtain ⟨rs, h1, h2, h3⟩ := ih (i + 1) (K' + 1) (acc ++ [(key (rd l i) - key g) % 4294967296]) (by omega) (by simp; omega)
      (fun x hx => by
        rcases List.mem_append.1 hx with hx | hx
        · exact hu x hx
        · rw [List.mem_singleton.1 hx]; exact ⟨by omega, by omega⟩) (by omega)
    refine ⟨rs, h1, h2, ?_⟩
    rw [codec_Rests.l0, if_pos (by omega), if_pos (by omega), if_pos (by omega), key_f hr, Option.bind_some, g1, Option.bind_some, key_f hg, Option.bind_some, if_pos (by omega), wrap_id (x := (i : Int) + 1) (by omega) (by omega)]
    rw [Int.natCast_add, Int.natCast_one] at h3
    exact h3
theorem rests_f {x : S37} (hx : PlaneOK x) (hu : AllU x.f2) (hc : plane_Check.f x.f0 x.f1 x.f2 = some 0) (K : Nat) (hK : x.f2.length + 2 ≤ K) :
    ∃ rs, rs.length = x.f2.length ∧ AllU rs ∧ codec_Rests.f K x.f0 x.f1 x.f2 = some (rs, 0) := by
  obtain ⟨rs, h1, h2, h3⟩ := rests_loop (h := x.f1) hu hx.w hx.wide hx.small x.f2.length 0 K [] (by omega) rfl (fun x hx => by simp at hx) hK
  refine ⟨rs, h1, h2, ?_⟩
  unfold codec_Rests.f
  rw [hc, Option.bind_some, if_pos rfl]
  exact h3

/-! ### a light picture is small -/
theorem light_l0 (sp : Int) (l : List S37) (hl : l.length ≤ 4) (hs : ∀ j : Nat, j < l.length → (rd_T37 l j).f2.length ≤ 65536) : ∀ (d i K : Nat) (x : Int), i + d = l.length → 0 ≤ x → x ≤ 1000000 + 65536 * i → halidelaw27_light.l0 K x i sp l = some true → x ≤ 2000 ∧ ∀ j : Nat, i ≤ j → j < l.length → (rd_T37 l j).f2.length ≤ 2000 := by
  intro d
  induction d with
  | zero =>
    intro i K x hi h0 h1 h
    cases K with
    | zero => simp [halidelaw27_light.l0] at h
    | succ K =>
      rw [halidelaw27_light.l0, if_neg (by omega)] at h
      have := of_decide_eq_true (Option.some.inj h)
      exact ⟨this, fun j h2 h3 => by omega⟩
  | succ d ih =>
    intro i K x hi h0 h1 h
    cases K with
    | zero => simp [halidelaw27_light.l0] at h
    | succ K =>
      have hsi := hs i (by omega)
      rw [halidelaw27_light.l0, if_pos (by omega), if_pos (by omega), if_pos (by omega), wrap_id (x := x + ((rd_T37 l i).f2.length : Int)) (by omega) (by omega), wrap_id (x := (i : Int) + 1) (by omega) (by omega)] at h
      have h2 := ih (i + 1) K (x + ((rd_T37 l i).f2.length : Int)) (by omega) (by omega) (by omega) (by rw [Int.natCast_add, Int.natCast_one]; exact h)
      refine ⟨by omega, fun j h3 h4 => ?_⟩
      rcases Nat.eq_or_lt_of_le h3 with rfl | h5
      · omega
      · exact h2.2 j h5 h4
theorem light_small (sp : Int) (l : List S37) (hl : l.length ≤ 4) (hs : ∀ j : Nat, j < l.length → (rd_T37 l j).f2.length ≤ 65536) (K : Nat) (h : halidelaw27_light.f K sp l = some true) : ∀ j : Nat, j < l.length → (rd_T37 l j).f2.length ≤ 2000 :=
  fun j hj => (light_l0 sp l hl hs l.length 0 K l.length (by omega) (by omega) (by omega) h).2 j (by omega) hj
end Go.Proofs.YtimghiiihjphiaaGreat.classes
