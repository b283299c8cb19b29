/- A part of the proof: the rests of a plane, both ways; a picture is itself; a light picture is small. Condition: the samples are of 32 bits, the picture is one that may be. -/
import Derived.Test.YtconnknbmhbmoaaGreatClaO
namespace Go.Proofs.YtconnknbmhbmoaaGreat.classes
open Go.RowKit Go.Proofs.YtconnknbmhbmoaaGreatW.PrintWords Go.Proofs.YtconnknbmhbmoaaGreat.PCla
set_option linter.unusedVariables false
set_option linter.unusedSimpArgs false

theorem rests_loop {l : List Int} (hl : AllU l) {w h : Int} (hw : 1 ≤ w) (hw2 : w ≤ 1024) (hs : l.length ≤ 65536) : ∀ (d i K : Nat) (acc : List Int), i + d = l.length → acc.length = i → AllU acc → d + 2 ≤ K →
    ∃ rs, rs.length = l.length ∧ AllU rs ∧ codec_Rests.l0 K acc l l.length i w h l = some (rs, 0) ∧ halideref18_Rests.l0 K acc i w h l = some (rs, 0) := by
  intro d
  induction d with
  | zero =>
    intro i K acc hi ha hu hK
    obtain ⟨K', rfl⟩ : ∃ K', K = K' + 1 := ⟨K - 1, by omega⟩
    refine ⟨acc, by omega, hu, ?_, ?_⟩
    · rw [codec_Rests.l0, if_neg (by omega)]
    · rw [halideref18_Rests.l0, if_neg (by omega)]
  | succ d ih =>
    intro i K acc hi ha hu hK
    obtain ⟨K', rfl⟩ : ∃ K', K = K' + 1 + 1 := ⟨K - 2, by omega⟩
    have hr := rd_u hl (i : Int)
    obtain ⟨g, hg, g1, g2⟩ := guess_g hl hw hw2 i K' (by omega) hs
    have hk := key_u hr
    obtain ⟨rs, h1, h2, h3, h4⟩ := ih (i + 1) (K' + 1) (acc ++ [(key (rd l i) - key g) % 4294967296]) (by omega) (by simp; omega)
      (fun x hx => by
        rcases List.mem_append.1 hx with hx | hx
        · exact hu x hx
        · rw [List.mem_singleton.1 hx]; exact ⟨by omega, by omega⟩) (by omega)
    refine ⟨rs, h1, h2, ?_, ?_⟩
    · rw [codec_Rests.l0, if_pos (by omega), if_pos (by omega), if_pos (by omega), key_f hr, Option.bind_some, g1, Option.bind_some, key_f hg, Option.bind_some, if_pos (by omega), wrap_id (x := (i : Int) + 1) (by omega) (by omega)]
      rw [Int.natCast_add, Int.natCast_one] at h3
      exact h3
    · rw [halideref18_Rests.l0, if_pos (by omega), if_pos (by omega), key_g hr, Option.bind_some, g2, Option.bind_some, key_g hg, Option.bind_some, if_pos (by omega), wrap_id (x := (i : Int) + 1) (by omega) (by omega)]
      rw [Int.natCast_add, Int.natCast_one] at h4
      exact h4
theorem rests_f {x : S58} (hx : PlaneOK x) (hu : AllU x.f2) (hc : plane_Check.f x.f0 x.f1 x.f2 = some 0) (K : Nat) (hK : x.f2.length + 2 ≤ K) :
    ∃ rs, rs.length = x.f2.length ∧ AllU rs ∧ codec_Rests.f K x.f0 x.f1 x.f2 = some (rs, 0) ∧ halideref18_Rests.f K x.f0 x.f1 x.f2 = some (rs, 0) := by
  obtain ⟨rs, h1, h2, h3, h4⟩ := rests_loop (h := x.f1) hu hx.w hx.wide hx.small x.f2.length 0 K [] (by omega) rfl (fun x hx => by simp at hx) hK
  refine ⟨rs, h1, h2, ?_, ?_⟩
  · unfold codec_Rests.f
    rw [hc, Option.bind_some, if_pos rfl]
    exact h3
  · unfold halideref18_Rests.f
    rw [plane_eq, hc, Option.bind_some, if_pos rfl]
    exact h4

/-! ### the same is the same -/
theorem ints_l0 (xs : List Int) (hx : xs.length ≤ 1000000) : ∀ (d i K : Nat), i + d = xs.length → d + 1 ≤ K → halidehelp_Ints.l0 K xs xs i = some true := by
  intro d
  induction d with
  | zero =>
    intro i K hi hK
    obtain ⟨K', rfl⟩ : ∃ K', K = K' + 1 := ⟨K - 1, by omega⟩
    rw [halidehelp_Ints.l0, if_neg (by omega)]
  | succ d ih =>
    intro i K hi hK
    obtain ⟨K', rfl⟩ : ∃ K', K = K' + 1 := ⟨K - 1, by omega⟩
    have h := ih (i + 1) K' (by omega) (by omega)
    rw [halidehelp_Ints.l0, if_pos (by omega), if_pos (by omega), if_pos (by omega), if_pos rfl, wrap_id (x := (i : Int) + 1) (by omega) (by omega)]
    rw [Int.natCast_add, Int.natCast_one] at h
    exact h
theorem ints_f (xs : List Int) (hx : xs.length ≤ 1000000) (K : Nat) (hK : xs.length + 1 ≤ K) : halidehelp_Ints.f K xs xs = some true := by
  unfold halidehelp_Ints.f
  rw [if_pos rfl]
  exact ints_l0 xs hx xs.length 0 K (by omega) hK
theorem words_l0 (xs : List Int) (hx : xs.length ≤ 2000000) : ∀ (d i K : Nat), i + d = xs.length → d + 1 ≤ K → halidehelp_Words.l0 K xs xs i = some true := by
  intro d
  induction d with
  | zero =>
    intro i K hi hK
    obtain ⟨K', rfl⟩ : ∃ K', K = K' + 1 := ⟨K - 1, by omega⟩
    rw [halidehelp_Words.l0, if_neg (by omega)]
  | succ d ih =>
    intro i K hi hK
    obtain ⟨K', rfl⟩ : ∃ K', K = K' + 1 := ⟨K - 1, by omega⟩
    have h := ih (i + 1) K' (by omega) (by omega)
    rw [halidehelp_Words.l0, if_pos (by omega), if_pos (by omega), if_pos (by omega), if_pos rfl, wrap_id (x := (i : Int) + 1) (by omega) (by omega)]
    rw [Int.natCast_add, Int.natCast_one] at h
    exact h
theorem pic_l0 (sp : Int) (l : List S58) (hn : l.length ≤ 2000000) (hs : ∀ j : Nat, j < l.length → (rd_T58 l j).f2.length ≤ 2000000) : ∀ (d i K : Nat), i + d = l.length → d + 2000002 ≤ K → halidehelp_Picture.l0 K i sp l sp l = some true := by
  intro d
  induction d with
  | zero =>
    intro i K hi hK
    obtain ⟨K', rfl⟩ : ∃ K', K = K' + 1 := ⟨K - 1, by omega⟩
    rw [halidehelp_Picture.l0, if_neg (by omega)]
  | succ d ih =>
    intro i K hi hK
    obtain ⟨K', rfl⟩ : ∃ K', K = K' + 1 := ⟨K - 1, by omega⟩
    have h := ih (i + 1) K' (by omega) (by omega)
    have hsi := hs i (by omega)
    have hp : halidehelp_Plane.f K' (rd_T58 l i).f0 (rd_T58 l i).f1 (rd_T58 l i).f2 (rd_T58 l i).f0 (rd_T58 l i).f1 (rd_T58 l i).f2 = some true := by
      unfold halidehelp_Plane.f halidehelp_Words.f
      rw [if_pos rfl, if_pos rfl, if_pos rfl]
      have := words_l0 (rd_T58 l i).f2 hsi (rd_T58 l i).f2.length 0 K' (by omega) (by omega)
      rw [show ((0 : Nat) : Int) = 0 from rfl] at this
      rw [this]; rfl
    rw [halidehelp_Picture.l0, if_pos (by omega), if_pos (by omega), if_pos (by omega), hp, Option.bind_some, if_pos rfl, wrap_id (x := (i : Int) + 1) (by omega) (by omega)]
    rw [Int.natCast_add, Int.natCast_one] at h
    exact h
theorem pic_f (sp : Int) (l : List S58) (hn : l.length ≤ 2000000) (hs : ∀ j : Nat, j < l.length → (rd_T58 l j).f2.length ≤ 2000000) (K : Nat) (hK : 4000003 ≤ K) : halidehelp_Picture.f K sp l sp l = some true := by
  obtain ⟨K', rfl⟩ : ∃ K', K = K' + 1 := ⟨K - 1, by omega⟩
  unfold halidehelp_Picture.f
  have : ((l.length : Int) != (l.length : Int)) = false := by simp
  rw [if_pos rfl, this, halidehelp_Picture.j0, if_neg (by simp)]
  exact pic_l0 sp l hn hs l.length 0 K' (by omega) (by omega)

/-! ### a light picture is small -/
theorem light_l0 (sp : Int) (l : List S58) (hl : l.length ≤ 4) (hs : ∀ j : Nat, j < l.length → (rd_T58 l j).f2.length ≤ 65536) : ∀ (d i K : Nat) (x : Int), i + d = l.length → 0 ≤ x → x ≤ 1000000 + 65536 * i → halidelaw27_light.l0 K x i sp l = some true → x ≤ 2000 ∧ ∀ j : Nat, i ≤ j → j < l.length → (rd_T58 l j).f2.length ≤ 2000 := by
  intro d
  induction d with
  | zero =>
    intro i K x hi h0 h1 h
    cases K with
    | zero => simp [halidelaw27_light.l0] at h
    | succ K =>
      rw [halidelaw27_light.l0, if_neg (by omega)] at h
      have := of_decide_eq_true (Option.some.inj h)
      exact ⟨this, fun j h2 h3 => by omega⟩
  | succ d ih =>
    intro i K x hi h0 h1 h
    cases K with
    | zero => simp [halidelaw27_light.l0] at h
    | succ K =>
      have hsi := hs i (by omega)
      rw [halidelaw27_light.l0, if_pos (by omega), if_pos (by omega), if_pos (by omega), wrap_id (x := x + ((rd_T58 l i).f2.length : Int)) (by omega) (by omega), wrap_id (x := (i : Int) + 1) (by omega) (by omega)] at h
      have h2 := ih (i + 1) K (x + ((rd_T58 l i).f2.length : Int)) (by omega) (by omega) (by omega) (by rw [Int.natCast_add, Int.natCast_one]; exact h)
      refine ⟨by omega, fun j h3 h4 => ?_⟩
      rcases Nat.eq_or_lt_of_le h3 with rfl | h5
      · omega
      · exact h2.2 j h5 h4
theorem light_small (sp : Int) (l : List S58) (hl : l.length ≤ 4) (hs : ∀ j : Nat, j < l.length → (rd_T58 l j).f2.length ≤ 65536) (K : Nat) (h : halidelaw27_light.f K sp l = some true) : ∀ j : Nat, j < l.length → (rd_T58 l j).f2.length ≤ 2000 :=
  fun j hj => (light_l0 sp l hl hs l.length 0 K l.length (by omega) (by omega) (by omega) h).2 j (by omega) hj
end Go.Proofs.YtconnknbmhbmoaaGreat.classes
