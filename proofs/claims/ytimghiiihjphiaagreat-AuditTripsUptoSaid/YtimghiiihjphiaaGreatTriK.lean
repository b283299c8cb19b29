/- A part of the proof: pictures of one form are checked alike; what is near is measured as near. No condition. -/
import Derived.Test.YtimghiiihjphiaaGreatTriS
namespace Go.Proofs.YtimghiiihjphiaaGreat.sides
open Go.RowKit Go.Proofs.YtimghiiihjphiaaGreatW.PrintWords Go.Proofs.YtimghiiihjphiaaGreat.PTri
set_option linter.unusedVariables false
set_option linter.unusedSimpArgs false

/-- two lists of planes of one form -/
structure Like (l m : List S37) : Prop where
  len : m.length = l.length
  w : ∀ i : Int, (rd_T37 m i).f0 = (rd_T37 l i).f0
  h : ∀ i : Int, (rd_T37 m i).f1 = (rd_T37 l i).f1
  n : ∀ i : Int, (rd_T37 m i).f2.length = (rd_T37 l i).f2.length

theorem plane_like {a b : Int} {x y : List Int} (h : x.length = y.length) : plane_Check.f a b x = plane_Check.f a b y := by unfold plane_Check.f; rw [h]

theorem like_l1 {sp sq : Int} {l m : List S37} (h : Like l m) (hs : picture_spaceOf.f sq l.length = picture_spaceOf.f sp l.length) : ∀ (k : Nat) (i : Int), picture_Check.l1 k m l.length i sq m = picture_Check.l1 k l l.length i sp l
  | 0, i => rfl
  | k + 1, i => by
    simp only [picture_Check.l1, h.len, h.w, h.h, hs, like_l1 h hs k]
theorem like_l0 {sp sq : Int} {l m : List S37} (h : Like l m) (hs : picture_spaceOf.f sq l.length = picture_spaceOf.f sp l.length) : ∀ (k : Nat) (i : Int), picture_Check.l0 k m l.length i sq m = picture_Check.l0 k l l.length i sp l
  | 0, i => rfl
  | k + 1, i => by
    simp only [picture_Check.l0, h.len, h.w, h.h, plane_like (h.n i), like_l0 h hs k, like_l1 h hs k]
theorem like_f {sp sq : Int} {l m : List S37} (h : Like l m) (hs : picture_spaceOf.f sq l.length = picture_spaceOf.f sp l.length) (k : Nat) : picture_Check.f k sq m = picture_Check.f k sp l := by
  unfold picture_Check.f
  rw [h.len]
  have : ∀ b, picture_Check.j0 k b sq m = picture_Check.j0 k b sp l := by
    intro b
    cases k with
    | zero => rfl
    | succ k => simp only [picture_Check.j0, h.len, like_l0 h hs k]
  rw [this, this]
theorem space_134 (n : Int) : picture_spaceOf.f 3 n = picture_spaceOf.f 1 n ∧ picture_spaceOf.f 4 n = picture_spaceOf.f 1 n := by
  unfold picture_spaceOf.f
  constructor <;> simp

/-- of a space that is checked -/
theorem space_l1 {sp : Int} {l : List S37} (h0 : 1 ≤ l.length) (h4 : l.length ≤ 4) : ∀ (d k i : Nat), i ≤ l.length → l.length - i = d → d < k → picture_Check.l1 k l l.length i sp l = some 0 → picture_spaceOf.f sp l.length = some 0
  | d, 0, i, h1, h2, h3, h => by omega
  | d, k + 1, i, h1, h2, h3, h => by
    simp only [picture_Check.l1] at h
    by_cases c1 : (i : Int) < (l.length : Int)
    · rw [if_pos c1, if_pos (by omega), if_pos c1, if_pos (by omega)] at h
      by_cases c2 : (rd_T37 l i).f0 = (rd_T37 l 0).f0
      · rw [if_pos c2] at h
        by_cases c3 : (rd_T37 l i).f1 = (rd_T37 l 0).f1
        · rw [if_pos c3, wrap_id (x := (i : Int) + 1) (by omega) (by omega)] at h
          exact space_l1 h0 h4 (l.length - (i + 1)) k (i + 1) (by omega) rfl (by omega) (by rw [Int.natCast_add, Int.natCast_one]; exact h)
        · rw [if_neg c3] at h; simp at h
      · rw [if_neg c2] at h; simp at h
    · rw [if_neg c1] at h
      cases hs : picture_spaceOf.f sp l.length with
      | none => rw [hs] at h; simp at h
      | some e => rw [hs] at h; simpa using h
theorem space_l0 {sp : Int} {l : List S37} (h0 : 1 ≤ l.length) (h4 : l.length ≤ 4) : ∀ (d k i : Nat), i ≤ l.length → l.length - i = d → d + 6 < k → picture_Check.l0 k l l.length i sp l = some 0 → picture_spaceOf.f sp l.length = some 0
  | d, 0, i, h1, h2, h3, h => by omega
  | d, k + 1, i, h1, h2, h3, h => by
    simp only [picture_Check.l0] at h
    by_cases c1 : (i : Int) < (l.length : Int)
    · rw [if_pos c1, if_pos (by omega), if_pos c1] at h
      obtain ⟨e, he, hr⟩ := plane_f (rd_T37 l i)
      rw [he] at h
      simp only [Option.bind_some] at h
      by_cases c2 : e = 0
      · rw [if_pos c2, wrap_id (x := (i : Int) + 1) (by omega) (by omega)] at h
        exact space_l0 h0 h4 (l.length - (i + 1)) k (i + 1) (by omega) rfl (by omega) (by rw [Int.natCast_add, Int.natCast_one]; exact h)
      · rw [if_neg c2] at h
        simp at h
        exact absurd h c2
    · rw [if_neg c1] at h
      exact space_l1 h0 h4 l.length k 0 (by omega) (by omega) (by omega) h
theorem space_of_check {sp : Int} {l : List S37} (h : picture_Check.f 20 sp l = some 0) (hg : Good l) : picture_spaceOf.f sp l.length = some 0 := by
  unfold picture_Check.f at h
  rw [if_neg (by have := hg.pos; omega)] at h
  have c2 : ¬ ((l.length : Int) > 4) := by have := hg.few; omega
  simp only [picture_Check.j0, decide_eq_false c2] at h
  exact space_l0 hg.pos hg.few l.length 19 0 (by omega) (by omega) (by have := hg.few; omega) (by simpa using h)
theorem space_in {sp n : Int} (h : picture_spaceOf.f sp n = some 0) : 0 ≤ sp ∧ sp ≤ 4 ∧ (sp = 0 ∨ 3 ≤ n) := by
  unfold picture_spaceOf.f at h
  by_cases c1 : sp < 0
  · rw [if_pos c1] at h; simp at h
  · rw [if_neg c1] at h
    by_cases c2 : sp > 4
    · rw [if_pos c2] at h; simp at h
    · rw [if_neg c2] at h
      by_cases c3 : sp = 0
      · omega
      · rw [if_neg c3] at h
        by_cases c4 : n < 3
        · rw [if_pos c4] at h; simp at h
        · omega

/-- nothing apart: the meter stays -/
theorem dist_self (a : Int) : dist a a = 0 := by unfold dist; split <;> omega
theorem step_zero (wv pl i : Int) {t : Mt} (h : 0 ≤ t.m) : stepM wv pl i 0 t = t := by
  cases t
  simp only [stepM] at h ⊢
  rw [if_neg (by omega), if_neg (by omega), if_neg (by omega), if_neg (by omega), if_neg (by omega)]
  simp
theorem inner_same (wv k : Int) (P : List Int) {t : Mt} (h : 0 ≤ t.m) : ∀ n, inner wv k P P t n = t
  | 0 => rfl
  | n + 1 => by rw [inner, inner_same wv k P h n, dist_self, step_zero _ _ _ h]
theorem outer_same (wv : Int) (l : List S37) {t : Mt} (h : 0 ≤ t.m) : ∀ n, outer wv l l t n = t
  | 0 => rfl
  | n + 1 => by rw [outer, outer_same wv l h n, inner_same _ _ _ h]

/-- a meter that tells at most so much -/
def Low (t : Mt) : Prop := 0 ≤ t.m ∧ t.m ≤ 32
theorem Low.step {t : Mt} (h : Low t) (wv pl i : Int) {d : Int} (h0 : 0 ≤ d) (h1 : d ≤ 32) : Low (stepM wv pl i d t) := by
  obtain ⟨a, b⟩ := h
  unfold Low
  simp only [stepM]
  split <;> exact ⟨by omega, by omega⟩
theorem Low.inner {t : Mt} (h : Low t) (wv k : Int) (P Q : List Int) : ∀ n : Nat, (∀ i : Nat, i < n → dist (rd P i) (rd Q i) ≤ 32) → Low (inner wv k P Q t n)
  | 0, _ => h
  | n + 1, hd => (Low.inner h wv k P Q n (fun i hi => hd i (by omega))).step wv k n (dist_nonneg _ _) (hd n (by omega))
theorem Low.outer {t : Mt} (h : Low t) (wv : Int) (lp lq : List S37) : ∀ n : Nat, (∀ k : Nat, k < n → ∀ i : Nat, i < (rd_T37 lp k).f2.length → dist (rd (rd_T37 lp k).f2 i) (rd (rd_T37 lq k).f2 i) ≤ 32) → Low (outer wv lp lq t n)
  | 0, _ => h
  | n + 1, hd => (Low.outer h wv lp lq n (fun k hk => hd k (by omega))).inner wv n _ _ _ (hd n (by omega))
theorem dist_near {a b : Int} (h0 : 0 ≤ a) (h1 : a < 2147483648) (h2 : 0 ≤ b) (h3 : b < 2147483648) (h4 : a ≤ b + 32) (h5 : b ≤ a + 32) : dist a b ≤ 32 := by
  unfold dist key
  rw [if_pos h1, if_pos h3]
  split <;> omega
end Go.Proofs.YtimghiiihjphiaaGreat.sides
