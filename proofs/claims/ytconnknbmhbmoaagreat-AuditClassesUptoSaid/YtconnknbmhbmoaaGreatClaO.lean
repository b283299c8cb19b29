/- A part of the proof: the reference's classes and rests are the audit's. Condition: the samples are of 32 bits, the picture is one that may be. -/
import Derived.Test.YtconnknbmhbmoaaGreatClaK
import Derived.Test.YtconnknbmhbmoaaGreatClaM
namespace Go.Proofs.YtconnknbmhbmoaaGreat.classes
open Go.RowKit Go.Proofs.YtconnknbmhbmoaaGreatW.PrintWords Go.Proofs.YtconnknbmhbmoaaGreat.PCla
set_option linter.unusedVariables false
set_option linter.unusedSimpArgs false

theorem class_g {s : Int} (h : U32 s) (K : Nat) : halideref1_Class.f (K + 1) s = some (cls s) := by
  obtain ⟨h1, h2⟩ := h
  have e1 : Go.bits .and .u32 (s / 8388608) 255 = s / 8388608 % 256 := by
    obtain ⟨y, hy⟩ : ∃ y : Nat, s / 8388608 = (y : Int) := ⟨(s / 8388608).toNat, by omega⟩
    have := u32_and_nat y 255 (by omega) (by omega)
    rw [Nat.and_two_pow_sub_one_eq_mod y 8] at this
    rw [hy]
    exact this.trans (by omega)
  have e2 : Go.bits .and .u32 s 8388607 = s % 8388608 := by
    obtain ⟨y, hy⟩ : ∃ y : Nat, s = (y : Int) := ⟨s.toNat, by omega⟩
    have := u32_and_nat y 8388607 (by omega) (by omega)
    rw [Nat.and_two_pow_sub_one_eq_mod y 23] at this
    rw [hy]
    exact this.trans (by omega)
  unfold halideref1_Class.f halideref1_fields.f cls clsOf
  have w1 : wrap64 s = s := wrap_id (by omega) (by omega)
  have w2 : wrap64 (s / 8388608) = s / 8388608 := wrap_id (by omega) (by omega)
  have w3 : wrap64 (s / 8388608 % 256) = s / 8388608 % 256 := wrap_id (by omega) (by omega)
  have w4 : wrap64 (s % 8388608) = s % 8388608 := wrap_id (by omega) (by omega)
  rw [e1, e2, w1, Int.tdiv_eq_ediv_of_nonneg (a := s) (b := 8388608) (by omega), w2, Int.tmod_eq_emod_of_nonneg (a := s / 8388608) (by omega), Int.tmod_eq_emod_of_nonneg (a := s) (by omega), w3, w4]
  simp only [Option.bind_some, halideref1_Class.j0]
  generalize s / 8388608 % 256 = e
  generalize s % 8388608 = m
  by_cases c1 : e = 255
  · subst c1
    by_cases c2 : m = 0
    · subst c2; rfl
    · have : (m != 0) = true := by simpa using c2
      rw [if_pos rfl, if_pos this, if_neg (by omega), if_pos rfl, if_neg c2]
  · rw [if_neg c1, if_neg (by simp), if_neg c1]
    by_cases c3 : e = 0
    · rw [if_pos c3, if_pos c3]
      by_cases c2 : m = 0
      · rw [if_pos c2, if_pos c2]
      · rw [if_neg c2, if_neg c2]
    · rw [if_neg c3, if_neg c3, if_neg c1]

/-! ### the classes -/
theorem cl_end1 (sp : Int) (l : List S58) (i : Nat) (hi : i < l.length) (hl : l.length ≤ 4) (K : Nat) (xs : List Int) :
    halideref27_Classes.l1 (K + 1) xs i ((rd_T58 l i).f2.length : Nat) sp l = halideref27_Classes.l0 K xs ((i + 1 : Nat) : Int) sp l := by
  rw [halideref27_Classes.l1, if_pos (by omega), if_pos (by omega), if_neg (by omega), wrap_id (x := (i : Int) + 1) (by omega) (by omega), Int.natCast_add, Int.natCast_one]
theorem cl_step1 (sp : Int) (l : List S58) (hU : UL l) (i : Nat) (hi : i < l.length) (hl : l.length ≤ 4) (j : Nat) (hj : j < (rd_T58 l i).f2.length) (hs : (rd_T58 l i).f2.length ≤ 65536) (K : Nat) (hK : 1 ≤ K) (xs : List Int) (hx : xs.length = 6) :
    halideref27_Classes.l1 (K + 1) xs i j sp l = halideref27_Classes.l1 K (cstep xs (rd (rd_T58 l i).f2 j)) i ((j + 1 : Nat) : Int) sp l := by
  have hu := rd_u (hU i hi) (j : Int)
  obtain ⟨K', rfl⟩ : ∃ K', K = K' + 1 := ⟨K - 1, by omega⟩
  have hc := class_g hu K'
  obtain ⟨n, hn5, hcl⟩ := cls_in (rd (rd_T58 l i).f2 j)
  rw [halideref27_Classes.l1, if_pos (by omega), if_pos (by omega), if_pos (by omega), if_pos (by omega), hc, Option.bind_some, wrap_id (x := cls (rd (rd_T58 l i).f2 j) - 1) (by omega) (by omega), if_pos (by omega), if_pos (by omega), Option.bind_some, wrap_id (x := (j : Int) + 1) (by omega) (by omega), if_pos (show (5 : Int) < (xs.length : Int) by omega)]
  unfold cstep
  by_cases c : rd (rd_T58 l i).f2 j = 2147483648
  · rw [if_pos c, if_pos c, Int.natCast_add, Int.natCast_one]; rfl
  · rw [if_neg c, if_neg c, Int.natCast_add, Int.natCast_one]
theorem cl_row (sp : Int) (l : List S58) (hU : UL l) (i : Nat) (hi : i < l.length) (hl : l.length ≤ 4) (hs : (rd_T58 l i).f2.length ≤ 65536) (xs : List Int) (hx : xs.length = 6) : ∀ (d j K : Nat), j + d = (rd_T58 l i).f2.length →
    halideref27_Classes.l1 (K + 2 + d) (crow xs (rd_T58 l i).f2 j) i j sp l = halideref27_Classes.l0 (K + 1) (crow xs (rd_T58 l i).f2 (rd_T58 l i).f2.length) ((i + 1 : Nat) : Int) sp l := by
  intro d
  induction d with
  | zero =>
    intro j K hj
    obtain rfl : j = (rd_T58 l i).f2.length := by omega
    exact cl_end1 sp l i hi hl (K + 1) _
  | succ d ih =>
    intro j K hj
    have h1 := cl_step1 sp l hU i hi hl j (by omega) hs (K + 2 + d) (by omega) (crow xs (rd_T58 l i).f2 j) (by rw [crow_length, hx])
    have h2 := ih (j + 1) K (by omega)
    exact h1.trans h2
theorem cl_end0 (sp : Int) (l : List S58) (K : Nat) (xs : List Int) : halideref27_Classes.l0 (K + 1) xs (l.length : Nat) sp l = some (xs, 0) := by
  rw [halideref27_Classes.l0, if_neg (by omega)]
theorem cl_all (sp : Int) (l : List S58) (hU : UL l) (hl : l.length ≤ 4) (hs : ∀ j : Nat, j < l.length → (rd_T58 l j).f2.length ≤ 65536) : ∀ (d i K : Nat), i + d = l.length →
    halideref27_Classes.l0 (K + 1 + d * 70000) (call l i) i sp l = some (call l l.length, 0) := by
  intro d
  induction d with
  | zero =>
    intro i K hi
    obtain rfl : i = l.length := by omega
    exact cl_end0 sp l K _
  | succ d ih =>
    intro i K hi
    have hsi := hs i (by omega)
    obtain ⟨M, hM⟩ : ∃ M, K + 1 + (d + 1) * 70000 = (M + 2 + (rd_T58 l i).f2.length) + 1 ∧ M + 1 = (K + 1 + (70000 - 2 - (rd_T58 l i).f2.length)) + d * 70000 := ⟨K + (d + 1) * 70000 - 2 - (rd_T58 l i).f2.length, by omega, by omega⟩
    rw [hM.1, halideref27_Classes.l0, if_pos (by omega)]
    have h1 := cl_row sp l hU i (by omega) hl hsi (call l i) (call_length l i) (rd_T58 l i).f2.length 0 M (by omega)
    have h2 := ih (i + 1) (K + (70000 - 2 - (rd_T58 l i).f2.length)) (by omega)
    rw [show K + (70000 - 2 - (rd_T58 l i).f2.length) + 1 + d * 70000 = M + 1 by omega] at h2
    exact h1.trans h2

/-! ### fuel -/
theorem up {α : Type} {f : Nat → Option α} (hm : ∀ k, LeO (f k) (f (k + 1))) {k : Nat} {r : α} (h : f k = some r) : ∀ d, f (k + d) = some r
  | 0 => h
  | d + 1 => hm _ _ (up hm h d)
theorem up_to {α : Type} {f : Nat → Option α} (hm : ∀ k, LeO (f k) (f (k + 1))) {k m : Nat} {r : α} (h : f k = some r) (hkm : k ≤ m) : f m = some r := by
  have := up hm h (m - k)
  rwa [Nat.add_sub_cancel' hkm] at this

theorem classes_f (sp : Int) (l : List S58) (hU : UL l) (hl : l.length ≤ 4) (hs : ∀ j : Nat, j < l.length → (rd_T58 l j).f2.length ≤ 65536) (hc : picture_Check.f 20 sp l = some 0) : halideref27_Classes.f 400001 sp l = some (call l l.length, 0) := by
  unfold halideref27_Classes.f
  have h1 : picture_Check.f 400001 sp l = some 0 := up_to (f := fun k => picture_Check.f k sp l) (fun k => picture_Check.mono _ _ k) hc (by omega)
  rw [check_eq, h1, Option.bind_some, if_pos rfl, if_pos (by omega)]
  have h2 := cl_all sp l hU hl hs l.length 0 (400000 - l.length * 70000) (by omega)
  rw [show 400000 - l.length * 70000 + 1 + l.length * 70000 = 400001 by omega] at h2
  exact h2
theorem classes_f_bad (sp : Int) (l : List S58) (er : Int) (he : er ≠ 0) (hc : picture_Check.f 20 sp l = some er) : halideref27_Classes.f 400001 sp l = some ([], er) := by
  unfold halideref27_Classes.f
  have h1 : picture_Check.f 400001 sp l = some er := up_to (f := fun k => picture_Check.f k sp l) (fun k => picture_Check.mono _ _ k) hc (by omega)
  rw [check_eq, h1, Option.bind_some, if_neg he]
end Go.Proofs.YtconnknbmhbmoaaGreat.classes
