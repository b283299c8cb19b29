/- A part of the proof: samples as numbers of binary64. No condition. -/
import Derived.Test.YtimghiiihjphiaaGreatFloB
namespace Go.Proofs.YtimghiiihjphiaaGreat.flo
open Ieee Go

theorem wide_any (s : Bool) (m : Nat) (p : Int) (h0 : m ≠ 0) (h1 : m < 16777216) (h2 : -149 ≤ p) (h3 : p ≤ 104) :
    ∃ M q, double.read (double.nearest s m p) = .number s M q ∧ M ≠ 0 ∧ -1074 ≤ q := by
  have p1 : 2 ^ m.log2 ≤ m := Nat.log2_self_le h0
  have p2 : m < 2 ^ (m.log2 + 1) := Nat.lt_log2_self
  have hl : m.log2 ≤ 23 := by have := (Nat.log2_lt (n := m) h0 (k := 24)).2 (by omega); omega
  obtain ⟨g1, g2⟩ := big_of p1 p2 (by omega)
  refine ⟨_, _, by rw [dnear_down s m m.log2 p p1 p2 (by omega) (by omega) (by omega), dread s _ _ g1 g2 (by omega)], by omega, by omega⟩

theorem order_zero {v M : Nat} {s : Bool} {q : Int} (h : double.read v = .number s M q) (hM : M ≠ 0) (hq : -1074 ≤ q) : double.order v 0 = some (if s then .lt else .gt) := by
  have h0 : double.read 0 = .number false 0 (-1074) := by decide +kernel
  unfold Format.order
  rw [h, h0]
  unfold Datum.order
  have e1 : min q (-1074) = -1074 := by omega
  simp only [e1]
  have e2 : signed false 0 (((-1074 : Int) - -1074)).toNat = 0 := by decide
  rw [e2]
  unfold signed
  rw [shl_mul]
  have hp := Nat.two_pow_pos (q - -1074).toNat
  have : 0 < M * 2 ^ (q - -1074).toNat := Nat.mul_pos (by omega) hp
  generalize M * 2 ^ (q - -1074).toNat = K at *
  cases s with
  | true =>
    simp only [if_true, compare, compareOfLessAndEq]
    rw [if_pos (by omega)]
  | false =>
    simp only [Bool.false_eq_true, if_false, compare, compareOfLessAndEq]
    rw [if_neg (by omega), if_neg (by omega)]

/-- what a sample is -/
inductive Kind (x : Nat) : Prop where
  | zero (h : x = 0 ∨ x = 2147483648)
  | num (s : Bool) (m : Nat) (p : Int) (h : single.read x = .number s m p) (h0 : m ≠ 0) (h1 : m < 16777216) (h2 : -149 ≤ p) (h3 : p ≤ 104) (hs : s = true ↔ 2147483648 ≤ x)
  | inf (h : x = 2139095040 ∨ x = 4286578688)
  | nan (s : Bool) (f : Nat) (h : single.read x = .nan s f) (hx : ¬ (0 < x ∧ x < 2139095040))

theorem kind (x : Nat) (hx : x < 4294967296) : Kind x := by
  have hw : single.signWeight = 2147483648 := rfl
  have hi : single.binade = 8388608 := rfl
  have hr : single.infRung = 2139095040 := rfl
  have hp : single.leastPlace = -149 := rfl
  have hd : single.read x = (let neg := x / 2147483648 % 2 == 1
    let rung := x % 2147483648
    if rung < 8388608 then .number neg rung (-149)
    else if rung < 2139095040 then .number neg (8388608 + rung % 8388608) (-149 + (rung / 8388608 - 1 : Nat))
    else if rung = 2139095040 then .infinity neg
    else .nan neg (rung - 2139095040)) := by
    unfold Format.read
    simp only [hw, hi, hr, hp]
  simp only at hd
  have hsg : (x / 2147483648 % 2 == 1) = true ↔ 2147483648 ≤ x := by rw [beq_iff_eq]; omega
  by_cases c0 : x % 2147483648 = 0
  · exact .zero (by omega)
  by_cases c1 : x % 2147483648 < 8388608
  · rw [if_pos c1] at hd
    exact .num _ _ _ hd c0 (by omega) (by omega) (by omega) hsg
  rw [if_neg c1] at hd
  by_cases c2 : x % 2147483648 < 2139095040
  · rw [if_pos c2] at hd
    exact .num _ _ _ hd (by omega) (by omega) (by omega) (by omega) hsg
  rw [if_neg c2] at hd
  by_cases c3 : x % 2147483648 = 2139095040
  · exact .inf (by omega)
  · rw [if_neg c3] at hd
    exact .nan _ _ hd (by omega)

theorem wide_num {x m : Nat} {s : Bool} {p : Int} (h : single.read x = .number s m p) (h0 : m ≠ 0) (h1 : m < 16777216) (h2 : -149 ≤ p) (h3 : p ≤ 104) :
    ∃ v, floatToFloatBits .f32 x .f64 = some v ∧ double.order v 0 = some (if s then .lt else .gt) := by
  obtain ⟨M, q, hr, hM, hq⟩ := wide_any s m p h0 h1 h2 h3
  refine ⟨_, ?_, order_zero hr hM hq⟩
  unfold floatToFloatBits
  rw [if_neg (by decide)]
  have hd : FloatKind.f32.decode x = .number s m p := h
  rw [hd]
  have hi : (FloatKind.f64.decode (FloatKind.f64.encode (.number s m p))).isInfinity = false := by
    show (double.read (double.nearest s m p)).isInfinity = false
    rw [hr]; rfl
  simp only [hi]
  rfl

/-- what Log may answer of x -/
inductive LogOut (x : Nat) : Nat → Prop where
  | low (h : ¬ (0 < x ∧ x < 2139095040)) : LogOut x 4286578688
  | made (h : ¬ (0 < x ∧ x < 2139095040)) : LogOut x 2143289344
  | high (h : ¬ (0 < x ∧ x < 2139095040)) : LogOut x 2139095040
  | one (h : x = 1065353216) : LogOut x 0
  | way (s : Bool) (N e c D : Nat) (h : Way ((x : Int) - 1065353216) s N e c D) (h0 : 0 < x) (h1 : x < 2139095040) : LogOut x (single.word s (e * 8388608 + c))

theorem self_eq (s : Bool) (e c : Nat) (h1 : 8388608 ≤ c) (h2 : c < 16777216) (he : e ≤ 252) : (single.order (single.word s (e * 8388608 + c)) (single.word s (e * 8388608 + c)) != some .eq) = false := by
  unfold Format.order
  rw [sread s e c h1 h2 he]
  unfold Datum.order
  simp [compare, compareOfLessAndEq]

theorem word_u32 (s : Bool) (e c : Nat) (h2 : c < 16777216) (he : e ≤ 252) : single.word s (e * 8388608 + c) < 4294967296 := by
  have hw : single.signWeight = 2147483648 := rfl
  cases s <;> simp [Format.word, hw] <;> omega
end Go.Proofs.YtimghiiihjphiaaGreat.flo
