/- A part of the proof: a sample on the scale of powers of two, there and back: at most 32 keys away. No condition. -/
import Derived.Test.YtimghiiihjphiaaGreatFloA
namespace Go.Proofs.YtimghiiihjphiaaGreat.flo
open Ieee Go

def mid : Int := 1065353216
def c23 : Nat := 4710765210229538816
def c128 : Nat := 4638707616191610880
def cm127 : Nat := 13862009284302209024

theorem read23 : double.read c23 = .number false 4503599627370496 (-29) := by decide +kernel
theorem read128 : double.read c128 = .number false 4503599627370496 (-45) := by decide +kernel
theorem readm127 : double.read cm127 = .number true 8936830510563328 (-46) := by decide +kernel

theorem there (n : Int) (a L : Nat) (s : Bool) (ha : n.natAbs = a) (hs : decide (n < 0) = s) (h1 : 2 ^ L ≤ a) (h2 : a < 2 ^ (L + 1)) (hL : L ≤ 29) :
    floatOfInt .f64 n = double.word s ((L + 1022) * 4503599627370496 + a * 2 ^ (52 - L)) ∧
    floatBits .quo .f64 (double.word s ((L + 1022) * 4503599627370496 + a * 2 ^ (52 - L))) c23 = some (double.word s ((L + 999) * 4503599627370496 + a * 2 ^ (52 - L))) ∧
    floatToFloatBits .f64 (double.word s ((L + 999) * 4503599627370496 + a * 2 ^ (52 - L))) .f32 = some (single.word s ((L + 103) * 8388608 + Toward.even.cut s (a * 2 ^ (52 - L)) 29)) := by
  obtain ⟨g1, g2⟩ := big_of h1 h2 (by omega)
  have hc := cut29_bounds s (a * 2 ^ (52 - L)) g1 g2
  generalize hM : a * 2 ^ (52 - L) = M at *
  refine ⟨?_, ?_, ?_⟩
  · show double.nearest (decide (n < 0)) n.natAbs 0 = _
    rw [ha, hs, dnear_down s a L 0 h1 h2 (by omega) (by omega) (by omega), hM, show ((0 : Int) - (52 - L : Nat) + 1074).toNat = L + 1022 by omega]
  · show double.div _ _ = _
    unfold Format.div
    rw [dread s _ _ g1 g2 (by omega), read23]
    have l1 : M.log2 = 52 := log2_of g1 g2
    have l2 : (4503599627370496 : Nat).log2 = 52 := log2_of (by decide) (by decide)
    have hb : double.fractionBits = 52 := rfl
    unfold Datum.quotient
    simp only [l1, l2, hb]
    rw [if_neg (by decide)]
    have e1 : M <<< (52 + 2 + 52 - 52) = 4503599627370496 * (M * 4) := by rw [Nat.shiftLeft_eq]; omega
    simp only [e1]
    have e2 : 4503599627370496 * (M * 4) / 4503599627370496 = M * 4 := by omega
    have e3 : 4503599627370496 * (M * 4) % 4503599627370496 = 0 := by omega
    simp only [e2, e3, Option.map_some, Option.some.injEq]
    show double.nearest _ _ _ = _
    have e4 : 2 * (M * 4) + ((0 : Nat) != 0).toNat = M * 2 ^ 3 := by
      have : ((0 : Nat) != 0).toNat = 0 := rfl
      omega
    rw [e4, Bool.xor_false, dnear_up s M 3 _ g1 g2 (by omega) (by omega)]
    generalize hk : (_ : Int).toNat = k
    rw [show k = L + 999 by omega]
  · unfold floatToFloatBits
    rw [if_neg (by decide)]
    have hd : FloatKind.f64.decode (double.word s ((L + 999) * 4503599627370496 + M)) = .number s M (-1074 + (L + 999 : Nat)) := dread s _ _ g1 g2 (by omega)
    rw [hd]
    have he : FloatKind.f32.encode (.number s M (-1074 + (L + 999 : Nat))) = single.word s ((L + 103) * 8388608 + Toward.even.cut s M 29) := by
      show single.nearest s M _ = _
      rw [snear s M _ g1 g2 (by omega) (by omega)]
      generalize hk : (_ : Int).toNat = k
      rw [show k = L + 103 by omega]
    simp only [he]
    have hi : (FloatKind.f32.decode (single.word s ((L + 103) * 8388608 + Toward.even.cut s M 29))).isInfinity = false := by
      show (single.read _).isInfinity = false
      by_cases hk : Toward.even.cut s M 29 < 16777216
      · rw [sread s _ _ hc.1 hk (by omega)]; rfl
      · have : Toward.even.cut s M 29 = 16777216 := by omega
        rw [this, show (L + 103) * 8388608 + 16777216 = (L + 104) * 8388608 + 8388608 by omega, sread s _ _ (by omega) (by omega) (by omega)]; rfl
    rw [hi]
    rfl

theorem shl_mul (n k : Nat) : n <<< k = n * 2 ^ k := Nat.shiftLeft_eq n k

theorem cmp_scale (a b : Int) (k : Nat) : compare (a * (2 ^ k : Nat)) (b * (2 ^ k : Nat)) = compare a b := by
  have hk : (0 : Int) < ((2 ^ k : Nat) : Int) := by have := Nat.two_pow_pos k; omega
  simp only [compare, compareOfLessAndEq]
  have h1 : (a * ((2 ^ k : Nat) : Int) < b * ((2 ^ k : Nat) : Int)) ↔ a < b := ⟨fun h => Int.lt_of_mul_lt_mul_right h (by omega), fun h => Int.mul_lt_mul_of_pos_right h hk⟩
  have h2 : (a * ((2 ^ k : Nat) : Int) = b * ((2 ^ k : Nat) : Int)) ↔ a = b := ⟨fun h => Int.eq_of_mul_eq_mul_right (by omega) h, fun h => by rw [h]⟩
  simp only [h1, h2]

def sg (s : Bool) (N : Nat) : Int := if s then -(N : Int) else N

theorem signed_mul (s : Bool) (N k : Nat) : signed s (N * 2 ^ k) 0 = sg s N * (2 ^ k : Nat) := by
  unfold signed sg
  cases s <;> simp [Int.neg_mul]

theorem signed_mul' (s : Bool) (N k j : Nat) : signed s (N * 2 ^ k) j = sg s N * (2 ^ (k + j) : Nat) := by
  unfold signed sg
  rw [shl_mul, Nat.mul_assoc, ← Nat.pow_add]
  cases s <;> simp [Int.neg_mul]

theorem back (s : Bool) (e c N : Nat) (h1 : 8388608 ≤ c) (h2 : c < 16777216) (he1 : 103 ≤ e) (he2 : e ≤ 133) (hN : c * 536870912 = N * 2 ^ (155 - e)) (hN0 : N ≠ 0) (hN2 : N ≤ 1073741824) :
    floatToFloatBits .f32 (single.word s (e * 8388608 + c)) .f64 = some (double.word s ((e + 896) * 4503599627370496 + c * 536870912)) ∧
    double.order (double.word s ((e + 896) * 4503599627370496 + c * 536870912)) c128 = some (compare (sg s N) 1073741824) ∧
    double.order (double.word s ((e + 896) * 4503599627370496 + c * 536870912)) cm127 = some (compare (sg s N) (-1065353216)) ∧
    floatBits .mul .f64 (double.word s ((e + 896) * 4503599627370496 + c * 536870912)) c23 = some (double.word s ((e + 919) * 4503599627370496 + c * 536870912)) ∧
    FloatKind.f64.decode (double.word s ((e + 919) * 4503599627370496 + c * 536870912)) = .number s (c * 536870912) ((e : Int) - 155) ∧
    FloatKind.f64.encode ((Datum.number s (c * 536870912) ((e : Int) - 155)).integral .even) = double.nearest s N 0 ∧
    floatToIntVal .f64 (double.nearest s N 0) .i64 = some (sg s N) := by
  have g1 : 2 ^ 52 ≤ c * 536870912 := by omega
  have g2 : c * 536870912 < 2 ^ 53 := by omega
  have hd : double.read (double.word s ((e + 896) * 4503599627370496 + c * 536870912)) = .number s (c * 536870912) ((e : Int) - 178) := by
    rw [dread s _ _ g1 g2 (by omega)]
    generalize hk : (-1074 + _ : Int) = k
    rw [show k = (e : Int) - 178 by omega]
  have hcut : ∀ way : Toward, way.cut s (c * 536870912) (155 - e) = N := by
    intro way
    rw [hN]
    exact cut_exact way s N _
  have hdT : double.read (double.word s ((e + 919) * 4503599627370496 + c * 536870912)) = .number s (c * 536870912) ((e : Int) - 155) := by
    rw [dread s _ _ g1 g2 (by omega)]
    generalize hk : (-1074 + _ : Int) = k
    rw [show k = (e : Int) - 155 by omega]
  refine ⟨?_, ?_, ?_, ?_, ?_, ?_, ?_⟩
  · unfold floatToFloatBits
    rw [if_neg (by decide)]
    have hd32 : FloatKind.f32.decode (single.word s (e * 8388608 + c)) = .number s c (-149 + e) := sread s _ _ h1 h2 (by omega)
    rw [hd32]
    have hen : FloatKind.f64.encode (.number s c (-149 + e)) = double.word s ((e + 896) * 4503599627370496 + c * 536870912) := by
      show double.nearest s c _ = _
      rw [dnear_down s c 23 _ (by omega) (by omega) (by omega) (by omega) (by omega)]
      have : (2 : Nat) ^ (52 - 23) = 536870912 := by decide
      rw [this]
      generalize hk : (_ : Int).toNat = k
      rw [show k = e + 896 by omega]
    simp only [hen]
    have hi : (FloatKind.f64.decode (double.word s ((e + 896) * 4503599627370496 + c * 536870912))).isInfinity = false := by
      show (double.read _).isInfinity = false
      rw [hd]; rfl
    rw [hi]
    rfl
  · unfold Format.order
    rw [hd, read128]
    unfold Datum.order
    have e1 : min ((e : Int) - 178) (-45) = (e : Int) - 178 := by omega
    simp only [e1]
    have e2 : ((e : Int) - 178 - ((e : Int) - 178)).toNat = 0 := by omega
    have e3 : ((-45 : Int) - ((e : Int) - 178)).toNat = 133 - e := by omega
    rw [e2, e3, hN, signed_mul]
    have e4 : signed false 4503599627370496 (133 - e) = 1073741824 * ((2 ^ (155 - e) : Nat) : Int) := by
      unfold signed
      rw [if_neg (by simp), shl_mul]
      have : (4503599627370496 : Nat) * 2 ^ (133 - e) = 1073741824 * 2 ^ (155 - e) := by
        have : 155 - e = 133 - e + 22 := by omega
        rw [this, Nat.pow_add]
        omega
      rw [this]
      simp
    rw [e4, cmp_scale]
  · unfold Format.order
    rw [hd, readm127]
    unfold Datum.order
    by_cases h133 : e = 133
    · have e1 : min ((e : Int) - 178) (-46) = -46 := by omega
      simp only [e1]
      have e2 : ((e : Int) - 178 - -46).toNat = 1 := by omega
      have e3 : ((-46 : Int) - -46).toNat = 0 := by omega
      rw [e2, e3, hN, signed_mul']
      have e4 : signed true 8936830510563328 0 = -1065353216 * ((2 ^ (155 - e + 1) : Nat) : Int) := by
        have : 155 - e + 1 = 23 := by omega
        rw [this]; decide
      rw [e4, cmp_scale]
    · have e1 : min ((e : Int) - 178) (-46) = (e : Int) - 178 := by omega
      simp only [e1]
      have e2 : ((e : Int) - 178 - ((e : Int) - 178)).toNat = 0 := by omega
      have e3 : ((-46 : Int) - ((e : Int) - 178)).toNat = 132 - e := by omega
      rw [e2, e3, hN, signed_mul]
      have e4 : signed true 8936830510563328 (132 - e) = -1065353216 * ((2 ^ (155 - e) : Nat) : Int) := by
        unfold signed
        rw [if_pos rfl, shl_mul]
        have : (8936830510563328 : Nat) * 2 ^ (132 - e) = 1065353216 * 2 ^ (155 - e) := by
          have : 155 - e = 132 - e + 23 := by omega
          rw [this, Nat.pow_add]
          omega
        rw [this]
        simp [Int.neg_mul]
      rw [e4, cmp_scale]
  · show double.mul _ _ = _
    unfold Format.mul
    rw [hd, read23]
    unfold Datum.product
    simp only [Option.map_some, Option.some.injEq]
    show double.nearest _ _ _ = _
    rw [Bool.xor_false, show (4503599627370496 : Nat) = 2 ^ 52 by decide, dnear_up s _ 52 _ g1 g2 (by omega) (by omega)]
    generalize hk : (_ : Int).toNat = k
    rw [show k = e + 919 by omega]
  · exact hdT
  · unfold Datum.integral
    simp only
    have e1 : ((e : Int) - 155).toNat = 0 := by omega
    have e2 : (-((e : Int) - 155)).toNat = 155 - e := by omega
    rw [e1, e2, Nat.shiftLeft_zero, hcut]
    rfl
  · have hl := Nat.log2_lt hN0 (k := 31)
    have hl' : N.log2 ≤ 30 := by have := hl.2 (by omega); omega
    have p1 : 2 ^ N.log2 ≤ N := Nat.log2_self_le hN0
    have p2 : N < 2 ^ (N.log2 + 1) := Nat.lt_log2_self
    obtain ⟨q1, q2⟩ := big_of p1 p2 (by omega)
    have hr : FloatKind.f64.decode (double.nearest s N 0) = .number s (N * 2 ^ (52 - N.log2)) (-((52 - N.log2 : Nat) : Int)) := by
      show double.read _ = _
      rw [dnear_down s N N.log2 0 p1 p2 (by omega) (by omega) (by omega), dread s _ _ q1 q2 (by omega)]
      generalize hk : (-1074 + _ : Int) = k
      rw [show k = -((52 - N.log2 : Nat) : Int) by omega]
    unfold floatToIntVal
    rw [hr]
    have ht : (Datum.number s (N * 2 ^ (52 - N.log2)) (-((52 - N.log2 : Nat) : Int))).toInt .zero = some (sg s N) := by
      unfold Datum.toInt Datum.integral
      simp only
      have e1 : (-((52 - N.log2 : Nat) : Int)).toNat = 0 := by omega
      have e2 : (- -((52 - N.log2 : Nat) : Int)).toNat = 52 - N.log2 := by omega
      rw [e1, e2, Nat.shiftLeft_zero, cut_exact]
      unfold signed sg
      cases s <;> simp
    rw [ht]
    have hmin : IntKind.i64.min = -9223372036854775808 := rfl
    have hmax : IntKind.i64.max = 9223372036854775807 := rfl
    simp only [hmin, hmax]
    rw [if_pos (by unfold sg; cases s <;> simp <;> omega)]

/-- the sample's place on the scale, as a sample: which word, and what it tells -/
structure Way (n : Int) (s : Bool) (N e c D : Nat) : Prop where
  div : floatBits .quo .f64 (floatOfInt .f64 n) c23 = some D
  narrow : floatToFloatBits .f64 D .f32 = some (single.word s (e * 8388608 + c))
  c1 : 8388608 ≤ c
  c2 : c < 16777216
  e1 : 103 ≤ e
  e2 : e ≤ 133
  hN : c * 536870912 = N * 2 ^ (155 - e)
  n0 : N ≠ 0
  n2 : N ≤ 1073741824
  near1 : sg s N ≤ n + 32
  near2 : n ≤ sg s N + 32

theorem way (n : Int) (h0 : n ≠ 0) (hb : n.natAbs < 1073741824) : ∃ s N e c D, Way n s N e c D := by
  have p1 : 2 ^ n.natAbs.log2 ≤ n.natAbs := Nat.log2_self_le (by omega)
  have p2 : n.natAbs < 2 ^ (n.natAbs.log2 + 1) := Nat.lt_log2_self
  have hl : n.natAbs.log2 ≤ 29 := by have := (Nat.log2_lt (n := n.natAbs) (by omega) (k := 30)).2 (by omega); omega
  generalize hL : n.natAbs.log2 = L at *
  obtain ⟨a1, a2, a3⟩ := there n n.natAbs L (decide (n < 0)) rfl rfl p1 p2 hl
  obtain ⟨g1, g2⟩ := big_of p1 p2 (by omega)
  have hc := cut29_bounds (decide (n < 0)) (n.natAbs * 2 ^ (52 - L)) g1 g2
  rw [← a1] at a2
  -- the exact place, where nothing is dropped
  have hex : L ≤ 23 → Toward.even.cut (decide (n < 0)) (n.natAbs * 2 ^ (52 - L)) 29 = n.natAbs * 2 ^ (23 - L) := by
    intro h
    have : 52 - L = (23 - L) + 29 := by omega
    rw [this, Nat.pow_add, ← Nat.mul_assoc]
    exact cut_exact .even _ _ 29
  generalize hk : Toward.even.cut (decide (n < 0)) (n.natAbs * 2 ^ (52 - L)) 29 = k at *
  -- how many whole units: N, with N * 2 ^ (52 - L) = k * 2 ^ 29
  obtain ⟨N, hN, hN1, hN2⟩ : ∃ N, k * 536870912 = N * 2 ^ (52 - L) ∧ N ≤ n.natAbs + 32 ∧ n.natAbs ≤ N + 32 := by
    by_cases h : L ≤ 23
    · refine ⟨n.natAbs, ?_, by omega, by omega⟩
      rw [hex h]
      have : 52 - L = (23 - L) + 29 := by omega
      rw [this, Nat.pow_add, ← Nat.mul_assoc]
    · have hd : 2 ^ (52 - L) * 2 ^ (L - 23) = 536870912 := by rw [← Nat.pow_add, show 52 - L + (L - 23) = 29 by omega]
      have hle : 2 ^ (L - 23) ≤ 64 := Nat.pow_le_pow_right (n := 2) (by omega) (show L - 23 ≤ 6 by omega)
      have hm : 268435456 ≤ 32 * 2 ^ (52 - L) := by
        have : 536870912 ≤ 2 ^ (52 - L) * 64 := by rw [← hd]; exact Nat.mul_le_mul_left _ hle
        omega
      have hkk : k * 536870912 = k * 2 ^ (L - 23) * 2 ^ (52 - L) := by rw [← hd, Nat.mul_assoc, Nat.mul_comm (2 ^ (L - 23))]
      have hpos := Nat.two_pow_pos (52 - L)
      refine ⟨k * 2 ^ (L - 23), hkk, ?_, ?_⟩
      · have : k * 2 ^ (L - 23) * 2 ^ (52 - L) ≤ (n.natAbs + 32) * 2 ^ (52 - L) := by rw [← hkk, Nat.add_mul]; omega
        exact Nat.le_of_mul_le_mul_right this hpos
      · have : n.natAbs * 2 ^ (52 - L) ≤ (k * 2 ^ (L - 23) + 32) * 2 ^ (52 - L) := by rw [Nat.add_mul, ← hkk]; omega
        exact Nat.le_of_mul_le_mul_right this hpos
  have hpos := Nat.two_pow_pos (52 - L)
  have hn0 : N ≠ 0 := by
    rintro rfl
    omega
  have hbig : N ≤ 1073741824 := by
    have : N * 2 ^ (52 - L) ≤ 2 ^ (L + 1) * 2 ^ (52 - L) := by
      rw [← hN, ← Nat.pow_add, show L + 1 + (52 - L) = 53 by omega]
      omega
    have h3 := Nat.le_of_mul_le_mul_right this hpos
    have : 2 ^ (L + 1) ≤ 2 ^ 30 := Nat.pow_le_pow_right (n := 2) (by omega) (by omega)
    omega
  have hsg1 : sg (decide (n < 0)) N ≤ n + 32 := by
    unfold sg
    by_cases h : n < 0
    · simp only [h, decide_true, if_true]; omega
    · simp only [h, decide_false]; rw [if_neg (by simp)]; omega
  have hsg2 : n ≤ sg (decide (n < 0)) N + 32 := by
    unfold sg
    by_cases h : n < 0
    · simp only [h, decide_true, if_true]; omega
    · simp only [h, decide_false]; rw [if_neg (by simp)]; omega
  by_cases hk2 : k < 16777216
  · exact ⟨_, N, L + 103, k, _, a2, a3, hc.1, hk2, by omega, by omega, by rw [hN, show 155 - (L + 103) = 52 - L by omega], hn0, hbig, hsg1, hsg2⟩
  · obtain rfl : k = 16777216 := by omega
    refine ⟨_, N, L + 104, 8388608, _, a2, ?_, by omega, by omega, by omega, by omega, ?_, hn0, hbig, hsg1, hsg2⟩
    · rw [a3, show (L + 103) * 8388608 + 16777216 = (L + 104) * 8388608 + 8388608 by omega]
    · have h4 : 52 - L = 155 - (L + 104) + 1 := by omega
      rw [h4, Nat.pow_succ, ← Nat.mul_assoc] at hN
      omega
end Go.Proofs.YtimghiiihjphiaaGreat.flo
