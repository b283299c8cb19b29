/- A part of the proof: numbers that binary64 and binary32 hold: what is written is read back. No condition. -/
import Derived.Laws.FloatArith
namespace Go.Proofs.YtimghiiihjphiaaGreat.flo
open Ieee

theorem log2_of {m L : Nat} (h1 : 2 ^ L ≤ m) (h2 : m < 2 ^ (L + 1)) : m.log2 = L :=
  (Nat.log2_eq_iff (by have := Nat.two_pow_pos L; omega)).2 ⟨h1, h2⟩

theorem cut_none (s : Bool) (n : Nat) : Toward.even.cut s n 0 = n := by
  unfold Toward.cut
  simp [Nat.mod_one]

theorem cut_exact (way : Toward) (s : Bool) (n k : Nat) : way.cut s (n * 2 ^ k) k = n := by
  by_cases hn : n = 0
  · subst hn
    cases way <;> simp [Toward.cut]
  · have hl : k ≤ (n * 2 ^ k).log2 + 2 := by
      have : 2 ^ k ≤ n * 2 ^ k := Nat.le_mul_of_pos_left _ (by omega)
      have := (Nat.le_log2 (by have := Nat.two_pow_pos k; exact Nat.mul_ne_zero hn (by omega))).2 this
      omega
    have hp := Nat.two_pow_pos k
    have h : (1 <<< min k ((n * 2 ^ k).log2 + 2) : Nat) = 2 ^ k := by rw [Nat.min_eq_left hl, Nat.one_shiftLeft]
    have h1 : n * 2 ^ k / 2 ^ k = n := Nat.mul_div_cancel n hp
    have h2 : n * 2 ^ k % 2 ^ k = 0 := Nat.mul_mod_left n _
    unfold Toward.cut
    cases way <;> simp only [h, h1, h2] <;> simp

theorem cut29 (s : Bool) (M : Nat) (h : 2 ^ 52 ≤ M) :
    Toward.even.cut s M 29 = M / 536870912 + (if 536870912 < 2 * (M % 536870912) ∨ (536870912 = 2 * (M % 536870912) ∧ M / 536870912 % 2 = 1) then 1 else 0) := by
  have hl : 29 ≤ M.log2 + 2 := by
    have := (Nat.le_log2 (n := M) (k := 52) (by omega)).2 h
    omega
  have hg : (1 <<< min 29 (M.log2 + 2) : Nat) = 536870912 := by rw [Nat.min_eq_left hl]; rfl
  unfold Toward.cut
  simp only [hg]
  by_cases c : 536870912 < 2 * (M % 536870912) ∨ (536870912 = 2 * (M % 536870912) ∧ M / 536870912 % 2 = 1)
  · rw [if_pos c]
    simp [c]
  · rw [if_neg c]
    have c1 : (decide (536870912 < 2 * (M % 536870912)) || (536870912 == 2 * (M % 536870912) && M / 536870912 % 2 == 1)) = false := by
      rw [Bool.or_eq_false_iff, Bool.and_eq_false_iff]
      simp only [decide_eq_false_iff_not, beq_eq_false_iff_ne, ne_eq]
      omega
    rw [c1]; rfl

theorem cut29_bounds (s : Bool) (M : Nat) (h : 2 ^ 52 ≤ M) (h2 : M < 2 ^ 53) :
    8388608 ≤ Toward.even.cut s M 29 ∧ Toward.even.cut s M 29 ≤ 16777216 ∧ Toward.even.cut s M 29 * 536870912 ≤ M + 268435456 ∧ M ≤ Toward.even.cut s M 29 * 536870912 + 268435456 := by
  rw [cut29 s M h]
  split <;> omega

theorem dnear_up (s : Bool) (M k : Nat) (p : Int) (h1 : 2 ^ 52 ≤ M) (h2 : M < 2 ^ 53) (h3 : -1074 ≤ p + k) (h4 : p + k ≤ 900) :
    double.nearest s (M * 2 ^ k) p = double.word s ((p + k + 1074).toNat * 4503599627370496 + M) := by
  have hk := Nat.two_pow_pos k
  have hne : M * 2 ^ k ≠ 0 := Nat.mul_ne_zero (by omega) (by omega)
  have hl : (M * 2 ^ k).log2 = 52 + k := by
    refine log2_of ?_ ?_
    · rw [Nat.pow_add]; exact Nat.mul_le_mul_right _ h1
    · rw [show 52 + k + 1 = 53 + k by omega, Nat.pow_add]; exact Nat.mul_lt_mul_of_pos_right h2 hk
  have hb : double.fractionBits = 52 := rfl
  have hp : double.leastPlace = -1074 := rfl
  have hi : double.binade = 4503599627370496 := rfl
  have hr : double.infRung = 2047 * 4503599627370496 := rfl
  unfold Format.nearest
  rw [if_neg hne]
  simp only [hl, hb, hp, hi, hr]
  have e1 : max (p + ((52 + k : Nat) : Int) - ((52 : Nat) : Int)) (-1074) = p + k := by omega
  rw [e1]
  have e2 : (p - (p + (k : Int))).toNat = 0 := by omega
  have e3 : (p + (k : Int) - p).toNat = k := by omega
  rw [e2, e3, Nat.shiftLeft_zero, cut_exact]
  have e4 : (p + (k : Int) - -1074).toNat = (p + k + 1074).toNat := by congr 1
  rw [e4]
  have hle : (p + k + 1074).toNat ≤ 1974 := by omega
  rw [Nat.min_eq_left (by omega)]

theorem dnear_down (s : Bool) (m L : Nat) (p : Int) (h1 : 2 ^ L ≤ m) (h2 : m < 2 ^ (L + 1)) (hL : L ≤ 52) (h3 : -1074 ≤ p - (52 - L : Nat)) (h4 : p ≤ 900) :
    double.nearest s m p = double.word s ((p - (52 - L : Nat) + 1074).toNat * 4503599627370496 + m * 2 ^ (52 - L)) := by
  have hk := Nat.two_pow_pos L
  have hl : m.log2 = L := log2_of h1 h2
  have hb : double.fractionBits = 52 := rfl
  have hp : double.leastPlace = -1074 := rfl
  have hi : double.binade = 4503599627370496 := rfl
  have hr : double.infRung = 2047 * 4503599627370496 := rfl
  unfold Format.nearest
  rw [if_neg (by omega)]
  simp only [hl, hb, hp, hi, hr]
  have e1 : max (p + (L : Int) - ((52 : Nat) : Int)) (-1074) = p - (52 - L : Nat) := by omega
  rw [e1]
  have e2 : (p - (p - ((52 - L : Nat) : Int))).toNat = 52 - L := by omega
  have e3 : (p - ((52 - L : Nat) : Int) - p).toNat = 0 := by omega
  rw [e2, e3, cut_none, Nat.shiftLeft_eq]
  have e4 : (p - ((52 - L : Nat) : Int) - -1074).toNat = (p - (52 - L : Nat) + 1074).toNat := by congr 1
  rw [e4]
  have hle : (p - (52 - L : Nat) + 1074).toNat ≤ 1974 := by omega
  have hm : m * 2 ^ (52 - L) < 2 ^ 53 := by
    have : 2 ^ (L + 1) * 2 ^ (52 - L) = 2 ^ 53 := by rw [← Nat.pow_add]; congr 1; omega
    rw [← this]
    exact Nat.mul_lt_mul_of_pos_right h2 (Nat.two_pow_pos _)
  rw [Nat.min_eq_left (by omega)]

theorem big_of {m L : Nat} (h1 : 2 ^ L ≤ m) (h2 : m < 2 ^ (L + 1)) (hL : L ≤ 52) : 2 ^ 52 ≤ m * 2 ^ (52 - L) ∧ m * 2 ^ (52 - L) < 2 ^ 53 := by
  have e : 2 ^ L * 2 ^ (52 - L) = 2 ^ 52 := by rw [← Nat.pow_add]; congr 1; omega
  have e' : 2 ^ (L + 1) * 2 ^ (52 - L) = 2 ^ 53 := by rw [← Nat.pow_add]; congr 1; omega
  exact ⟨by rw [← e]; exact Nat.mul_le_mul_right _ h1, by rw [← e']; exact Nat.mul_lt_mul_of_pos_right h2 (Nat.two_pow_pos _)⟩

theorem dread (s : Bool) (e M : Nat) (h1 : 2 ^ 52 ≤ M) (h2 : M < 2 ^ 53) (he : e ≤ 2000) :
    double.read (double.word s (e * 4503599627370496 + M)) = .number s M (-1074 + e) := by
  have hw : double.signWeight = 9223372036854775808 := rfl
  have hi : double.binade = 4503599627370496 := rfl
  have hr : double.infRung = 2047 * 4503599627370496 := rfl
  have hp : double.leastPlace = -1074 := rfl
  have e1 : double.word s (e * 4503599627370496 + M) / 9223372036854775808 % 2 = s.toNat := by
    cases s <;> simp [Format.word, hw] <;> omega
  have e2 : double.word s (e * 4503599627370496 + M) % 9223372036854775808 = e * 4503599627370496 + M := by
    cases s <;> simp [Format.word, hw] <;> omega
  unfold Format.read
  simp only [hw, hi, hr, hp, e1, e2]
  rw [if_neg (by omega), if_pos (by omega)]
  have e3 : (e * 4503599627370496 + M) % 4503599627370496 = M - 4503599627370496 := by omega
  have e4 : (e * 4503599627370496 + M) / 4503599627370496 - 1 = e := by omega
  rw [e3, e4]
  have e5 : 4503599627370496 + (M - 4503599627370496) = M := by omega
  rw [e5]
  cases s <;> rfl

theorem sread (s : Bool) (e c : Nat) (h1 : 8388608 ≤ c) (h2 : c < 16777216) (he : e ≤ 252) :
    single.read (single.word s (e * 8388608 + c)) = .number s c (-149 + e) := by
  have hw : single.signWeight = 2147483648 := rfl
  have hi : single.binade = 8388608 := rfl
  have hr : single.infRung = 255 * 8388608 := rfl
  have hp : single.leastPlace = -149 := rfl
  have e1 : single.word s (e * 8388608 + c) / 2147483648 % 2 = s.toNat := by
    cases s <;> simp [Format.word, hw] <;> omega
  have e2 : single.word s (e * 8388608 + c) % 2147483648 = e * 8388608 + c := by
    cases s <;> simp [Format.word, hw] <;> omega
  unfold Format.read
  simp only [hw, hi, hr, hp, e1, e2]
  rw [if_neg (by omega), if_pos (by omega)]
  have e3 : (e * 8388608 + c) % 8388608 = c - 8388608 := by omega
  have e4 : (e * 8388608 + c) / 8388608 - 1 = e := by omega
  rw [e3, e4]
  have e5 : 8388608 + (c - 8388608) = c := by omega
  rw [e5]
  cases s <;> rfl

theorem snear (s : Bool) (M : Nat) (q : Int) (h1 : 2 ^ 52 ≤ M) (h2 : M < 2 ^ 53) (h3 : -149 ≤ q + 29) (h4 : q + 29 ≤ 100) :
    single.nearest s M q = single.word s ((q + 29 + 149).toNat * 8388608 + Toward.even.cut s M 29) := by
  have hl : M.log2 = 52 := log2_of h1 h2
  have hb : single.fractionBits = 23 := rfl
  have hp : single.leastPlace = -149 := rfl
  have hi : single.binade = 8388608 := rfl
  have hr : single.infRung = 255 * 8388608 := rfl
  have hc := cut29_bounds s M h1 h2
  have hs : Toward.even.cut true M 29 = Toward.even.cut s M 29 := by rw [cut29 _ _ h1, cut29 _ _ h1]
  have hs' : Toward.even.cut false M 29 = Toward.even.cut s M 29 := by rw [cut29 _ _ h1, cut29 _ _ h1]
  unfold Format.nearest
  rw [if_neg (by omega)]
  simp only [hl, hb, hp, hi, hr]
  have e1 : max (q + ((52 : Nat) : Int) - ((23 : Nat) : Int)) (-149) = q + 29 := by omega
  rw [e1]
  have e2 : (q - (q + 29)).toNat = 0 := by omega
  have e3 : (q + 29 - q).toNat = 29 := by omega
  rw [e2, e3, Nat.shiftLeft_zero]
  have e4 : (q + 29 - -149).toNat = (q + 29 + 149).toNat := by congr 1
  rw [e4]
  have hle : (q + 29 + 149).toNat ≤ 249 := by omega
  rw [Nat.min_eq_left (by omega)]
end Go.Proofs.YtimghiiihjphiaaGreat.flo
