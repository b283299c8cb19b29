/- A part of the proof: what the counts add up to, and how many bits there are. Condition: the picture is small. -/
import Derived.Test.YtimghiiihjphiaaGreatTriP
import Derived.Test.YtimghiiihjphiaaGreatClaK
import Derived.Test.YtimghiiihjphiaaGreatClaJ
namespace Go.Proofs.YtimghiiihjphiaaGreat.classes
open Go.RowKit Go.Proofs.YtimghiiihjphiaaGreatW.PrintWords Go.Proofs.YtimghiiihjphiaaGreat.PTri
set_option linter.unusedVariables false
set_option linter.unusedSimpArgs false

theorem costOf_pos {z : Int} {k : Nat} (h0 : 0 ≤ z) : 1 ≤ costOf z k := by
  have h1 : 0 ≤ z / 2 ^ k := Int.ediv_nonneg h0 (Int.le_of_lt (Int.pow_pos (by omega)))
  unfold costOf
  split <;> omega
theorem stS_lo (xs : List Int) : ∀ i : Nat, (i : Int) ≤ (stS xs i).2.2
  | 0 => by simp [stS]
  | i + 1 => by
    have h := stS_lo xs i
    have hc := costOf_pos (z := fd (rd xs i)) (k := kOf (stS xs i).1 (stS xs i).2.1) (fd_lo _)
    simp only [stS]
    push_cast
    omega

/-- the six counts -/
structure CI (a b c d e f : Int) (t : Nat) : Prop where
  a0 : 0 ≤ a
  b0 : 0 ≤ b
  c0 : 0 ≤ c
  d0 : 0 ≤ d
  f0 : 0 ≤ f
  fe : f ≤ e
  sum : a + b + c + d + e = t
theorem cls_neg0 : cls 2147483648 = 5 := by decide +kernel
theorem CI.step {a b c d e f : Int} {t : Nat} (h : CI a b c d e f t) (ht : t ≤ 1000000) (s : Int) : ∃ a' b' c' d' e' f', cstep [a, b, c, d, e, f] s = [a', b', c', d', e', f'] ∧ CI a' b' c' d' e' f' (t + 1) := by
  obtain ⟨h1, h2, h3, h4, h5, h6, h7⟩ := h
  have w : ∀ x : Int, 0 ≤ x → x ≤ 1000000 → wrap64 (x + 1) = x + 1 := fun x hx hy => wrap_id (by omega) (by omega)
  by_cases hq : s = 2147483648
  · subst hq
    refine ⟨a, b, c, d, e + 1, f + 1, ?_, ⟨h1, h2, h3, h4, by omega, by omega, by push_cast; omega⟩⟩
    unfold cstep
    rw [if_pos rfl, cls_neg0]
    simp [rd, w e (by omega) (by omega), w f (by omega) (by omega)]
  · obtain ⟨n, hn, hc⟩ := cls_in s
    unfold cstep
    rw [if_neg hq, hc]
    have : n = 0 ∨ n = 1 ∨ n = 2 ∨ n = 3 ∨ n = 4 := by omega
    rcases this with rfl | rfl | rfl | rfl | rfl
    · exact ⟨a + 1, b, c, d, e, f, by simp [rd, w a (by omega) (by omega)], ⟨by omega, h2, h3, h4, h5, h6, by push_cast; omega⟩⟩
    · exact ⟨a, b + 1, c, d, e, f, by simp [rd, w b (by omega) (by omega)], ⟨h1, by omega, h3, h4, h5, h6, by push_cast; omega⟩⟩
    · exact ⟨a, b, c + 1, d, e, f, by simp [rd, w c (by omega) (by omega)], ⟨h1, h2, by omega, h4, h5, h6, by push_cast; omega⟩⟩
    · exact ⟨a, b, c, d + 1, e, f, by simp [rd, w d (by omega) (by omega)], ⟨h1, h2, h3, by omega, h5, h6, by push_cast; omega⟩⟩
    · exact ⟨a, b, c, d, e + 1, f, by simp [rd, w e (by omega) (by omega)], ⟨h1, h2, h3, h4, h5, by omega, by push_cast; omega⟩⟩
theorem CI.row {a b c d e f : Int} {t : Nat} (h : CI a b c d e f t) (l : List Int) : ∀ n : Nat, t + n ≤ 1000000 → ∃ a' b' c' d' e' f', crow [a, b, c, d, e, f] l n = [a', b', c', d', e', f'] ∧ CI a' b' c' d' e' f' (t + n)
  | 0, _ => ⟨a, b, c, d, e, f, rfl, h⟩
  | n + 1, hn => by
    obtain ⟨a', b', c', d', e', f', h1, h2⟩ := CI.row h l n (by omega)
    obtain ⟨a2, b2, c2, d2, e2, f2, h3, h4⟩ := h2.step (by omega) (rd l n)
    refine ⟨a2, b2, c2, d2, e2, f2, ?_, h4⟩
    rw [crow, h1, h3]
/-- how many samples the first planes have -/
def tot (l : List S37) : Nat → Nat
  | 0 => 0
  | n + 1 => tot l n + (rd_T37 l n).f2.length
theorem tot_le (l : List S37) (m : Nat) (hs : ∀ j : Nat, j < l.length → (rd_T37 l j).f2.length ≤ m) : ∀ n : Nat, n ≤ l.length → tot l n ≤ m * n
  | 0, _ => by simp [tot]
  | n + 1, h => by
    have h1 := tot_le l m hs n (by omega)
    have h2 := hs n (by omega)
    rw [tot, Nat.mul_succ]
    omega
theorem call_ci (l : List S37) (m : Nat) (hs : ∀ j : Nat, j < l.length → (rd_T37 l j).f2.length ≤ m) : ∀ n : Nat, n ≤ l.length → m * n ≤ 1000000 → ∃ a b c d e f, call l n = [a, b, c, d, e, f] ∧ CI a b c d e f (tot l n)
  | 0, _, _ => ⟨0, 0, 0, 0, 0, 0, rfl, ⟨by omega, by omega, by omega, by omega, by omega, by omega, by simp [tot]⟩⟩
  | n + 1, h, hm => by
    have h1 : m * n ≤ m * (n + 1) := Nat.mul_le_mul_left _ (by omega)
    obtain ⟨a, b, c, d, e, f, h2, h3⟩ := call_ci l m hs n (by omega) (by omega)
    have h4 := tot_le l m hs (n + 1) h
    obtain ⟨a', b', c', d', e', f', h5, h6⟩ := h3.row (rd_T37 l n).f2 (rd_T37 l n).f2.length (by rw [tot] at h4; omega)
    refine ⟨a', b', c', d', e', f', ?_, h6⟩
    rw [call, h2, h5]
end Go.Proofs.YtimghiiihjphiaaGreat.classes
