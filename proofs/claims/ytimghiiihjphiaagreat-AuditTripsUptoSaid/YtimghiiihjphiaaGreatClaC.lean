/- A part of the proof: the state of the coder: how many low bits, what it learns. Condition: the state's numbers are small. -/
import Derived.Test.YtimghiiihjphiaaGreatClaB
import Derived.Deep.QuietTactic
import Derived.BigQuiet
namespace Go.Proofs.YtimghiiihjphiaaGreat.classes
open Go.RowKit Go.Proofs.YtimghiiihjphiaaGreatW.PrintWords
set_option linter.unusedVariables false
set_option linter.unusedSimpArgs false

/-- from i on, so many steps at most -/
def kq (sum cnt : Int) : Nat → Nat → Nat
  | 0, i => i
  | d + 1, i => if cnt * 2 ^ i < sum then kq sum cnt d (i + 1) else i
def kOf (sum cnt : Int) : Nat := kq sum cnt 31 0

theorem u64_id {x : Int} (h0 : 0 ≤ x) (h1 : x ≤ 9223372036854775807) : IntKind.u64.wrap x = x := by
  exact IntWalk.u64_in x ⟨h0, by omega⟩

theorem pow_bound {k : Nat} (hk : k ≤ 31) : (2 : Int) ^ k ≤ 2147483648 := by
  have h : (2 : Nat) ^ k ≤ 2 ^ 31 := Nat.pow_le_pow_right (by omega) hk
  rw [show (2 : Nat) ^ 31 = 2147483648 from rfl] at h
  have h2 : (((2 : Nat) ^ k : Nat) : Int) = (2 : Int) ^ k := Int.natCast_pow 2 k
  rw [← h2]
  omega

theorem shl_id {cnt : Int} {k : Nat} (hk : k ≤ 31) (h0 : 0 < cnt) (h1 : cnt ≤ 64) : 0 ≤ cnt * 2 ^ k ∧ cnt * 2 ^ k ≤ 137438953472 := by
  have h2 := pow_bound hk
  have h3 : (0 : Int) < 2 ^ k := Int.pow_pos (by omega)
  refine ⟨Int.mul_nonneg (by omega) (by omega), ?_⟩
  have : cnt * 2 ^ k ≤ 64 * 2147483648 := Int.mul_le_mul h1 h2 (by omega) (by omega)
  omega

set_option maxHeartbeats 800000 in
theorem k_any (W : World) (G : Nat) (sum cnt : Int) (h0 : W.cell? ⟨G, 0, none⟩ = some (.int .u64 sum)) (h1 : W.cell? ⟨G, 1, none⟩ = some (.int .u64 cnt)) (hc0 : 0 < cnt) (hc1 : cnt ≤ 64) :
    Calls Tryz.prog 96 #[.pointer (some ⟨G, 0, none⟩)] W fun e W' => e = .returned (.int .i64 (kOf sum cnt : Int)) ∧ ∃ n, W' = W.drewN n := by
  go_enter Tryz.func96, Tryz.ntmps96
  go_wp2
  go_loopw [3] (fun v3 wr => ∃ k : Nat, k ≤ 31 ∧ v3 = .int .i64 k ∧ Aside0 (kq sum cnt (31 - k) k = kOf sum cnt) ∧ Aside0 (∃ n, wr = W.drewN n)) (fun v3 _ => 31 - (intOf v3).toNat)
  case atStart => exact ⟨0, Nat.zero_le _, rfl, ⟨rfl⟩, ⟨⟨0, rfl⟩⟩⟩
  case round =>
    obtain ⟨k, hk, rfl, HK, ⟨n0, rfl⟩⟩ := hrel
    by_cases hlt : k < 31
    · have b1 : decide ((k : Int) < 31) = true := by simp; omega
      have hk0 : (0 : Int) ≤ k := by omega
      have hsh := shl_id (k := k) hk hc0 hc1
      have hw := u64_id hsh.1 (by omega)
      have HS : kq sum cnt (31 - k) k = if cnt * 2 ^ k < sum then kq sum cnt (31 - (k + 1)) (k + 1) else k := by
        rw [show 31 - k = (31 - (k + 1)) + 1 by omega]; rfl
      by_cases c : cnt * 2 ^ k < sum
      · have b2 : decide (cnt * 2 ^ k < sum) = true := decide_eq_true c
        rw [if_pos c] at HS
        have HS' := Aside0.mk (HS.symm.trans HK.out)
        clear HS hsh c HK
        go_wp2
        go_quiet (fail)
        go_wp2
        go_roundw
        case rel => exact ⟨k + 1, by omega, by go_num, HS', ⟨⟨_, rfl⟩⟩⟩
        case measure => simp [intOf]; omega
      · have b2 : decide (cnt * 2 ^ k < sum) = false := decide_eq_false c
        rw [if_neg c] at HS
        have HS' := Aside0.mk (HS.symm.trans HK.out)
        clear HS hsh c HK
        go_wp2
        go_quiet (fail)
        go_wp2
        go_ret
        exact ⟨by rw [← HS'.out]; rfl, _, World.drewN_drewN ..⟩
    · have b1 : decide ((k : Int) < 31) = false := by simp; omega
      obtain rfl : k = 31 := by omega
      go_wp2
      go_quiet (fail)
      go_wp2
      go_ret
      exact ⟨by rw [← HK.out]; rfl, _, World.drewN_drewN ..⟩
end Go.Proofs.YtimghiiihjphiaaGreat.classes
