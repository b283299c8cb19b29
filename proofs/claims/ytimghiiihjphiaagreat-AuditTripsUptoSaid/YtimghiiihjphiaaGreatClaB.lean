/- A part of the proof: the writer of bits: many bits. Condition: the writer lies in a block of its own, and so do its bytes. -/
import Derived.Test.YtimghiiihjphiaaGreatClaA
namespace Go.Proofs.YtimghiiihjphiaaGreat.classes
open Go.RowKit Go.Proofs.YtimghiiihjphiaaGreatW.PrintWords
set_option linter.unusedVariables false
set_option linter.unusedSimpArgs false

set_option maxHeartbeats 800000 in
theorem ones_any (w W : World) (G n : Nat) (sum cnt bits : Int) (h : WR w G sum cnt bits W) (hb0 : 0 ≤ bits) (hb1 : bits ≤ 40000000) (hn : n ≤ 1000) :
    Calls Tryz.prog 97 #[.pointer (some ⟨G, 0, none⟩), .int .i64 n] W fun e W' => e = .returned undef ∧ WR w G sum cnt (bits + n) W' := by
  have H := Aside0.mk h
  clear h
  go_enter Tryz.func97, Tryz.ntmps97
  go_wp2
  go_loopw [5] (fun v5 wr => ∃ k : Nat, k ≤ n ∧ v5 = .int .i64 k ∧ Aside0 (WR w G sum cnt (bits + k) wr)) (fun v5 _ => n - (intOf v5).toNat)
  case atStart => exact ⟨0, Nat.zero_le _, rfl, ⟨by simpa using H.out⟩⟩
  case round =>
    obtain ⟨k, hk, rfl, HR⟩ := hrel
    by_cases hlt : k < n
    · go_wp2_with fail
      refine (bit_any w _ G sum cnt (bits + k) 1 HR.out (by omega) (by omega)).mono ?_
      rintro e w2 ⟨rfl, h2⟩
      have H2 := Aside0.mk h2
      clear h2
      go_wp2
      go_roundw
      case rel => exact ⟨k + 1, by omega, by go_num, ⟨by have := H2.out; rwa [show bits + (k : Int) + 1 = bits + ((k + 1 : Nat) : Int) by push_cast; omega] at this⟩⟩
      case measure => simp [intOf]; omega
    · obtain rfl : k = n := by omega
      go_wp2
      go_end0
      exact ⟨rfl, HR.out⟩

set_option maxHeartbeats 800000 in
theorem low_any (w W : World) (G n : Nat) (z sum cnt bits : Int) (h : WR w G sum cnt bits W) (hb0 : 0 ≤ bits) (hb1 : bits ≤ 40000000) (hn : n ≤ 1000) :
    Calls Tryz.prog 99 #[.pointer (some ⟨G, 0, none⟩), .int .u32 z, .int .i64 n] W fun e W' => e = .returned undef ∧ WR w G sum cnt (bits + n) W' := by
  have H := Aside0.mk h
  clear h
  go_enter Tryz.func99, Tryz.ntmps99
  go_wp2
  go_loopw [6] (fun v6 wr => ∃ k : Nat, k ≤ n ∧ v6 = .int .i64 ((n : Int) - 1 - k) ∧ Aside0 (WR w G sum cnt (bits + k) wr)) (fun v6 _ => (intOf v6 + 1).toNat)
  case atStart => exact ⟨0, Nat.zero_le _, by simp, ⟨by simpa using H.out⟩⟩
  case round =>
    obtain ⟨k, hk, rfl, HR⟩ := hrel
    by_cases hlt : k < n
    · have hge : 0 ≤ (n : Int) - 1 - k := by omega
      go_wp2_with fail
      refine (bit_any w _ G sum cnt (bits + k) _ HR.out (by omega) (by omega)).mono ?_
      rintro e w2 ⟨rfl, h2⟩
      have H2 := Aside0.mk h2
      clear h2
      go_wp2
      go_roundw
      case rel => exact ⟨k + 1, by omega, by congr 1; push_cast; omega, ⟨by have := H2.out; rwa [show bits + (k : Int) + 1 = bits + ((k + 1 : Nat) : Int) by push_cast; omega] at this⟩⟩
      case measure => simp [intOf]; omega
    · obtain rfl : k = n := by omega
      have hlt2 : ((k : Int) - 1 - k) < 0 := by omega
      go_wp2
      go_end0
      exact ⟨rfl, HR.out⟩
end Go.Proofs.YtimghiiihjphiaaGreat.classes
