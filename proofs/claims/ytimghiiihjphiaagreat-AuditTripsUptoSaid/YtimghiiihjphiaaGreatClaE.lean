/- A part of the proof: the writer of bits: a list of numbers. Condition: the list is not long. -/
import Derived.Test.YtimghiiihjphiaaGreatClaD
import Derived.Test.YtimghiiihjphiaaGreatPTrix
namespace Go.Proofs.YtimghiiihjphiaaGreat.classes
open Go.RowKit Go.Proofs.YtimghiiihjphiaaGreatW.PrintWords Go.Proofs.YtimghiiihjphiaaGreat.PTri
set_option linter.unusedVariables false
set_option linter.unusedSimpArgs false

/-- a number folded -/
def fd (x : Int) : Int := Go.bits .xor .u32 ((x * 2) % 4294967296) (((wrap32 x) / 2147483648) % 4294967296)
theorem fd_lo (x : Int) : 0 ≤ fd x := bits_lo_u32 _ _ _
theorem fd_hi (x : Int) : fd x ≤ 4294967295 := bits_hi_u32 _ _ _
/-- the sum, the count, the bits after so many of a list's numbers -/
def stS (xs : List Int) : Nat → Int × Int × Int
  | 0 => (16, 1, 0)
  | i + 1 => (nxS (stS xs i).1 (stS xs i).2.1 (fd (rd xs i)), nxC (stS xs i).2.1, (stS xs i).2.2 + costOf (fd (rd xs i)) (kOf (stS xs i).1 (stS xs i).2.1))
theorem stS_ok (xs : List Int) : ∀ i, StOK (stS xs i).1 (stS xs i).2.1 ∧ 0 ≤ (stS xs i).2.2 ∧ (stS xs i).2.2 ≤ 56 * i
  | 0 => by refine ⟨⟨?_, ?_, ?_, ?_⟩, ?_, ?_⟩ <;> simp [stS]
  | i + 1 => by
    obtain ⟨h1, h2, h3⟩ := stS_ok xs i
    have hk := kOf_le (stS xs i).1 (stS xs i).2.1
    have hc := costOf_le (z := fd (rd xs i)) hk (fd_lo _)
    refine ⟨h1.next (fd_lo _) (fd_hi _), ?_, ?_⟩ <;> simp only [stS] <;> push_cast <;> omega

theorem Below.WR_new {w W : World} {G : Nat} {sum cnt : Int} (hB : Below w.heap.size w W) (hG : w.heap.size ≤ G) (h : W.heap[G]? = some (.cells #[.int .u64 sum, .int .u64 cnt, .slice none 0 0, .int .i64 0] 99 (0, 0))) : WR w G sum cnt 0 W :=
  ⟨hB, hG, _, [], 0, h, own_nil _ _ _ _, by decide⟩

set_option maxHeartbeats 1600000 in
theorem writes_any (w : World) (A : Option Addr) (cap : Nat) (xs : List Int) (hx : Kd.C (Kd.int .u32) w A xs.length xs) (hn : xs.length ≤ 2000) :
    Calls Tryz.prog 42 #[.slice A xs.length cap] w fun e W' => ∃ G, e = .returned (.tuple #[.pointer (some ⟨G, 0, none⟩), .int .i64 0]) ∧ WR w G (stS xs xs.length).1 (stS xs xs.length).2.1 (stS xs xs.length).2.2 W' := by
  have hmf : ∀ (fn : Fn) (first cap : Array Value) (w : World), (Instr.makeFunc fn first cap).run Tryz.prog w = .ok (.func fn first cap) w := fun _ _ _ _ => rfl
  have b0 : decide (65536 < (xs.length : Int)) = false := decide_eq_false (by omega)
  have HX := Aside0.mk hx
  clear hx
  go_enter Tryz.func42, Tryz.ntmps42
  go_wp2_with fail
  refine (coder_begins.calls 16 1 _ rfl).mono ?_
  rintro e w1 ⟨rfl, hb⟩
  have HB := Aside0.mk hb
  clear hb
  go_wp2_with fail
  have hB2 := below_alloc HB.out (.cells #[.int .u64 16, .int .u64 1, .slice none 0 0, .int .i64 0] 99 (0, 0))
  have HW0 := Aside0.mk (Below.WR_new (sum := 16) (cnt := 1) hB2 HB.out.size (blk_new _ _))
  clear hB2 HB
  go_loopw [18] (fun v18 wr => ∃ k : Nat, k ≤ xs.length ∧ v18 = .int .i64 k ∧ Aside0 (WR w w1.heap.size (stS xs k).1 (stS xs k).2.1 (stS xs k).2.2 wr)) (fun v18 _ => xs.length - (intOf v18).toNat)
  case atStart => exact ⟨0, Nat.zero_le _, rfl, HW0⟩
  case round =>
    obtain ⟨k, hk, rfl, HR⟩ := hrel
    by_cases hlt : k < xs.length
    · obtain ⟨ad, rfl, hc0⟩ := Kd.at_int HX.out k (by omega) (by omega)
      have hc1 := (HR.out.below.cell (World.block_lt_of_cell? w _ hc0)).trans hc0
      simp only [Int.toNat_natCast] at hc1
      clear hc0
      have b1 : decide ((k : Int) < (xs.length : Int)) = true := decide_eq_true (by omega)
      have b2 : (0 : Int) ≤ k := by omega
      obtain ⟨hs1, hs2, hs3⟩ := stS_ok xs k
      go_wp2_with fail
      refine (coder_Fold.calls (rd xs k) (fd (rd xs k)) _ rfl).mono ?_
      rintro e w2 ⟨rfl, nd, rfl⟩
      have H1 := Aside0.mk (HR.out.drewN nd)
      go_wp2_with fail
      refine (number_any w _ w1.heap.size _ _ _ (fd (rd xs k)) H1.out hs1 (fd_lo _) (fd_hi _) hs2 (by omega)).mono ?_
      rintro e w3 ⟨rfl, h3⟩
      have H3 := Aside0.mk h3
      clear h3 H1
      go_wp2
      go_roundw
      case rel => exact ⟨k + 1, by omega, by go_num, H3⟩
      case measure => simp [intOf]; omega
    · obtain rfl : k = xs.length := by omega
      go_wp2
      go_ret2
      exact ⟨_, rfl, HR.out⟩
end Go.Proofs.YtimghiiihjphiaaGreat.classes
