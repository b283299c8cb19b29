/- A part of the proof: the class of a sample. No condition. -/
import Derived.Test.YtimghiiihjphiaaGreatPTrix
namespace Go.Proofs.YtimghiiihjphiaaGreat.classes
open Go.RowKit Go.Proofs.YtimghiiihjphiaaGreatW.PrintWords Go.Proofs.YtimghiiihjphiaaGreat.PTri
set_option linter.unusedVariables false
set_option linter.unusedSimpArgs false

/-- the class by exponent and mantissa -/
def clsOf (e m : Int) : Int := if e = 0 then (if m = 0 then 5 else 4) else if e = 255 then (if m = 0 then 2 else 1) else 3
/-- the class of a sample -/
def cls (s : Int) : Int := clsOf (wrap64 (Go.bits .and .u32 (s / 8388608) 255)) (wrap64 (Go.bits .and .u32 s 8388607))

set_option maxHeartbeats 800000 in
theorem class_5 (w : World) (s : Int) (b : Bool) (HS : Aside0 (Calls Tryz.prog 39 #[.int .u32 s] w fun e w' => e = .returned (.agg #[.bool b, .int .i64 0, .int .i64 0]) ∧ Below w.heap.size w w')) :
    Calls Tryz.prog 18 #[.int .u32 s] w fun e W' => e = .returned (.int .i64 5) ∧ Below w.heap.size w W' := by
  go_enter Tryz.func18, Tryz.ntmps18
  go_wp2_with fail
  refine HS.out.mono ?_
  rintro e w1 ⟨rfl, hb⟩
  have HB := Aside0.mk hb
  clear hb HS
  go_wp2
  go_ret
  exact ⟨rfl, below_alloc HB.out _⟩

set_option maxHeartbeats 800000 in
theorem class_4 (w : World) (s m : Int) (b : Bool) (c1 : (m == 0) = false) (HS : Aside0 (Calls Tryz.prog 39 #[.int .u32 s] w fun e w' => e = .returned (.agg #[.bool b, .int .i64 0, .int .i64 m]) ∧ Below w.heap.size w w')) :
    Calls Tryz.prog 18 #[.int .u32 s] w fun e W' => e = .returned (.int .i64 4) ∧ Below w.heap.size w W' := by
  go_enter Tryz.func18, Tryz.ntmps18
  go_wp2_with fail
  refine HS.out.mono ?_
  rintro e w1 ⟨rfl, hb⟩
  have HB := Aside0.mk hb
  clear hb HS
  go_wp2
  go_ret
  exact ⟨rfl, below_alloc HB.out _⟩

set_option maxHeartbeats 800000 in
theorem class_2 (w : World) (s : Int) (b : Bool) (HS : Aside0 (Calls Tryz.prog 39 #[.int .u32 s] w fun e w' => e = .returned (.agg #[.bool b, .int .i64 255, .int .i64 0]) ∧ Below w.heap.size w w')) :
    Calls Tryz.prog 18 #[.int .u32 s] w fun e W' => e = .returned (.int .i64 2) ∧ Below w.heap.size w W' := by
  go_enter Tryz.func18, Tryz.ntmps18
  go_wp2_with fail
  refine HS.out.mono ?_
  rintro e w1 ⟨rfl, hb⟩
  have HB := Aside0.mk hb
  clear hb HS
  go_wp2
  go_ret
  exact ⟨rfl, below_alloc HB.out _⟩

set_option maxHeartbeats 800000 in
theorem class_1 (w : World) (s m : Int) (b : Bool) (c1 : (m == 0) = false) (HS : Aside0 (Calls Tryz.prog 39 #[.int .u32 s] w fun e w' => e = .returned (.agg #[.bool b, .int .i64 255, .int .i64 m]) ∧ Below w.heap.size w w')) :
    Calls Tryz.prog 18 #[.int .u32 s] w fun e W' => e = .returned (.int .i64 1) ∧ Below w.heap.size w W' := by
  go_enter Tryz.func18, Tryz.ntmps18
  go_wp2_with fail
  refine HS.out.mono ?_
  rintro e w1 ⟨rfl, hb⟩
  have HB := Aside0.mk hb
  clear hb HS
  go_wp2
  go_ret
  exact ⟨rfl, below_alloc HB.out _⟩

set_option maxHeartbeats 800000 in
theorem class_3 (w : World) (s e0 m : Int) (b : Bool) (c0 : (e0 == 0) = false) (c5 : (e0 == 255) = false) (HS : Aside0 (Calls Tryz.prog 39 #[.int .u32 s] w fun e w' => e = .returned (.agg #[.bool b, .int .i64 e0, .int .i64 m]) ∧ Below w.heap.size w w')) :
    Calls Tryz.prog 18 #[.int .u32 s] w fun e W' => e = .returned (.int .i64 3) ∧ Below w.heap.size w W' := by
  go_enter Tryz.func18, Tryz.ntmps18
  go_wp2_with fail
  refine HS.out.mono ?_
  rintro e w1 ⟨rfl, hb⟩
  have HB := Aside0.mk hb
  clear hb HS
  go_wp2
  go_ret
  exact ⟨rfl, below_alloc HB.out _⟩

theorem class_any (w : World) (s : Int) :
    Calls Tryz.prog 18 #[.int .u32 s] w fun e W' => e = .returned (.int .i64 (cls s)) ∧ Below w.heap.size w W' := by
  have HS := Aside0.mk (bits_split.calls s _ _ _ w rfl)
  unfold cls
  generalize wrap64 (Go.bits .and .u32 (s / 8388608) 255) = e at HS ⊢
  generalize wrap64 (Go.bits .and .u32 s 8388607) = m at HS ⊢
  generalize decide (s ≥ 2147483648) = b at HS
  unfold clsOf
  by_cases h0 : e = 0
  · subst h0
    rw [if_pos rfl]
    by_cases h1 : m = 0
    · subst h1
      rw [if_pos rfl]
      exact class_5 w s b HS
    · rw [if_neg h1]
      exact class_4 w s m b (by simpa using h1) HS
  · rw [if_neg h0]
    by_cases h5 : e = 255
    · subst h5
      rw [if_pos rfl]
      by_cases h1 : m = 0
      · subst h1
        rw [if_pos rfl]
        exact class_2 w s b HS
      · rw [if_neg h1]
        exact class_1 w s m b (by simpa using h1) HS
    · rw [if_neg h5]
      exact class_3 w s e m b (by simpa using h0) (by simpa using h5) HS
end Go.Proofs.YtimghiiihjphiaaGreat.classes
