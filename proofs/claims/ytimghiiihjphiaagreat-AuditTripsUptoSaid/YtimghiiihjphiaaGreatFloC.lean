/- A part of the proof: what the functions of the scale of powers of two answer. Condition: the samples are of 32 bits. -/
import Derived.Test.YtimghiiihjphiaaGreatProg
import Derived.Test.YtimghiiihjphiaaGreatFloB
import Derived.Tactics
import Derived.WalkKit
import Derived.Laws.Externs
import Derived.Laws.FloatArith
import Derived.KernelRfl
import Derived.Deep.Draws
namespace Go.Proofs.YtimghiiihjphiaaGreat.flo
open Go.RowKit
set_option linter.unusedVariables false
set_option linter.unusedSimpArgs false

theorem p205 (n : Nat) (w : World) : (callFunc 205 #[.int .u32 n]).run Tryz.prog w = .ok (.value (.float .f32 n)) w := by
  rw [run_callFunc_extern Tryz.func205 (by kernel_rfl) (by kernel_rfl) (by kernel_rfl) (e := Extern.MathFloatBits.float32frombits) (by kernel_rfl)]
  rfl
theorem p235 (n : Nat) (w : World) : (callFunc 235 #[.float .f32 n]).run Tryz.prog w = .ok (.value (.int .u32 n)) w := by
  rw [run_callFunc_extern Tryz.func235 (by kernel_rfl) (by kernel_rfl) (by kernel_rfl) (e := Extern.MathFloatBits.float32bits) (by kernel_rfl)]
  rfl
theorem p207 (n : Nat) (w : World) : (callFunc 207 #[.float .f64 n]).run Tryz.prog w = .ok (.value (.int .u64 n)) w := by
  rw [run_callFunc_extern Tryz.func207 (by kernel_rfl) (by kernel_rfl) (by kernel_rfl) (e := Extern.MathFloatBits.float64bits) (by kernel_rfl)]
  rfl
theorem p276 (n : Nat) (w : World) : (callFunc 276 #[.int .u64 n]).run Tryz.prog w = .ok (.value (.float .f64 n)) w := by
  rw [run_callFunc_extern Tryz.func276 (by kernel_rfl) (by kernel_rfl) (by kernel_rfl) (e := Extern.MathFloatBits.float64frombits) (by kernel_rfl)]
  rfl
theorem p137 (n : Nat) (w : World) {s : Bool} {m : Nat} {p : Int} (hd : FloatKind.f64.decode n = .number s m p) : (callFunc 137 #[.float .f64 n]).run Tryz.prog w = .ok (.value (.float .f64 (FloatKind.f64.encode ((Ieee.Datum.number s m p).integral .even)))) w := by
  rw [run_callFunc_extern Tryz.func137 (by kernel_rfl) (by kernel_rfl) (by kernel_rfl) (e := Extern.MathFloor.toIntegral "math.RoundToEven" .even) (by kernel_rfl)]
  have : (Extern.MathFloor.toIntegral "math.RoundToEven" .even #[.float .f64 n]).run Tryz.prog w = .ok (.float .f64 (FloatKind.f64.encode ((Ieee.Datum.number s m p).integral .even))) w := by
    show Sem.run Tryz.prog (match FloatKind.f64.decode n with
      | .nan s t => if FloatKind.f64.format.quiet t = t then pure (Value.float .f64 n) else do
        let kept ← choose (.extern "math.Floor,Ceil,Trunc,RoundToEven.signallingNaN kept" 2)
        pure (Value.float .f64 (if kept == 1 then n else FloatKind.f64.encode (.nan s (FloatKind.f64.format.quiet t))))
      | d => pure (Value.float .f64 (FloatKind.f64.encode (d.integral .even)))) w = _
    rw [hd]
    rfl
  rw [this]
  rfl

/-- the sample's number, where it has one -/
theorem value_num (x v : Nat) (h : floatToFloatBits .f32 x .f64 = some v) (w : World) :
    Calls Tryz.prog 134 #[.int .u32 x] w fun e w' => e = .returned (.float .f64 v) ∧ w = w' := by
  have hp := p205 x
  have hc : ∀ w, (convert 275 213 (.float .f32 x)).run Tryz.prog w = .ok (.float .f64 v) w := fun w => run_convert_float_float w 275 213 .f32 .f64 x v (by rw [Tryz.underlying275]; rfl) Tryz.underlying213 h
  go_enter Tryz.func134, Tryz.ntmps134
  go_wp2
  go_ret
  exact ⟨rfl, rfl⟩

/-- a number of binary64, told as a sample -/
theorem told_num (d y : Nat) (h : floatToFloatBits .f64 d .f32 = some y) (ho : (FloatKind.f32.format.order y y != some .eq) = false) (w : World) :
    Calls Tryz.prog 135 #[.float .f64 d] w fun e w' => e = .returned (.int .u32 y) ∧ w = w' := by
  have h275 : ∀ w, Calls Tryz.prog 275 #[.float .f32 y] w fun e w' => e = .returned (.int .u32 y) ∧ w = w' := by
    intro w
    have hp := p235 y
    go_enter Tryz.func275, Tryz.ntmps275
    go_wp2
    go_ret
    exact ⟨rfl, rfl⟩
  have h206 : ∀ w, Calls Tryz.prog 206 #[.int .u64 d] w fun e w' => e = .returned (.int .u32 y) ∧ w = w' := by
    intro w
    have hp := p276 d
    have hc : ∀ w, (convert 213 275 (.float .f64 d)).run Tryz.prog w = .ok (.float .f32 y) w := fun w => run_convert_float_float w 213 275 .f64 .f32 d y (by rw [Tryz.underlying213]; rfl) Tryz.underlying275 h
    go_enter Tryz.func206, Tryz.ntmps206
    go_wp2_with fail
    refine (h275 _).mono ?_
    rintro e w' ⟨rfl, rfl⟩
    go_wp2
    go_ret
    exact ⟨rfl, rfl⟩
  have hp := p207 d
  go_enter Tryz.func135, Tryz.ntmps135
  go_wp2_with fail
  refine (h206 _).mono ?_
  rintro e w' ⟨rfl, rfl⟩
  go_wp2
  go_ret
  exact ⟨rfl, rfl⟩
end Go.Proofs.YtimghiiihjphiaaGreat.flo
