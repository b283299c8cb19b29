/- A part of the proof: Exp behind Log: what it answers is at most 32 away. Condition: the sample is one that Log answers. -/
import Derived.Test.YtimghiiihjphiaaGreatFloE
namespace Go.Proofs.YtimghiiihjphiaaGreat.flo
open Go.RowKit
set_option linter.unusedVariables false
set_option linter.unusedSimpArgs false

def Near (x r : Nat) : Prop := r < 4294967296 ∧ (0 < x ∧ x < 2139095040 → r ≤ x + 32 ∧ x ≤ r + 32 ∧ r ≤ 2139095040)

theorem exp_nan (x : Nat) (hb : ¬ (0 < x ∧ x < 2139095040)) (w : World) : Calls Tryz.prog 89 #[.int .u32 2143289344] w (SomeU (Near x) w) := by
  go_enter Tryz.func89, Tryz.ntmps89
  go_wp2_with fail
  refine (value_nan 2143289344 (s := false) (f := 4194304) (by decide +kernel) _).mono ?_
  rintro e w1 ⟨⟨v, rfl, hv⟩, rfl⟩
  have o0 : (FloatKind.f64.format.order v v != some .eq) = true := by rw [order_nan v v hv]; rfl
  clear hv
  go_wp2
  go_ret
  exact ⟨2143289344, 1, rfl, rfl, by decide, fun h => absurd h hb⟩

theorem exp_high (x y v : Nat) (hf : floatToFloatBits .f32 y .f64 = some v) (h0 : (FloatKind.f64.format.order v v != some .eq) = false)
    (h1 : (FloatKind.f64.format.order v 4638707616191610880 == some .gt || FloatKind.f64.format.order v 4638707616191610880 == some .eq) = true) (hn : Near x 2139095040) (w : World) :
    Calls Tryz.prog 89 #[.int .u32 y] w (SomeU (Near x) w) := by
  go_enter Tryz.func89, Tryz.ntmps89
  go_wp2_with fail
  refine (value_num y v hf _).mono ?_
  rintro e w1 ⟨rfl, rfl⟩
  go_wp2
  go_ret
  exact ⟨2139095040, 0, rfl, rfl, hn⟩

theorem exp_low (x y v : Nat) (hf : floatToFloatBits .f32 y .f64 = some v) (h0 : (FloatKind.f64.format.order v v != some .eq) = false)
    (h1 : (FloatKind.f64.format.order v 4638707616191610880 == some .gt || FloatKind.f64.format.order v 4638707616191610880 == some .eq) = false)
    (h2 : (FloatKind.f64.format.order v 13862009284302209024 == some .lt) = true) (hn : Near x 0) (w : World) :
    Calls Tryz.prog 89 #[.int .u32 y] w (SomeU (Near x) w) := by
  go_enter Tryz.func89, Tryz.ntmps89
  go_wp2_with fail
  refine (value_num y v hf _).mono ?_
  rintro e w1 ⟨rfl, rfl⟩
  go_wp2
  go_ret
  exact ⟨0, 0, rfl, rfl, hn⟩

theorem exp_mid (x y v t t' r : Nat) (n : Int) {s : Bool} {m : Nat} {p : Int} (hf : floatToFloatBits .f32 y .f64 = some v) (h0 : (FloatKind.f64.format.order v v != some .eq) = false)
    (h1 : (FloatKind.f64.format.order v 4638707616191610880 == some .gt || FloatKind.f64.format.order v 4638707616191610880 == some .eq) = false)
    (h2 : (FloatKind.f64.format.order v 13862009284302209024 == some .lt) = false)
    (hm : floatBits .mul .f64 v 4710765210229538816 = some t) (hd : FloatKind.f64.decode t = .number s m p) (ht : FloatKind.f64.encode ((Ieee.Datum.number s m p).integral .even) = t')
    (hi : floatToIntVal .f64 t' .i64 = some n) (hr : n + 1065353216 = (r : Int)) (hn : Near x r) (w : World) :
    Calls Tryz.prog 89 #[.int .u32 y] w (SomeU (Near x) w) := by
  have hr1 := hn.1
  have hop : ∀ q w, (binOp .mul q (.float .f64 v) (.float .f64 4710765210229538816)).run Tryz.prog w = .ok (.float .f64 t) w := fun q w => run_float_arith w .mul q .f64 _ _ t hm
  have hev : ∀ w, (callFunc 137 #[.float .f64 t]).run Tryz.prog w = .ok (.value (.float .f64 t')) w := fun w => by rw [p137 t w hd, ht]
  have hcv : ∀ w, (convert 213 3 (.float .f64 t')).run Tryz.prog w = .ok (.int .i64 n) w := fun w => run_convert_float_int w 213 3 .f64 .i64 t' n (by rw [Tryz.underlying213]; rfl) Tryz.underlying3 hi
  have e1 : IntKind.i64.wrap (n + 1065353216) = r := by rw [hr]; simp only [IntKind.wrap_i64, wrap64]; omega
  have e2 : IntKind.u32.wrap (r : Int) = r := by simp [IntKind.wrap, IntKind.bits, IntKind.signed]; omega
  clear hd ht hi hr hm hr1
  have HN : Nonempty (PLift (Near x r)) := ⟨⟨hn⟩⟩
  clear hn
  go_enter Tryz.func89, Tryz.ntmps89
  go_wp2_with fail
  refine (value_num y v hf _).mono ?_
  rintro e w1 ⟨rfl, rfl⟩
  clear hf
  go_wp2
  go_ret
  obtain ⟨⟨hn⟩⟩ := HN
  exact ⟨r, 0, rfl, rfl, hn⟩

theorem exp_any (x y : Nat) (h : LogOut x y) (w : World) : Calls Tryz.prog 89 #[.int .u32 y] w (SomeU (Near x) w) := by
  cases h with
  | low hb => exact exp_low x 4286578688 18442240474082181120 (by decide +kernel) (by decide +kernel) (by decide +kernel) (by decide +kernel) ⟨by decide, fun h => absurd h hb⟩ w
  | made hb => exact exp_nan x hb w
  | high hb => exact exp_high x 2139095040 9218868437227405312 (by decide +kernel) (by decide +kernel) (by decide +kernel) ⟨by decide, fun h => absurd h hb⟩ w
  | one hx =>
    have a1 : floatToFloatBits .f32 0 .f64 = some 0 := by decide +kernel
    have a2 : (FloatKind.f64.format.order 0 0 != some .eq) = false := by decide +kernel
    have a3 : (FloatKind.f64.format.order 0 4638707616191610880 == some .gt || FloatKind.f64.format.order 0 4638707616191610880 == some .eq) = false := by decide +kernel
    have a4 : (FloatKind.f64.format.order 0 13862009284302209024 == some .lt) = false := by decide +kernel
    have a5 : floatBits .mul .f64 0 4710765210229538816 = some 0 := by decide +kernel
    have a6 : FloatKind.f64.decode 0 = .number false 0 (-1074) := by decide +kernel
    have a7 : FloatKind.f64.encode ((Ieee.Datum.number false 0 (-1074)).integral .even) = 0 := by decide +kernel
    have a8 : floatToIntVal .f64 0 .i64 = some 0 := by decide +kernel
    have hn : Near x x := ⟨by rw [hx]; decide, fun _ => ⟨by rw [hx]; decide, by rw [hx]; decide, by rw [hx]; decide⟩⟩
    have hr : (0 : Int) + 1065353216 = (x : Int) := by rw [hx]; rfl
    exact exp_mid x 0 0 0 0 x 0 a1 a2 a3 a4 a5 a6 a7 a8 hr hn w
  | way s N e c D h h0 h1 =>
    obtain ⟨b1, b2, b3, b4, b5, b6, b7⟩ := back s e c N h.c1 h.c2 h.e1 h.e2 h.hN h.n0 h.n2
    have n1 := h.near1
    have n2 := h.near2
    obtain ⟨v, hv⟩ : ∃ v, Ieee.double.word s ((e + 896) * 4503599627370496 + c * 536870912) = v := ⟨_, rfl⟩
    rw [hv] at b1 b2 b3 b4
    have hself : (FloatKind.f64.format.order v v != some .eq) = false := by
      have hr : Ieee.double.read v = .number s (c * 536870912) (-1074 + (e + 896 : Nat)) := by
        rw [← hv]
        exact dread s _ _ (by have := h.c1; omega) (by have := h.c2; omega) (by have := h.e2; omega)
      show ((Ieee.double.read v).order (Ieee.double.read v) != some .eq) = false
      rw [hr]
      unfold Ieee.Datum.order
      simp [compare, compareOfLessAndEq]
    have c1 : FloatKind.f64.format.order v 4638707616191610880 = some (compare (sg s N) 1073741824) := b2
    have c2 : FloatKind.f64.format.order v 13862009284302209024 = some (compare (sg s N) (-1065353216)) := b3
    have hsg : sg s N ≤ 1073741824 := by
      have := h.n2
      unfold sg
      cases s <;> simp <;> omega
    by_cases k1 : sg s N < 1073741824
    · have d1 : (FloatKind.f64.format.order v 4638707616191610880 == some .gt || FloatKind.f64.format.order v 4638707616191610880 == some .eq) = false := by
        rw [c1]
        simp only [compare, compareOfLessAndEq]
        rw [if_pos k1]
        rfl
      by_cases k2 : sg s N < -1065353216
      · have d2 : (FloatKind.f64.format.order v 13862009284302209024 == some .lt) = true := by
          rw [c2]
          simp only [compare, compareOfLessAndEq]
          rw [if_pos k2]
          rfl
        exact exp_low x _ v b1 hself d1 d2 ⟨by decide, fun _ => by omega⟩ w
      · have d2 : (FloatKind.f64.format.order v 13862009284302209024 == some .lt) = false := by
          rw [c2]
          simp only [compare, compareOfLessAndEq]
          rw [if_neg k2]
          split <;> rfl
        obtain ⟨r, hr⟩ : ∃ r : Nat, sg s N + 1065353216 = (r : Int) := ⟨(sg s N + 1065353216).toNat, by omega⟩
        exact exp_mid x _ v _ _ r (sg s N) b1 hself d1 d2 b4 b5 b6 b7 hr ⟨by omega, fun _ => by omega⟩ w
    · have d1 : (FloatKind.f64.format.order v 4638707616191610880 == some .gt || FloatKind.f64.format.order v 4638707616191610880 == some .eq) = true := by
        rw [c1]
        have : sg s N = 1073741824 := by omega
        rw [this]
        rfl
      exact exp_high x _ v b1 hself d1 ⟨by decide, fun _ => by omega⟩ w
end Go.Proofs.YtimghiiihjphiaaGreat.flo
