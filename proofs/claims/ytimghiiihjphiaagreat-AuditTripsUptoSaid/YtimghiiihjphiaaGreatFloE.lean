/- A part of the proof: Log: what it answers. Condition: the sample is of 32 bits. -/
import Derived.Test.YtimghiiihjphiaaGreatFloC
import Derived.Test.YtimghiiihjphiaaGreatFloD
namespace Go.Proofs.YtimghiiihjphiaaGreat.flo
open Go.RowKit
set_option linter.unusedVariables false
set_option linter.unusedSimpArgs false

theorem cut_nan (x t : Nat) : (FloatKind.f64.decode ((Question.nanConv .f64 x).cut t)).isNaN = true := by
  show (Ieee.double.read ((t % 2) * 2 ^ 63 + 0x7ff0000000000000 + 1 + (t / 2) % (2 ^ 52 - 1))).isNaN = true
  have h1 : t % 2 < 2 := Nat.mod_lt _ (by decide)
  have h2 : (t / 2) % 4503599627370495 < 4503599627370495 := Nat.mod_lt _ (by decide)
  have hw : Ieee.double.signWeight = 9223372036854775808 := rfl
  have hi : Ieee.double.binade = 4503599627370496 := rfl
  have hr : Ieee.double.infRung = 9218868437227405312 := rfl
  unfold Ieee.Format.read
  simp only [hw, hi, hr]
  generalize t % 2 = a at *
  have hk : (t / 2) % (2 ^ 52 - 1) = (t / 2) % 4503599627370495 := rfl
  rw [hk]
  generalize (t / 2) % 4503599627370495 = b at *
  have : a = 0 ∨ a = 1 := by omega
  rw [if_neg (by rcases this with rfl | rfl <;> omega), if_neg (by rcases this with rfl | rfl <;> omega), if_neg (by rcases this with rfl | rfl <;> omega)]
  rfl

theorem conv_nan (x : Nat) {s : Bool} {f : Nat} (h : Ieee.single.read x = .nan s f) (w : World) :
    ∃ n, (convert 275 213 (.float .f32 x)).run Tryz.prog w = .ok (.float .f64 n) (w.drewN 1) ∧ (FloatKind.f64.decode n).isNaN = true := by
  have hd : FloatKind.f32.decode x = .nan s f := h
  refine ⟨_, ?_, cut_nan x (w.tape w.drawn (.nanConv .f64 x))⟩
  generalize hq : Question.nanConv .f64 x = q
  have hf : q.forced = false := by subst hq; rfl
  simp [convert, run_underlying Tryz.underlying275, run_underlying Tryz.underlying213, Conv.floatToFloat, hd, hq, hf]
  rfl

theorem value_nan (x : Nat) {s : Bool} {f : Nat} (h : Ieee.single.read x = .nan s f) (w : World) :
    Calls Tryz.prog 134 #[.int .u32 x] w fun e w' => (∃ v, e = .returned (.float .f64 v) ∧ (FloatKind.f64.decode v).isNaN = true) ∧ w' = w.drewN 1 := by
  have hp := p205 x
  obtain ⟨n, hc, h2⟩ := conv_nan x h w
  go_enter Tryz.func134, Tryz.ntmps134
  go_wp2
  go_ret
  exact ⟨⟨n, rfl, h2⟩, rfl⟩

/-- the post of both -/
def SomeU (Q : Nat → Prop) (w : World) (e : Ending) (w' : World) : Prop := ∃ y n : Nat, e = .returned (.int .u32 y) ∧ w' = w.drewN n ∧ Q y

theorem order_nan (v : Nat) (c : Nat) (h : (FloatKind.f64.decode v).isNaN = true) : FloatKind.f64.format.order v c = none := by
  show (Ieee.double.read v).order (Ieee.double.read c) = none
  have h' : (Ieee.double.read v).isNaN = true := h
  cases hd : Ieee.double.read v with
  | nan s f => cases Ieee.double.read c <;> rfl
  | number => rw [hd] at h'; simp [Ieee.Datum.isNaN] at h'
  | infinity => rw [hd] at h'; simp [Ieee.Datum.isNaN] at h'

theorem log_nan (x : Nat) {s : Bool} {f : Nat} (h : Ieee.single.read x = .nan s f) (hb : ¬ (0 < x ∧ x < 2139095040)) (w : World) :
    Calls Tryz.prog 90 #[.int .u32 x] w (SomeU (LogOut x) w) := by
  go_enter Tryz.func90, Tryz.ntmps90
  go_wp2_with fail
  refine (value_nan x h _).mono ?_
  rintro e w1 ⟨⟨v, rfl, hv⟩, rfl⟩
  have o0 : (FloatKind.f64.format.order v 0 == some .eq) = false := by rw [order_nan v 0 hv]; rfl
  have o1 : (FloatKind.f64.format.order v 0 == some .gt) = false := by rw [order_nan v 0 hv]; rfl
  clear hv
  go_wp2
  go_ret
  exact ⟨2143289344, 1, rfl, rfl, .made hb⟩

theorem log_low (x v : Nat) (hb : ¬ (0 < x ∧ x < 2139095040)) (hf : floatToFloatBits .f32 x .f64 = some v) (ho : Ieee.double.order v 0 = some .eq) (w : World) :
    Calls Tryz.prog 90 #[.int .u32 x] w (SomeU (LogOut x) w) := by
  have o0 : (FloatKind.f64.format.order v 0 == some .eq) = true := by rw [show FloatKind.f64.format.order v 0 = some .eq from ho]; rfl
  clear ho
  go_enter Tryz.func90, Tryz.ntmps90
  go_wp2_with fail
  refine (value_num x v hf _).mono ?_
  rintro e w1 ⟨rfl, rfl⟩
  go_wp2
  go_ret
  exact ⟨4286578688, 0, rfl, rfl, .low hb⟩

theorem log_neg (x v : Nat) (hb : ¬ (0 < x ∧ x < 2139095040)) (hf : floatToFloatBits .f32 x .f64 = some v) (ho : Ieee.double.order v 0 = some .lt) (w : World) :
    Calls Tryz.prog 90 #[.int .u32 x] w (SomeU (LogOut x) w) := by
  have o0 : (FloatKind.f64.format.order v 0 == some .eq) = false := by rw [show FloatKind.f64.format.order v 0 = some .lt from ho]; rfl
  have o1 : (FloatKind.f64.format.order v 0 == some .gt) = false := by rw [show FloatKind.f64.format.order v 0 = some .lt from ho]; rfl
  clear ho
  go_enter Tryz.func90, Tryz.ntmps90
  go_wp2_with fail
  refine (value_num x v hf _).mono ?_
  rintro e w1 ⟨rfl, rfl⟩
  go_wp2
  go_ret
  exact ⟨2143289344, 0, rfl, rfl, .made hb⟩

theorem log_high (v : Nat) (hf : floatToFloatBits .f32 2139095040 .f64 = some v) (ho : Ieee.double.order v 0 = some .gt) (w : World) :
    Calls Tryz.prog 90 #[.int .u32 2139095040] w (SomeU (LogOut 2139095040) w) := by
  have o0 : (FloatKind.f64.format.order v 0 == some .eq) = false := by rw [show FloatKind.f64.format.order v 0 = some .gt from ho]; rfl
  have o1 : (FloatKind.f64.format.order v 0 == some .gt) = true := by rw [show FloatKind.f64.format.order v 0 = some .gt from ho]; rfl
  clear ho
  go_enter Tryz.func90, Tryz.ntmps90
  go_wp2_with fail
  refine (value_num _ v hf _).mono ?_
  rintro e w1 ⟨rfl, rfl⟩
  go_wp2
  go_ret
  exact ⟨2139095040, 0, rfl, rfl, .high (by omega)⟩

theorem log_to (x v D y : Nat) (h1 : x < 2139095040) (hf : floatToFloatBits .f32 x .f64 = some v) (ho : Ieee.double.order v 0 = some .gt)
    (hq : floatBits .quo .f64 (floatOfInt .f64 ((x : Int) - 1065353216)) 4710765210229538816 = some D) (hn : floatToFloatBits .f64 D .f32 = some y) (hy : (FloatKind.f32.format.order y y != some .eq) = false) (w : World) :
    Calls Tryz.prog 90 #[.int .u32 x] w fun e w' => e = .returned (.int .u32 y) ∧ w = w' := by
  have o0 : (FloatKind.f64.format.order v 0 == some .eq) = false := by rw [show FloatKind.f64.format.order v 0 = some .gt from ho]; rfl
  have o1 : (FloatKind.f64.format.order v 0 == some .gt) = true := by rw [show FloatKind.f64.format.order v 0 = some .gt from ho]; rfl
  have o2 : ((x : Int) == 2139095040) = false := by simp; omega
  have hop : ∀ t w, (binOp .quo t (.float .f64 (floatOfInt .f64 ((x : Int) - 1065353216))) (.float .f64 4710765210229538816)).run Tryz.prog w = .ok (.float .f64 D) w := fun t w => run_float_arith w .quo t .f64 _ _ D hq
  have hcv : ∀ w, (convert 3 213 (.int .i64 ((x : Int) - 1065353216))).run Tryz.prog w = .ok (.float .f64 (floatOfInt .f64 ((x : Int) - 1065353216))) w := fun w => run_convert_int_float w 3 213 .i64 .f64 _ (by rw [Tryz.underlying3]; rfl) Tryz.underlying213
  have hr : IntKind.i64.wrap ((x : Int) - 1065353216) = (x : Int) - 1065353216 := by simp only [IntKind.wrap_i64, wrap64]; omega
  clear ho hq
  go_enter Tryz.func90, Tryz.ntmps90
  go_wp2_with fail
  refine (value_num _ v hf _).mono ?_
  rintro e w1 ⟨rfl, rfl⟩
  go_wp2_with fail
  refine (told_num D y hn hy _).mono ?_
  rintro e w1 ⟨rfl, rfl⟩
  go_wp2
  go_ret
  exact ⟨rfl, rfl⟩

theorem log_any (x : Nat) (hx : x < 4294967296) (w : World) : Calls Tryz.prog 90 #[.int .u32 x] w (SomeU (LogOut x) w) := by
  have q : ∀ y, (fun (e : Ending) (w' : World) => e = Ending.returned (.int .u32 (y : Nat)) ∧ w = w') = fun e w' => e = .returned (.int .u32 (y : Nat)) ∧ w = w' := fun _ => rfl
  rcases kind x hx with h | ⟨s, m, p, h, h0, h1, h2, h3, hs⟩ | h | ⟨s, f, h, hne⟩
  · rcases h with rfl | rfl
    · exact log_low 0 0 (by omega) (by decide +kernel) (by decide +kernel) w
    · exact log_low 2147483648 9223372036854775808 (by omega) (by decide +kernel) (by decide +kernel) w
  · obtain ⟨v, hv, ho⟩ := wide_num h h0 h1 h2 h3
    cases s with
    | true => exact log_neg x v (by have := hs.1 rfl; omega) hv ho w
    | false =>
      have hlt : x < 2139095040 := by
        have hx2 : ¬ 2147483648 ≤ x := fun hh => by simpa using hs.2 hh
        by_cases c : x < 2139095040
        · exact c
        · exfalso
          have hw : Ieee.single.signWeight = 2147483648 := rfl
          have hi : Ieee.single.binade = 8388608 := rfl
          have hr : Ieee.single.infRung = 2139095040 := rfl
          unfold Ieee.Format.read at h
          simp only [hw, hi, hr] at h
          rw [if_neg (by omega), if_neg (by omega)] at h
          split at h <;> simp at h
      have hpos : 0 < x := by
        rcases Nat.eq_zero_or_pos x with rfl | hp
        · exfalso
          have h' : Ieee.single.read 0 = .number false 0 (-149) := by decide +kernel
          rw [h'] at h
          injection h with _ h
          exact h0 h.symm
        · exact hp
      by_cases hmid : x = 1065353216
      · subst hmid
        refine (log_to 1065353216 v 0 0 (by omega) hv ho (by decide +kernel) (by decide +kernel) (by decide +kernel) w).mono ?_
        rintro e w' ⟨rfl, rfl⟩
        exact ⟨0, 0, rfl, rfl, .one rfl⟩
      · obtain ⟨s, N, e, c, D, hw⟩ := way ((x : Int) - 1065353216) (by omega) (by omega)
        refine (log_to x v D _ hlt hv ho hw.div hw.narrow (self_eq s e c hw.c1 hw.c2 (by have := hw.e2; omega)) w).mono ?_
        rintro e' w' ⟨rfl, rfl⟩
        exact ⟨_, 0, rfl, rfl, .way s N e c D hw hpos hlt⟩
  · rcases h with rfl | rfl
    · exact log_high 9218868437227405312 (by decide +kernel) (by decide +kernel) w
    · exact log_neg 4286578688 18442240474082181120 (by omega) (by decide +kernel) (by decide +kernel) w
  · exact log_nan x h hne w
end Go.Proofs.YtimghiiihjphiaaGreat.flo
