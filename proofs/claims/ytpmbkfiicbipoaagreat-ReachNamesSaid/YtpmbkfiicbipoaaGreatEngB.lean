/- A part of the proof. The abstract machine: operations on values, and that they are the model's. No condition. -/
import Derived.Test.YtpmbkfiicbipoaaGreatEngA
import Derived.Laws.StructEq
import Derived.Laws.CopyRow
/-! The abstract machine: operations on values, and that they are the model's. -/
namespace Go.Ab

structure Same (w w' : World) : Prop where
  heap : w'.heap = w.heap
  os : w'.os = w.os
  tape : w'.tape = w.tape
  output : w'.output = w.output

theorem Same.refl (w : World) : Same w w := ⟨rfl, rfl, rfl, rfl⟩
theorem Same.trans {a b c : World} (h : Same a b) (k : Same b c) : Same a c :=
  ⟨k.heap.trans h.heap, k.os.trans h.os, k.tape.trans h.tape, k.output.trans h.output⟩

theorem HRel.same {φ : Phi} {h : Heap} {w w' : World} (hr : HRel φ h w) (s : Same w w') : HRel φ h w' where
  dom := fun i im hi => by rw [s.heap]; exact hr.dom i im hi
  none := hr.none
  cells := fun i im c g hp hi => by rw [s.heap]; exact hr.cells i im c g hp hi
  map := fun i im es hp hi => by rw [s.heap]; exact hr.map i im es hp hi
  inj := hr.inj

theorem Same.ext (φ : Phi) (h : Heap) {w w' : World} (s : Same w w') : Ext φ h w φ h w' where
  mono := fun _ _ h => h
  frame := fun b _ _ => by rw [s.heap]
  new := fun i im hl hi => .inr ⟨i, im, hl, hi, rfl⟩
  size := by rw [s.heap]; exact Nat.le_refl _
  next := Nat.le_refl _
  os := s.os
  tape := s.tape
  output := s.output
  old := fun _ _ => rfl
  full := fun h => h
  frz := fun a => by unfold World.frozen?; rw [s.heap]

/-! ## Integers -/
def inI64 (n : Int) : Bool := match n with
  | .ofNat m => Nat.blt m 9223372036854775808
  | .negSucc m => Nat.blt m 9223372036854775808

def modI (c : Nat) (n : Int) : Int := match n with
  | .ofNat m => Int.ofNat (Nat.mod m c)
  | .negSucc m => Int.ofNat (Nat.sub (Nat.sub c 1) (Nat.mod m c))

def wrapI (k : IntKind) (n : Int) : Int :=
  match k with
  | .i64 => bif inI64 n then n else IntKind.wrap .i64 n
  | .u32 => modI 4294967296 n
  | .u64 => modI 18446744073709551616 n
  | .u8 => modI 256 n
  | k => k.wrap n

theorem natmod (m n : Nat) : Nat.mod m n = m % n := rfl
theorem natsub (m n : Nat) : Nat.sub m n = m - n := rfl
theorem natdiv (m n : Nat) : Nat.div m n = m / n := rfl

theorem nbeq (m n : Nat) : Nat.beq m n = (m == n) := by
  cases h : Nat.beq m n
  · symm; simpa using Nat.ne_of_beq_eq_false h
  · symm; simpa using Nat.eq_of_beq_eq_true h
theorem nblt (m n : Nat) : Nat.blt m n = decide (m < n) := by
  rw [Bool.eq_iff_iff]
  unfold Nat.blt
  rw [Nat.ble_eq]
  simp
  omega

theorem modI_eq (c : Nat) (hc : 0 < c) (n : Int) : modI c n = n % (c : Int) := by
  cases n with
  | ofNat m => rfl
  | negSucc m =>
    show ((c - 1 - m % c : Nat) : Int) = Int.negSucc m % (c : Int)
    have h1 : m % c < c := Nat.mod_lt _ hc
    have h2 : Int.negSucc m % (c : Int) = ((c - 1 - m % c : Nat) : Int) := by
      rw [Int.negSucc_emod _ (by omega)]
      omega
    exact h2.symm

theorem inI64_iff (n : Int) : inI64 n = true ↔ -9223372036854775808 ≤ n ∧ n < 9223372036854775808 := by
  cases n with
  | ofNat m => show Nat.blt m 9223372036854775808 = true ↔ _; rw [nblt, decide_eq_true_eq, Int.ofNat_eq_natCast]; omega
  | negSucc m => show Nat.blt m 9223372036854775808 = true ↔ _; rw [nblt, decide_eq_true_eq]; omega

theorem wrap_u8 (n : Int) : IntKind.wrap .u8 n = n % 256 := by simp [IntKind.wrap, IntKind.signed, IntKind.bits]
theorem wrap_u32 (n : Int) : IntKind.wrap .u32 n = n % 4294967296 := by simp [IntKind.wrap, IntKind.signed, IntKind.bits]
theorem wrap_u64 (n : Int) : IntKind.wrap .u64 n = n % 18446744073709551616 := by simp [IntKind.wrap, IntKind.signed, IntKind.bits]
theorem wrap_i64 (n : Int) : IntKind.wrap .i64 n = if n % 18446744073709551616 ≥ 9223372036854775808 then n % 18446744073709551616 - 18446744073709551616 else n % 18446744073709551616 := by
  simp [IntKind.wrap, IntKind.signed, IntKind.bits]

theorem wrap_i64_small (n : Int) (h1 : -9223372036854775808 ≤ n) (h2 : n < 9223372036854775808) : IntKind.wrap .i64 n = n := by
  rw [wrap_i64]; split <;> omega

theorem wrapI_eq (k : IntKind) (n : Int) : wrapI k n = k.wrap n := by
  cases k
  case i8 | i16 | i32 | u16 => rfl
  case i64 =>
    show (bif inI64 n then n else IntKind.wrap .i64 n) = _
    cases hb : inI64 n
    · rfl
    · obtain ⟨h1, h2⟩ := (inI64_iff n).1 hb
      rw [wrap_i64_small n h1 h2]; rfl
  case u8 => rw [wrap_u8]; exact modI_eq 256 (by decide) n
  case u32 => rw [wrap_u32]; exact modI_eq 4294967296 (by decide) n
  case u64 => rw [wrap_u64]; exact modI_eq 18446744073709551616 (by decide) n

def ieq (a b : Int) : Bool := match a, b with
  | .ofNat m, .ofNat n => Nat.beq m n
  | .negSucc m, .negSucc n => Nat.beq m n
  | _, _ => false
def ilt (a b : Int) : Bool := match a, b with
  | .ofNat m, .ofNat n => Nat.blt m n
  | .negSucc m, .negSucc n => Nat.blt n m
  | .negSucc _, .ofNat _ => true
  | .ofNat _, .negSucc _ => false

theorem ieq_eq (a b : Int) : ieq a b = (a == b) := by
  rw [Bool.eq_iff_iff]
  cases a <;> cases b <;> simp [ieq, nbeq] <;> omega

theorem ilt_eq (a b : Int) : ilt a b = decide (a < b) := by
  rw [Bool.eq_iff_iff]
  cases a <;> cases b <;> simp [ilt, nblt] <;> omega

def bitsOf : IntKind → Nat
  | .i8 | .u8 => 8 | .i16 | .u16 => 16 | .i32 | .u32 => 32 | .i64 | .u64 => 64

theorem bitsOf_eq (k : IntKind) : bitsOf k = k.bits := by cases k <;> rfl

/-- the residue of an int of a kind, as a natural number below 2 ^ bits -/
def resid (k : IntKind) (n : Int) : Nat := match n with
  | .ofNat m => Nat.mod m (2 ^ bitsOf k)
  | .negSucc m => Nat.sub (2 ^ bitsOf k - 1) (Nat.mod m (2 ^ bitsOf k))

theorem resid_eq (k : IntKind) (n : Int) : resid k n = (BitVec.ofInt k.bits n).toNat := by
  rw [BitVec.toNat_ofInt, ← bitsOf_eq]
  cases n <;> cases k <;> simp only [resid, bitsOf, natmod, natsub, Nat.reducePow, Nat.reduceSub, Int.ofNat_eq_natCast] <;> omega

def tquo (a b : Int) : Int := match a, b with
  | .ofNat m, .ofNat n => .ofNat (Nat.div m n)
  | a, b => a.tdiv b
def trem (a b : Int) : Int := match a, b with
  | .ofNat m, .ofNat n => .ofNat (Nat.mod m n)
  | a, b => a.tmod b

theorem tquo_eq (a b : Int) : tquo a b = a.tdiv b := by cases a <;> cases b <;> rfl
theorem trem_eq (a b : Int) : trem a b = a.tmod b := by cases a <;> cases b <;> rfl

def izero (b : Int) : Bool := match b with | .ofNat 0 => true | _ => false
theorem izero_false {b : Int} (h : izero b = false) : b ≠ 0 := by
  intro e; subst e; simp [izero] at h

def binInt (op : BinOp) (k : IntKind) (a b : Int) : Option Value :=
  match op with
  | .add => some (.int k (wrapI k (a + b)))
  | .sub => some (.int k (wrapI k (a - b)))
  | .mul => some (.int k (wrapI k (a * b)))
  | .quo => bif izero b then none else some (.int k (wrapI k (tquo a b)))
  | .rem => bif izero b then none else some (.int k (trem a b))
  | .and => some (.int k (wrapI k (.ofNat (Nat.land (resid k a) (resid k b)))))
  | .or => some (.int k (wrapI k (.ofNat (Nat.lor (resid k a) (resid k b)))))
  | .xor => some (.int k (wrapI k (.ofNat (Nat.xor (resid k a) (resid k b)))))
  | .eql => some (.bool (ieq a b))
  | .neq => some (.bool (!ieq a b))
  | .lss => some (.bool (ilt a b))
  | .leq => some (.bool (!ilt b a))
  | .gtr => some (.bool (ilt b a))
  | .geq => some (.bool (!ilt a b))
  | _ => none

def shiftInt (op : BinOp) (k : IntKind) (a b : Int) : Option Value :=
  match b with
  | .negSucc _ => none
  | .ofNat s => match op with
    | .shl => some (.int k (wrapI k (a * Int.ofNat (2 ^ Nat.min s (bitsOf k)))))
    | .shr => match a with
      | .ofNat m => some (.int k (.ofNat (Nat.shiftRight m (Nat.min s (bitsOf k)))))
      | a => some (.int k (a.fdiv (Int.ofNat (2 ^ Nat.min s (bitsOf k)))))
    | _ => none

theorem binInt_sound {P : Program} {op : BinOp} {k : IntKind} {a b : Int} {v : Value} (h : binInt op k a b = some v) (t : TypeId) (w : World) :
    (binOp op t (.int k a) (.int k b)).run P w = .ok v w := by
  cases op <;> simp only [binInt, Option.some.injEq, reduceCtorEq] at h
  case quo =>
    cases hz : izero b
    · rw [hz] at h; simp only [cond_false, Option.some.injEq] at h; subst h
      simp [binOp, Op.intDiv, izero_false hz, wrapI_eq, tquo_eq]
    · rw [hz] at h; simp at h
  case rem =>
    cases hz : izero b
    · rw [hz] at h; simp only [cond_false, Option.some.injEq] at h; subst h
      simp [binOp, Op.intDiv, izero_false hz, trem_eq]
    · rw [hz] at h; simp at h
  all_goals subst h
  case add | sub | mul => simp [binOp, Op.intArith, wrapI_eq]
  case and => simp only [binOp, ne_eq, not_true_eq_false, if_false, Op.intBits, Sem.run_pure, wrapI_eq, resid_eq]; rw [BitVec.toNat_and]; rfl
  case or => simp only [binOp, ne_eq, not_true_eq_false, if_false, Op.intBits, Sem.run_pure, wrapI_eq, resid_eq]; rw [BitVec.toNat_or]; rfl
  case xor => simp only [binOp, ne_eq, not_true_eq_false, if_false, Op.intBits, Sem.run_pure, wrapI_eq, resid_eq]; rw [BitVec.toNat_xor]; rfl
  all_goals
    simp only [binOp, ne_eq, not_true_eq_false, if_false, Op.intCmp, Sem.run_pure, ieq_eq, ilt_eq]
    try first | rfl | (congr 2; rw [Bool.eq_iff_iff]; simp) | (congr 2; simp [bne])

theorem shiftInt_sound {P : Program} {op : BinOp} {k yk : IntKind} {a b : Int} {v : Value} (h : shiftInt op k a b = some v) (t : TypeId) (w : World) :
    (binOp op t (.int k a) (.int yk b)).run P w = .ok v w := by
  cases b with
  | negSucc m => simp [shiftInt] at h
  | ofNat s =>
    have hb : ¬ (Int.ofNat s < 0) := by simp
    cases op <;> simp only [shiftInt, Option.some.injEq, reduceCtorEq] at h
    case shl =>
      subst h
      simp only [binOp, Op.shift, if_neg hb, Sem.run_pure, bitsOf_eq, wrapI_eq]
      have e : a * Int.ofNat (2 ^ Nat.min s k.bits) = a * 2 ^ min (Int.ofNat s).toNat k.bits := by
        show a * ((2 ^ Nat.min s k.bits : Nat) : Int) = a * 2 ^ min s k.bits
        rw [Int.natCast_pow]; rfl
      rw [e]
    case shr =>
      cases a with
      | ofNat m =>
        simp only [Option.some.injEq] at h; subst h
        simp only [binOp, Op.shift, if_neg hb, Sem.run_pure, bitsOf_eq]
        congr 2
        have e : (Int.ofNat s).toNat = s := rfl
        rw [e]
        show Int.fdiv (m : Int) (2 ^ (min s k.bits)) = ((Nat.shiftRight m (Nat.min s k.bits) : Nat) : Int)
        show Int.fdiv (m : Int) (2 ^ (min s k.bits)) = ((m >>> (min s k.bits) : Nat) : Int)
        rw [Nat.shiftRight_eq_div_pow, Int.fdiv_eq_ediv_of_nonneg _ (Int.pow_nonneg (by decide))]
        simp
      | negSucc m =>
        simp only [Option.some.injEq] at h; subst h
        simp only [binOp, Op.shift, if_neg hb, Sem.run_pure, bitsOf_eq]
        congr 2


/-! ## Floats -/
def nanOf (k : FloatKind) : Nat := match k with | .f32 => 0x7FC00000 | .f64 => 0x7FF8000000000000

theorem nanOf_nan (k : FloatKind) : isNaN k (nanOf k) := by cases k <;> (unfold isNaN; decide)

def FRel (k : FloatKind) (b c : Nat) : Prop := b = c ∨ (isNaN k b ∧ isNaN k c)

theorem VRel.float_inv {φ : Phi} {k : FloatKind} {b : Nat} {v : Value} (h : VRel φ (.float k b) v) : ∃ c, v = .float k c ∧ FRel k b c := by
  cases h with
  | float => exact ⟨b, rfl, .inl rfl⟩
  | nan _ _ c h1 h2 => exact ⟨c, rfl, .inr ⟨h1, h2⟩⟩

theorem FRel.vrel {φ : Phi} {k : FloatKind} {b c : Nat} (h : FRel k b c) : VRel φ (.float k b) (.float k c) := by
  rcases h with rfl | ⟨h1, h2⟩
  · exact .float k b
  · exact .nan k b c h1 h2

theorem read_nan {k : FloatKind} {b : Nat} (h : isNaN k b) : ∃ s f, k.format.read b = .nan s f := by
  unfold isNaN FloatKind.decode at h
  cases hd : k.format.read b with
  | nan s f => exact ⟨s, f, rfl⟩
  | number => rw [hd] at h; simp [Ieee.Datum.isNaN] at h
  | infinity => rw [hd] at h; simp [Ieee.Datum.isNaN] at h

section
variable {k : FloatKind} {x x' y y' : Nat}
theorem sum_nan_l (s : Bool) (f : Nat) (d : Ieee.Datum) : (Ieee.Datum.nan s f).sum d = none := by cases d <;> rfl
theorem sum_nan_r (s : Bool) (f : Nat) (d : Ieee.Datum) : d.sum (Ieee.Datum.nan s f) = none := by cases d <;> rfl
theorem product_nan_l (s : Bool) (f : Nat) (d : Ieee.Datum) : (Ieee.Datum.nan s f).product d = none := by cases d <;> rfl
theorem product_nan_r (s : Bool) (f : Nat) (d : Ieee.Datum) : d.product (Ieee.Datum.nan s f) = none := by cases d <;> rfl
theorem quotient_nan_l (n : Nat) (s : Bool) (f : Nat) (d : Ieee.Datum) : (Ieee.Datum.nan s f).quotient n d = none := by cases d <;> rfl
theorem quotient_nan_r (n : Nat) (s : Bool) (f : Nat) (d : Ieee.Datum) : d.quotient n (Ieee.Datum.nan s f) = none := by cases d <;> rfl
theorem order_nan_l (s : Bool) (f : Nat) (d : Ieee.Datum) : (Ieee.Datum.nan s f).order d = none := by cases d <;> rfl
theorem order_nan_r (s : Bool) (f : Nat) (d : Ieee.Datum) : d.order (Ieee.Datum.nan s f) = none := by cases d <;> rfl

theorem FRel.add (hx : FRel k x x') (hy : FRel k y y') : k.format.add x y = k.format.add x' y' := by
  unfold Ieee.Format.add
  rcases hx with rfl | ⟨h1, h2⟩
  · rcases hy with rfl | ⟨h1, h2⟩
    · rfl
    · obtain ⟨s, f, e⟩ := read_nan h1; obtain ⟨s', f', e'⟩ := read_nan h2
      rw [e, e', sum_nan_r, sum_nan_r]
  · obtain ⟨s, f, e⟩ := read_nan h1; obtain ⟨s', f', e'⟩ := read_nan h2
    rw [e, e', sum_nan_l, sum_nan_l]
theorem FRel.sub (hx : FRel k x x') (hy : FRel k y y') : k.format.sub x y = k.format.sub x' y' := by
  unfold Ieee.Format.sub
  rcases hx with rfl | ⟨h1, h2⟩
  · rcases hy with rfl | ⟨h1, h2⟩
    · rfl
    · obtain ⟨s, f, e⟩ := read_nan h1; obtain ⟨s', f', e'⟩ := read_nan h2
      rw [e, e']; simp only [Ieee.Datum.opposite]; rw [sum_nan_r, sum_nan_r]
  · obtain ⟨s, f, e⟩ := read_nan h1; obtain ⟨s', f', e'⟩ := read_nan h2
    rw [e, e', sum_nan_l, sum_nan_l]
theorem FRel.mul (hx : FRel k x x') (hy : FRel k y y') : k.format.mul x y = k.format.mul x' y' := by
  unfold Ieee.Format.mul
  rcases hx with rfl | ⟨h1, h2⟩
  · rcases hy with rfl | ⟨h1, h2⟩
    · rfl
    · obtain ⟨s, f, e⟩ := read_nan h1; obtain ⟨s', f', e'⟩ := read_nan h2
      rw [e, e', product_nan_r, product_nan_r]
  · obtain ⟨s, f, e⟩ := read_nan h1; obtain ⟨s', f', e'⟩ := read_nan h2
    rw [e, e', product_nan_l, product_nan_l]
theorem FRel.div (hx : FRel k x x') (hy : FRel k y y') : k.format.div x y = k.format.div x' y' := by
  unfold Ieee.Format.div
  rcases hx with rfl | ⟨h1, h2⟩
  · rcases hy with rfl | ⟨h1, h2⟩
    · rfl
    · obtain ⟨s, f, e⟩ := read_nan h1; obtain ⟨s', f', e'⟩ := read_nan h2
      rw [e, e', quotient_nan_r, quotient_nan_r]
  · obtain ⟨s, f, e⟩ := read_nan h1; obtain ⟨s', f', e'⟩ := read_nan h2
    rw [e, e', quotient_nan_l, quotient_nan_l]
theorem FRel.order (hx : FRel k x x') (hy : FRel k y y') : k.format.order x y = k.format.order x' y' := by
  unfold Ieee.Format.order
  rcases hx with rfl | ⟨h1, h2⟩
  · rcases hy with rfl | ⟨h1, h2⟩
    · rfl
    · obtain ⟨s, f, e⟩ := read_nan h1; obtain ⟨s', f', e'⟩ := read_nan h2
      rw [e, e', order_nan_r, order_nan_r]
  · obtain ⟨s, f, e⟩ := read_nan h1; obtain ⟨s', f', e'⟩ := read_nan h2
    rw [e, e', order_nan_l, order_nan_l]
end

theorem read_is_nan (f : Ieee.Format) (w : Nat) (hb : f.binade ≤ f.infRung) (h : f.infRung < w % f.signWeight) : (f.read w).isNaN = true := by
  unfold Ieee.Format.read
  simp only []
  rw [if_neg (by omega), if_neg (by omega), if_neg (by omega)]
  rfl

theorem cut_nan32 (t : Nat) : isNaN .f32 ((t % 2) * 2 ^ 31 + 0x7f800000 + 1 + (t / 2) % (2 ^ 23 - 1)) := by
  refine read_is_nan Ieee.single _ (by decide) ?_
  show 2139095040 < ((t % 2) * 2147483648 + 0x7f800000 + 1 + (t / 2) % 8388607) % 2147483648
  have h1 : t % 2 < 2 := Nat.mod_lt _ (by decide)
  have h2 : (t / 2) % 8388607 < 8388607 := Nat.mod_lt _ (by decide)
  generalize t % 2 = a at *
  generalize (t / 2) % 8388607 = b at *
  have : a = 0 ∨ a = 1 := by omega
  rcases this with rfl | rfl <;> omega
theorem cut_nan64 (t : Nat) : isNaN .f64 ((t % 2) * 2 ^ 63 + 0x7ff0000000000000 + 1 + (t / 2) % (2 ^ 52 - 1)) := by
  refine read_is_nan Ieee.double _ (by decide) ?_
  show 9218868437227405312 < ((t % 2) * 9223372036854775808 + 0x7ff0000000000000 + 1 + (t / 2) % 4503599627370495) % 9223372036854775808
  have h1 : t % 2 < 2 := Nat.mod_lt _ (by decide)
  have h2 : (t / 2) % 4503599627370495 < 4503599627370495 := Nat.mod_lt _ (by decide)
  generalize t % 2 = a at *
  generalize (t / 2) % 4503599627370495 = b at *
  have : a = 0 ∨ a = 1 := by omega
  rcases this with rfl | rfl <;> omega

theorem choose_nanBits (P : Program) (w : World) (k : FloatKind) (x y : Nat) : ∃ n w', (choose (.nanBits k x y)).run P w = .ok n w' ∧ isNaN k n ∧ Same w w' := by
  refine ⟨(Question.nanBits k x y).cut (w.tape w.drawn (.nanBits k x y)), { w with drawn := w.drawn + 1 }, by rw [run_choose, if_neg (by simp [Question.forced])], ?_, ⟨rfl, rfl, rfl, rfl⟩⟩
  cases k
  · exact cut_nan32 _
  · exact cut_nan64 _
theorem choose_nanConv (P : Program) (w : World) (k : FloatKind) (x : Nat) : ∃ n w', (choose (.nanConv k x)).run P w = .ok n w' ∧ isNaN k n ∧ Same w w' := by
  refine ⟨(Question.nanConv k x).cut (w.tape w.drawn (.nanConv k x)), { w with drawn := w.drawn + 1 }, by rw [run_choose, if_neg (by simp [Question.forced])], ?_, ⟨rfl, rfl, rfl, rfl⟩⟩
  cases k
  · exact cut_nan32 _
  · exact cut_nan64 _

def orNan (k : FloatKind) (r : Option Nat) : Value := match r with | some r => .float k r | none => .float k (nanOf k)

def binFloat (op : BinOp) (k : FloatKind) (x y : Nat) : Option Value :=
  match op with
  | .add => some (orNan k (k.format.add x y))
  | .sub => some (orNan k (k.format.sub x y))
  | .mul => some (orNan k (k.format.mul x y))
  | .quo => some (orNan k (k.format.div x y))
  | .eql => some (.bool (k.format.order x y == some .eq))
  | .neq => some (.bool (k.format.order x y != some .eq))
  | .lss => some (.bool (k.format.order x y == some .lt))
  | .leq => some (.bool (k.format.order x y == some .lt || k.format.order x y == some .eq))
  | .gtr => some (.bool (k.format.order x y == some .gt))
  | .geq => some (.bool (k.format.order x y == some .gt || k.format.order x y == some .eq))
  | _ => none

theorem binFloat_sound {P : Program} {φ : Phi} {op : BinOp} {k : FloatKind} {x y x' y' : Nat} {v : Value} (h : binFloat op k x y = some v) (hx : FRel k x x') (hy : FRel k y y') (t : TypeId) (w : World) :
    ∃ v' w', (binOp op t (.float k x') (.float k y')).run P w = .ok v' w' ∧ VRel φ v v' ∧ Same w w' := by
  have arith : ∀ (r : Option Nat), ∃ v' w', ((match r with | some r => pure (.float k r) | none => do pure (.float k (← choose (.nanBits k x' y'))) : Sem Value)).run P w = .ok v' w' ∧ VRel φ (orNan k r) v' ∧ Same w w' := by
    intro r
    cases r with
    | some r => exact ⟨_, _, rfl, .float k r, .refl w⟩
    | none =>
      obtain ⟨n, w', h1, h2, h3⟩ := choose_nanBits P w k x' y'
      exact ⟨_, _, by simp only [Sem.run_bind, h1, Result.andThen_ok, Sem.run_pure], .nan _ _ _ (nanOf_nan k) h2, h3⟩
  cases op <;> simp only [binFloat, Option.some.injEq, reduceCtorEq] at h
  all_goals subst h
  case add =>
    rw [hx.add hy]
    simp only [binOp, ne_eq, not_true_eq_false, if_false, Op.floatArith, pure_bind]
    exact arith _
  case sub =>
    rw [hx.sub hy]
    simp only [binOp, ne_eq, not_true_eq_false, if_false, Op.floatArith, pure_bind]
    exact arith _
  case mul =>
    rw [hx.mul hy]
    simp only [binOp, ne_eq, not_true_eq_false, if_false, Op.floatArith, pure_bind]
    exact arith _
  case quo =>
    rw [hx.div hy]
    simp only [binOp, ne_eq, not_true_eq_false, if_false, Op.floatArith, pure_bind]
    exact arith _
  all_goals
    rw [hx.order hy]
    exact ⟨_, _, by simp only [binOp, ne_eq, not_true_eq_false, if_false, Op.floatCmp, Sem.run_pure], .bool _, .refl w⟩

end Go.Ab
