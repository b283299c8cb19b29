/- A part of the proof. The abstract machine: structs held against each other, one operand, conversions, min and max. No condition. -/
import Derived.Test.YtpmbkfiicbipoaaGreatEngC
/-! The abstract machine: structs held against each other, one operand, conversions, min and max. -/
namespace Go.Ab

def scEq (a b : Value) : Option Bool :=
  match a, b with
  | .bool x, .bool y => some (x == y)
  | .int j x, .int k y => bif sameKind j k then some (ieq x y) else none
  | .string x, .string y => some (beqBytes x y)
  | _, _ => none

def eqCells : List Nat → List Value → List Value → Option Bool
  | [], _, _ => some true
  | o :: l, xs, ys => match nth xs o, nth ys o with
    | some a, some b => match scEq a b with
      | some r => bif r then eqCells l xs ys else some false
      | none => none
    | _, _ => none

def scalarD : TypeDesc → Bool
  | .bool | .int _ | .string => true
  | _ => false

/-- of a field that can be compared at once: P's own words -/
def Flat (P : Program) (f : Field) : Prop := f.name ≠ "_" ∧ ∃ d, P.underlying f.type = some d ∧ scalarD d = true

theorem run_isAgg_scalar {P : Program} {t : TypeId} {d : TypeDesc} (h : P.underlying t = some d) (hd : scalarD d = true) (w : World) : (isAgg t).run P w = .ok false w := by
  unfold isAgg
  simp only [Sem.run_bind, run_underlying h, Result.andThen_ok]
  cases d <;> first | rfl | simp [scalarD] at hd

theorem scEq_sound {P : Program} {φ : Phi} {a b a' b' : Value} {r : Bool} (h : scEq a b = some r) (ha : VRel φ a a') (hb : VRel φ b b') {t : TypeId} {d : TypeDesc}
    (ht : P.underlying t = some d) (n : Nat) (w : World) (hfit : (∃ k n, a = .int k n ∧ ∃ j, d = .int j) ∨ (∃ x, a = .bool x ∧ d = .bool) ∨ (∃ s, a = .string s ∧ d = .string)) :
    (Op.equalIn (n + 1) t a' b').run P w = .ok r w := by
  unfold scEq at h
  split at h
  · simp at h; subst h; obtain rfl := ha.bool_inv; obtain rfl := hb.bool_inv
    simp at hfit; subst hfit
    exact run_equalIn_bool' w n t _ _ ht
  · rename_i j p k q
    obtain rfl := ha.int_inv; obtain rfl := hb.int_inv
    cases hk : sameKind j k <;> rw [hk] at h <;> simp at h
    obtain rfl := sameKind_eq hk
    subst h
    simp at hfit; obtain ⟨m, rfl⟩ := hfit
    rw [ieq_eq]
    exact run_equalIn_int w n t _ m _ _ ht
  · simp at h; subst h; obtain rfl := ha.string_inv; obtain rfl := hb.string_inv
    simp at hfit; subst hfit
    rw [beqBytes_eq]
    exact run_equalIn_string w n t _ _ ht
  · simp at h

/-- does a cell fit a scalar type? -/
def fitsD (d : TypeDesc) (a : Value) : Bool :=
  match d, a with
  | .int _, .int _ _ => true
  | .bool, .bool _ => true
  | .string, .string _ => true
  | _, _ => false

def eqFieldsV (ds : List (Nat × TypeDesc)) (xs ys : List Value) : Option Bool :=
  match ds with
  | [] => some true
  | (o, d) :: l => match nth xs o, nth ys o with
    | some a, some b => bif fitsD d a then (match scEq a b with
      | some r => bif r then eqFieldsV l xs ys else some false
      | none => none) else none
    | _, _ => none

inductive FlatFields (P : Program) : List Field → List (Nat × TypeDesc) → Prop
  | nil : FlatFields P [] []
  | cons (f : Field) (fs : List Field) (d : TypeDesc) (ds : List (Nat × TypeDesc)) (hn : f.name ≠ "_") (hu : P.underlying f.type = some d) (hd : scalarD d = true) (h : FlatFields P fs ds) :
      FlatFields P (f :: fs) ((f.offset, d) :: ds)

theorem eqFieldsV_sound {P : Program} {φ : Phi} {xs ys xs' ys' : Array Value} (hx : LRel φ xs.toList xs'.toList) (hy : LRel φ ys.toList ys'.toList) (n : Nat) (w : World) :
    ∀ {fs : List Field} {ds : List (Nat × TypeDesc)} {r : Bool}, FlatFields P fs ds → eqFieldsV ds xs.toList ys.toList = some r → (Op.eqFields (n + 1) xs' ys' fs).run P w = .ok r w
  | _, _, r, .nil, h => by simp [eqFieldsV] at h; subst h; rfl
  | _, _, r, .cons f fs d ds hn hu hd hf, h => by
    simp only [eqFieldsV, nth_eq] at h
    cases ha : xs.toList[f.offset]? with
    | none => rw [ha] at h; simp at h
    | some a =>
      rw [ha] at h
      cases hb : ys.toList[f.offset]? with
      | none => rw [hb] at h; simp at h
      | some b =>
        rw [hb] at h
        simp only at h
        obtain ⟨a', ha', hra⟩ := hx.get _ _ ha
        obtain ⟨b', hb', hrb⟩ := hy.get _ _ hb
        cases hfit : fitsD d a with
        | false => rw [hfit] at h; simp at h
        | true =>
          rw [hfit] at h; simp only [cond_true] at h
          cases hs : scEq a b with
          | none => rw [hs] at h; simp at h
          | some q =>
            rw [hs] at h; simp only at h
            have hq : (Op.equalIn (n + 1) f.type a' b').run P w = .ok q w := by
              refine scEq_sound hs hra hrb hu n w ?_
              unfold fitsD at hfit
              split at hfit
              · exact .inl ⟨_, _, rfl, _, rfl⟩
              · exact .inr (.inl ⟨_, rfl, rfl⟩)
              · exact .inr (.inr ⟨_, rfl, rfl⟩)
              · simp at hfit
            have hpart : ∀ {zs : Array Value} {z : Value}, zs.toList[f.offset]? = some z → (part f.type zs f.offset).run P w = .ok z w := by
              intro zs z hz
              unfold part
              simp only [Sem.run_bind, run_isAgg_scalar hu hd, Result.andThen_ok, Bool.false_eq_true, if_false]
              rw [Array.getElem?_toList] at hz
              simp [hz]
            simp only [Op.eqFields, ne_eq, hn, not_false_eq_true, if_true, Sem.run_bind, hpart ha', hpart hb', Result.andThen_ok, hq, Sem.run_ite]
            cases q
            · simp at h; subst h; rfl
            · simp only [Bool.not_true, Bool.false_eq_true, if_false]
              simp only [cond_true] at h
              exact eqFieldsV_sound hx hy n w hf h

def eqS (neg : Bool) (ds : List (Nat × TypeDesc)) (a b : Value) : Option Value :=
  match a, b with
  | .agg xs, .agg ys => match eqFieldsV ds xs.toList ys.toList with
    | some r => some (.bool (bif neg then !r else r))
    | none => none
  | _, _ => none

theorem eqS_sound {P : Program} {φ : Phi} {op : BinOp} (hop : op = .eql ∨ op = .neq) {ds : List (Nat × TypeDesc)} {a b a' b' v : Value} {x y : Operand}
    (h : eqS (match op with | .neq => true | _ => false) ds a b = some v) (ha : VRel φ a a') (hb : VRel φ b b') {t : TypeId} {fs : Array Field}
    (ht : P.underlying t = some (.struct fs)) (hf : FlatFields P fs.toList ds) (hs : P.stoodInHeld t = false) (hg : P.eqGuardType P.depth t = false) (w : World) :
    ((do eqGuard op t x y a' b'; binOp op t a' b') : Sem Value).run P w = .ok v w ∧ VRel φ v v := by
  unfold eqS at h
  split at h
  · rename_i xs ys
    obtain ⟨xs', rfl, hx⟩ := ha.agg_inv
    obtain ⟨ys', rfl, hy⟩ := hb.agg_inv
    cases hr : eqFieldsV ds xs.toList ys.toList with
    | none => rw [hr] at h; simp at h
    | some r =>
      rw [hr] at h; simp only [Option.some.injEq] at h; subst h
      have hfo : P.fieldsOf t = fs := by unfold Program.fieldsOf; rw [ht]
      have he : (Op.equalIn 10000 t (.agg xs') (.agg ys')).run P w = .ok r w := by
        rw [run_equalIn_struct w 9999 t xs' ys' (by rw [hfo]; exact ht) hs, hfo]
        exact eqFieldsV_sound hx hy 9998 w hf hr
      refine ⟨?_, .bool _⟩
      rcases hop with rfl | rfl
      · simp only [Sem.run_bind, run_eqGuard_agg w .eql t x y xs' ys' hg, Result.andThen_ok, run_eql_struct, he]; rfl
      · simp only [Sem.run_bind, run_eqGuard_agg w .neq t x y xs' ys' hg, Result.andThen_ok, run_neq_struct, he]; rfl
  · simp at h

/-! ### One operand -/
def unVal (op : UnOp) (x : Value) : Option Value :=
  match x with
  | .int k n => match op with
    | .neg => some (.int k (wrapI k (0 - n)))
    | .xor => some (.int k (wrapI k (.ofNat (Nat.sub (2 ^ bitsOf k - 1) (resid k n)))))
    | _ => none
  | .bool b => match op with
    | .not => some (.bool (!b))
    | _ => none
  | .float k b => match op with
    | .neg => bif (k.decode b).isNaN then none else some (.float k (Op.negFloat k b))
    | _ => none
  | _ => none

theorem FRel.eq_of {k : FloatKind} {b c : Nat} (h : FRel k b c) (hn : (k.decode b).isNaN = false) : b = c := by
  rcases h with h | ⟨h, _⟩
  · exact h
  · unfold isNaN at h; rw [hn] at h; cases h

theorem unVal_sound {P : Program} {φ : Phi} {op : UnOp} {x x' v : Value} (h : unVal op x = some v) (hx : VRel φ x x') (w : World) :
    (Op.unary op x').run P w = .ok v w ∧ VRel φ v v := by
  unfold unVal at h
  split at h
  · obtain rfl := hx.int_inv
    rename_i k n
    cases op <;> simp only [Option.some.injEq, reduceCtorEq] at h
    · subst h; refine ⟨?_, .int _ _⟩; simp [Op.unary, Op.intArith, wrapI_eq]
    · subst h; refine ⟨?_, .int _ _⟩
      have e : BitVec.ofInt k.bits (if k.signed then -1 else k.max) = BitVec.allOnes k.bits := by cases k <;> decide
      simp only [Op.unary, Op.intBits, Sem.run_pure, e, BitVec.allOnes_xor, BitVec.toNat_not, wrapI_eq, resid_eq, bitsOf_eq, natsub]
      rfl
  · obtain rfl := hx.bool_inv
    cases op <;> simp only [Option.some.injEq, reduceCtorEq] at h
    subst h; exact ⟨rfl, .bool _⟩
  · rename_i k b
    obtain ⟨c, rfl, hf⟩ := hx.float_inv
    cases op <;> simp only [reduceCtorEq] at h
    cases hn : (k.decode b).isNaN <;> rw [hn] at h <;> simp at h
    subst h
    obtain rfl := hf.eq_of hn
    exact ⟨rfl, .float _ _⟩
  · simp at h

/-! ### Conversions -/
def convVal (d : TypeDesc) (x : Value) : Option Value :=
  match d, x with
  | .int k, .int _ n => some (.int k (wrapI k n))
  | .float k, .int _ n => some (.float k (k.nearest n))
  | .float k, .float s b => bif sameF s k then some (.float k b) else
    (match s.decode b with
      | .nan _ _ => some (.float k (nanOf k))
      | .infinity g => some (.float k (k.encode (.infinity g)))
      | .number g m e => bif (k.decode (k.encode (.number g m e))).isInfinity then none else some (.float k (k.encode (.number g m e))))
  | .int k, .float s b => match (s.decode b).toInt .zero with
    | some n => bif ilt n k.min || ilt k.max n then none else some (.int k n)
    | none => none
  | .string, .string s => some (.string s)
  | _, _ => none

theorem toInt_nan (s : Bool) (f : Nat) : (Ieee.Datum.nan s f).toInt .zero = none := rfl

theorem convVal_sound {P : Program} {φ : Phi} {d : TypeDesc} {x x' v : Value} (h : convVal d x = some v) (hx : VRel φ x x') {src dst : TypeId} {ds : TypeDesc}
    (hs : P.underlying src = some ds) (hd : P.underlying dst = some d) (w : World) :
    ∃ v' w', (convert src dst x').run P w = .ok v' w' ∧ VRel φ v v' ∧ Same w w' := by
  unfold convVal at h
  split at h
  · obtain rfl := hx.int_inv; simp at h; subst h
    exact ⟨_, _, by simp only [convert, Sem.run_bind, run_underlying hs, run_underlying hd, Result.andThen_ok]; first | done | (cases ds <;> rfl), by rw [wrapI_eq]; exact .int _ _, .refl w⟩
  · obtain rfl := hx.int_inv; simp at h; subst h
    exact ⟨_, _, by simp only [convert, Sem.run_bind, run_underlying hs, run_underlying hd, Result.andThen_ok]; first | done | (cases ds <;> rfl), .float _ _, .refl w⟩
  · rename_i k s b
    obtain ⟨c, rfl, hf⟩ := hx.float_inv
    have hc : (convert src dst (.float s c)).run P w = (Conv.floatToFloat s c k).run P w := by
      simp only [convert, Sem.run_bind, run_underlying hs, run_underlying hd, Result.andThen_ok]; first | done | (cases ds <;> rfl)
    rw [hc]
    cases hk : sameF s k
    · rw [hk] at h; simp only [cond_false] at h
      have hne : ¬ s = k := by rintro rfl; cases s <;> simp [sameF] at hk
      simp only [Conv.floatToFloat, if_neg hne]
      rcases hf with rfl | ⟨h1, h2⟩
      · cases hdec : s.decode b with
        | nan g f =>
          rw [hdec] at h; simp at h; subst h
          obtain ⟨n, w', q1, q2, q3⟩ := choose_nanConv P w k b
          exact ⟨_, _, by simp only [Sem.run_bind, q1, Result.andThen_ok, Sem.run_pure], .nan _ _ _ (nanOf_nan k) q2, q3⟩
        | infinity g =>
          rw [hdec] at h; simp at h; subst h
          exact ⟨_, _, rfl, .float _ _, .refl w⟩
        | number g m e =>
          rw [hdec] at h; simp only at h
          cases hi : (k.decode (k.encode (.number g m e))).isInfinity <;> rw [hi] at h <;> simp at h
          subst h
          exact ⟨_, _, by simp only [hi, Bool.false_eq_true, if_false, Sem.run_pure], .float _ _, .refl w⟩
      · obtain ⟨g, f, e1⟩ := read_nan h1
        obtain ⟨g', f', e2⟩ := read_nan h2
        have d1 : s.decode b = .nan g f := e1
        have d2 : s.decode c = .nan g' f' := e2
        rw [d1] at h; simp at h; subst h
        obtain ⟨n, w', q1, q2, q3⟩ := choose_nanConv P w k c
        exact ⟨_, _, by rw [d2]; simp only [Sem.run_bind, q1, Result.andThen_ok, Sem.run_pure], .nan _ _ _ (nanOf_nan k) q2, q3⟩
    · rw [hk] at h; simp only [cond_true, Option.some.injEq] at h; subst h
      obtain rfl := sameF_eq hk
      exact ⟨_, _, by simp only [Conv.floatToFloat, if_true, Sem.run_pure], hf.vrel, .refl w⟩
  · rename_i k s b
    obtain ⟨c, rfl, hf⟩ := hx.float_inv
    have hc : (convert src dst (.float s c)).run P w = (Conv.floatToInt s c k).run P w := by
      simp only [convert, Sem.run_bind, run_underlying hs, run_underlying hd, Result.andThen_ok]; first | done | (cases ds <;> rfl)
    rw [hc]
    have hbc : b = c := by
      rcases hf with rfl | ⟨h1, h2⟩
      · rfl
      · obtain ⟨g, f, e1⟩ := read_nan h1
        have d1 : s.decode b = .nan g f := e1
        rw [d1, toInt_nan] at h; simp at h
    subst hbc
    cases hn : (s.decode b).toInt .zero with
    | none => rw [hn] at h; simp at h
    | some n =>
      rw [hn] at h; simp only at h
      cases hz : (ilt n k.min || ilt k.max n) <;> rw [hz] at h <;> simp at h
      subst h
      rw [ilt_eq, ilt_eq] at hz
      have hr : k.min ≤ n ∧ n ≤ k.max := by
        simp only [Bool.or_eq_false_iff, decide_eq_false_iff_not] at hz
        omega
      exact ⟨_, _, by simp only [Conv.floatToInt, hn, if_pos hr, Sem.run_pure], .int _ _, .refl w⟩
  · obtain rfl := hx.string_inv; simp at h; subst h
    exact ⟨_, _, by simp only [convert, Sem.run_bind, run_underlying hs, run_underlying hd, Result.andThen_ok]; first | done | (cases ds <;> rfl), .string _, .refl w⟩
  · simp at h

end Go.Ab
