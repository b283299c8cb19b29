/- A part of the proof. The abstract machine: binary and unary operations, conversions. No condition. -/
import Derived.Test.YtpmbkfiicbipoaaGreatEngB
/-! The abstract machine: binary and unary operations, conversions. -/
namespace Go.Ab

def beqL : List UInt8 → List UInt8 → Bool
  | [], [] => true
  | a :: l, b :: m => bif Nat.beq a.toNat b.toNat then beqL l m else false
  | _, _ => false

theorem beqL_eq : ∀ (l m : List UInt8), beqL l m = (l == m)
  | [], [] => rfl
  | [], _ :: _ => rfl
  | _ :: _, [] => rfl
  | a :: l, b :: m => by
    simp only [beqL, nbeq, List.cons_beq_cons, ← beqL_eq l m]
    have : (a.toNat == b.toNat) = (a == b) := by
      rw [Bool.eq_iff_iff]; simp [UInt8.toNat_inj]
    rw [this]
    cases a == b <;> rfl

def beqBytes (a b : ByteArray) : Bool := beqL a.data.toList b.data.toList

theorem beqBytes_eq (a b : ByteArray) : beqBytes a b = (a.toList == b.toList) := by
  rw [ByteArray.toList_eq, ByteArray.toList_eq]; exact beqL_eq _ _

def eqVal (d : TypeDesc) (cst : Bool) (a b : Value) : Option Bool :=
  match d, a, b with
  | .bool, .bool x, .bool y => some (x == y)
  | .pointer _, .pointer none, .pointer y => some y.isNone
  | .pointer _, .pointer (some _), .pointer none => some false
  | .interface _, .nilIface, .nilIface => bif cst then some true else none
  | .interface _, .nilIface, .iface _ _ => some false
  | .interface _, .iface _ _, .nilIface => some false
  | .func _ _ _, .nilFunc, .nilFunc => some true
  | .func _ _ _, .nilFunc, .func _ _ _ => some false
  | .func _ _ _, .func _ _ _, .nilFunc => some false
  | .slice _, .slice none _ _, .slice y _ _ => some y.isNone
  | .slice _, .slice (some _) _ _, .slice none _ _ => some false
  | .map _ _, .map none, .map y => some y.isNone
  | .map _ _, .map (some _), .map none => some false
  | _, _, _ => none

def sameKind (j k : IntKind) : Bool := match j, k with
  | .i8, .i8 | .i16, .i16 | .i32, .i32 | .i64, .i64 | .u8, .u8 | .u16, .u16 | .u32, .u32 | .u64, .u64 => true
  | _, _ => false
theorem sameKind_eq {j k : IntKind} (h : sameKind j k = true) : j = k := by cases j <;> cases k <;> first | rfl | simp [sameKind] at h
def sameF (j k : FloatKind) : Bool := match j, k with
  | .f32, .f32 | .f64, .f64 => true
  | _, _ => false
theorem sameF_eq {j k : FloatKind} (h : sameF j k = true) : j = k := by cases j <;> cases k <;> first | rfl | simp [sameF] at h

def binStr (op : BinOp) (x y : ByteArray) : Option Value :=
  match op with
  | .add => bif Nat.ble (x.size + y.size) 4611686018427387904 then some (.string (x ++ y)) else none
  | .eql => some (.bool (beqBytes x y))
  | .neq => some (.bool (!beqBytes x y))
  | _ => none

def binVal (op : BinOp) (d : TypeDesc) (cst : Bool) (a b : Value) : Option Value :=
  match a, b with
  | .int j x, .int k y => match op with
    | .shl => shiftInt .shl j x y
    | .shr => shiftInt .shr j x y
    | op => bif sameKind j k then binInt op j x y else none
  | .float j x, .float k y => bif sameF j k then binFloat op j x y else none
  | .string x, .string y => binStr op x y
  | a, b => match op with
    | .eql => match eqVal d cst a b with | some r => some (.bool r) | none => none
    | .neq => match eqVal d cst a b with | some r => some (.bool (!r)) | none => none
    | _ => none

theorem VRel.int_inv {φ : Phi} {k : IntKind} {n : Int} {v : Value} (h : VRel φ (.int k n) v) : v = .int k n := by cases h; rfl
theorem VRel.bool_inv {φ : Phi} {b : Bool} {v : Value} (h : VRel φ (.bool b) v) : v = .bool b := by cases h; rfl
theorem VRel.string_inv {φ : Phi} {s : ByteArray} {v : Value} (h : VRel φ (.string s) v) : v = .string s := by cases h; rfl
theorem VRel.ptrNil_inv {φ : Phi} {v : Value} (h : VRel φ (.pointer none) v) : v = .pointer none := by cases h; rfl
theorem VRel.ptr_inv {φ : Phi} {a : Addr} {v : Value} (h : VRel φ (.pointer (some a)) v) : ∃ b, v = .pointer (some b) ∧ ARel φ a b := by
  cases h with | ptr _ b h => exact ⟨b, rfl, h⟩
theorem VRel.iface_inv {φ : Phi} {t : TypeId} {v w : Value} (h : VRel φ (.iface t v) w) : ∃ u, w = .iface t u ∧ VRel φ v u := by
  cases h with | iface _ _ u h => exact ⟨u, rfl, h⟩
theorem VRel.agg_inv {φ : Phi} {a : Array Value} {w : Value} (h : VRel φ (.agg a) w) : ∃ b, w = .agg b ∧ LRel φ a.toList b.toList := by
  cases h with | agg _ b h => exact ⟨⟨b⟩, rfl, h⟩
theorem VRel.tuple_inv {φ : Phi} {a : Array Value} {w : Value} (h : VRel φ (.tuple a) w) : ∃ b, w = .tuple b ∧ LRel φ a.toList b.toList := by
  cases h with | tuple _ b h => exact ⟨⟨b⟩, rfl, h⟩
theorem VRel.sliceNil_inv {φ : Phi} {l c : Nat} {w : Value} (h : VRel φ (.slice none l c) w) : w = .slice none l c := by cases h; rfl
theorem VRel.slice_inv {φ : Phi} {a : Addr} {l c : Nat} {w : Value} (h : VRel φ (.slice (some a) l c) w) :
    ∃ im c', w = .slice (some ⟨im.blk, a.off, none⟩) l c' ∧ φ a.block = some im ∧ a.spot = spotOf im.grow ∧ capRel im.grow a.off c c' ∧ l ≤ c := by
  cases h with | slice _ b _ _ c' im h hb hs hc hl => subst hb; exact ⟨im, c', rfl, h, hs, hc, hl⟩

theorem equal_at (t : TypeId) (a b : Value) : ∃ n, Op.equal t a b = Op.equalIn (n + 1) t a b := ⟨9999, rfl⟩

def isC : Operand → Bool
  | .const _ => true
  | _ => false

theorem eqVal_sound {P : Program} {φ : Phi} {d : TypeDesc} {cst : Bool} {a b a' b' : Value} {r : Bool} (h : eqVal d cst a b = some r) (ha : VRel φ a a') (hb : VRel φ b b')
    {t : TypeId} (ht : P.underlying t = some d) (w : World) : (Op.equal t a' b').run P w = .ok r w := by
  obtain ⟨n, hn⟩ := equal_at t a' b'
  rw [hn]
  unfold eqVal at h
  split at h
  case h_1 => simp at h; subst h; obtain rfl := ha.bool_inv; obtain rfl := hb.bool_inv; simp [Op.equalIn, run_underlying ht]
  case h_2 =>
    simp at h; subst h; obtain rfl := ha.ptrNil_inv
    cases hb <;> simp [Op.equalIn, run_underlying ht]
  case h_3 =>
    simp at h; subst h; obtain ⟨x, rfl, _⟩ := ha.ptr_inv; obtain rfl := hb.ptrNil_inv
    simp [Op.equalIn, run_underlying ht]
  case h_4 =>
    cases cst
    · simp at h
    · simp at h; subst h; cases ha; cases hb; simp [Op.equalIn, run_underlying ht]
  case h_5 => simp at h; subst h; cases ha; cases hb; simp [Op.equalIn, run_underlying ht]
  case h_6 => simp at h; subst h; cases ha; cases hb; simp [Op.equalIn, run_underlying ht]
  case h_7 => simp at h; subst h; cases ha; cases hb; simp [Op.equalIn, run_underlying ht]
  case h_8 => simp at h; subst h; cases ha; cases hb; simp [Op.equalIn, run_underlying ht]
  case h_9 => simp at h; subst h; cases ha; cases hb; simp [Op.equalIn, run_underlying ht]
  case h_10 => simp at h; subst h; cases ha; cases hb <;> simp [Op.equalIn, run_underlying ht]
  case h_11 => simp at h; subst h; cases ha; cases hb; simp [Op.equalIn, run_underlying ht]
  case h_12 => simp at h; subst h; cases ha; cases hb <;> simp [Op.equalIn, run_underlying ht]
  case h_13 => simp at h; subst h; cases ha; cases hb; simp [Op.equalIn, run_underlying ht]
  case h_14 => simp at h

theorem binStr_sound {P : Program} {op : BinOp} {x y : ByteArray} {v : Value} (h : binStr op x y = some v) (t : TypeId) (w : World) :
    (binOp op t (.string x) (.string y)).run P w = .ok v w := by
  cases op <;> simp only [binStr, Option.some.injEq, reduceCtorEq] at h
  case add =>
    cases hb : Nat.ble (x.size + y.size) 4611686018427387904
    · rw [hb] at h; simp at h
    · rw [hb] at h; simp only [cond_true, Option.some.injEq] at h; subst h
      have hle : x.size + y.size ≤ 4611686018427387904 := by simpa using hb
      simp only [binOp, Op.stringOp]
      rw [if_neg]
      · rfl
      · have : IntKind.i64.max = 9223372036854775807 := by decide
        rw [this]; omega
  case eql => subst h; simp only [binOp, Op.stringOp, beqBytes_eq]; rfl
  case neq => subst h; simp only [binOp, Op.stringOp, beqBytes_eq]; rfl

/-- what the guard ahead of == asks -/
theorem eqGuard_skip {P : Program} {op : BinOp} {t : TypeId} {x y : Operand} {a b : Value} (w : World) (h1 : a = .nilIface → b = .nilIface → op = .eql ∨ op = .neq → (isC x || isC y) = true)
    (h2 : ∀ c, a ≠ .agg c) : (eqGuard op t x y a b).run P w = .ok () w := by
  unfold eqGuard
  cases op <;> simp only [Bool.not_false, Bool.not_true, if_true, Bool.false_eq_true, if_false, Sem.run_pure]
  all_goals
    cases a <;> try (simp; done)
    case agg c => exact absurd rfl (h2 c)
    case nilIface =>
      cases b <;> try (simp; done)
      have := h1 rfl rfl (by simp)
      cases x <;> cases y <;> first | rfl | (simp [isC] at this)

theorem binOp_eq {φ : Phi} {d : TypeDesc} {cst : Bool} {a b a' b' : Value} {r : Bool} (h : eqVal d cst a b = some r) (ha : VRel φ a a') (hb : VRel φ b b') (t : TypeId) :
    binOp .eql t a' b' = (do pure (.bool (← Op.equal t a' b')) : Sem Value) ∧ binOp .neq t a' b' = (do pure (.bool (!(← Op.equal t a' b'))) : Sem Value) := by
  unfold eqVal at h
  split at h
  case h_14 => simp at h
  all_goals
    cases ha
    cases hb <;> exact ⟨rfl, rfl⟩

theorem binVal_sound {P : Program} {φ : Phi} {op : BinOp} {d : TypeDesc} {a b a' b' : Value} {v : Value} {x y : Operand}
    (h : binVal op d (isC x || isC y) a b = some v) (ha : VRel φ a a') (hb : VRel φ b b') {t : TypeId} (ht : P.underlying t = some d) (w : World) :
    ∃ v' w', ((do eqGuard op t x y a' b'; binOp op t a' b') : Sem Value).run P w = .ok v' w' ∧ VRel φ v v' ∧ Same w w' := by
  have bare : ∀ {v' w'}, (eqGuard op t x y a' b').run P w = .ok () w → (binOp op t a' b').run P w = .ok v' w' → VRel φ v v' → Same w w' →
      ∃ v' w', ((do eqGuard op t x y a' b'; binOp op t a' b') : Sem Value).run P w = .ok v' w' ∧ VRel φ v v' ∧ Same w w' := by
    intro v' w' h1 h2 h3 h4
    exact ⟨v', w', by simp only [Sem.run_bind, h1, Result.andThen_ok, h2], h3, h4⟩
  unfold binVal at h
  split at h
  · rename_i j p k q
    obtain rfl := ha.int_inv; obtain rfl := hb.int_inv
    have hg : (eqGuard op t x y (.int j p) (.int k q)).run P w = .ok () w := eqGuard_skip w (by simp) (by simp)
    have hv : ∀ {v : Value} {c : Option Value} , c = some v → (∀ u, c = some u → ∃ b k n, u = .bool b ∨ u = .int k n) → VRel φ v v := by
      intro v c hc hh
      obtain ⟨b, k, n, rfl | rfl⟩ := hh v hc
      · exact .bool b
      · exact .int k n
    split at h
    · refine bare hg (shiftInt_sound h t w) (hv h ?_) (.refl w)
      intro u hu; unfold shiftInt at hu; split at hu
      · simp at hu
      · simp at hu; exact ⟨true, _, _, .inr hu.symm⟩
    · refine bare hg (shiftInt_sound h t w) (hv h ?_) (.refl w)
      intro u hu; unfold shiftInt at hu; split at hu
      · simp at hu
      · simp only at hu; split at hu <;> (simp at hu; exact ⟨true, _, _, .inr hu.symm⟩)
    · rename_i hn1 hn2
      cases hk : sameKind j k
      · rw [hk] at h; simp at h
      · rw [hk] at h; simp only [cond_true] at h
        obtain rfl := sameKind_eq hk
        refine bare hg (binInt_sound h t w) (hv h ?_) (.refl w)
        intro u hu
        cases op <;> simp only [binInt, Option.some.injEq, reduceCtorEq] at hu
        case quo => cases hz : izero q <;> rw [hz] at hu <;> simp at hu; exact ⟨true, _, _, .inr hu.symm⟩
        case rem => cases hz : izero q <;> rw [hz] at hu <;> simp at hu; exact ⟨true, _, _, .inr hu.symm⟩
        all_goals first | exact ⟨true, _, _, .inr hu.symm⟩ | exact ⟨_, .i8, 0, .inl hu.symm⟩
  · rename_i j p k q
    cases hk : sameF j k
    · rw [hk] at h; simp at h
    · rw [hk] at h; simp only [cond_true] at h
      obtain rfl := sameF_eq hk
      obtain ⟨p', rfl, hp⟩ := ha.float_inv; obtain ⟨q', rfl, hq⟩ := hb.float_inv
      obtain ⟨v', w', h1, h2, h3⟩ := binFloat_sound (P := P) (φ := φ) h hp hq t w
      exact bare (eqGuard_skip w (by simp) (by simp)) h1 h2 h3
  · rename_i p q
    obtain rfl := ha.string_inv; obtain rfl := hb.string_inv
    refine bare (eqGuard_skip w (by simp) (by simp)) (binStr_sound h t w) ?_ (.refl w)
    cases op <;> simp only [binStr, Option.some.injEq, reduceCtorEq] at h
    case add =>
      cases hz : Nat.ble (p.size + q.size) 4611686018427387904 <;> rw [hz] at h <;> simp at h
      subst h; exact .string _
    case eql => subst h; exact .bool _
    case neq => subst h; exact .bool _
  · rename_i hni hnf hns
    have key : ∀ r, eqVal d (isC x || isC y) a b = some r → (eqGuard op t x y a' b').run P w = .ok () w ∧ (binOp .eql t a' b').run P w = .ok (.bool r) w ∧ (binOp .neq t a' b').run P w = .ok (.bool (!r)) w := by
      intro r hr
      have he := eqVal_sound hr ha hb ht w
      refine ⟨eqGuard_skip w ?_ ?_, ?_, ?_⟩
      · intro h1 h2 _
        subst h1; subst h2
        cases ha; cases hb
        cases hc : (isC x || isC y)
        · rw [hc] at hr
          unfold eqVal at hr
          split at hr <;> simp_all
        · rfl
      · intro c hc
        subst hc
        cases ha with
        | agg a0 c0 _ => unfold eqVal at hr; split at hr <;> simp_all
      · rw [(binOp_eq hr ha hb t).1]; simp [he]
      · rw [(binOp_eq hr ha hb t).2]; simp [he]
    split at h
    · split at h
      · rename_i r hr
        simp at h; subst h
        obtain ⟨h1, h2, h3⟩ := key r hr
        exact bare h1 h2 (.bool _) (.refl w)
      · simp at h
    · split at h
      · rename_i r hr
        simp at h; subst h
        obtain ⟨h1, h2, h3⟩ := key r hr
        exact bare h1 h3 (.bool _) (.refl w)
      · simp at h
    · simp at h

end Go.Ab
