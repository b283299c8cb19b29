/- A part of the proof. The abstract machine: its operations; those that touch no memory are the model's. No condition. -/
import Derived.Test.YtpmbkfiicbipoaaGreatEngD
/-! The abstract machine: its operations; those that touch no memory are the model's. -/
namespace Go.Ab

/-! ## Operands -/
def plainV : Nat → Value → Bool
  | 0, _ => false
  | n + 1, v => match v with
    | .bool _ | .int _ _ | .float _ _ | .string _ | .nilFunc | .nilIface | .pointer none | .slice none _ _ | .map none => true
    | .iface _ u => plainV n u
    | .agg ⟨c⟩ | .tuple ⟨c⟩ => allB (plainV n) c
    | .func _ ⟨a⟩ ⟨c⟩ => allB (plainV n) a && allB (plainV n) c
    | _ => false

theorem LRel.refl_of {φ : Phi} : ∀ (l : List Value), (∀ v ∈ l, VRel φ v v) → LRel φ l l
  | [], _ => .nil
  | v :: l, h => .cons _ _ _ _ (h v (by simp)) (LRel.refl_of l fun u hu => h u (by simp [hu]))

theorem plainV_rel {φ : Phi} : ∀ (n : Nat) (v : Value), plainV n v = true → VRel φ v v
  | 0, _, h => by simp [plainV] at h
  | n + 1, v, h => by
    have all : ∀ l : List Value, allB (plainV n) l = true → LRel φ l l := fun l hl => .refl_of l fun u hu => plainV_rel n u ((allB_iff _ l).1 hl u hu)
    unfold plainV at h
    split at h <;> first | exact .bool _ | exact .int _ _ | exact .float _ _ | exact .string _ | exact .nilFunc | exact .nilIface | exact .ptrNil | exact .sliceNil _ _ | exact .mapNil | skip
    · exact .iface _ _ _ (plainV_rel n _ h)
    · exact .agg _ _ (all _ h)
    · exact .tuple _ _ (all _ h)
    · simp only [Bool.and_eq_true] at h
      exact .func _ _ _ _ _ (all _ h.1) (all _ h.2)
    · simp at h

def okO : Operand → Bool
  | .tmp _ => true
  | .const v => plainV 8 v
  | .func _ => true
  | .global _ => false

/-- the temporaries, as the machine sees them -/
abbrev Fm := Nat → Value

def tget (t : Fm) (k : Nat) : Value := t k

def evalO (t : Fm) : Operand → Value
  | .tmp k => tget t k
  | .const v => v
  | .func f => .func (.func f) #[] #[]
  | .global _ => undef

def TRel (φ : Phi) (t : Fm) (a : Act) : Prop := ∀ k, VRel φ (tget t k) (a.tmps.getD k undef)

theorem TRel.mono {φ ψ : Phi} (h : φ.le ψ) {t : Fm} {a : Act} (ht : TRel φ t a) : TRel ψ t a := fun k => (ht k).mono h

theorem undef_rel (φ : Phi) : VRel φ undef undef := .tuple _ _ .nil

theorem evalO_rel {φ : Phi} {t : Fm} {a : Act} (ht : TRel φ t a) : ∀ {x : Operand}, okO x = true → VRel φ (evalO t x) (a.eval x)
  | .tmp k, _ => ht k
  | .const v, h => plainV_rel 8 v h
  | .func f, _ => .func _ _ _ _ _ .nil .nil
  | .global _, h => by simp [okO] at h

theorem evalOs_rel {φ : Phi} {t : Fm} {a : Act} (ht : TRel φ t a) : ∀ {l : List Operand}, (∀ x ∈ l, okO x = true) → LRel φ (l.map (evalO t)) (l.map a.eval)
  | [], _ => .nil
  | x :: l, h => .cons _ _ _ _ (evalO_rel ht (h x (by simp))) (evalOs_rel ht fun y hy => h y (by simp [hy]))

def putT (t : Fm) (d : Option Nat) (v : Value) : Fm := match d with | some d => fun k => bif Nat.beq k d then v else t k | none => t

theorem tget_set (t : Fm) (d : Nat) (v : Value) (k : Nat) : tget (fun k => bif Nat.beq k d then v else t k) k = if k = d then v else tget t k := by
  unfold tget
  by_cases h : k = d
  · subst h; simp
  · have : Nat.beq k d = false := by cases hb : Nat.beq k d <;> simp_all
    rw [if_neg h]; simp [this]

theorem TRel.put {φ : Phi} {t : Fm} {a : Act} (ht : TRel φ t a) {d : Option Nat} (hd : ∀ k, d = some k → k < a.tmps.size) {v v' : Value} (hv : VRel φ v v') :
    TRel φ (putT t d v) (a.put d v') := by
  cases d with
  | none => exact ht
  | some d =>
    intro k
    simp only [putT, Act.put, tget_set]
    have hlt := hd d rfl
    by_cases h : k = d
    · subst h
      rw [if_pos rfl]
      have : (a.tmps.setIfInBounds k v').getD k undef = v' := by simp [hlt]
      rw [this]; exact hv
    · rw [if_neg h]
      have : (a.tmps.setIfInBounds d v').getD k undef = a.tmps.getD k undef := by
        simp [Array.getElem?_setIfInBounds_ne (Ne.symm h)]
      rw [this]; exact ht k

theorem put_size (a : Act) (d : Option Nat) (v : Value) : (a.put d v).tmps.size = a.tmps.size := by cases d <;> simp [Act.put]
theorem put_defers (a : Act) (d : Option Nat) (v : Value) : (a.put d v).defers = a.defers := by cases d <;> rfl

/-! ## The operations -/
inductive IOp where
  | mov (x : Operand)
  | pick (c a b : Operand)
  | nilc (x : Operand)
  | bin (op : BinOp) (d : TypeDesc) (cst : Bool) (x y : Operand)
  | eqs (neg : Bool) (ds : List (Nat × TypeDesc)) (x y : Operand)
  | un (op : UnOp) (x : Operand)
  | conv (d : TypeDesc) (x : Operand)
  | iface (t : TypeId) (x : Operand)
  | mkfn (fn : Fn) (first captured : List Operand)
  | faddr (x : Operand) (off : Nat)
  | iaddrS (x i : Operand) (esz : Nat)
  | iaddrA (x i : Operand) (len esz : Nat)
  | fieldv (x : Operand) (off : Nat) (n : Option Nat)
  | indexA (x i : Operand) (len esz : Nat) (n : Option Nat)
  | indexS (x i : Operand)
  | sliceS (x : Operand) (lo hi mx : Option Operand) (esz : Nat)
  | sliceT (x : Operand) (lo hi : Option Operand)
  | sliceP (x : Operand) (lo hi mx : Option Operand) (len esz : Nat)
  | extr (x : Operand) (i : Nat)
  | lenv (x : Operand)
  | lent (x : Operand)
  | lenc (n : Nat)
  | capv (x : Operand)
  | minmax (isMax : Bool) (x : Operand) (rest : List Operand)
  | build (zero : List Value) (parts : List (Nat × Nat × Operand))
  | s2ap (n : Nat) (x : Operand)
  | tassert (x : Operand) (t : TypeId) (zero : Value) (ok : Bool)
  | load (n : Option Nat) (a : Operand)
  | alloc (zero : List Value)
  | box (x : Operand)
  | buildSl (len : Nat) (cells : List Value) (parts : List (Nat × Nat × Operand))
  | makeSl (l c : Operand) (esz ebytes : Nat) (zero : List Value)
  | store (n : Nat) (a x : Operand)
  | append (x y : Operand) (esz ebytes : Nat)
  | appendZ (x y : Operand) (esz ebytes : Nat) (zero : List Value)
  | clearS (x : Operand) (esz : Nat) (zero : List Value)
  | copy (x y : Operand) (esz : Nat)
  | call (f : Nat) (args : List Operand)
  | callv (x : Operand) (args : List Operand)
  | meth (x : Operand) (name : String) (args : List Operand)
  | makeMap
  | insert (kd : TypeDesc) (m k v : Operand)
  | lookup (kd : TypeDesc) (m k : Operand) (zero : Value) (ok : Bool)
  | lenm (x : Operand)
  deriving Inhabited

def natOf : Value → Option Nat
  | .int _ (.ofNat n) => some n
  | _ => none

def boundOf (t : Fm) (x : Option Operand) (d : Nat) : Option Nat := match x with
  | none => some d
  | some o => natOf (evalO t o)

def addA (a : Addr) (n : Nat) : Addr := match n with | 0 => a | n + 1 => ⟨a.block, a.off + (n + 1), a.spot⟩

def partOf (c : List Value) (off : Nat) : Option Nat → Option Value
  | none => nth c off
  | some n => match takeN n (dropN off c) with | some l => some (.agg ⟨l⟩) | none => none

def fillP (t : Fm) : List (Nat × Nat × Operand) → List Value → Option (List Value)
  | [], c => some c
  | (off, size, x) :: r, c =>
    bif Nat.beq (evalO t x).cells.toList.length size then (match putAt (evalO t x).cells.toList off c with | some c' => fillP t r c' | none => none) else none

def minmaxV (isMax : Bool) (a b : Value) : Option Value :=
  match a, b with
  | .int k x, .int _ y => some (.int k (bif isMax then (bif ilt x y then y else x) else (bif ilt y x then y else x)))
  | _, _ => none

def foldMM (isMax : Bool) (t : Fm) : List Operand → Value → Option Value
  | [], v => some v
  | x :: r, v => match minmaxV isMax v (evalO t x) with | some w => foldMM isMax t r w | none => none

def spotFits (s : Option Nat) (esz : Nat) : Bool := match s with | none => true | some z => Nat.beq z esz

def and3 (a b c : Bool) : Bool := bif a then (bif b then c else false) else false

def sliceV (a : Option Addr) (l h m esz : Nat) (mx : Bool) : Option Value :=
  match a with
  | none => some (.slice none (h - l) (m - l))
  | some a => bif Nat.beq m l then
      (bif Nat.beq l 0 || mx || a.spot.isNone then some (.slice (some a) 0 0) else none)
    else bif spotFits a.spot esz then some (.slice (some (addA a (l * esz))) (h - l) (m - l)) else none

/-- operations that touch no memory -/
def pureV (t : Fm) : IOp → Option Value
  | .mov x => some (evalO t x)
  | .pick c a b => match evalO t c with | .bool g => some (bif g then evalO t a else evalO t b) | _ => none
  | .nilc x => match evalO t x with
    | .pointer (some a) => some (.pointer (some a))
    | .func (.func f) a b => some (.func (.func f) a b)
    | .iface u v => some (.iface u v)
    | _ => none
  | .bin op d cst x y => binVal op d cst (evalO t x) (evalO t y)
  | .eqs neg ds x y => eqS neg ds (evalO t x) (evalO t y)
  | .un op x => unVal op (evalO t x)
  | .conv d x => convVal d (evalO t x)
  | .iface u x => some (.iface u (evalO t x))
  | .mkfn fn a b => some (.func fn ⟨a.map (evalO t)⟩ ⟨b.map (evalO t)⟩)
  | .faddr x off => match evalO t x with | .pointer (some a) => some (.pointer (some (addA a off))) | _ => none
  | .iaddrS x i esz => match evalO t x, natOf (evalO t i) with
    | .slice (some a) len _, some k => bif Nat.blt k len then some (.pointer (some (addA a (k * esz)))) else none
    | _, _ => none
  | .iaddrA x i len esz => match evalO t x, natOf (evalO t i) with
    | .pointer (some a), some k => bif Nat.blt k len then some (.pointer (some (addA a (k * esz)))) else none
    | _, _ => none
  | .fieldv x off n => match evalO t x with | .agg c => partOf c.toList off n | _ => none
  | .indexA x i len esz n => match evalO t x, natOf (evalO t i) with
    | .agg c, some k => bif Nat.blt k len then partOf c.toList (k * esz) n else none
    | _, _ => none
  | .indexS x i => match evalO t x, natOf (evalO t i) with
    | .string s, some k => match nth s.data.toList k with | some b => some (.int .u8 (.ofNat b.toNat)) | none => none
    | _, _ => none
  | .sliceS x lo hi mx esz => match evalO t x with
    | .slice a len cap => match boundOf t lo 0, boundOf t hi len, boundOf t mx cap with
      | some l, some h, some m =>
        bif and3 (Nat.ble l h) (Nat.ble h m) (Nat.ble m cap) then
          sliceV a l h m esz mx.isSome
        else none
      | _, _, _ => none
    | _ => none
  | .sliceT x lo hi => match evalO t x with
    | .string s => match boundOf t lo 0, boundOf t hi s.size with
      | some l, some h => bif Nat.ble l h && Nat.ble h s.size then some (.string (s.extract l h)) else none
      | _, _ => none
    | _ => none
  | .sliceP x lo hi mx n esz => match evalO t x with
    | .pointer (some a) => match a.spot, boundOf t lo 0, boundOf t hi n, boundOf t mx n with
      | none, some l, some h, some m =>
        bif and3 (Nat.ble l h) (Nat.ble h m) (Nat.ble m n) then some (.slice (some (bif Nat.beq m l then a else addA a (l * esz))) (h - l) (m - l)) else none
      | _, _, _, _ => none
    | _ => none
  | .extr x i => match evalO t x with | .tuple vs => nth vs.toList i | _ => none
  | .lenv x => match evalO t x with
    | .slice _ n _ => some (.int .i64 (.ofNat n))
    | _ => none
  | .lent x => match evalO t x with
    | .string s => some (.int .i64 (.ofNat s.size))
    | _ => none
  | .lenc n => some (.int .i64 (.ofNat n))
  | .capv x => match evalO t x with
    | .slice none _ c => some (.int .i64 (.ofNat c))
    | .slice (some a) _ c => bif a.spot.isNone then some (.int .i64 (.ofNat c)) else none
    | _ => none
  | .minmax m x r => foldMM m t r (evalO t x)
  | .build z ps => match fillP t ps z with | some c => some (.agg ⟨c⟩) | none => none
  | .s2ap n x => match evalO t x with
    | .slice a len _ => bif Nat.ble n len then some (.pointer a) else none
    | _ => none
  | .tassert x ty z ok => match evalO t x with
    | .iface d v => bif Nat.beq d ty then some (bif ok then .tuple #[v, .bool true] else v) else (bif ok then some (.tuple #[z, .bool false]) else none)
    | .nilIface => bif ok then some (.tuple #[z, .bool false]) else none
    | _ => none
  | _ => none

/-! ## Their soundness, one by one -/
section
variable {P : Program} {φ : Phi} {t : Fm} {a : Act} (w : World)

/-- an operation's value, by a Sem of it -/
def valS (s : Sem Value) : Sem Next := do pure (.value (← s))

theorem run_valS {s : Sem Value} {v : Value} {w w' : World} (h : s.run P w = .ok v w') : (valS s).run P w = .ok (.value v) w' := by
  unfold valS; simp only [Sem.run_bind, h, Result.andThen_ok, Sem.run_pure]

theorem natOf_some {v : Value} {n : Nat} (h : natOf v = some n) : ∃ k, v = .int k (Int.ofNat n) := by
  unfold natOf at h; split at h
  · simp at h; subst h; exact ⟨_, rfl⟩
  · simp at h

theorem addA_eq (b : Addr) (n : Nat) (hs : b.spot = none) : b.add n = ⟨b.block, b.off + n, none⟩ := by
  unfold Addr.add; split
  · rename_i h; subst h; obtain ⟨x, y, z⟩ := b; simp at hs; subst hs; rfl
  · rfl

theorem ARel.add {b b' : Addr} (h : ARel φ b b') (n : Nat) : ARel φ (addA b n) (b'.add n) := by
  obtain ⟨im, h1, rfl, h3⟩ := h
  rw [addA_eq _ _ rfl]
  cases n with
  | zero => exact ⟨im, h1, rfl, h3⟩
  | succ n => exact ⟨im, h1, rfl, h3⟩

theorem addA_block (b : Addr) (n : Nat) : (addA b n).block = b.block := by cases n <;> rfl
theorem addA_off (b : Addr) (n : Nat) : (addA b n).off = b.off + n := by cases n <;> rfl
theorem addA_spot (b : Addr) (n : Nat) : (addA b n).spot = b.spot := by cases n <;> rfl

theorem run_sizeOf' {e : TypeId} {i : TypeInfo} (h : P.info? e = some i) : (sizeOf e).run P w = .ok i.size w := by
  simp [sizeOf, typeInfo, h]
theorem run_typeInfo' {e : TypeId} {i : TypeInfo} (h : P.info? e = some i) : (typeInfo e).run P w = .ok i w := by
  simp [typeInfo, h]
theorem run_zeroValue' {e : TypeId} {i : TypeInfo} {z : Value} (h : P.info? e = some i) (hz : i.zero = some z) : (zeroValue e).run P w = .ok z w := by
  simp [zeroValue, typeInfo, h, hz]

def isAggD : TypeDesc → Bool
  | .struct _ | .array _ _ => true
  | _ => false

theorem run_isAgg' {e : TypeId} {d : TypeDesc} (h : P.underlying e = some d) : (isAgg e).run P w = .ok (isAggD d) w := by
  unfold isAgg
  simp only [Sem.run_bind, run_underlying h, Result.andThen_ok]
  cases d <;> rfl

theorem asIntOf_nat (k : IntKind) (n : Nat) : (asIntOf (.int k (Int.ofNat n))).run P w = .ok (k, Int.ofNat n) w := rfl

theorem ble_le {m n : Nat} (h : Nat.ble m n = true) : m ≤ n := by simpa using h
theorem blt_lt {m n : Nat} (h : Nat.blt m n = true) : m < n := by rw [nblt] at h; simpa using h
theorem beq_eq' {m n : Nat} (h : Nat.beq m n = true) : m = n := Nat.eq_of_beq_eq_true h
theorem beq_ne' {m n : Nat} (h : Nat.beq m n = false) : m ≠ n := Nat.ne_of_beq_eq_false h

/-- the index of an address in a slice -/
theorem s_iaddrS {x i : Value} {x' i' : Value} (hx : VRel φ x x') (hi : VRel φ i i') {b : Addr} {len cap k esz : Nat} (ex : x = .slice (some b) len cap) (ei : natOf i = some k) (hk : k < len)
    {ty e : TypeId} (ht : P.underlying ty = some (.slice e)) {inf : TypeInfo} (he : P.info? e = some inf) (hsz : inf.size = esz) :
    ∃ v', (Instr.indexAt ty x' i').run P w = .ok v' w ∧ VRel φ (.pointer (some (addA b (k * esz)))) v' := by
  subst ex
  obtain ⟨im, c', rfl, h1, h2, h3, h4⟩ := hx.slice_inv
  obtain ⟨ik, rfl⟩ := natOf_some ei
  obtain rfl := hi.int_inv
  have hA : ARel φ (addA b (k * esz)) ((⟨im.blk, b.off, none⟩ : Addr).add (k * esz)) := ARel.add ⟨im, h1, rfl, h2⟩ _
  refine ⟨.pointer (some ((⟨im.blk, b.off, none⟩ : Addr).add (k * esz))), ?_, .ptr _ _ hA⟩
  have hlt : (0 : Int) ≤ Int.ofNat k ∧ Int.ofNat k < (len : Int) := by simp only [Int.ofNat_eq_natCast]; omega
  simp only [Instr.indexAt, Sem.run_bind, asIntOf_nat, Result.andThen_ok, run_underlying ht, Sem.run_pure, if_pos hlt, run_sizeOf' w he, hsz]
  rfl

theorem s_iaddrA {x i : Value} {x' i' : Value} (hx : VRel φ x x') (hi : VRel φ i i') {b : Addr} {len k esz : Nat} (ex : x = .pointer (some b)) (ei : natOf i = some k) (hk : k < len)
    {ty e : TypeId} (ht : P.underlying ty = some (.array len e)) {inf : TypeInfo} (he : P.info? e = some inf) (hsz : inf.size = esz) :
    ∃ v', (Instr.indexAt ty x' i').run P w = .ok v' w ∧ VRel φ (.pointer (some (addA b (k * esz)))) v' := by
  subst ex
  obtain ⟨b', rfl, hb⟩ := hx.ptr_inv
  obtain ⟨ik, rfl⟩ := natOf_some ei
  obtain rfl := hi.int_inv
  refine ⟨.pointer (some (b'.add (k * esz))), ?_, .ptr _ _ (hb.add _)⟩
  have hlt : (0 : Int) ≤ Int.ofNat k ∧ Int.ofNat k < (len : Int) := by simp only [Int.ofNat_eq_natCast]; omega
  simp only [Instr.indexAt, Instr.sureAddr, Sem.run_bind, asIntOf_nat, Result.andThen_ok, run_underlying ht, Sem.run_pure, if_pos hlt, run_sizeOf' w he, hsz]
  rfl

theorem s_faddr {x x' : Value} (hx : VRel φ x x') {b : Addr} (ex : x = .pointer (some b)) {ty : TypeId} {fs : Array Field} {n : Nat} {f : Field} (ht : P.underlying ty = some (.struct fs)) (hf : fs[n]? = some f)
    {inf : TypeInfo} (he : P.info? f.type = some inf) (hsz : inf.size ≠ 0) :
    ∃ v', (Instr.fieldAt ty x' n).run P w = .ok v' w ∧ VRel φ (.pointer (some (addA b f.offset))) v' := by
  subst ex
  obtain ⟨b', rfl, hb⟩ := hx.ptr_inv
  refine ⟨.pointer (some (b'.add f.offset)), ?_, .ptr _ _ (hb.add _)⟩
  simp only [Instr.fieldAt, Instr.sureAddr, fieldPlace, Sem.run_bind, Result.andThen_ok, run_underlying ht, hf, Sem.run_pure, run_sizeOf' w he, if_neg hsz]

/-- a part of an aggregate -/
theorem s_part {cs cs' : Array Value} (h : LRel φ cs.toList cs'.toList) {e : TypeId} {d : TypeDesc} {inf : TypeInfo} (hu : P.underlying e = some d) (he : P.info? e = some inf) {off : Nat} {v : Value}
    (hv : partOf cs.toList off (if isAggD d then some inf.size else none) = some v) : ∃ v', (part e cs' off).run P w = .ok v' w ∧ VRel φ v v' := by
  unfold part
  simp only [Sem.run_bind, run_isAgg' w hu, Result.andThen_ok]
  cases hd : isAggD d
  · rw [hd] at hv
    simp only [Bool.false_eq_true, if_false, partOf, nth_eq] at hv ⊢
    obtain ⟨v', h1, h2⟩ := h.get _ _ hv
    rw [Array.getElem?_toList] at h1
    exact ⟨v', by simp [h1], h2⟩
  · rw [hd] at hv
    simp only [if_true, partOf, dropN_eq] at hv ⊢
    cases htk : takeN inf.size (cs.toList.drop off) with
    | none => rw [htk] at hv; simp at hv
    | some l =>
      rw [htk] at hv; simp at hv; subst hv
      obtain ⟨h1, h2⟩ := takeN_some htk
      refine ⟨.agg (cs'.extract off (off + inf.size)), by simp only [Sem.run_bind, run_sizeOf' w he, Result.andThen_ok, Sem.run_pure], ?_⟩
      have hlen := h.length
      have hl : LRel φ l (cs'.extract off (off + inf.size)).toList := by
        refine LRel.of_get _ _ ?_ ?_
        · subst h1; simp only [List.length_take, List.length_drop, Array.length_toList] at h2 hlen ⊢; simp only [Array.size_extract]; omega
        · intro k v hk
          subst h1
          rw [List.getElem?_take] at hk
          split at hk
          · rename_i hlt
            rw [List.getElem?_drop] at hk
            obtain ⟨v', q1, q2⟩ := h.get _ _ hk
            refine ⟨v', ?_, q2⟩
            rw [Array.toList_extract]
            simp only [List.extract_eq_take_drop, List.getElem?_take]
            rw [if_pos (by omega), List.getElem?_drop]
            exact q1
          · simp at hk
      exact .agg _ _ hl


def BndOk (o : Option Value) (d n : Nat) : Prop := match o with
  | none => n = d
  | some v => ∃ k, v = .int k (Int.ofNat n)

theorem boundOf_ok (ht : TRel φ t a) {o : Option Operand} (hok : ∀ x, o = some x → okO x = true) {d n : Nat} (h : boundOf t o d = some n) : BndOk (o.map a.eval) d n := by
  cases o with
  | none => simp [boundOf] at h; exact h.symm
  | some x =>
    obtain ⟨k, hk⟩ := natOf_some (show natOf (evalO t x) = some n from h)
    have := evalO_rel ht (hok x rfl)
    rw [hk] at this
    exact ⟨k, this.int_inv⟩

theorem run_sliceBound {v : Value} {n y : Nat} {c : BoundsCode} (h : ∃ k, v = .int k (Int.ofNat n)) (hn : n ≤ y) : (Instr.sliceBound v y c).run P w = .ok n w := by
  obtain ⟨k, rfl⟩ := h
  have hlt : (0 : Int) ≤ Int.ofNat n ∧ Int.ofNat n ≤ (y : Int) := by simp only [Int.ofNat_eq_natCast]; omega
  simp only [Instr.sliceBound, Sem.run_bind, asIntOf_nat, Result.andThen_ok, if_pos hlt, Sem.run_pure]
  rfl

theorem run_sliceBounds {isS : Bool} {len cap : Nat} {lo hi mx : Option Value} {l h m : Nat} (hl : BndOk lo 0 l) (hh : BndOk hi len h) (hm : BndOk mx cap m) (hx : hi = none → mx = none)
    (h1 : l ≤ h) (h2 : h ≤ m) (h3 : m ≤ cap) : (Instr.sliceBounds isS len cap lo hi mx).run P w = .ok (l, h, m) w := by
  unfold Instr.sliceBounds
  cases mx with
  | none =>
    simp only [BndOk] at hm
    subst hm
    cases hi with
    | none =>
      simp only [BndOk] at hh
      subst hh
      cases lo with
      | none => simp only [BndOk] at hl; subst hl; simp
      | some v => simp [run_sliceBound w hl h1]
    | some u =>
      cases lo with
      | none => simp only [BndOk] at hl; subst hl; simp [run_sliceBound w hh h2]
      | some v => simp [run_sliceBound w hh h2, run_sliceBound w hl h1]
  | some x =>
    cases hi with
    | none => exact absurd (hx rfl) (by simp)
    | some u =>
      cases lo with
      | none => simp only [BndOk] at hl; subst hl; simp [run_sliceBound w hm h3, run_sliceBound w hh h2]
      | some v => simp [run_sliceBound w hm h3, run_sliceBound w hh h2, run_sliceBound w hl h1]

theorem s_sliceS {x x' : Value} (hx : VRel φ x x') {b : Option Addr} {len cap : Nat} (ex : x = .slice b len cap) {lo hi mx : Option Value} {l h m esz : Nat}
    (hl : BndOk lo 0 l) (hh : BndOk hi len h) (hm : BndOk mx cap m) (hmx : hi = none → mx = none) (h1 : l ≤ h) (h2 : h ≤ m) (h3 : m ≤ cap)
    {ty e : TypeId} (ht : P.underlying ty = some (.slice e)) {inf : TypeInfo} (he : P.info? e = some inf) (hsz : inf.size = esz) {v : Value}
    (hv : sliceV b l h m esz mx.isSome = some v) :
    ∃ v', (Instr.sliceAt ty x' lo hi mx).run P w = .ok v' w ∧ VRel φ v v' := by
  subst ex
  have start : ∀ {len' cap' : Nat} {b' : Option Addr} {m' : Nat}, BndOk hi len' h → BndOk mx cap' m' → m ≤ m' → m' ≤ cap' →
      (Instr.sliceAt ty (.slice b' len' cap') lo hi mx).run P w = .ok (.slice (if m' = l then b' else b'.map (·.add (l * esz))) (h - l) (m' - l)) w := by
    intro len' cap' b' m' q1 q2 q3 q4
    simp only [Instr.sliceAt, Instr.slice, Sem.run_bind, run_underlying ht, Result.andThen_ok, run_sliceBounds w hl q1 q2 hmx h1 (Nat.le_trans h2 q3) q4, run_sizeOf' w he, hsz, Sem.run_pure]
  cases b with
  | none =>
    obtain rfl := hx.sliceNil_inv
    simp only [sliceV, Option.some.injEq] at hv
    subst hv
    refine ⟨_, start hh hm (Nat.le_refl _) h3, ?_⟩
    have : (if m = l then (none : Option Addr) else (none : Option Addr).map (·.add (l * esz))) = none := by split <;> rfl
    rw [this]; exact .sliceNil _ _
  | some b =>
    obtain ⟨im, c', rfl, g1, g2, g3, g4⟩ := hx.slice_inv
    have hcap : cap ≤ c' := by
      unfold capRel at g3; split at g3
      · omega
      · exact g3.1
    -- the bound of the capacity, as the model has it
    obtain ⟨m', hm', hmm, hmc, hsame⟩ : ∃ m', BndOk mx c' m' ∧ m ≤ m' ∧ m' ≤ c' ∧ ((mx.isSome = true ∨ im.grow = none) → m' = m) := by
      cases mx with
      | some u => exact ⟨m, hm, Nat.le_refl _, by omega, fun _ => rfl⟩
      | none =>
        simp only [BndOk] at hm
        subst hm
        refine ⟨c', rfl, hcap, Nat.le_refl _, fun hor => ?_⟩
        rcases hor with hor | hor
        · simp at hor
        · rw [hor] at g3; exact g3
    refine ⟨_, start hh hm' hmm hmc, ?_⟩
    simp only [sliceV] at hv
    cases hml : Nat.beq m l with
    | true =>
      obtain rfl := beq_eq' hml
      rw [hml] at hv
      simp only [cond_true] at hv
      cases hc : (Nat.beq m 0 || mx.isSome || b.spot.isNone) with
      | false => rw [hc] at hv; simp at hv
      | true =>
        rw [hc] at hv
        simp only [cond_true, Option.some.injEq] at hv
        subst hv
        have hhm : h - m = 0 := by omega
        rw [hhm]
        simp only [Bool.or_eq_true] at hc
        -- the address stays
        have haddr : (if m' = m then some (⟨im.blk, b.off, none⟩ : Addr) else (some (⟨im.blk, b.off, none⟩ : Addr)).map (·.add (m * esz))) = some ⟨im.blk, b.off, none⟩ := by
          by_cases hz : m' = m
          · rw [if_pos hz]
          · rw [if_neg hz]
            rcases hc with (hc | hc) | hc
            · have := beq_eq' hc; subst this; simp [Addr.add]
            · exact absurd (hsame (.inl hc)) hz
            · have hg : im.grow = none := by
                rw [g2] at hc
                cases hgr : im.grow with
                | none => rfl
                | some z => rw [hgr] at hc; simp [spotOf] at hc
              exact absurd (hsame (.inr hg)) hz
        rw [haddr]
        refine .slice _ _ _ _ _ im g1 rfl g2 ?_ (Nat.le_refl _)
        unfold capRel at g3 ⊢
        cases hgr : im.grow with
        | none => rw [hgr] at g3; simp only; have := hsame (.inr hgr); omega
        | some z =>
          rw [hgr] at g3; simp only at g3 ⊢
          refine ⟨Nat.zero_le _, Nat.le_trans ?_ g3.2⟩
          exact Nat.add_le_add_left (Nat.mul_le_mul_right _ (by omega)) _
    | false =>
      have hne := beq_ne' hml
      rw [hml] at hv
      simp only [cond_false] at hv
      cases hsf : spotFits b.spot esz with
      | false => rw [hsf] at hv; simp at hv
      | true =>
      rw [hsf] at hv
      simp only [cond_true, Option.some.injEq] at hv
      subst hv
      have hne' : ¬ m' = l := by omega
      rw [if_neg hne']
      simp only [Option.map_some]
      have hA := ARel.add (φ := φ) (b := b) (b' := ⟨im.blk, b.off, none⟩) ⟨im, g1, rfl, g2⟩ (l * esz)
      obtain ⟨im2, k1, k2, k3⟩ := hA
      rw [addA_block] at k1
      obtain rfl : im = im2 := by rw [g1] at k1; exact Option.some.inj k1
      rw [k2]
      refine .slice _ _ _ _ _ im (by rw [addA_block]; exact g1) rfl k3 ?_ (by omega)
      rw [addA_off]
      unfold capRel at g3 ⊢
      cases hgr : im.grow with
      | none => rw [hgr] at g3; simp only; have := hsame (.inr hgr); omega
      | some z =>
        obtain ⟨ez, sz⟩ := z
        rw [hgr] at g3
        simp only at g3 ⊢
        refine ⟨by omega, ?_⟩
        rw [g2, hgr] at hsf
        have hez : ez = esz := beq_eq' hsf
        subst hez
        have : l * ez + (m' - l) * ez = m' * ez := by rw [← Nat.add_mul]; congr 1; omega
        have h5 : m' * ez ≤ c' * ez := Nat.mul_le_mul_right _ hmc
        omega


theorem s_sliceT {s : ByteArray} {lo hi mx : Option Value} {l h : Nat} (hl : BndOk lo 0 l) (hh : BndOk hi s.size h) (hmx : mx = none) (h1 : l ≤ h) (h2 : h ≤ s.size)
    {ty : TypeId} (ht : P.underlying ty = some .string) : (Instr.sliceAt ty (.string s) lo hi mx).run P w = .ok (.string (s.extract l h)) w := by
  subst hmx
  have hb : (Instr.sliceBounds false s.size s.size lo hi none).run P w = .ok (l, h, s.size) w :=
    run_sliceBounds (P := P) (isS := false) (len := s.size) (cap := s.size) (mx := none) (m := s.size) w hl hh rfl (fun _ => rfl) h1 h2 (Nat.le_refl _)
  simp only [Instr.sliceAt, Instr.slice, Sem.run_bind, run_underlying ht, Result.andThen_ok, Option.isSome_none, Bool.false_eq_true, if_false, hb, Sem.run_pure]

theorem s_sliceP_core {b b' : Addr} (hb : ARel φ b b') (hs : b.spot = none) {n l h m esz : Nat} (h1 : l ≤ h) (h2 : h ≤ m) (_h3 : m ≤ n) :
    VRel φ (.slice (some (bif Nat.beq m l then b else addA b (l * esz))) (h - l) (m - l)) (.slice (some (if m = l then b' else b'.add (l * esz))) (h - l) (m - l)) := by
  have hc : ∀ {x x' : Addr}, ARel φ x x' → x.spot = none → VRel φ (.slice (some x) (h - l) (m - l)) (.slice (some x') (h - l) (m - l)) := by
    intro x x' hx hxs
    obtain ⟨im, q1, rfl, q3⟩ := hx
    refine .slice _ _ _ _ _ im q1 rfl q3 ?_ (by omega)
    have : im.grow = none := by
      rw [hxs] at q3
      cases hg : im.grow with
      | none => rfl
      | some z => rw [hg] at q3; simp [spotOf] at q3
    rw [this]; rfl
  cases hml : Nat.beq m l with
  | true => rw [if_pos (beq_eq' hml)]; exact hc hb hs
  | false => rw [if_neg (beq_ne' hml)]; exact hc (hb.add _) (by show (addA b (l * esz)).spot = none; rw [addA_spot]; exact hs)

theorem s_sliceA {b b' : Addr} (hb : ARel φ b b') (hs : b.spot = none) {lo hi mx : Option Value} {n l h m esz : Nat} (hl : BndOk lo 0 l) (hh : BndOk hi n h) (hm : BndOk mx n m) (hmx : hi = none → mx = none)
    (h1 : l ≤ h) (h2 : h ≤ m) (h3 : m ≤ n) {ty e : TypeId} {inf : TypeInfo} (he : P.info? e = some inf) (hsz : inf.size = esz)
    (ht : P.underlying ty = some (.array n e) ∨ ∃ arr, P.underlying ty = some (.pointer arr) ∧ P.underlying arr = some (.array n e)) :
    ∃ v', (Instr.sliceAt ty (.pointer (some b')) lo hi mx).run P w = .ok v' w ∧ VRel φ (.slice (some (bif Nat.beq m l then b else addA b (l * esz))) (h - l) (m - l)) v' := by
  refine ⟨_, ?_, s_sliceP_core hb hs h1 h2 h3⟩
  have hbd := fun isS => run_sliceBounds (P := P) (isS := isS) w hl hh hm hmx h1 h2 h3
  rcases ht with ht | ⟨arr, ht, ha⟩
  · simp only [Instr.sliceAt, Instr.sureAddr, Sem.run_bind, run_underlying ht, Result.andThen_ok, hbd false, run_sizeOf' w he, hsz, Sem.run_pure]
  · simp only [Instr.sliceAt, Instr.slice, asAddr, Sem.run_bind, run_underlying ht, run_underlying ha, Result.andThen_ok, hbd false, run_sizeOf' w he, hsz, Sem.run_pure]

theorem s_minmax {isMax : Bool} {x x' y y' v : Value} (h : minmaxV isMax x y = some v) (hx : VRel φ x x') (hy : VRel φ y y') :
    ((if isMax then Builtin.max2 else Builtin.min2) x' y').run P w = .ok v w ∧ VRel φ v v := by
  unfold minmaxV at h
  split at h
  · obtain rfl := hx.int_inv; obtain rfl := hy.int_inv
    simp only [Option.some.injEq] at h; subst h
    refine ⟨?_, .int _ _⟩
    cases isMax
    · simp only [Bool.false_eq_true, if_false, Builtin.min2, Sem.run_pure, cond_false, ilt_eq]
      congr 2
      rename_i k1 p k2 q
      by_cases hlt : q < p <;> simp [hlt]
    · simp only [if_true, Builtin.max2, Sem.run_pure, cond_true, ilt_eq]
      congr 2
      rename_i k1 p k2 q
      by_cases hlt : p < q <;> simp [hlt]
  · simp at h

theorem s_foldMM {isMax : Bool} (ht : TRel φ t a) : ∀ {r : List Operand} {v v' u : Value}, (∀ x ∈ r, okO x = true) → foldMM isMax t r v = some u → VRel φ v v' →
    ∃ u', (List.foldlM (if isMax then Builtin.max2 else Builtin.min2) v' (r.map a.eval)).run P w = .ok u' w ∧ VRel φ u u'
  | [], v, v', u, _, h, hv => by simp [foldMM] at h; subst h; exact ⟨v', rfl, hv⟩
  | x :: r, v, v', u, hok, h, hv => by
    simp only [foldMM] at h
    cases hm : minmaxV isMax v (evalO t x) with
    | none => rw [hm] at h; simp at h
    | some q =>
      rw [hm] at h
      obtain ⟨h1, h2⟩ := s_minmax (P := P) w hm hv (evalO_rel ht (hok x (by simp)))
      obtain ⟨u', k1, k2⟩ := s_foldMM ht (fun y hy => hok y (by simp [hy])) h h2
      exact ⟨u', by simp only [List.map_cons, List.foldlM_cons, Sem.run_bind, h1, Result.andThen_ok, k1], k2⟩


theorem foldl_set (off : Nat) : ∀ (l : List Value) (s : Nat) (arr : Array Value), off + s + l.length ≤ arr.size →
    ((l.zipIdx s).foldl (fun cs (x : Value × Nat) => cs.setIfInBounds (off + x.2) x.1) arr).size = arr.size ∧
    ∀ k, ((l.zipIdx s).foldl (fun cs (x : Value × Nat) => cs.setIfInBounds (off + x.2) x.1) arr)[k]? = if off + s ≤ k ∧ k < off + s + l.length then l[k - (off + s)]? else arr[k]?
  | [], s, arr, _ => by simp; intro k h1 h2; omega
  | v :: l, s, arr, h => by
    simp only [List.zipIdx_cons, List.foldl_cons, List.length_cons] at h ⊢
    obtain ⟨h1, h2⟩ := foldl_set off l (s + 1) (arr.setIfInBounds (off + s) v) (by simp; omega)
    refine ⟨by rw [h1]; simp, fun k => ?_⟩
    rw [h2 k]
    by_cases hk : k = off + s
    · subst hk
      rw [if_neg (by omega), if_pos (by omega)]
      have : off + s < arr.size := by omega
      simp [this]
    · by_cases hr : off + s + 1 ≤ k ∧ k < off + s + 1 + l.length
      · rw [if_pos (by omega), if_pos (by omega), show k - (off + s) = (k - (off + (s + 1))) + 1 from by omega, List.getElem?_cons_succ]
      · rw [if_neg (by omega), if_neg (by omega), Array.getElem?_setIfInBounds_ne (by omega)]

theorem VRel.cells_rel {v v' : Value} (h : VRel φ v v') : LRel φ v.cells.toList v'.cells.toList := by
  cases h
  case agg a b h => exact h
  all_goals (refine .cons _ _ _ _ ?_ .nil)
  case bool => exact .bool _
  case int => exact .int _ _
  case float => exact .float _ _
  case nan h1 h2 => exact .nan _ _ _ h1 h2
  case complex => exact .complex _ _ _
  case string => exact .string _
  case ptrNil => exact .ptrNil
  case ptr h => exact .ptr _ _ h
  case sliceNil => exact .sliceNil _ _
  case slice h1 h2 h3 h4 h5 => exact .slice _ _ _ _ _ _ h1 h2 h3 h4 h5
  case mapNil => exact .mapNil
  case map h => exact .map _ _ _ h
  case func h1 h2 => exact .func _ _ _ _ _ h1 h2
  case nilFunc => exact .nilFunc
  case iface h => exact .iface _ _ _ h
  case nilIface => exact .nilIface
  case tuple h => exact .tuple _ _ h

theorem s_fill (ht : TRel φ t a) (place : Nat → Option (Nat × Nat)) : ∀ {ps : List (Nat × Operand)} {qs : List (Nat × Nat × Operand)} {c r : List Value} {c' : Array Value},
    (∀ x ∈ ps, okO x.2 = true) → ps.length = qs.length → (∀ (k : Nat) (p : Nat × Operand) (q : Nat × Nat × Operand), ps[k]? = some p → qs[k]? = some q → place p.1 = some (q.1, q.2.1) ∧ q.2.2 = p.2) →
    fillP t qs c = some r → LRel φ c c'.toList → ∃ r', Instr.fill place c' (ps.map fun p => (p.1, a.eval p.2)) = some r' ∧ LRel φ r r'.toList
  | [], [], c, r, c', _, _, _, h, hc => by simp [fillP] at h; subst h; exact ⟨c', rfl, hc⟩
  | [], _ :: _, _, _, _, _, hl, _, _, _ => by simp at hl
  | _ :: _, [], _, _, _, _, hl, _, _, _ => by simp at hl
  | (i, x) :: ps, (off, size, y) :: qs, c, r, c', hok, hl, hp, h, hc => by
    obtain ⟨hpl, hxy⟩ := hp 0 (i, x) (off, size, y) (by simp) (by simp)
    simp only at hpl hxy
    subst hxy
    simp only [fillP] at h
    have hv := (evalO_rel ht (hok (i, y) (by simp))).cells_rel
    cases hb : Nat.beq (evalO t y).cells.toList.length size with
    | false => rw [hb] at h; simp at h
    | true =>
      rw [hb] at h
      simp only [cond_true] at h
      have hsz := beq_eq' hb
      cases hput : putAt (evalO t y).cells.toList off c with
      | none => rw [hput] at h; simp at h
      | some c2 =>
        rw [hput] at h
        simp only at h
        obtain ⟨p1, p2, p3⟩ := putAt_some hput
        have hlen := hv.length
        have hcl := hc.length
        have hfit : off + (a.eval y).cells.toList.length ≤ c'.size := by rw [← hlen]; rw [← Array.length_toList, ← hcl]; exact p1
        obtain ⟨f1, f2⟩ := foldl_set off (a.eval y).cells.toList 0 c' (by simpa using hfit)
        -- the model's cells behind the part
        have hfold : ((a.eval y).cells.zipIdx.foldl (fun cs (x : Value × Nat) => cs.setIfInBounds (off + x.2) x.1) c') = (((a.eval y).cells.toList.zipIdx 0).foldl (fun cs (x : Value × Nat) => cs.setIfInBounds (off + x.2) x.1) c') := by
          rw [← Array.foldl_toList, Array.toList_zipIdx]
        have hrel : LRel φ c2 ((a.eval y).cells.zipIdx.foldl (fun cs (x : Value × Nat) => cs.setIfInBounds (off + x.2) x.1) c').toList := by
          rw [hfold]
          refine LRel.of_get _ _ (by simp only [Array.length_toList] at hcl ⊢; rw [p2, f1]; exact hcl) ?_
          intro k v hk
          rw [p3 k] at hk
          rw [Array.getElem?_toList, f2 k]
          simp only [Nat.add_zero]
          rw [hlen] at hk
          split at hk
          · rename_i hin
            rw [if_pos hin]
            exact hv.get _ _ hk
          · rename_i hin
            rw [if_neg hin]
            obtain ⟨w', q1, q2⟩ := hc.get _ _ hk
            exact ⟨w', by rwa [Array.getElem?_toList] at q1, q2⟩
        obtain ⟨r', k1, k2⟩ := s_fill ht place (ps := ps) (fun z hz => hok z (List.mem_cons_of_mem _ hz)) (by simpa using hl)
          (fun k p q h1 h2 => hp (k + 1) p q (by simpa using h1) (by simpa using h2)) h hrel
        refine ⟨r', ?_, k2⟩
        simp only [List.map_cons, Instr.fill, hpl]
        rw [if_neg]
        · exact k1
        · simp only [Array.length_toList] at hsz hlen hfit
          intro hor
          simp only [ne_eq, Bool.or_eq_true, decide_eq_true_eq] at hor
          omega

end

end Go.Ab
