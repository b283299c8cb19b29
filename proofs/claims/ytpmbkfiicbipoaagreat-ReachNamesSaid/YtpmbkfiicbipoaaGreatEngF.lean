/- A part of the proof. The abstract machine: how the model's operations become its own. No condition. -/
import Derived.Test.YtpmbkfiicbipoaaGreatEngE
/-! The abstract machine: how the model's operations become its own. -/
namespace Go.Ab

structure TI where
  desc : TypeDesc
  size : Nat
  bytes : Nat
  zero : Option Value
  methods : Array Method
  /-- of a struct whose fields can be compared at once: where they are, and what -/
  flat : Option (List (Nat × TypeDesc))
  deriving Inhabited

structure TOk (P : Program) (tt : T TI) : Prop where
  desc : ∀ t i, tt.get t = some i → P.underlying t = some i.desc
  info : ∀ t i, tt.get t = some i → ∃ inf, P.info? t = some inf ∧ inf.size = i.size ∧ inf.bytes = i.bytes ∧ (∀ z, i.zero = some z → inf.zero = some z ∧ plainV 8 z = true) ∧ inf.methods = i.methods
  flat : ∀ t i ds, tt.get t = some i → i.flat = some ds → ∃ fs, i.desc = .struct fs ∧ FlatFields P fs.toList ds ∧ P.stoodInHeld t = false ∧ P.eqGuardType P.depth t = false

section comp
variable (tt : T TI)

def aggOf (i : TI) : Option Nat := if isAggD i.desc then some i.size else none

def optAll {α β : Type} (f : α → Option β) : List α → Option (List β)
  | [] => some []
  | a :: l => match f a with
    | none => none
    | some b => match optAll f l with | some r => some (b :: r) | none => none

theorem optAll_some {α β : Type} {f : α → Option β} : ∀ {l : List α} {r : List β}, optAll f l = some r → l.length = r.length ∧ ∀ (k : Nat) (a : α) (b : β), l[k]? = some a → r[k]? = some b → f a = some b
  | [], r, h => by simp [optAll] at h; subst h; simp
  | a :: l, r, h => by
    simp only [optAll] at h
    cases ha : f a with
    | none => rw [ha] at h; simp at h
    | some b =>
      rw [ha] at h
      cases hl : optAll f l with
      | none => rw [hl] at h; simp at h
      | some q =>
        rw [hl] at h; simp at h; subst h
        obtain ⟨h1, h2⟩ := optAll_some hl
        refine ⟨by simp [h1], fun k x y hx hy => ?_⟩
        cases k with
        | zero => simp at hx hy; subst hx; subst hy; exact ha
        | succ k => exact h2 k x y (by simpa using hx) (by simpa using hy)

/-- where the fields of a struct lie -/
def fieldPlaces (fs : List Field) : Option (List (Nat × Nat)) := optAll (fun f => match tt.get f.type with | some i => some (f.offset, i.size) | none => none) fs

def partsOf (place : Nat → Option (Nat × Nat)) (ps : List (Nat × Operand)) : Option (List (Nat × Nat × Operand)) :=
  optAll (fun p => match place p.1 with | some q => some (q.1, q.2, p.2) | none => none) ps

def repeatN {α : Type} (l : List α) : Nat → List α
  | 0 => []
  | n + 1 => l ++ repeatN l n

def isIface : TypeDesc → Bool | .interface _ => true | _ => false
def isInt : TypeDesc → Bool | .int _ => true | _ => false

def compBin (op : BinOp) (i : TI) (x y : Operand) : IOp :=
  match op, i.flat with
  | .eql, some ds => .eqs false ds x y
  | .neq, some ds => .eqs true ds x y
  | op, _ => .bin op i.desc (isC x || isC y) x y

def compBuiltin (b : Builtin) (args : List Operand) (ts : List TypeId) : Option IOp :=
  match b, args, ts with
  | .len, [x], [t] => match tt.get t with
    | some i => match i.desc with
      | .string => some (.lent x)
      | .slice _ => some (.lenv x)
      | .map _ _ => some (.lenm x)
      | .array n _ => some (.lenc n)
      | .pointer a => match tt.get a with
        | some j => (match j.desc with | .array n _ => some (.lenc n) | _ => none)
        | none => none
      | _ => none
    | none => none
  | .cap, [x], [t] => match tt.get t with
    | some i => (match i.desc with | .slice _ => some (.capv x) | _ => none)
    | none => none
  | .append, [x, y], [t, u] => match tt.get t, tt.get u with
    | some i, some k => match i.desc with
      | .slice e => match tt.get e with
        | some j => match j.zero with
          | some z => if 0 < j.size ∧ 0 < j.bytes ∧ j.bytes ≤ 1048576 ∧ z.cells.toList.length = j.size then
              (bif isInt k.desc then some (.appendZ x y j.size j.bytes z.cells.toList) else some (.append x y j.size j.bytes)) else none
          | none => none
        | none => none
      | _ => none
    | _, _ => none
  | .clear, [x], [t] => match tt.get t with
    | some i => match i.desc with
      | .slice e => match tt.get e with
        | some j => match j.zero with
          | some z => if z.cells.toList.length = j.size then some (.clearS x j.size z.cells.toList) else none
          | none => none
        | none => none
      | _ => none
    | none => none
  | .copy, [x, y], [t, _] => match tt.get t with
    | some i => match i.desc with
      | .slice e => match tt.get e with | some j => some (.copy x y j.size) | none => none
      | _ => none
    | none => none
  | .min, x :: r, _ => some (.minmax false x r)
  | .max, x :: r, _ => some (.minmax true x r)
  | _, _, _ => none

def compOp (o : Oper) : Option IOp :=
  match o.op with
  | .move x | .assign x => some (.mov x)
  | .pick c a b => some (.pick c a b)
  | .nilCheck x => some (.nilc x)
  | .alloc e => match tt.get e with
    | some i => (match i.zero with | some z => some (.alloc z.cells.toList) | none => none)
    | none => none
  | .box _ x => some (.box x)
  | .build t parts => match tt.get t with
    | some i => match i.zero, i.desc with
      | some z, .struct fields => (match fieldPlaces tt fields.toList with
        | some pl => (match partsOf (fun k => pl[k]?) parts.toList with | some ps => some (.build z.cells.toList ps) | none => none)
        | none => none)
      | some z, .array _ e => (match tt.get e with
        | some j => (match partsOf (fun k => some (k * j.size, j.size)) parts.toList with | some ps => some (.build z.cells.toList ps) | none => none)
        | none => none)
      | _, _ => none
    | none => none
  | .buildSlice t len parts => match tt.get t with
    | some i => match i.desc with
      | .slice e => match tt.get e with
        | some j => match j.zero with
          | some z => (match partsOf (fun k => some (k * j.size, j.size)) parts.toList with
            | some ps => if len * j.size ≤ 16777216 ∧ 0 < j.size ∧ z.cells.toList.length = j.size then some (.buildSl len (repeatN z.cells.toList len) ps) else none
            | none => none)
          | none => none
        | none => none
      | _ => none
    | none => none
  | .load t a => match tt.get t with | some i => some (.load (aggOf i) a) | none => none
  | .store t a x => match tt.get t with | some i => some (.store i.size a x) | none => none
  | .binOp op t x y _ => match tt.get t with | some i => some (compBin op i x y) | none => none
  | .unOp op _ x => some (.un op x)
  | .convert s d x => match tt.get s, tt.get d with | some _, some j => some (.conv j.desc x) | _, _ => none
  | .sliceToArrayPointer t x => match tt.get t with
    | some i => (match i.desc with | .array n _ => some (.s2ap n x) | _ => none)
    | none => none
  | .makeInterface t x => match tt.get t with | some i => bif isIface i.desc then none else some (.iface t x) | none => none
  | .makeFunc fn first captured => some (.mkfn fn first.toList captured.toList)
  | .makeSlice t l c => match tt.get t with
    | some i => match i.desc with
      | .slice e => match tt.get e with
        | some j => match j.zero with
          | some z => if 0 < j.size ∧ z.cells.toList.length = j.size then some (.makeSl l c j.size j.bytes z.cells.toList) else none
          | none => none
        | none => none
      | _ => none
    | none => none
  | .slice t x lo hi mx => bif mx.isSome && hi.isNone then none else match tt.get t with
    | some i => match i.desc with
      | .string => bif mx.isSome then none else some (.sliceT x lo hi)
      | .slice e => (match tt.get e with | some j => some (.sliceS x lo hi mx j.size) | none => none)
      | .array n e => (match tt.get e with | some j => some (.sliceP x lo hi mx n j.size) | none => none)
      | .pointer p => (match tt.get p with
        | some q => (match q.desc with
          | .array n e => (match tt.get e with | some j => some (.sliceP x lo hi mx n j.size) | none => none)
          | _ => none)
        | none => none)
      | _ => none
    | none => none
  | .fieldAddr t x f => match tt.get t with
    | some i => match i.desc with
      | .struct fields => (match fields[f]? with
        | some f => (match tt.get f.type with | some j => if j.size = 0 then none else some (.faddr x f.offset) | none => none)
        | none => none)
      | _ => none
    | none => none
  | .field t x f => match tt.get t with
    | some i => match i.desc with
      | .struct fields => (match fields[f]? with
        | some f => (match tt.get f.type with | some j => some (.fieldv x f.offset (aggOf j)) | none => none)
        | none => none)
      | _ => none
    | none => none
  | .indexAddr t x k => match tt.get t with
    | some i => match i.desc with
      | .slice e => (match tt.get e with | some j => some (.iaddrS x k j.size) | none => none)
      | .array n e => (match tt.get e with | some j => some (.iaddrA x k n j.size) | none => none)
      | _ => none
    | none => none
  | .index t x k => match tt.get t with
    | some i => match i.desc with
      | .array n e => (match tt.get e with | some j => some (.indexA x k n j.size (aggOf j)) | none => none)
      | .string => some (.indexS x k)
      | _ => none
    | none => none
  | .extract x i => some (.extr x i)
  | .typeAssert x _ t ok => match tt.get t with
    | some i => (match i.zero with
      | some z => bif isIface i.desc then none else bif plainV 8 z then some (.tassert x t z ok) else none
      | none => none)
    | none => none
  | .makeMap _ none => some .makeMap
  | .insert t m k v | .mapUpdate t m k v => match tt.get t with
    | some i => match i.desc with
      | .map kt _ => (match tt.get kt with | some j => bif scalarD j.desc then some (.insert j.desc m k v) else none | none => none)
      | _ => none
    | none => none
  | .lookup t m k ok => match tt.get t with
    | some i => match i.desc with
      | .map kt e => (match tt.get kt, tt.get e with
        | some j, some q => (match q.zero with | some z => bif scalarD j.desc && plainV 8 z then some (.lookup j.desc m k z ok) else none | none => none)
        | _, _ => none)
      | _ => none
    | none => none
  | .call c => match c.callee with
    | .value (.func f) => some (.call f c.args.toList)
    | .value x => some (.callv x c.args.toList)
    | .invoke r name => some (.meth r name c.args.toList)
    | .builtin b => compBuiltin tt b c.args.toList c.argTypes.toList
  | _ => none
end comp

/-- the operations that touch no memory -/
def isPure : IOp → Bool
  | .mov _ | .pick .. | .nilc _ | .bin .. | .eqs .. | .un .. | .conv .. | .iface .. | .mkfn .. | .faddr .. | .iaddrS .. | .iaddrA .. | .fieldv .. | .indexA .. | .indexS .. | .sliceS .. | .sliceT .. | .sliceP ..
  | .extr .. | .lenv _ | .lent _ | .lenc _ | .capv _ | .minmax .. | .build .. | .s2ap .. | .tassert .. => true
  | _ => false

theorem bif_some {α : Type} {c : Bool} {x : Option α} {v : α} (h : (bif c then x else none) = some v) : c = true ∧ x = some v := by
  cases c
  · simp at h
  · exact ⟨rfl, h⟩

theorem and3_true {a b c : Bool} (h : and3 a b c = true) : a = true ∧ b = true ∧ c = true := by
  cases a <;> cases b <;> cases c <;> simp_all [and3]

section
variable {P : Program} {tt : T TI} (hT : TOk P tt) {φ : Phi} {t : Fm} {a : Act} (ht : TRel φ t a) (w : World)
include hT ht

/-- what is to be shown of a pure operation -/
def PureGoal (P : Program) (φ : Phi) (a : Act) (w : World) (o : Oper) (v : Value) : Prop :=
  ∃ v' w', (execOp a.eval o).run P w = .ok (.value v') w' ∧ VRel φ v v' ∧ Same w w'

omit hT ht in
theorem PureGoal.of_run {o : Oper} {v v' : Value} {s : Sem Value} (he : execOp a.eval o = valS s) (h : s.run P w = .ok v' w) (hr : VRel φ v v') : PureGoal P φ a w o v :=
  ⟨v', w, by rw [he]; exact run_valS h, hr, .refl w⟩

omit hT ht in
theorem PureGoal.of_run' {o : Oper} {v v' : Value} {w' : World} {s : Sem Value} (he : execOp a.eval o = valS s) (h : s.run P w = .ok v' w') (hr : VRel φ v v') (hs : Same w w') : PureGoal P φ a w o v :=
  ⟨v', w', by rw [he]; exact run_valS h, hr, hs⟩

theorem pure_sound (o : Oper) {io : IOp} {v : Value} (hok : ∀ x ∈ o.op.operands, okO x = true) (hc : compOp tt o = some io) (hp : isPure io = true) (h : pureV t io = some v) : PureGoal P φ a w o v := by
  obtain ⟨dst, op, ty, ps, af, gd⟩ := o
  have ev : ∀ {x : Operand}, x ∈ op.operands → VRel φ (evalO t x) (a.eval x) := fun hx => evalO_rel ht (hok _ hx)
  cases op <;> simp only [compOp, reduceCtorEq] at hc
  case move x => simp at hc; subst hc; simp [pureV] at h; subst h; exact ⟨_, w, rfl, ev (by simp [Op.operands]), .refl w⟩
  case assign x => simp at hc; subst hc; simp [pureV] at h; subst h; exact ⟨_, w, rfl, ev (by simp [Op.operands]), .refl w⟩
  case pick c x y =>
    simp at hc; subst hc
    have e1 := ev (x := c) (by simp [Op.operands])
    simp only [pureV] at h
    split at h
    · rename_i g hg
      rw [hg] at e1
      have := e1.bool_inv
      simp at h; subst h
      refine ⟨if g then a.eval x else a.eval y, w, ?_, ?_, .refl w⟩
      · simp only [execOp, this, asBool, Sem.run_bind, Sem.run_pure, Result.andThen_ok]
      · cases g
        · exact ev (by simp [Op.operands])
        · exact ev (by simp [Op.operands])
    · simp at h
  case nilCheck x =>
    simp at hc; subst hc
    have e1 := ev (x := x) (by simp [Op.operands])
    simp only [pureV] at h
    split at h
    · rename_i b hb
      rw [hb] at e1
      obtain ⟨b', q, hq⟩ := e1.ptr_inv
      simp at h; subst h
      exact ⟨.pointer (some b'), w, by simp only [execOp, q]; rfl, .ptr _ _ hq, .refl w⟩
    · rename_i f fa fb hb
      rw [hb] at e1
      simp at h; subst h
      generalize hu : a.eval x = u at e1
      cases e1 with
      | func f a1 b1 a2 b2 h1 h2 =>
        exact ⟨.func (.func f) ⟨b1⟩ ⟨b2⟩, w, by simp only [execOp, hu]; rfl, .func _ _ _ _ _ h1 h2, .refl w⟩
    · rename_i u z hb
      rw [hb] at e1
      obtain ⟨z', q, hq⟩ := e1.iface_inv
      simp at h; subst h
      exact ⟨.iface u z', w, by simp only [execOp, q]; rfl, .iface _ _ _ hq, .refl w⟩
    · simp at h
  case alloc e => split at hc <;> (try split at hc) <;> simp at hc <;> subst hc <;> simp [isPure] at hp
  case box e x => simp at hc; subst hc; simp [isPure] at hp
  case build t' parts =>
    split at hc
    case h_2 => simp at hc
    rename_i i hi
    have hd := hT.desc _ _ hi
    obtain ⟨inf, hinf, hi1, hi2, hi3, hi4⟩ := hT.info _ _ hi
    have key : ∀ (place : Nat → Option (Nat × Nat)) {z : Value} {qs : List (Nat × Nat × Operand)}, i.zero = some z → partsOf place parts.toList = some qs → io = .build z.cells.toList qs →
        (∀ cells, Instr.fill place z.cells (parts.toList.map fun p => (p.1, a.eval p.2)) = some cells → (Instr.build t' (parts.map fun (i, x) => (i, a.eval x))).run P w = .ok (.agg cells) w) →
        LRel φ z.cells.toList z.cells.toList → PureGoal P φ a w ⟨dst, .build t' parts, ty, ps, af, gd⟩ v := by
      intro place z qs hz hq hio hrun hzz
      subst hio
      simp only [pureV] at h
      cases hf : fillP t qs z.cells.toList with
      | none => rw [hf] at h; simp at h
      | some c =>
        rw [hf] at h; simp at h; subst h
        obtain ⟨q1, q2⟩ := optAll_some hq
        obtain ⟨r', k1, k2⟩ := s_fill (c' := z.cells) ht place (ps := parts.toList) (qs := qs) (fun x hx => hok _ (by simp only [Op.operands, List.mem_toArray, List.mem_map]; exact ⟨x, hx, rfl⟩)) q1
          (fun k p q hp' hq' => by
            have := q2 k p q hp' hq'
            split at this
            · rename_i r hr
              simp at this; subst this
              exact ⟨hr, rfl⟩
            · simp at this) hf hzz
        refine .of_run (v' := .agg r') w rfl (hrun _ k1) (.agg _ _ k2)
    have hplain : ∀ {z : Value}, i.zero = some z → True := fun _ => trivial
    split at hc
    · rename_i z fields hz hds
      split at hc
      · rename_i pl hpl
        split at hc
        · rename_i qs hqs
          simp at hc
          refine key (fun k => pl[k]?) hz hqs hc.symm ?_ ?_
          · intro cells hcells
            refine run_build w t' _ cells ?_
            unfold Program.built
            simp only [hinf, hd, hds, (hi3 z hz).1]
            have hm : fields.toList.mapM (fun f => (P.info? f.type).map fun i => (f.offset, i.size)) = some pl := by
              clear hds hqs hc hcells key
              revert hpl
              generalize fields.toList = fs
              intro hpl
              unfold fieldPlaces at hpl
              induction fs generalizing pl with
              | nil => simp [optAll] at hpl; subst hpl; rfl
              | cons f fs ih =>
                simp only [optAll] at hpl
                split at hpl
                · simp at hpl
                · rename_i q hq
                  split at hpl
                  · rename_i r hr
                    simp at hpl; subst hpl
                    split at hq
                    · rename_i j hj
                      simp at hq; subst hq
                      obtain ⟨inf2, g1, g2, _, _, _⟩ := hT.info _ _ hj
                      simp [List.mapM_cons, g1, g2, ih r hr]
                    · simp at hq
                  · simp at hpl
            simp only [hm]
            simpa using hcells
          · exact (plainV_rel 8 z (hi3 z hz).2).cells_rel
        · simp at hc
      · simp at hc
    · rename_i z n e hz hds
      split at hc
      · rename_i j hj
        split at hc
        · rename_i qs hqs
          simp at hc
          obtain ⟨inf2, g1, g2, _, _, _⟩ := hT.info _ _ hj
          refine key _ hz hqs hc.symm ?_ ?_
          · intro cells hcells
            refine run_build w t' _ cells ?_
            unfold Program.built
            simp only [hinf, hd, hds, (hi3 z hz).1]
            simp only [g1, g2]
            simpa using hcells
          · exact (plainV_rel 8 z (hi3 z hz).2).cells_rel
        · simp at hc
      · simp at hc
    · simp at hc
  case buildSlice =>
    (repeat' split at hc) <;> simp at hc
    subst hc; simp [isPure] at hp
  case load => split at hc <;> simp at hc; subst hc; simp [isPure] at hp
  case store => split at hc <;> simp at hc; subst hc; simp [isPure] at hp
  case makeSlice =>
    (repeat' split at hc) <;> simp at hc
    subst hc; simp [isPure] at hp
  case makeMap t' r => cases r <;> simp at hc; subst hc; simp [isPure] at hp
  case insert =>
    split at hc
    · split at hc
      · split at hc
        · obtain ⟨_, h2⟩ := bif_some hc; simp at h2; subst h2; simp [isPure] at hp
        · simp at hc
      · simp at hc
    · simp at hc
  case mapUpdate =>
    split at hc
    · split at hc
      · split at hc
        · obtain ⟨_, h2⟩ := bif_some hc; simp at h2; subst h2; simp [isPure] at hp
        · simp at hc
      · simp at hc
    · simp at hc
  case lookup =>
    split at hc
    · split at hc
      · split at hc
        · split at hc
          · obtain ⟨_, h2⟩ := bif_some hc; simp at h2; subst h2; simp [isPure] at hp
          · simp at hc
        · simp at hc
      · simp at hc
    · simp at hc
  case binOp op t' x y yt =>
    split at hc
    case h_2 => simp at hc
    rename_i i hi
    simp at hc; subst hc
    have hd := hT.desc _ _ hi
    have e1 := ev (x := x) (by simp [Op.operands])
    have e2 := ev (x := y) (by simp [Op.operands])
    have hbin : pureV t (.bin op i.desc (isC x || isC y) x y) = some v → PureGoal P φ a w ⟨dst, .binOp op t' x y yt, ty, ps, af, gd⟩ v := by
      intro hb
      simp only [pureV] at hb
      obtain ⟨v', w', h1, h2, h3⟩ := binVal_sound (P := P) (φ := φ) hb e1 e2 hd w
      exact .of_run' w rfl h1 h2 h3
    have heq : ∀ (neg : Bool) (ds : List (Nat × TypeDesc)), (op = .eql ∧ neg = false ∨ op = .neq ∧ neg = true) → i.flat = some ds → pureV t (.eqs neg ds x y) = some v → PureGoal P φ a w ⟨dst, .binOp op t' x y yt, ty, ps, af, gd⟩ v := by
      intro neg ds hop hfl hb
      simp only [pureV] at hb
      obtain ⟨fs, q1, q2, q3, q4⟩ := hT.flat _ _ _ hi hfl
      rw [q1] at hd
      rcases hop with ⟨rfl, rfl⟩ | ⟨rfl, rfl⟩
      · obtain ⟨h1, h2⟩ := eqS_sound (P := P) (φ := φ) (op := .eql) (x := x) (y := y) (.inl rfl) hb e1 e2 hd q2 q3 q4 w
        exact .of_run w rfl h1 h2
      · obtain ⟨h1, h2⟩ := eqS_sound (P := P) (φ := φ) (op := .neq) (x := x) (y := y) (.inr rfl) hb e1 e2 hd q2 q3 q4 w
        exact .of_run w rfl h1 h2
    unfold compBin at h
    split at h
    · rename_i ds hfl; exact heq false ds (.inl ⟨rfl, rfl⟩) hfl h
    · rename_i ds hfl; exact heq true ds (.inr ⟨rfl, rfl⟩) hfl h
    · exact hbin h
  case unOp op t' x =>
    simp at hc; subst hc
    simp only [pureV] at h
    obtain ⟨h1, h2⟩ := unVal_sound (P := P) h (ev (x := x) (by simp [Op.operands])) w
    exact .of_run w rfl h1 h2
  case convert sT dT x =>
    split at hc
    · rename_i i j hi hj
      simp at hc; subst hc
      simp only [pureV] at h
      obtain ⟨v', w', h1, h2, h3⟩ := convVal_sound (P := P) h (ev (x := x) (by simp [Op.operands])) (hT.desc _ _ hi) (hT.desc _ _ hj) w
      exact .of_run' w rfl h1 h2 h3
    · simp at hc
  case sliceToArrayPointer t' x =>
    split at hc
    · rename_i i hi
      split at hc
      · rename_i n e hd
        simp at hc; subst hc
        have hu := hT.desc _ _ hi
        rw [hd] at hu
        have e1 := ev (x := x) (by simp [Op.operands])
        simp only [pureV] at h
        split at h
        · rename_i b len cap hx
          rw [hx] at e1
          obtain ⟨hle, h2⟩ := bif_some h
          simp at h2; subst h2
          have hle := ble_le hle
          have hrun : ∀ {b' : Option Addr} {cap' : Nat}, (Instr.arrayAt t' (.slice b' len cap')).run P w = .ok (.pointer b') w := by
            intro b' cap'
            simp only [Instr.arrayAt, Sem.run_bind, run_underlying hu, Result.andThen_ok, if_neg (Nat.not_lt.2 hle), Sem.run_pure]
          cases b with
          | none =>
            have := e1.sliceNil_inv
            exact .of_run w (show _ = valS (Instr.arrayAt t' (a.eval x)) from rfl) (by rw [this]; exact hrun) .ptrNil
          | some b =>
            obtain ⟨im, c', q, g1, g2, g3, g4⟩ := e1.slice_inv
            exact .of_run w (show _ = valS (Instr.arrayAt t' (a.eval x)) from rfl) (by rw [q]; exact hrun) (.ptr _ _ ⟨im, g1, rfl, g2⟩)
        · simp at h
      · simp at hc
    · simp at hc
  case makeInterface t' x =>
    split at hc
    · rename_i i hi
      cases hif : isIface i.desc with
      | true => rw [hif] at hc; simp at hc
      | false =>
        rw [hif] at hc; simp at hc; subst hc
        simp only [pureV, Option.some.injEq] at h; subst h
        refine .of_run w (show _ = valS (Instr.makeInterface t' (a.eval x)) from rfl) ?_ (.iface _ _ _ (ev (x := x) (by simp [Op.operands])))
        simp only [Instr.makeInterface, Sem.run_bind, run_underlying (hT.desc _ _ hi), Result.andThen_ok]
        cases hd : i.desc <;> rw [hd] at hif <;> simp [isIface] at hif <;> rfl
    · simp at hc
  case makeFunc fn f c =>
    simp at hc; subst hc
    simp only [pureV, Option.some.injEq] at h; subst h
    have r1 := evalOs_rel ht (l := f.toList) (fun x hx => hok x (by simp only [Op.operands, Array.mem_append]; exact .inl (by simpa using hx)))
    have r2 := evalOs_rel ht (l := c.toList) (fun x hx => hok x (by simp only [Op.operands, Array.mem_append]; exact .inr (by simpa using hx)))
    refine .of_run (v' := .func fn (f.map a.eval) (c.map a.eval)) w (show _ = valS (Instr.makeFunc fn (f.map a.eval) (c.map a.eval)) from rfl) rfl ?_
    have e1 : f.map a.eval = ⟨f.toList.map a.eval⟩ := by apply Array.ext'; simp
    have e2 : c.map a.eval = ⟨c.toList.map a.eval⟩ := by apply Array.ext'; simp
    rw [e1, e2]
    exact .func _ _ _ _ _ r1 r2
  case slice t' x lo hi mx =>
    cases hmx : (mx.isSome && hi.isNone) with
    | true => rw [hmx] at hc; simp at hc
    | false =>
    rw [hmx] at hc
    simp only [cond_false] at hc
    have hmx' : hi.map a.eval = none → mx.map a.eval = none := by
      cases hi with
      | some _ => simp
      | none => cases mx with
        | none => simp
        | some _ => simp at hmx
    have okx : ∀ z, x = z → okO z = true := fun z hz => hok z (by subst hz; simp [Op.operands])
    have oklo : ∀ z, lo = some z → okO z = true := fun z hz => hok z (by subst hz; simp [Op.operands])
    have okhi : ∀ z, hi = some z → okO z = true := fun z hz => hok z (by subst hz; simp [Op.operands])
    have okmx : ∀ z, mx = some z → okO z = true := fun z hz => hok z (by subst hz; simp [Op.operands])
    have e1 := ev (x := x) (by simp [Op.operands])
    have he : execOp a.eval ⟨dst, .slice t' x lo hi mx, ty, ps, af, gd⟩ = valS (Instr.sliceAt t' (a.eval x) (lo.map a.eval) (hi.map a.eval) (mx.map a.eval)) := rfl
    have arr : ∀ (n e : Nat) (j : TI), tt.get e = some j → (P.underlying t' = some (.array n e) ∨ ∃ arr, P.underlying t' = some (.pointer arr) ∧ P.underlying arr = some (.array n e)) →
        pureV t (.sliceP x lo hi mx n j.size) = some v → PureGoal P φ a w ⟨dst, .slice t' x lo hi mx, ty, ps, af, gd⟩ v := by
      intro n e j hj hu h
      obtain ⟨inf, g1, g2, _, _, _⟩ := hT.info _ _ hj
      simp only [pureV] at h
      split at h
      · rename_i b hx
        split at h
        · rename_i l hh m hs hl hhi hm
          obtain ⟨h3, h4⟩ := bif_some h
          obtain ⟨q1, q2, q3⟩ := and3_true h3
          simp only [Option.some.injEq] at h4; subst h4
          rw [hx] at e1
          obtain ⟨b', hb', hA⟩ := e1.ptr_inv
          obtain ⟨v', r1, r2⟩ := s_sliceA (P := P) w hA hs (boundOf_ok ht oklo hl) (boundOf_ok ht okhi hhi) (boundOf_ok ht okmx hm) hmx' (ble_le q1) (ble_le q2) (ble_le q3) g1 g2 hu
          exact .of_run w he (by rw [hb']; exact r1) r2
        · simp at h
      · simp at h
    split at hc
    case h_2 => simp at hc
    rename_i i hi'
    have hu := hT.desc _ _ hi'
    split at hc
    · rename_i hd
      rw [hd] at hu
      cases hms : mx.isSome with
      | true => rw [hms] at hc; simp at hc
      | false =>
        rw [hms] at hc; simp at hc; subst hc
        simp only [pureV] at h
        split at h
        · rename_i s' hx
          split at h
          · rename_i l hh hl hhi
            obtain ⟨h3, h4⟩ := bif_some h
            simp only [Bool.and_eq_true] at h3
            simp only [Option.some.injEq] at h4; subst h4
            rw [hx] at e1
            have e1 := e1.string_inv
            have hmn : mx.map a.eval = none := by cases mx <;> simp_all
            refine .of_run w he (by rw [e1]; exact s_sliceT w (boundOf_ok ht oklo hl) (boundOf_ok ht okhi hhi) hmn (ble_le h3.1) (ble_le h3.2) hu) (.string _)
          · simp at h
        · simp at h
    · rename_i e hd
      rw [hd] at hu
      split at hc
      · rename_i j hj
        simp at hc; subst hc
        obtain ⟨inf, g1, g2, _, _, _⟩ := hT.info _ _ hj
        simp only [pureV] at h
        split at h
        · rename_i b len cap hx
          split at h
          · rename_i l hh m hl hhi hm
            obtain ⟨h3, h4⟩ := bif_some h
            obtain ⟨q1, q2, q3⟩ := and3_true h3
            rw [hx] at e1
            have hms : (mx.map a.eval).isSome = mx.isSome := by cases mx <;> rfl
            obtain ⟨v', r1, r2⟩ := s_sliceS (P := P) w e1 rfl (boundOf_ok ht oklo hl) (boundOf_ok ht okhi hhi) (boundOf_ok ht okmx hm) hmx' (ble_le q1) (ble_le q2) (ble_le q3) hu g1 g2 (by rw [hms]; exact h4)
            exact .of_run w he r1 r2
          · simp at h
        · simp at h
      · simp at hc
    · rename_i n e hd
      rw [hd] at hu
      split at hc
      · rename_i j hj
        simp at hc; subst hc
        exact arr n e j hj (.inl hu) h
      · simp at hc
    · rename_i p hd
      rw [hd] at hu
      split at hc
      · rename_i q hq
        split at hc
        · rename_i n e hd2
          have hu2 := hT.desc _ _ hq
          rw [hd2] at hu2
          split at hc
          · rename_i j hj
            simp at hc; subst hc
            exact arr n e j hj (.inr ⟨p, hu, hu2⟩) h
          · simp at hc
        · simp at hc
      · simp at hc
    · simp at hc
  case fieldAddr t' x f =>
    split at hc
    · rename_i i hi
      split at hc
      · rename_i fields hd
        split at hc
        · rename_i fd hfd
          split at hc
          · rename_i j hj
            split at hc
            · simp at hc
            · rename_i hne
              simp at hc; subst hc
              have hu := hT.desc _ _ hi
              rw [hd] at hu
              obtain ⟨inf, g1, g2, _, _, _⟩ := hT.info _ _ hj
              have e1 := ev (x := x) (by simp [Op.operands])
              simp only [pureV] at h
              split at h
              · rename_i b hx
                simp only [Option.some.injEq] at h; subst h
                obtain ⟨v', r1, r2⟩ := s_faddr (P := P) w e1 hx hu hfd g1 (by rw [g2]; exact hne)
                exact .of_run w (show _ = valS (Instr.fieldAt t' (a.eval x) f) from rfl) r1 r2
              · simp at h
          · simp at hc
        · simp at hc
      · simp at hc
    · simp at hc
  case field t' x f =>
    split at hc
    · rename_i i hi
      split at hc
      · rename_i fields hd
        split at hc
        · rename_i fd hfd
          split at hc
          · rename_i j hj
            simp at hc; subst hc
            have hu := hT.desc _ _ hi
            rw [hd] at hu
            have huj := hT.desc _ _ hj
            obtain ⟨inf, g1, g2, _, _, _⟩ := hT.info _ _ hj
            have e1 := ev (x := x) (by simp [Op.operands])
            simp only [pureV] at h
            split at h
            · rename_i c hx
              rw [hx] at e1
              obtain ⟨c', q, hr⟩ := e1.agg_inv
              obtain ⟨v', r1, r2⟩ := s_part (P := P) w hr huj g1 (off := fd.offset) (v := v) (by rw [g2]; exact h)
              refine .of_run w (show _ = valS (Instr.field t' (a.eval x) f) from rfl) ?_ r2
              simp only [Instr.field, q, Sem.run_bind, run_underlying hu, Result.andThen_ok, hfd, asAgg, Sem.run_pure, r1]
            · simp at h
          · simp at hc
        · simp at hc
      · simp at hc
    · simp at hc
  case indexAddr t' x k =>
    have e1 := ev (x := x) (by simp [Op.operands])
    have e2 := ev (x := k) (by simp [Op.operands])
    split at hc
    · rename_i i hi
      have hu := hT.desc _ _ hi
      split at hc
      · rename_i e hd
        rw [hd] at hu
        split at hc
        · rename_i j hj
          simp at hc; subst hc
          obtain ⟨inf, g1, g2, _, _, _⟩ := hT.info _ _ hj
          simp only [pureV] at h
          split at h
          · rename_i b len cap kk hx hk
            obtain ⟨h3, h4⟩ := bif_some h
            simp only [Option.some.injEq] at h4; subst h4
            obtain ⟨v', r1, r2⟩ := s_iaddrS (P := P) w e1 e2 hx hk (blt_lt h3) hu g1 g2
            exact .of_run w (show _ = valS (Instr.indexAt t' (a.eval x) (a.eval k)) from rfl) r1 r2
          · simp at h
        · simp at hc
      · rename_i n e hd
        rw [hd] at hu
        split at hc
        · rename_i j hj
          simp at hc; subst hc
          obtain ⟨inf, g1, g2, _, _, _⟩ := hT.info _ _ hj
          simp only [pureV] at h
          split at h
          · rename_i b kk hx hk
            obtain ⟨h3, h4⟩ := bif_some h
            simp only [Option.some.injEq] at h4; subst h4
            obtain ⟨v', r1, r2⟩ := s_iaddrA (P := P) w e1 e2 hx hk (blt_lt h3) hu g1 g2
            exact .of_run w (show _ = valS (Instr.indexAt t' (a.eval x) (a.eval k)) from rfl) r1 r2
          · simp at h
        · simp at hc
      · simp at hc
    · simp at hc
  case index t' x k =>
    have e1 := ev (x := x) (by simp [Op.operands])
    have e2 := ev (x := k) (by simp [Op.operands])
    split at hc
    · rename_i i hi
      have hu := hT.desc _ _ hi
      split at hc
      · rename_i n e hd
        rw [hd] at hu
        split at hc
        · rename_i j hj
          simp at hc; subst hc
          have huj := hT.desc _ _ hj
          obtain ⟨inf, g1, g2, _, _, _⟩ := hT.info _ _ hj
          simp only [pureV] at h
          split at h
          · rename_i c kk hx hk
            obtain ⟨h3, h4⟩ := bif_some h
            rw [hx] at e1
            obtain ⟨c', q, hr⟩ := e1.agg_inv
            obtain ⟨ik, hik⟩ := natOf_some hk
            rw [hik] at e2
            have e2 := e2.int_inv
            obtain ⟨v', r1, r2⟩ := s_part (P := P) w hr huj g1 (off := kk * j.size) (v := v) (by rw [g2]; exact h4)
            refine .of_run w (show _ = valS (Instr.index t' (a.eval x) (a.eval k)) from rfl) ?_ r2
            have hlt : (0 : Int) ≤ Int.ofNat kk ∧ Int.ofNat kk < (n : Int) := by have := blt_lt h3; simp only [Int.ofNat_eq_natCast]; omega
            simp only [Instr.index, q, e2, Sem.run_bind, asIntOf_nat, run_underlying hu, Result.andThen_ok, if_pos hlt, run_sizeOf' w g1, g2]
            exact r1
          · simp at h
        · simp at hc
      · rename_i hd
        rw [hd] at hu
        simp at hc; subst hc
        simp only [pureV] at h
        split at h
        · rename_i s' kk hx hk
          rw [hx] at e1
          have e1 := e1.string_inv
          obtain ⟨ik, hik⟩ := natOf_some hk
          rw [hik] at e2
          have e2 := e2.int_inv
          rw [nth_eq] at h
          split at h
          · rename_i b hb
            simp only [Option.some.injEq] at h; subst h
            refine .of_run w (show _ = valS (Instr.index t' (a.eval x) (a.eval k)) from rfl) ?_ (.int _ _)
            have hpos : (0 : Int) ≤ Int.ofNat kk := by simp
            have hget : s'[kk]? = some b := by
              rw [Array.getElem?_toList] at hb
              exact hb
            simp only [Instr.index, e1, e2, Sem.run_bind, asIntOf_nat, run_underlying hu, Result.andThen_ok, if_pos hpos]
            have : (Int.ofNat kk).toNat = kk := rfl
            rw [this, hget]
            rfl
          · simp at h
        · simp at h
      · simp at hc
    · simp at hc
  case extract x n =>
    simp at hc; subst hc
    have e1 := ev (x := x) (by simp [Op.operands])
    simp only [pureV] at h
    split at h
    · rename_i vs hx
      rw [hx] at e1
      obtain ⟨vs', q, hr⟩ := e1.tuple_inv
      rw [nth_eq] at h
      obtain ⟨v', r1, r2⟩ := hr.get _ _ h
      rw [Array.getElem?_toList] at r1
      exact .of_run w (show _ = valS (Instr.extract (a.eval x) n) from rfl) (by simp only [Instr.extract, q, r1, Sem.run_pure]) r2
    · simp at h
  case typeAssert x xt t' ok =>
    split at hc
    · rename_i i hi
      split at hc
      · rename_i z hz
        cases hif : isIface i.desc with
        | true => rw [hif] at hc; simp at hc
        | false =>
          rw [hif] at hc
          simp only [cond_false] at hc
          obtain ⟨hpl, hc⟩ := bif_some hc
          simp at hc; subst hc
          have hu := hT.desc _ _ hi
          obtain ⟨inf, g1, _, _, g4, _⟩ := hT.info _ _ hi
          have hzz : VRel φ z z := plainV_rel 8 z hpl
          have e1 := ev (x := x) (by simp [Op.operands])
          have he : execOp a.eval ⟨dst, .typeAssert x xt t' ok, ty, ps, af, gd⟩ = valS (Instr.typeAssert (a.eval x) xt t' ok) := rfl
          have hz' := run_zeroValue' (P := P) w g1 (g4 z hz).1
          simp only [pureV] at h
          split at h
          · rename_i d u hx
            rw [hx] at e1
            obtain ⟨u', q, hr⟩ := e1.iface_inv
            cases hb : Nat.beq d t' with
            | true =>
              obtain rfl := beq_eq' hb
              rw [hb] at h
              simp only [cond_true, Option.some.injEq] at h; subst h
              refine .of_run (v' := if ok then .tuple #[u', .bool true] else u') w he ?_ ?_
              · rw [q]
                simp only [Instr.typeAssert, Sem.run_bind, run_underlying hu, Result.andThen_ok]
                cases hd : i.desc <;> rw [hd] at hif <;> simp [isIface] at hif <;> simp
              · cases ok
                · exact hr
                · exact .tuple _ _ (.cons _ _ _ _ hr (.cons _ _ _ _ (.bool _) .nil))
            | false =>
              have hne := beq_ne' hb
              rw [hb] at h
              simp only [cond_false] at h
              obtain ⟨hok', h4⟩ := bif_some h
              simp only [Option.some.injEq] at h4; subst h4
              subst hok'
              refine .of_run (v' := .tuple #[z, .bool false]) w he ?_ (.tuple _ _ (.cons _ _ _ _ hzz (.cons _ _ _ _ (.bool _) .nil)))
              rw [q]
              simp only [Instr.typeAssert, Sem.run_bind, run_underlying hu, Result.andThen_ok]
              cases hd : i.desc <;> rw [hd] at hif <;> simp [isIface] at hif <;> simp [hne, hz']
          · rename_i hx
            rw [hx] at e1
            obtain ⟨hok', h4⟩ := bif_some h
            simp only [Option.some.injEq] at h4; subst h4
            subst hok'
            have q : a.eval x = .nilIface := by generalize a.eval x = u at e1; cases e1; rfl
            refine .of_run (v' := .tuple #[z, .bool false]) w he ?_ (.tuple _ _ (.cons _ _ _ _ hzz (.cons _ _ _ _ (.bool _) .nil)))
            rw [q]
            simp only [Instr.typeAssert, Sem.run_bind, run_underlying hu, Result.andThen_ok]
            cases hd : i.desc <;> rw [hd] at hif <;> simp [isIface] at hif <;> simp [hz']
          · simp at h
      · simp at hc
    · simp at hc
  case call c =>
    obtain ⟨callee, ⟨args⟩, ⟨ats⟩⟩ := c
    simp only at hc
    split at hc
    · simp at hc; subst hc; simp [isPure] at hp
    · simp at hc; subst hc; simp [isPure] at hp
    · simp at hc; subst hc; simp [isPure] at hp
    · rename_i b
      have oka : ∀ z ∈ args, okO z = true := fun z hz => hok z (by simp only [Op.operands, Call.operands, Array.mem_append]; exact .inr (by simpa using hz))
      have hrun : ∀ {s : Sem Value} {v' : Value} {w' : World}, (∀ consts, builtin b ⟨ats⟩ ty consts ⟨args.map a.eval⟩ = valS s) → s.run P w = .ok v' w' → VRel φ v v' → Same w w' →
          PureGoal P φ a w ⟨dst, .call ⟨.builtin b, ⟨args⟩, ⟨ats⟩⟩, ty, ps, af, gd⟩ v := by
        intro s v' w' h1 h2 h3 h4
        refine ⟨v', w', ?_, h3, h4⟩
        have hex : execOp a.eval ⟨dst, .call ⟨.builtin b, ⟨args⟩, ⟨ats⟩⟩, ty, ps, af, gd⟩ = builtin b ⟨ats⟩ ty ((⟨args⟩ : Array Operand).map fun | .const _ => true | _ => false) ((⟨args⟩ : Array Operand).map a.eval) := rfl
        have hm : ((⟨args⟩ : Array Operand).map a.eval) = ⟨args.map a.eval⟩ := by apply Array.ext'; simp
        rw [hex, hm, h1]
        exact run_valS h2
      unfold compBuiltin at hc
      split at hc
      · -- len
        rename_i x t'
        have e1 := evalO_rel ht (oka x (by simp))
        have arr : ∀ {n e : Nat} {i : TI}, io = .lenc n → (P.underlying t' = some (.array n e) ∨ ∃ p, P.underlying t' = some (.pointer p) ∧ P.underlying p = some (.array n e)) →
            PureGoal P φ a w ⟨dst, .call ⟨.builtin .len, ⟨[x]⟩, ⟨[t']⟩⟩, ty, ps, af, gd⟩ v := by
          intro n e i hio hu
          subst hio
          simp only [pureV, Option.some.injEq] at h; subst h
          refine hrun (fun _ => rfl) (s := Builtin.len_ _ _ _) ?_ (.int _ _) (.refl w)
          rcases hu with hu | ⟨p, hu, hp'⟩
          · simp only [Builtin.len_, List.map_cons, List.map_nil]
            simp [run_underlying hu]
            rfl
          · simp only [Builtin.len_, List.map_cons, List.map_nil]
            simp [run_underlying hu, run_underlying hp']
            rfl
        split at hc
        · rename_i i hi
          have hu := hT.desc _ _ hi
          split at hc
          · rename_i hd
            rw [hd] at hu
            simp at hc; subst hc
            simp only [pureV] at h
            split at h
            · rename_i s' hx
              rw [hx] at e1
              have e1 := e1.string_inv
              simp only [Option.some.injEq] at h; subst h
              refine hrun (fun _ => rfl) (s := Builtin.len_ _ _ _) ?_ (.int _ _) (.refl w)
              simp only [Builtin.len_, List.map_cons, List.map_nil, e1]
              simp [run_underlying hu]
              rfl
            · simp at h
          · rename_i e hd
            rw [hd] at hu
            simp at hc; subst hc
            simp only [pureV] at h
            split at h
            · rename_i b n cap hx
              rw [hx] at e1
              simp only [Option.some.injEq] at h; subst h
              refine hrun (fun _ => rfl) (s := Builtin.len_ _ _ _) ?_ (.int _ _) (.refl w)
              cases b with
              | none =>
                have e1 := e1.sliceNil_inv
                simp only [Builtin.len_, List.map_cons, List.map_nil, e1]
                simp [run_underlying hu]
                rfl
              | some b =>
                obtain ⟨im, c', q, _⟩ := e1.slice_inv
                simp only [Builtin.len_, List.map_cons, List.map_nil, q]
                simp [run_underlying hu]
                rfl
            · simp at h
          · simp at hc; subst hc; simp [isPure] at hp
          · rename_i n e hd
            rw [hd] at hu
            simp at hc
            exact arr (i := i) hc.symm (.inl hu)
          · rename_i p hd
            rw [hd] at hu
            split at hc
            · rename_i j hj
              split at hc
              · rename_i n e hd2
                have hu2 := hT.desc _ _ hj
                rw [hd2] at hu2
                simp at hc
                exact arr (i := i) hc.symm (.inr ⟨p, hu, hu2⟩)
              · simp at hc
            · simp at hc
          · simp at hc
        · simp at hc
      · -- cap
        rename_i x t'
        have e1 := evalO_rel ht (oka x (by simp))
        split at hc
        · rename_i i hi
          have hu := hT.desc _ _ hi
          split at hc
          · rename_i e hd
            rw [hd] at hu
            simp at hc; subst hc
            simp only [pureV] at h
            split at h
            · rename_i n cap hx
              rw [hx] at e1
              simp only [Option.some.injEq] at h; subst h
              have e1 := e1.sliceNil_inv
              refine hrun (fun _ => rfl) (s := Builtin.cap_ _ _ _) ?_ (.int _ _) (.refl w)
              simp only [Builtin.cap_, List.map_cons, List.map_nil, e1]
              simp [run_underlying hu]
              rfl
            · rename_i b n cap hx
              rw [hx] at e1
              obtain ⟨h3, h4⟩ := bif_some h
              simp only [Option.some.injEq] at h4; subst h4
              obtain ⟨im, c', q, g1, g2, g3, g4⟩ := e1.slice_inv
              have hgr : im.grow = none := by
                rw [g2] at h3
                cases hg : im.grow with
                | none => rfl
                | some z => rw [hg] at h3; simp [spotOf] at h3
              rw [hgr] at g3
              simp only [capRel] at g3
              subst g3
              refine hrun (fun _ => rfl) (s := Builtin.cap_ _ _ _) ?_ (.int _ _) (.refl w)
              simp only [Builtin.cap_, List.map_cons, List.map_nil, q]
              simp [run_underlying hu]
              rfl
            · simp at h
          · simp at hc
        · simp at hc
      · -- append
        (repeat' split at hc) <;> first | (simp at hc; done) | skip
        rename_i hif
        rcases Bool.eq_false_or_eq_true (isInt _) with hb | hb <;> rw [hb] at hc <;> simp at hc <;> subst hc <;> simp [isPure] at hp
      · (repeat' split at hc) <;> first | (simp at hc; done) | skip
        simp at hc; subst hc; simp [isPure] at hp
      · (repeat' split at hc) <;> first | (simp at hc; done) | skip
        simp at hc; subst hc; simp [isPure] at hp
      · -- min
        rename_i _ x r
        simp at hc; subst hc
        simp only [pureV] at h
        obtain ⟨u', k1, k2⟩ := s_foldMM (P := P) (isMax := false) w ht (fun y hy => oka y (List.mem_cons_of_mem _ hy)) h (evalO_rel ht (oka x (by simp)))
        exact hrun (fun _ => rfl) (s := Builtin.min_ _ _ _) k1 k2 (.refl w)
      · -- max
        rename_i _ x r
        simp at hc; subst hc
        simp only [pureV] at h
        obtain ⟨u', k1, k2⟩ := s_foldMM (P := P) (isMax := true) w ht (fun y hy => oka y (List.mem_cons_of_mem _ hy)) h (evalO_rel ht (oka x (by simp)))
        exact hrun (fun _ => rfl) (s := Builtin.max_ _ _ _) k1 k2 (.refl w)
      · simp at hc

end

end Go.Ab
