/- A part of the proof. The abstract machine: operations in a row. No condition. -/
import Derived.Test.YtpmbkfiicbipoaaGreatEngN
/-! The abstract machine: operations in a row. -/
namespace Go.Ab

structure COp where
  dst : Option Nat
  io : IOp
  guard : Option (Nat × Bool)

def wantedC (c : COp) (t : Fm) : Bool := match c.guard with
  | none => true
  | some (d, g) => match t d with
    | .bool b => b == g
    | _ => false

/-- an operation, made ready -/
structure COk (tt : T TI) (ops : Array Oper) (nt : Nat) (o : Oper) (c : COp) : Prop where
  comp : compOp tt o = some c.io
  okx : ∀ x ∈ o.op.operands, okO x = true
  sub : ∀ k ∈ tmpsOf c.io.ops, k ∈ tmpsOf o.op.operands.toList
  dst : o.dst = c.dst
  dlt : ∀ d, c.dst = some d → d < nt
  guard : (o.guard = none ∧ c.guard = none) ∨ ∃ j g d, o.guard = some (j, g) ∧ (ops[j]?).bind (·.dst) = some d ∧ c.guard = some (d, g) ∧ d < nt

/-- the temporaries that it looks at -/
def COp.reads (o : Oper) (c : COp) : List Nat := tmpsOf o.op.operands.toList ++ (match c.guard with | none => [] | some (d, _) => [d])

/-- a step of the machine's -/
def StepC (P : Program) (tt : T TI) (c : COp) (t : Fm) (h : Heap) (v : Value) (t' : Fm) (h' : Heap) : Prop :=
  t' = putT t c.dst v ∧ (wantedC c t = true → OpRes P tt t h c.io v h') ∧ (wantedC c t = false → v = undef ∧ h' = h)

section
variable {P : Program} {tt : T TI} (hT : TOk P tt) {ops : Array Oper} {nt : Nat}

theorem wanted_eq {o : Oper} {c : COp} (hk : COk tt ops nt o c) {φ : Phi} {t : Fm} {a : Act} (hs : a.tmps.size = nt) (ht : ∀ d g, c.guard = some (d, g) → VRel φ (t d) (a.tmps.getD d undef)) :
    Region.wanted o (yielded ops a.tmps) = wantedC c t := by
  rcases hk.guard with ⟨h1, h2⟩ | ⟨j, g, d, h1, h2, h3, h4⟩
  · simp only [Region.wanted, h1, wantedC, h2]
  · simp only [Region.wanted, h1, wantedC, h3]
    have hv := ht d g h3
    have hd : a.tmps[d]? = some (a.tmps.getD d undef) := by
      have hlt : d < a.tmps.size := by rw [hs]; exact h4
      rw [Array.getD_eq_getD_getElem?, Array.getElem?_eq_getElem hlt]; rfl
    have hy : yielded ops a.tmps j = match a.tmps.getD d undef with | .bool b => some b | _ => none := by
      simp only [yielded, h2, Option.bind_some, hd]
      cases a.tmps.getD d undef <;> rfl
    rw [hy]
    generalize a.tmps.getD d undef = v at hv
    generalize t d = u at hv
    cases hv <;> first | rfl | (simp; done)

theorem act_put_size (a : Act) (d : Option Nat) (v : Value) : (a.put d v).tmps.size = a.tmps.size := by cases d <;> simp [Act.put]

theorem put_get (a : Act) (d k : Nat) (v : Value) (hd : d < a.tmps.size) : (a.put (some d) v).tmps.getD k undef = if k = d then v else a.tmps.getD k undef := by
  simp only [Act.put, Array.getD_eq_getD_getElem?, Array.getElem?_setIfInBounds]
  by_cases h : d = k
  · subst h; simp [hd]
  · rw [if_neg h, if_neg (fun e => h e.symm)]

theorem put_get_none (a : Act) (v : Value) : a.put none v = a := rfl

/-- an operation's turn, wherever it comes -/
theorem wpOp_of {o : Oper} {c : COp} {i : Nat} (ho : ops[i]? = some o) (hk : COk tt ops nt o c) {φ : Phi} {t : Fm} {a : Act} {h h' : Heap} {w : World} {v : Value}
    {K : Act → World → Prop} {Q : Exit → Act → World → Prop}
    (hw : Region.wanted o (yielded ops a.tmps) = wantedC c t)
    (hyes : wantedC c t = true → ResOK P φ h w v h' ((execOp a.eval o).run P w))
    (hn : wantedC c t = true → ∀ φ' v' w', VRel φ' v v' → HRel φ' h' w' → Ext φ h w φ' h' w' → K (a.put c.dst v') w')
    (hno : wantedC c t = false → K (a.put c.dst undef) w) : wpOp P ops Q i K a w := by
  unfold wpOp
  rw [ho]
  simp only [hw]
  cases hb : wantedC c t with
  | true =>
    simp only [if_true]
    refine .inl (ResOK.wp (hyes hb) ?_)
    rw [hk.dst]; exact hn hb
  | false =>
    simp only [Bool.false_eq_true, if_false]
    rw [hk.dst]; exact hno hb

/-- the machine's run of operations in a row -/
inductive Seq (P : Program) (tt : T TI) (ops : Array Oper) (nt : Nat) : List Nat → Fm → Heap → Fm → Heap → Prop where
  | nil (t h) : Seq P tt ops nt [] t h t h
  | cons (i : Nat) (l : List Nat) (o : Oper) (c : COp) (v : Value) (t h t' h' t2 h2) (ho : ops[i]? = some o) (hk : COk tt ops nt o c) (hs : StepC P tt c t h v t' h') (hl : Seq P tt ops nt l t' h' t2 h2) :
      Seq P tt ops nt (i :: l) t h t2 h2

/-- what the model's frame and world are to be -/
def SRel (nt : Nat) (ds : List Deferred) (φ : Phi) (t : Fm) (h : Heap) (a : Act) (w : World) : Prop := TRel φ t a ∧ HRel φ h w ∧ a.tmps.size = nt ∧ a.defers = ds ∧ Full φ h

theorem act_put_defers (a : Act) (d : Option Nat) (v : Value) : (a.put d v).defers = a.defers := by cases d <;> rfl

include hT in
theorem step_sound {o : Oper} {c : COp} {i : Nat} (ho : ops[i]? = some o) (hk : COk tt ops nt o c) {t t' : Fm} {h h' : Heap} {v : Value} (hs : StepC P tt c t h v t' h')
    {ds : List Deferred} {φ : Phi} {a : Act} {w : World} (hr : SRel nt ds φ t h a w) {K : Act → World → Prop} {Q : Exit → Act → World → Prop}
    (hK : ∀ φ' a' w', SRel nt ds φ' t' h' a' w' → Ext φ h w φ' h' w' → K a' w') : wpOp P ops Q i K a w := by
  obtain ⟨h1, h2, h3, h4, h5⟩ := hr
  obtain ⟨rfl, s2, s3⟩ := hs
  have hput : ∀ φ' v', φ.le φ' → VRel φ' v v' → TRel φ' (putT t c.dst v) (a.put c.dst v') := fun φ' v' hle hv => (h1.mono hle).put (fun k hkd => by have := hk.dlt k hkd; omega) hv
  refine wpOp_of ho hk (wanted_eq hk h3 fun d g _ => h1 d) (fun hb => op_sound hT o hk.okx hk.comp (s2 hb) h1 h2 fun _ => h5) ?_ ?_
  · intro _ φ' v' w' hv hh hx
    exact hK φ' _ w' ⟨hput φ' v' hx.mono hv, hh, by rw [act_put_size]; exact h3, by rw [act_put_defers]; exact h4, hx.full h5⟩ hx
  · intro hb
    obtain ⟨rfl, rfl⟩ := s3 hb
    exact hK φ _ w ⟨hput φ _ (fun _ _ h => h) (undef_rel _), h2, by rw [act_put_size]; exact h3, by rw [act_put_defers]; exact h4, h5⟩ (.refl _ _ _)

include hT in
theorem seq_sound {l : List Nat} {t t' : Fm} {h h' : Heap} (hs : Seq P tt ops nt l t h t' h') {ds : List Deferred} {Q : Exit → Act → World → Prop} :
    ∀ {φ : Phi} {a : Act} {w : World}, SRel nt ds φ t h a w → (∀ φ' a' w', SRel nt ds φ' t' h' a' w' → Ext φ h w φ' h' w' → Q .normal a' w') → wpOps P ops Q l a w := by
  induction hs with
  | nil t h => intro φ a w hr hQ; exact hQ φ a w hr (.refl _ _ _)
  | cons i l o c v t h t' h' t2 h2 ho hk hs hl ih =>
    intro φ a w hr hQ
    rw [wpOps_cons]
    exact step_sound hT ho hk hs hr fun φ' a' w' hr' hx => ih hr' fun φ2 a2 w2 hr2 hx2 => hQ φ2 a2 w2 hr2 (hx.trans hx2)

/-- there's a run of the model's that comes here -/
def Feas (nt : Nat) (t : Fm) (h : Heap) : Prop := ∃ φ a w, TRel φ t a ∧ HRel φ h w ∧ a.tmps.size = nt ∧ Full φ h

theorem wpOp_const {i : Nat} {a : Act} {w : World} {X : Prop} (h : wpOp P ops (fun _ _ _ => X) i (fun _ _ => X) a w) : X := by
  unfold wpOp at h
  split at h
  · exact h
  · split at h
    · rcases h with h | ⟨_, _, _, h⟩
      · exact wp_const h
      · exact h
    · exact h

include hT in
theorem feas_step {o : Oper} {c : COp} {i : Nat} (ho : ops[i]? = some o) (hk : COk tt ops nt o c) {t t' : Fm} {h h' : Heap} {v : Value} (hs : StepC P tt c t h v t' h') (hf : Feas nt t h) :
    Feas nt t' h' ∧ h.next ≤ h'.next := by
  obtain ⟨φ, a, w, h1, h2, h3, h4⟩ := hf
  exact wpOp_const (P := P) (ops := ops) (i := i) (a := a) (w := w) (X := Feas nt t' h' ∧ h.next ≤ h'.next)
    (step_sound hT ho hk hs (ds := a.defers) ⟨h1, h2, h3, rfl, h4⟩ fun φ' a' w' hr hx => ⟨⟨φ', a', w', hr.1, hr.2.1, hr.2.2.1, hr.2.2.2.2⟩, hx.next⟩)

end
end Go.Ab
