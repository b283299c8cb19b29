/- A part of the proof. The abstract machine: code, functions. No condition. -/
import Derived.Test.YtpmbkfiicbipoaaGreatEngT
import Derived.Laws.Sem
import Derived.Laws.Externs
/-! The abstract machine: code, functions. -/
namespace Go.Ab

def loadV (h : Heap) (n : Option Nat) (v : Value) : Option Value :=
  match v with
  | .pointer (some a) => match n with
    | none => h.load1 a
    | some n => match h.loadN a n with | some l => some (.agg ⟨l⟩) | none => none
  | _ => none

section
variable {P : Program} {tt : T TI} (hT : TOk P tt)

/-- a piece of code, run by the machine -/
def CR (P : Program) (nt : Nat) (c : Code) (t : Fm) (h : Heap) (e : Exit) (t' : Fm) (h' : Heap) : Prop :=
  ∀ ds φ a w, SRel nt ds φ t h a w → c.wp P (fun e' a' w' => e' = e ∧ ∃ φ', SRel nt ds φ' t' h' a' w' ∧ Ext φ h w φ' h' w') a w

/-- a loop, about to run its body -/
def LR (P : Program) (nt : Nat) (c : Code) (t : Fm) (h : Heap) (e : Exit) (t' : Fm) (h' : Heap) : Prop :=
  ∀ ds φ a w, SRel nt ds φ t h a w → ∀ (b : Frame) (k : List Item) (cs : List Frame), ∃ e' a' w', (e' = e ∧ ∃ φ', SRel nt ds φ' t' h' a' w' ∧ Ext φ h w φ' h' w') ∧
    Arrives P (lone (b.at a (.code c :: .inLoop c :: k)) cs w) b k cs e' a' w'

variable {nt : Nat} {t t1 t' : Fm} {h h1 h' : Heap} {e : Exit}

theorem CR.skip : CR P nt .skip t h .normal t h := fun _ φ _ _ hr => wp_skip ⟨rfl, φ, hr, .refl _ _ _⟩
theorem CR.label {l : Nat} : CR P nt (.label l) t h .normal t h := fun _ φ _ _ hr => wp_label ⟨rfl, φ, hr, .refl _ _ _⟩
theorem CR.exit {i : Nat} : CR P nt (.exit i) t h (.exit i) t h := fun _ φ _ _ hr => wp_exit ⟨rfl, φ, hr, .refl _ _ _⟩
theorem CR.ret : CR P nt .ret t h .ret t h := fun _ φ _ _ hr => wp_ret ⟨rfl, φ, hr, .refl _ _ _⟩

theorem CR.seq {x y : Code} (hx : CR P nt x t h .normal t1 h1) (hy : CR P nt y t1 h1 e t' h') : CR P nt (.seq x y) t h e t' h' := by
  intro ds φ a w hr
  refine wp_seq (wp_mono (hx ds φ a w hr) ?_)
  rintro e' a' w' ⟨rfl, φ', hr', hx'⟩
  refine wp_mono (hy ds φ' a' w' hr') ?_
  rintro e2 a2 w2 ⟨rfl, φ2, hr2, hx2⟩
  exact ⟨rfl, φ2, hr2, hx'.trans hx2⟩

theorem CR.seq_out {x y : Code} (hx : CR P nt x t h e t' h') (he : e ≠ .normal) : CR P nt (.seq x y) t h e t' h' := by
  intro ds φ a w hr
  refine wp_seq (wp_mono (hx ds φ a w hr) ?_)
  rintro e' a' w' ⟨rfl, φ', hr', hx'⟩
  cases e' <;> first | exact absurd rfl he | exact ⟨rfl, φ', hr', hx'⟩

theorem CR.cond {c : Operand} {x y : Code} {b : Bool} (hok : okO c = true) (hc : evalO t c = .bool b) (hxy : CR P nt (if b then x else y) t h e t' h') : CR P nt (.cond c x y) t h e t' h' := by
  intro ds φ a w hr
  have := evalO_rel hr.1 hok
  rw [hc] at this
  exact wp_cond this.bool_inv (hxy ds φ a w hr)

theorem CR.block {i : Nat} {c : Code} (hc : CR P nt c t h e t' h') (he : ∀ j, e = .exit j → j ≠ i) : CR P nt (.block i c) t h e t' h' := by
  intro ds φ a w hr
  refine wp_block (wp_mono (hc ds φ a w hr) ?_)
  rintro e' a' w' ⟨rfl, φ', hr', hx'⟩
  cases e' with
  | exit j => simp only [Exit.inBlock]; rw [if_neg (he j rfl)]; exact ⟨trivial, φ', hr', hx'⟩
  | _ => exact ⟨rfl, φ', hr', hx'⟩

theorem CR.block_exit {i : Nat} {c : Code} (hc : CR P nt c t h (.exit i) t' h') : CR P nt (.block i c) t h .normal t' h' := by
  intro ds φ a w hr
  refine wp_block (wp_mono (hc ds φ a w hr) ?_)
  rintro e' a' w' ⟨rfl, φ', hr', hx'⟩
  simp only [Exit.inBlock, if_true]
  exact ⟨trivial, φ', hr', hx'⟩

theorem LR.out {c : Code} (hc : CR P nt c t h e t' h') (he : e ≠ .normal) : LR P nt c t h e t' h' := by
  intro ds φ a w hr b k cs
  obtain ⟨e', a', w', hq, harr⟩ := hc ds φ a w hr b (.inLoop c :: k) cs
  refine ⟨e', a', w', hq, ?_⟩
  obtain ⟨rfl, _⟩ := hq
  exact .pass (x := .inLoop c) rfl (fun _ _ => .inl he) harr

theorem LR.again {c : Code} (hc : CR P nt c t h .normal t1 h1) (hl : LR P nt c t1 h1 e t' h') : LR P nt c t h e t' h' := by
  intro ds φ a w hr b k cs
  obtain ⟨e1, a1, w1, ⟨rfl, φ1, hr1, hx1⟩, harr⟩ := hc ds φ a w hr b (.inLoop c :: k) cs
  obtain ⟨e2, a2, w2, ⟨he2, φ2, hr2, hx2⟩, harr2⟩ := hl ds φ1 a1 w1 hr1 b k cs
  exact ⟨e2, a2, w2, ⟨he2, φ2, hr2, hx1.trans hx2⟩, .of_steps (Steps.trans harr (.one step_inLoop)) harr2⟩

theorem CR.loop {c : Code} (hl : LR P nt c t h e t' h') : CR P nt (.loop c) t h e t' h' := by
  intro ds φ a w hr b k cs
  obtain ⟨e', a', w', hq, harr⟩ := hl ds φ a w hr b k cs
  exact ⟨e', a', w', hq, .of_steps (.one step_loop) harr⟩

include hT in
theorem CR.region {id : Nat} {ops : Array Oper} (hs : Seq P tt ops nt (List.range ops.size) t h t' h') : CR P nt (.region id ops false) t h .normal t' h' := by
  intro ds φ a w hr
  exact wp_region (seq_sound hT hs hr fun φ' a' w' hr' hx => ⟨rfl, φ', hr', hx⟩)

include hT in
theorem CR.drawn {id : Nat} {ops : Array Oper} {idx : Nat → Nat} {op : Nat → Oper} {cop : Nat → COp} {T : Nat → Fm} {H : Nat → Heap} {V : Nat → Value} (pl : Plan P tt ops nt idx op cop T H V)
    (hm : P.follows .mixedOrders = true) : CR P nt (.region id ops true) (T 0) (H 0) .normal (T ops.size) (H ops.size) := by
  intro ds φ a w hr
  exact drawn_sound hT pl hm hr fun φ' a' w' hr' hx => ⟨rfl, φ', hr', hx⟩

/-! ## Functions -/
inductive RVar where
  | tmp (k : Nat)
  | cell (k : Nat) (n : Option Nat)

def compRes (tt : T TI) : List ResultVar → Option (List RVar)
  | [] => some []
  | .tmp k :: l => match compRes tt l with | some r => some (.tmp k :: r) | none => none
  | .cell k ty :: l => match tt.get ty, compRes tt l with | some i, some r => some (.cell k (aggOf i) :: r) | _, _ => none

def resV (t : Fm) (h : Heap) : List RVar → Option (List Value)
  | [] => some []
  | .tmp k :: l => match resV t h l with | some r => some (t k :: r) | none => none
  | .cell k n :: l => match loadV h n (t k), resV t h l with | some v, some r => some (v :: r) | _, _ => none

def one : List Value → Value
  | [v] => v
  | l => .tuple ⟨l⟩

include hT in
theorem run_loadVar {φ : Phi} {w : World} (hr : HRel φ h w) {ty : TypeId} {i : TI} (hi : tt.get ty = some i) {v v' u : Value} (hv : VRel φ v v') (hl : loadV h (aggOf i) v = some u) :
    ∃ u', (do loadVar ty (← asAddr v') : Sem Value).run P w = .ok u' w ∧ VRel φ u u' := by
  have hu := hT.desc _ _ hi
  obtain ⟨inf, hinf, hi1, _⟩ := hT.info _ _ hi
  unfold loadV at hl
  split at hl
  case h_2 => simp at hl
  rename_i a
  obtain ⟨a', rfl, hA⟩ := hv.ptr_inv
  split at hl
  · rename_i hag
    have hnot : isAggD i.desc = false := by unfold aggOf at hag; split at hag <;> simp_all
    obtain ⟨u', g1, g2⟩ := m_load1 hr hA hl
    refine ⟨u', ?_, g2⟩
    simp only [asAddr, Sem.run_bind, Sem.run_pure, Result.andThen_ok, loadVar, run_isAgg' w hu, hnot, Bool.false_eq_true, if_false, run_load, g1]
  · rename_i n hag
    have hyes : isAggD i.desc = true ∧ n = i.size := by unfold aggOf at hag; split at hag <;> simp_all
    split at hl
    case h_2 => simp at hl
    rename_i l hln
    simp only [Option.some.injEq] at hl; subst hl
    obtain ⟨l', m1, m2, m3⟩ := m_loadN (P := P) hr hA hln
    refine ⟨.agg ⟨l'⟩, ?_, .agg _ _ m2⟩
    simp only [asAddr, Sem.run_bind, Sem.run_pure, Result.andThen_ok, loadVar, run_isAgg' w hu, hyes.1, if_true, run_sizeOf' w hinf, hi1, ← hyes.2, m1 w rfl]

def rvS (tmps : Array Value) : ResultVar → Sem Value
  | .tmp t => pure (tmps.getD t undef)
  | .cell a t => do loadVar t (← asAddr (tmps.getD a undef))

include hT in
theorem run_results {fn : Func} {rs : List RVar} (hrs : compRes tt fn.results.toList = some rs) {φ : Phi} {a : Act} {w : World} (hr : HRel φ h w) (ht : TRel φ t a) {vs : List Value} (hv : resV t h rs = some vs) :
    ∃ v', (results fn a.tmps).run P w = .ok v' w ∧ VRel φ (one vs) v' := by
  have key : ∀ (l : List ResultVar) (rs : List RVar) (vs : List Value), compRes tt l = some rs → resV t h rs = some vs →
      ∃ vs', (l.mapM (rvS a.tmps)).run P w = .ok vs' w ∧ LRel φ vs vs' := by
    intro l
    induction l with
    | nil =>
      intro rs vs h1 h2
      simp only [compRes, Option.some.injEq] at h1; subst h1
      simp only [resV, Option.some.injEq] at h2; subst h2
      exact ⟨[], rfl, .nil⟩
    | cons x l ih =>
      intro rs vs h1 h2
      cases x with
      | tmp k =>
        simp only [compRes] at h1
        split at h1
        case h_2 => simp at h1
        rename_i r hr1
        simp only [Option.some.injEq] at h1; subst h1
        simp only [resV] at h2
        split at h2
        case h_2 => simp at h2
        rename_i vs1 hv1
        simp only [Option.some.injEq] at h2; subst h2
        obtain ⟨vs', q1, q2⟩ := ih r vs1 hr1 hv1
        refine ⟨a.tmps.getD k undef :: vs', ?_, .cons _ _ _ _ (ht k) q2⟩
        rw [List.mapM_cons, Sem.run_bind]
        show ((pure (a.tmps.getD k undef) : Sem Value).run P w).andThen _ = _
        simp only [Sem.run_bind, Sem.run_pure, Result.andThen_ok, q1]
      | cell k ty =>
        simp only [compRes] at h1
        split at h1
        case h_2 => simp at h1
        rename_i i r hi hr1
        simp only [Option.some.injEq] at h1; subst h1
        simp only [resV] at h2
        split at h2
        case h_2 => simp at h2
        rename_i v vs1 hv0 hv1
        simp only [Option.some.injEq] at h2; subst h2
        obtain ⟨vs', q1, q2⟩ := ih r vs1 hr1 hv1
        obtain ⟨u', g1, g2⟩ := run_loadVar hT hr hi (ht k) hv0
        refine ⟨u' :: vs', ?_, .cons _ _ _ _ g2 q2⟩
        rw [List.mapM_cons, Sem.run_bind]
        show ((do loadVar ty (← asAddr (a.tmps.getD k undef)) : Sem Value).run P w).andThen _ = _
        rw [g1]
        simp only [Result.andThen_ok, Sem.run_bind, Sem.run_pure, q1]
  obtain ⟨vs', q1, q2⟩ := key _ _ _ hrs hv
  have hrun : (results fn a.tmps).run P w = .ok (if h : (⟨vs'⟩ : Array Value).size = 1 then (⟨vs'⟩ : Array Value)[0] else .tuple ⟨vs'⟩) w := by
    have hres : results fn a.tmps = (do let vs ← fn.results.mapM (rvS a.tmps); pure (if h : vs.size = 1 then vs[0] else .tuple vs)) := rfl
    rw [hres, Sem.run_bind, Array.mapM_eq_mapM_toList]
    have : (List.toArray <$> (fn.results.toList.mapM (rvS a.tmps))).run P w = .ok ⟨vs'⟩ w := by
      rw [map_eq_pure_bind, Sem.run_bind, q1]; rfl
    rw [this]
    rfl
  refine ⟨_, hrun, ?_⟩
  cases q2 with
  | nil => exact .tuple _ _ .nil
  | cons v v' l l' h1 h2 =>
    cases h2 with
    | nil => exact h1
    | cons v2 v2' l2 l2' h3 h4 =>
      rw [dif_neg (by simp)]
      exact .tuple _ _ (.cons _ _ _ _ h1 (.cons _ _ _ _ h3 h4))

/-- the temporaries of a function's frame, at its start -/
def argsT (args : List Value) : Fm := fun k => (nth args k).getD undef

include hT in
theorem call_code {f : Nat} {fn : Func} {c : Code} {rs : List RVar} {args : List Value} {vs : List Value} (hf : P.funcs[f]? = some fn) (hname : (fn.name == "runtime.NumGoroutine") = false) (hb : fn.body = some c)
    (hrs : compRes tt fn.results.toList = some rs) (hlen : args.length ≤ fn.ntmps) (hc : CR P fn.ntmps c (argsT args) h e t' h') (he : e = .normal ∨ e = .ret) (hv : resV t' h' rs = some vs) :
    CallNext P f args h (one vs) h' := by
  intro φ args' w ha hr hfull
  have hcall : (callFunc f ⟨args'⟩).run P w = .ok (.enter f ⟨args'⟩) w := by
    have h1 : fn.name ≠ "runtime.NumGoroutine" := by simpa using hname
    simp only [callFunc, Sem.run_bind, run_program, Result.andThen_ok, hf, hname, Bool.false_eq_true, if_false, hb, Option.isNone_some, Sem.run_pure]
  rw [hcall]
  refine calls_of_wp hf hb ?_
  have hl' := ha.length
  have hsr : SRel fn.ntmps [] φ (argsT args) h { tmps := (⟨args'⟩ : Array Value) ++ Array.replicate (fn.ntmps - (⟨args'⟩ : Array Value).size) undef, defers := [] } w := by
    refine ⟨fun k => ?_, hr, ?_, rfl, hfull⟩
    · show VRel φ ((nth args k).getD undef) _
      rw [nth_eq]
      by_cases hk : k < args.length
      · have hk1 : args[k]? = some args[k] := List.getElem?_eq_getElem hk
        obtain ⟨u, g1, g2⟩ := ha.get k _ hk1
        rw [hk1, Option.getD_some]
        have : ((⟨args'⟩ : Array Value) ++ Array.replicate (fn.ntmps - (⟨args'⟩ : Array Value).size) undef).getD k undef = u := by
          rw [Array.getD_eq_getD_getElem?, Array.getElem?_append_left (by simp; omega)]
          simp [g1]
        rw [this]; exact g2
      · have hk1 : args[k]? = none := List.getElem?_eq_none (by omega)
        rw [hk1, Option.getD_none]
        have : ((⟨args'⟩ : Array Value) ++ Array.replicate (fn.ntmps - (⟨args'⟩ : Array Value).size) undef).getD k undef = undef := by
          rw [Array.getD_eq_getD_getElem?, Array.getElem?_append_right (by simp; omega), Array.getElem?_replicate]
          split <;> rfl
        rw [this]; exact undef_rel φ
    · simp; omega
  refine wp_mono (hc [] φ _ w hsr) ?_
  rintro e' a' w' ⟨rfl, φ', ⟨h1, h2, h3, h4, h5⟩, hx⟩
  obtain ⟨v', r1, r2⟩ := run_results hT hrs h2 h1 hv
  rcases he with rfl | rfl
  · exact ⟨h4, v', r1, v', rfl, φ', r2, h2, hx⟩
  · exact ⟨h4, v', r1, v', rfl, φ', r2, h2, hx⟩

/-! ## Entries of the model's own -/
inductive Prim where
  | f32from | f32bits | f64from | f64bits | even

def primV (p : Prim) (args : List Value) : Option Value :=
  match p, args with
  | .f32from, [.int .u32 (.ofNat n)] => some (.float .f32 n)
  | .f64from, [.int .u64 (.ofNat n)] => some (.float .f64 n)
  | .f32bits, [.float .f32 n] => bif (FloatKind.f32.decode n).isNaN then none else some (.int .u32 (.ofNat n))
  | .f64bits, [.float .f64 n] => bif (FloatKind.f64.decode n).isNaN then none else some (.int .u64 (.ofNat n))
  | .even, [.float .f64 n] => match FloatKind.f64.decode n with
    | .nan _ _ => none
    | d => some (.float .f64 (FloatKind.f64.encode (d.integral .even)))
  | _, _ => none

def primE : Prim → Array Value → Sem Value
  | .f32from => Extern.MathFloatBits.float32frombits
  | .f32bits => Extern.MathFloatBits.float32bits
  | .f64from => Extern.MathFloatBits.float64frombits
  | .f64bits => Extern.MathFloatBits.float64bits
  | .even => Extern.MathFloor.toIntegral "math.RoundToEven" .even

theorem VRel.float_inv' {φ : Phi} {k : FloatKind} {n : Nat} {v : Value} (hv : VRel φ (.float k n) v) (hn : (k.decode n).isNaN = false) : v = .float k n := by
  cases hv with
  | float => rfl
  | nan _ _ _ hb _ => unfold isNaN at hb; rw [hn] at hb; simp at hb

theorem prim_sound {p : Prim} {φ : Phi} {args args' : List Value} {v : Value} (ha : LRel φ args args') (hv : primV p args = some v) (w : World) :
    ∃ v', (primE p ⟨args'⟩).run P w = .ok v' w ∧ VRel φ v v' := by
  unfold primV at hv
  split at hv
  · simp only [Option.some.injEq] at hv; subst hv
    cases ha with | cons _ _ _ _ h1 h2 => cases h2; rw [h1.int_inv]; exact ⟨_, rfl, .float _ _⟩
  · simp only [Option.some.injEq] at hv; subst hv
    cases ha with | cons _ _ _ _ h1 h2 => cases h2; rw [h1.int_inv]; exact ⟨_, rfl, .float _ _⟩
  · rename_i n
    cases hn : (FloatKind.f32.decode n).isNaN with
    | true => rw [hn] at hv; simp at hv
    | false =>
      rw [hn] at hv; simp only [cond_false, Option.some.injEq] at hv; subst hv
      cases ha with | cons _ _ _ _ h1 h2 => cases h2; rw [h1.float_inv' hn]; exact ⟨_, rfl, .int _ _⟩
  · rename_i n
    cases hn : (FloatKind.f64.decode n).isNaN with
    | true => rw [hn] at hv; simp at hv
    | false =>
      rw [hn] at hv; simp only [cond_false, Option.some.injEq] at hv; subst hv
      cases ha with | cons _ _ _ _ h1 h2 => cases h2; rw [h1.float_inv' hn]; exact ⟨_, rfl, .int _ _⟩
  · rename_i n
    split at hv
    · simp at hv
    · rename_i d hd
      simp only [Option.some.injEq] at hv; subst hv
      have hn : (FloatKind.f64.decode n).isNaN = false := by
        cases hdd : FloatKind.f64.decode n <;> first | rfl | exact absurd hdd (hd _ _)
      cases ha with
      | cons _ _ _ _ h1 h2 =>
        cases h2
        rw [h1.float_inv' hn]
        refine ⟨.float .f64 (FloatKind.f64.encode ((FloatKind.f64.decode n).integral .even)), ?_, .float _ _⟩
        show (Extern.MathFloor.toIntegral "math.RoundToEven" .even #[.float .f64 n]).run P w = _
        show Sem.run P (match FloatKind.f64.decode n with
          | .nan s t => if FloatKind.f64.format.quiet t = t then pure (Value.float .f64 n) else do
            let kept ← choose (.extern "math.Floor,Ceil,Trunc,RoundToEven.signallingNaN kept" 2)
            pure (Value.float .f64 (if kept == 1 then n else FloatKind.f64.encode (.nan s (FloatKind.f64.format.quiet t))))
          | d => pure (Value.float .f64 (FloatKind.f64.encode (d.integral .even)))) w = _
        cases hdd : FloatKind.f64.decode n <;> first | (exact absurd hdd (hd _ _)) | rfl
  · simp at hv

theorem call_prim {f : Nat} {fn : Func} {p : Prim} (hf : P.funcs[f]? = some fn) (hname : (fn.name == "runtime.NumGoroutine") = false) (hb : fn.body.isNone = true) (hn : Extern.findNext fn = none)
    (he : Extern.find fn = some (primE p)) {args : List Value} {v : Value} (hv : primV p args = some v) : CallNext P f args h v h := by
  intro φ args' w ha hr hfull
  rw [run_callFunc_extern hf hname hb hn he]
  obtain ⟨v', h1, h2⟩ := prim_sound (P := P) ha hv w
  rw [h1]
  exact ⟨φ, h2, hr, .refl _ _ _⟩

end
end Go.Ab
