/- A part of the proof. The quick machine: functions; the tables of a program. No condition. -/
import Derived.Test.YtpmbkfiicbipoaaGreatEngZA
import Derived.RowKit3
/-! The quick machine: functions; the tables of a program. -/
namespace Go.Ab
set_option linter.unusedVariables false

noncomputable def fr8 : B8 Value := .mk undef undef undef undef undef undef undef undef
noncomputable def fr64 : B8 (B8 Value) := .mk fr8 fr8 fr8 fr8 fr8 fr8 fr8 fr8
noncomputable def fr0 : Fr := .mk fr64 fr64 fr64 fr64 fr64 fr64 fr64 fr64

noncomputable def frameL : List Value → Nat → Fr → Fr
  | [], _, s => s
  | v :: l, i, s => frameL l (Nat.succ i) (Pt.f (putX (some i)) s v)

theorem fr0_get (k : Nat) : tOf fr0 k = undef := by
  unfold tOf
  cases hk : Nat.blt k 512 with
  | false => rfl
  | true =>
    simp only [cond_true]
    unfold frGet
    have a1 : Nat.div k 64 < 8 := by have := blt_lt hk; show k / 64 < 8; omega
    have b1 : Nat.mod (Nat.div k 8) 8 < 8 := Nat.mod_lt _ (by omega)
    have c1 : Nat.mod k 8 < 8 := Nat.mod_lt _ (by omega)
    have e1 : (pk (Nat.div k 64)).f fr0 = fr64 := by rcases lt8 a1 with h | h | h | h | h | h | h | h <;> rw [h] <;> rfl
    have e2 : (pk (Nat.mod (Nat.div k 8) 8)).f fr64 = fr8 := by rcases lt8 b1 with h | h | h | h | h | h | h | h <;> rw [h] <;> rfl
    rw [e1, e2]
    rcases lt8 c1 with h | h | h | h | h | h | h | h <;> rw [h] <;> rfl

theorem frameL_get : ∀ (l : List Value) (i : Nat) (s : Fr) (k : Nat), i + l.length ≤ 512 → tOf (frameL l i s) k = if i ≤ k ∧ k < i + l.length then (nth l (k - i)).getD undef else tOf s k
  | [], i, s, k, _ => by simp only [frameL, List.length_nil]; rw [if_neg (by omega)]
  | v :: l, i, s, k, h => by
    simp only [List.length_cons] at h ⊢
    have hlt : ltO (some i) 512 = true := by
      show Nat.blt i 512 = true
      rw [nblt]; simp; omega
    rw [frameL, frameL_get l (Nat.succ i) _ k (by omega), putX_f hlt]
    by_cases h1 : Nat.succ i ≤ k ∧ k < Nat.succ i + l.length
    · rw [if_pos h1, if_pos (by omega)]
      rw [show k - i = (k - Nat.succ i) + 1 by omega]; rfl
    · rw [if_neg h1]
      show (bif Nat.beq k i then v else tOf s k) = _
      by_cases h2 : k = i
      · subst h2
        rw [if_pos (by omega), Nat.sub_self]
        simp [nth]
      · have : Nat.beq k i = false := by cases hb : Nat.beq k i <;> simp_all
        rw [this, if_neg (by omega)]; rfl

theorem frameL_args (args : List Value) (h : args.length ≤ 512) : tOf (frameL args 0 fr0) = argsT args := by
  funext k
  rw [frameL_get args 0 fr0 k (by omega), fr0_get]
  unfold argsT
  by_cases hk : k < args.length
  · rw [if_pos (by omega)]; rfl
  · rw [if_neg (by omega), nth_eq, List.getElem?_eq_none (by omega)]; rfl

structure FF where
  f : CallT → List Value → FH → KV → R

noncomputable def codeFF (tt : T TI) (nt : Nat) (rs : List RVar) (c : Code) : FF :=
  FC.rec (motive := fun _ => FF) (fun c => ⟨fun call args h k => bif' (Nat.ble args.length nt) (c call (frameL args 0 fr0) h (fun t h => vOpt (resV (tOf t) (hOf h) rs) fun vs => k (one vs) h) (fun _ _ _ => .fail "exit") (fun t h => vOpt (resV (tOf t) (hOf h) rs) fun vs => k (one vs) h)) (.fail "arguments")⟩) (codeF tt nt c)

noncomputable def funF (tt : T TI) (fn : Func) : FF := match fn.body with
  | none => ⟨fun _ _ _ _ => .fail "no body"⟩
  | some c => match compRes tt fn.results.toList with
    | none => ⟨fun _ _ _ _ => .fail "results"⟩
    | some rs => bif' (Nat.ble fn.ntmps 512) (bif' (fn.name == "runtime.NumGoroutine") ⟨fun _ _ _ _ => .fail "name"⟩ (codeFF tt fn.ntmps rs c)) ⟨fun _ _ _ _ => .fail "temporaries"⟩

def FFok (P : Program) (f : Nat) (ff : FF) : Prop := ∀ call, CallS P call → ∀ args h k, ff.f call args h k = .yes → ∃ v h', k v h' = .yes ∧ CallNext P f args (hOf h) v (hOf h')

section
variable {P : Program} {tt : T TI}

theorem funF_ok (hT : TOk P tt) (hm : P.follows .mixedOrders = true) {f : Nat} {fn : Func} (hf : P.funcs[f]? = some fn) : FFok P f (funF tt fn) := by
  intro call hcs args h k hy
  unfold funF at hy
  split at hy
  · simp at hy
  rename_i c hb
  split at hy
  · simp at hy
  rename_i rs hrs
  cases hn : Nat.ble fn.ntmps 512 with
  | false => rw [hn, bif'_false] at hy; simp at hy
  | true =>
    rw [hn, bif'_true] at hy
    cases hname : (fn.name == "runtime.NumGoroutine") with
    | true => rw [hname, bif'_true] at hy; simp at hy
    | false =>
      rw [hname, bif'_false] at hy
      have hy' : bif' (Nat.ble args.length fn.ntmps) ((codeF tt fn.ntmps c).f call (frameL args 0 fr0) h (fun t h => vOpt (resV (tOf t) (hOf h) rs) fun vs => k (one vs) h) (fun _ _ _ => .fail "exit") (fun t h => vOpt (resV (tOf t) (hOf h) rs) fun vs => k (one vs) h)) (.fail "arguments") = .yes := hy
      obtain ⟨h1, h2⟩ := bif'_fail hy'
      have hlen := ble_le h1
      have hnt := ble_le hn
      obtain ⟨e, s', h', hf2, hcr⟩ := codeF_ok hT hm c call hcs _ _ _ _ _ h2
      rw [frameL_args args (by omega)] at hcr
      cases e with
      | normal =>
        obtain ⟨vs, h3, h4⟩ := vOpt_yes hf2
        exact ⟨one vs, h', h4, call_code hT hf hname hb hrs hlen hcr (.inl rfl) h3⟩
      | ret =>
        obtain ⟨vs, h3, h4⟩ := vOpt_yes hf2
        exact ⟨one vs, h', h4, call_code hT hf hname hb hrs hlen hcr (.inr rfl) h3⟩
      | exit i => simp [Fin] at hf2
      | _ => exact hf2.elim

noncomputable def runF (F : T FF) (n : Nat) : CallT :=
  Nat.rec (motive := fun _ => CallT) (fun _ _ _ _ => .fail "depth") (fun _ ih f args h k => Option.rec (motive := fun _ => R) (.fail "no such function") (fun ff => FF.rec (motive := fun _ => R) (fun g => g ih args h k) ff) (T.getR F f)) n

theorem runF_ok {F : T FF} (hF : ∀ f ff, F.get f = some ff → FFok P f ff) : ∀ n, CallS P (runF F n)
  | 0 => fun f args h k hy => by simp [runF] at hy
  | n + 1 => fun f args h k hy => by
    have hy' : Option.rec (motive := fun _ => R) (.fail "no such function") (fun ff => FF.rec (motive := fun _ => R) (fun g => g (runF F n) args h k) ff) (T.getR F f) = .yes := hy
    cases hg : T.getR F f with
    | none => rw [hg] at hy'; simp at hy'
    | some ff =>
      rw [hg] at hy'
      rw [T.getR_eq] at hg
      exact hF f ff hg _ (runF_ok hF n) args h k hy'

/-- an entry of the model's own -/
def PrimOK (P : Program) (f : Nat) (p : Prim) : Prop := ∃ fn, P.funcs[f]? = some fn ∧ (fn.name == "runtime.NumGoroutine") = false ∧ fn.body.isNone = true ∧ Extern.findNext fn = none ∧ Extern.find fn = some (primE p)

noncomputable def primFF (p : Prim) : FF := ⟨fun _ args h k => vOpt (primV p args) fun v => k v h⟩
theorem primFF_ok {f : Nat} {p : Prim} (h : PrimOK P f p) : FFok P f (primFF p) := by
  obtain ⟨fn, h1, h2, h3, h4, h5⟩ := h
  intro call _ args h k hy
  obtain ⟨v, h6, h7⟩ := vOpt_yes hy
  exact ⟨v, h, h7, call_prim h1 h2 h3 h4 h5 h6⟩

noncomputable def withPrims : List (Nat × Prim) → T FF → T FF
  | [], F => F
  | (f, p) :: l, F => withPrims l (F.set f (primFF p))

theorem withPrims_ok : ∀ (l : List (Nat × Prim)) (F : T FF), (∀ x, x ∈ l → PrimOK P x.1 x.2) → (∀ f ff, F.get f = some ff → FFok P f ff) → ∀ f ff, (withPrims l F).get f = some ff → FFok P f ff
  | [], F, _, hF => hF
  | (g, p) :: l, F, hp, hF => withPrims_ok l _ (fun x hx => hp x (by simp [hx])) fun f ff h => by
    rw [T.get_set] at h
    split at h
    · rename_i he
      subst he
      obtain rfl := Option.some.inj h
      exact primFF_ok (hp (f, p) (by simp))
    · exact hF f ff h

noncomputable def mkF (tt : T TI) (P : Program) (prims : List (Nat × Prim)) : T FF := withPrims prims (T.ofList (P.funcs.toList.map (funF tt)) 0 .e)

theorem mkF_ok (hT : TOk P tt) (hm : P.follows .mixedOrders = true) {prims : List (Nat × Prim)} (hp : ∀ x, x ∈ prims → PrimOK P x.1 x.2) : ∀ f ff, (mkF tt P prims).get f = some ff → FFok P f ff := by
  refine withPrims_ok prims _ hp ?_
  intro f ff h
  rw [T.get_ofList] at h
  split at h
  · rw [Nat.sub_zero, List.getElem?_map] at h
    cases hf : P.funcs.toList[f]? with
    | none => rw [hf] at h; simp at h
    | some fn =>
      rw [hf] at h
      simp only [Option.map_some, Option.some.injEq] at h
      subst h
      exact funF_ok hT hm (by simpa using hf)
  · simp at h

/-! ## Types -/
def flatOf (bd : Nat → Option TypeDesc) : List Field → Option (List (Nat × TypeDesc))
  | [] => some []
  | f :: l => match bd f.type, flatOf bd l with
    | some d, some r => bif scalarD d && !(f.name == "_") then some ((f.offset, d) :: r) else none
    | _, _ => none

def baseDesc (b : T TypeInfo) (inf : TypeInfo) : Option TypeDesc := match inf.desc with
  | .named _ u => match b.get u with | some i => some i.desc | none => none
  | d => some d

def descAt (b : T TypeInfo) (t : Nat) : Option TypeDesc := match b.get t with
  | some i => baseDesc b i
  | none => none

def tiOf (P : Program) (b : T TypeInfo) (t : Nat) (inf : TypeInfo) : Option TI := match baseDesc b inf with
  | none => none
  | some d => some { desc := d, size := inf.size, bytes := inf.bytes, zero := (match inf.zero with | some z => bif plainV 8 z then some z else none | none => none), methods := inf.methods,
                     flat := (match d with | .struct fs => (match flatOf (descAt b) fs.toList with | some l => bif P.stoodInHeld t || P.eqGuardType P.depth t then none else some l | none => none) | _ => none) }

def mkTIs (P : Program) (b : T TypeInfo) : List TypeInfo → Nat → T TI → T TI
  | [], _, r => r
  | inf :: l, t, r => match tiOf P b t inf with
    | some i => mkTIs P b l (t + 1) (r.set t i)
    | none => mkTIs P b l (t + 1) r

def mkTT (P : Program) : T TI := mkTIs P (T.ofList P.types.toList 0 .e) P.types.toList 0 .e

theorem mkTIs_get {b : T TypeInfo} : ∀ (l : List TypeInfo) (t : Nat) (r : T TI) (k : Nat) (i : TI), (mkTIs P b l t r).get k = some i → (∃ inf, t ≤ k ∧ l[k - t]? = some inf ∧ tiOf P b k inf = some i) ∨ r.get k = some i
  | [], t, r, k, i, h => .inr h
  | x :: l, t, r, k, i, h => by
    simp only [mkTIs] at h
    have up : (∃ inf, t + 1 ≤ k ∧ l[k - (t + 1)]? = some inf ∧ tiOf P b k inf = some i) → ∃ inf, t ≤ k ∧ (x :: l)[k - t]? = some inf ∧ tiOf P b k inf = some i := by
      rintro ⟨inf, h1, h2, h3⟩
      refine ⟨inf, by omega, ?_, h3⟩
      rw [show k - t = (k - (t + 1)) + 1 by omega, List.getElem?_cons_succ]; exact h2
    split at h
    · rename_i ti hti
      rcases mkTIs_get l (t + 1) _ k i h with h1 | h1
      · exact .inl (up h1)
      · rw [T.get_set] at h1
        split at h1
        · rename_i he
          subst he
          obtain rfl := Option.some.inj h1
          exact .inl ⟨x, Nat.le_refl _, by simp, hti⟩
        · exact .inr h1
    · rcases mkTIs_get l (t + 1) _ k i h with h1 | h1
      · exact .inl (up h1)
      · exact .inr h1

theorem base_info (t : Nat) (inf : TypeInfo) (h : (T.ofList P.types.toList 0 .e : T TypeInfo).get t = some inf) : P.types.toList[t]? = some inf := by
  rw [T.get_ofList] at h
  split at h
  · simpa using h
  · simp at h

theorem info_of {t : Nat} {inf : TypeInfo} (h : P.types.toList[t]? = some inf) : P.info? t = some inf := by
  have h' : P.types[t]? = some inf := by simpa using h
  have hlt : t < P.types.size := (Array.getElem?_eq_some_iff.1 h').1
  show (if t < P.types.size then P.types[t]? else _) = _
  rw [if_pos hlt]; exact h'

theorem desc_of {t : Nat} {inf : TypeInfo} {d : TypeDesc} (h : P.types.toList[t]? = some inf) (hd : baseDesc (T.ofList P.types.toList 0 .e) inf = some d) : P.underlying t = some d := by
  have hi := info_of h
  unfold baseDesc at hd
  split at hd
  · rename_i x u hn
    split at hd
    · rename_i i hi2
      simp only [Option.some.injEq] at hd; subst hd
      have hu := info_of (base_info u i hi2)
      unfold Program.underlying
      rw [hi]
      obtain ⟨ds, _⟩ := inf
      simp only at hn
      subst hn
      simp only [hu, Option.map_some]
    · simp at hd
  · rename_i hn
    simp only [Option.some.injEq] at hd; subst hd
    unfold Program.underlying
    rw [hi]
    obtain ⟨ds, _⟩ := inf
    cases ds <;> first | rfl | exact absurd rfl (hn _ _)

theorem flatOf_ok : ∀ (fs : List Field) (l : List (Nat × TypeDesc)), flatOf (descAt (T.ofList P.types.toList 0 .e)) fs = some l → FlatFields P fs l
  | [], l, h => by simp only [flatOf, Option.some.injEq] at h; subst h; exact .nil
  | f :: fs, l, h => by
    simp only [flatOf] at h
    split at h
    case h_2 => simp at h
    rename_i d r h1 h2
    obtain ⟨h3, h4⟩ := bif_some h
    simp only [Option.some.injEq] at h4; subst h4
    simp only [Bool.and_eq_true, Bool.not_eq_true', beq_eq_false_iff_ne, ne_eq] at h3
    refine .cons f fs d r h3.2 ?_ h3.1 (flatOf_ok fs r h2)
    unfold descAt at h1
    split at h1
    · rename_i i hi
      exact desc_of (base_info _ _ hi) h1
    · simp at h1

theorem mkTT_ok (P : Program) : TOk P (mkTT P) := by
  have key : ∀ t i, (mkTT P).get t = some i → ∃ inf, P.types.toList[t]? = some inf ∧ tiOf P (T.ofList P.types.toList 0 .e) t inf = some i := by
    intro t i h
    rcases mkTIs_get P.types.toList 0 .e t i h with ⟨inf, _, h2, h3⟩ | h1
    · exact ⟨inf, by simpa using h2, h3⟩
    · simp at h1
  refine ⟨?_, ?_, ?_⟩
  · intro t i h
    obtain ⟨inf, h1, h2⟩ := key t i h
    unfold tiOf at h2
    split at h2
    · simp at h2
    · rename_i d hd
      simp only [Option.some.injEq] at h2; subst h2
      exact desc_of h1 hd
  · intro t i h
    obtain ⟨inf, h1, h2⟩ := key t i h
    unfold tiOf at h2
    split at h2
    · simp at h2
    · rename_i d hd
      simp only [Option.some.injEq] at h2; subst h2
      refine ⟨inf, info_of h1, rfl, rfl, fun z hz => ?_, rfl⟩
      simp only at hz
      split at hz
      · rename_i z' hz'
        obtain ⟨hz1, hz2⟩ := bif_some hz
        simp only [Option.some.injEq] at hz2; subst hz2
        exact ⟨hz', hz1⟩
      · simp at hz
  · intro t i ds h hfl
    obtain ⟨inf, h1, h2⟩ := key t i h
    unfold tiOf at h2
    split at h2
    · simp at h2
    · rename_i d hd
      simp only [Option.some.injEq] at h2; subst h2
      simp only at hfl ⊢
      split at hfl
      · rename_i fs
        split at hfl
        · rename_i l hl
          cases hg : (P.stoodInHeld t || P.eqGuardType P.depth t) with
          | true => rw [hg] at hfl; simp at hfl
          | false =>
            rw [hg] at hfl
            simp only [cond_false, Option.some.injEq] at hfl; subst hfl
            simp only [Bool.or_eq_false_iff] at hg
            exact ⟨fs, rfl, flatOf_ok _ _ hl, hg.1, hg.2⟩
        · simp at hfl
      · simp at hfl

/-- a closed call that the quick machine runs to its end -/
theorem closed_call (hm : P.follows .mixedOrders = true) {prims : List (Nat × Prim)} (hp : ∀ x, x ∈ prims → PrimOK P x.1 x.2) {n f : Nat} {args : List Value} {h : FH} {k : KV}
    (hy : runF (mkF (mkTT P) P prims) n f args h k = .yes) : ∃ v h', k v h' = .yes ∧ CallNext P f args (hOf h) v (hOf h') :=
  runF_ok (mkF_ok (mkTT_ok P) hm hp) n f args h k hy

end

/-- the empty memory -/
def emptyH : FH := ⟨0, .e⟩

noncomputable def isTrueK : KV := fun v _ => match v with | .bool b => bif' b .yes (.fail "false") | _ => .fail "no bool"

theorem isTrueK_yes {v : Value} {h : FH} (hy : isTrueK v h = .yes) : v = .bool true := by
  unfold isTrueK at hy
  split at hy
  · obtain ⟨h1, _⟩ := bif'_fail hy; rw [h1]
  · simp at hy

/-- a closed call that answers true: from whatever world, it does, and what was there stays -/
theorem closed_true {P : Program} (hm : P.follows .mixedOrders = true) {prims : List (Nat × Prim)} (hp : ∀ x, x ∈ prims → PrimOK P x.1 x.2) {n f : Nat}
    (hy : runF (mkF (mkTT P) P prims) n f [] emptyH isTrueK = .yes) {fn : Func} (hf : P.funcs[f]? = some fn) (hname : (fn.name == "runtime.NumGoroutine") = false) (hb : fn.body.isSome = true) (w : World) :
    Calls P f #[] w fun e w' => e = .returned (.bool true) ∧ (∀ b, b < w.heap.size → w'.heap[b]? = w.heap[b]?) ∧ w.heap.size ≤ w'.heap.size ∧ w'.os = w.os ∧ w'.tape = w.tape ∧ w'.output = w.output ∧ ∀ a, w'.frozen? a = w.frozen? a := by
  obtain ⟨v, h', h1, h2⟩ := closed_call hm hp hy
  obtain rfl := isTrueK_yes h1
  have hr : HRel (fun _ => none) (hOf emptyH) w := by
    refine ⟨by simp, fun i _ => rfl, by simp, by simp, ?_⟩
    rintro i j im jm ⟨b, hb, _⟩
    have : (hOf emptyH).blks i = none := rfl
    rw [this] at hb; simp at hb
  have hfull : Full (fun _ => none) (hOf emptyH) := by
    rintro i ⟨b, hb, _⟩
    have : (hOf emptyH).blks i = none := rfl
    rw [this] at hb; simp at hb
  have hres := h2 (fun _ => none) [] w .nil hr hfull
  have hcall : (callFunc f ⟨[]⟩).run P w = .ok (.enter f ⟨[]⟩) w := by
    obtain ⟨c, hc⟩ := Option.isSome_iff_exists.1 hb
    have h1 : fn.name ≠ "runtime.NumGoroutine" := by simpa using hname
    simp only [callFunc, Sem.run_bind, run_program, Result.andThen_ok, hf, hname, Bool.false_eq_true, if_false, hc, Option.isNone_some, Sem.run_pure]
  rw [hcall] at hres
  refine Calls.mono hres ?_
  rintro e w' ⟨v', rfl, φ', r1, r2, r3⟩
  rw [r1.bool_inv]
  refine ⟨rfl, fun b hb => r3.frame b hb (fun i im hl => ?_), r3.size, r3.os, r3.tape, r3.output, r3.frz⟩
  obtain ⟨x, hx, _⟩ := hl
  have : (hOf emptyH).blks i = none := rfl
  rw [this] at hx; simp at hx

def okR : R → Bool
  | .yes => true
  | .fail _ => false

theorem okR_yes {r : R} (h : okR r = true) : r = .yes := by cases r <;> first | rfl | simp [okR] at h

/-- .. in the rows' words -/
theorem closed_grown {P : Program} (hm : P.follows .mixedOrders = true) {prims : List (Nat × Prim)} (hp : ∀ x, x ∈ prims → PrimOK P x.1 x.2) {n f : Nat}
    (hy : okR (runF (mkF (mkTT P) P prims) n f [] emptyH isTrueK) = true) {fn : Func} (hf : P.funcs[f]? = some fn) (hname : (fn.name == "runtime.NumGoroutine") = false) (hb : fn.body.isSome = true) (w : World) :
    Calls P f #[] w fun e w' => e = .returned (.bool true) ∧ Go.RowKit.Grown w w' := by
  refine Calls.mono (closed_true hm hp (okR_yes hy) hf hname hb w) ?_
  rintro e w' ⟨he, h1, h2, h3, h4, h5, h6⟩
  exact ⟨he, World.keptBut_none_iff.2 ⟨h3, h5, h1⟩, h6, h2⟩

end Go.Ab
