/- A part of the proof. The quick machine: calls proved apart, handed on by a table. No condition. -/
import Derived.Test.YtpmbkfiicbipoaaGreatEngZC
/-! The quick machine: calls proved apart, handed on by a table. -/
namespace Go.Ab
set_option linter.unusedVariables false

noncomputable def setAll (l : List (Nat × Blk)) (t : T Blk) : T Blk :=
  List.rec (motive := fun _ => T Blk) t (fun p _ ih => Prod.rec (motive := fun _ => T Blk) (fun i b => T.setR b (Nat.succ i) ih i) p) l

def lk : List (Nat × Blk) → Nat → Option Blk
  | [], _ => none
  | (i, b) :: l, j => if j = i then some b else lk l j

theorem getR_setAll : ∀ (l : List (Nat × Blk)) (t : T Blk) (j : Nat), T.getR (setAll l t) j = match lk l j with | some b => some b | none => T.getR t j
  | [], t, j => rfl
  | (i, b) :: l, t, j => by
    show T.getR (T.setR b (Nat.succ i) (setAll l t) i) j = _
    rw [T.getR_setR, getR_setAll l t j]
    simp only [lk]
    by_cases h : j = i
    · rw [if_pos h, if_pos h]
    · rw [if_neg h, if_neg h]

theorem getR_e (j : Nat) : T.getR (T.e : T Blk) j = none := by rw [T.getR_eq, T.get_e]

theorem lk_mem : ∀ {l : List (Nat × Blk)} {j : Nat} {b : Blk}, lk l j = some b → (j, b) ∈ l
  | [], j, b, h => by simp [lk] at h
  | (i, c) :: l, j, b, h => by
    simp only [lk] at h
    split at h
    · rename_i e; subst e; simp only [Option.some.injEq] at h; subst h; simp
    · exact List.mem_cons_of_mem _ (lk_mem h)

theorem lk_some {l : List (Nat × Blk)} {j : Nat} (h : j ∈ l.map (·.1)) : ∃ b, lk l j = some b := by
  induction l with
  | nil => simp at h
  | cons p l ih =>
    obtain ⟨i, c⟩ := p
    simp only [lk]
    by_cases e : j = i
    · rw [if_pos e]; exact ⟨c, rfl⟩
    · rw [if_neg e]
      simp only [List.map_cons, List.mem_cons] at h
      rcases h with h | h
      · exact absurd h e
      · exact ih h

theorem lk_key {l : List (Nat × Blk)} {j : Nat} {b : Blk} (h : lk l j = some b) : j ∈ l.map (·.1) := List.mem_map.2 ⟨_, lk_mem h, rfl⟩

/-! ### Sameness -/
def psame : List (Value × Value) → List (Value × Value) → Bool
  | [], [] => true
  | (a, b) :: l, (c, d) :: m => bif vsame 10000 a c then (bif vsame 10000 b d then psame l m else false) else false
  | _, _ => false
theorem psame_eq : ∀ {l m : List (Value × Value)}, psame l m = true → l = m
  | [], [], _ => rfl
  | [], _ :: _, h => by simp [psame] at h
  | _ :: _, [], h => by simp [psame] at h
  | (a, b) :: l, (c, d) :: m, h => by
    simp only [psame] at h
    obtain ⟨h1, h2⟩ := bif_both h
    obtain ⟨h3, h4⟩ := bif_both h2
    rw [(vsame_both 10000).1 _ _ h1, (vsame_both 10000).1 _ _ h3, psame_eq h4]

def gsame : Option Nat → Option Nat → Bool
  | none, none => true
  | some a, some b => Nat.beq a b
  | _, _ => false
theorem gsame_eq {a b : Option Nat} (h : gsame a b = true) : a = b := by
  cases a <;> cases b <;> simp only [gsame] at h <;> first | rfl | (rw [beq_eq' h]) | exact absurd h (by simp)

def bsame : Blk → Blk → Bool
  | .cells c g, .cells d k => bif gsame g k then vsames 10000 c d else false
  | .map a, .map b => psame a b
  | .gone, .gone => true
  | _, _ => false
theorem bsame_eq {a b : Blk} (h : bsame a b = true) : a = b := by
  unfold bsame at h
  split at h
  · obtain ⟨h1, h2⟩ := bif_both h; rw [gsame_eq h1, (vsame_both 10000).2 _ _ h2]
  · rw [psame_eq h]
  · rfl
  · simp at h

def rsame : Value → Value → Bool
  | .tuple a, .tuple b => vsames 10000 a.toList b.toList
  | a, b => vsame 10000 a b
theorem rsame_eq {a b : Value} (h : rsame a b = true) : a = b := by
  unfold rsame at h
  split at h
  · rename_i a b
    have := (vsame_both 10000).2 _ _ h
    obtain ⟨a⟩ := a; obtain ⟨b⟩ := b
    rw [show a = b from this]
  · exact (vsame_both 10000).1 _ _ h

/-- all of these are there -/
noncomputable def memSame (t : T Blk) (l : List (Nat × Blk)) : Bool :=
  List.rec (motive := fun _ => Bool) true (fun p _ ih => Prod.rec (motive := fun _ => Bool) (fun i b => Option.rec (motive := fun _ => Bool) false (fun c => bif' (bsame c b) ih false) (T.getR t i)) p) l
theorem memSame_ok : ∀ {l : List (Nat × Blk)} {t : T Blk}, memSame t l = true → ∀ i b, (i, b) ∈ l → T.getR t i = some b
  | [], t, _, i, b, h => by simp at h
  | (j, c) :: l, t, hm, i, b, h => by
    have hm' : Option.rec (motive := fun _ => Bool) false (fun d => bif' (bsame d c) (memSame t l) false) (T.getR t j) = true := hm
    cases hg : T.getR t j with
    | none => rw [hg] at hm'; simp at hm'
    | some d =>
      rw [hg] at hm'
      have h2 : bif' (bsame d c) (memSame t l) false = true := hm'
      cases hb : bsame d c with
      | false => rw [hb, bif'_false] at h2; simp at h2
      | true =>
        rw [hb, bif'_true] at h2
        rcases List.mem_cons.1 h with h3 | h3
        · obtain ⟨rfl, rfl⟩ := Prod.mk.inj h3
          rw [hg, bsame_eq hb]
        · exact memSame_ok h2 i b h3

/-! ### A call, with what it is asked and what it answers -/
structure Tent where
  args : List Value
  next : Nat
  mem : List (Nat × Blk)
  v : Value
  next' : Nat
  mem' : List (Nat × Blk)

def memN : Nat → List (Nat × Blk) → Bool
  | _, [] => false
  | j, (i, _) :: l => bif Nat.beq j i then true else memN j l
theorem memN_ok : ∀ {j : Nat} {l : List (Nat × Blk)}, memN j l = true → j ∈ l.map (·.1)
  | j, [], h => by simp [memN] at h
  | j, (i, b) :: l, h => by
    simp only [memN] at h
    cases hb : Nat.beq j i with
    | true => rw [beq_eq' hb]; simp
    | false => rw [hb] at h; exact List.mem_cons_of_mem _ (memN_ok h)

def goodE (e : Tent) : Bool :=
  allB (fun p => Nat.blt p.1 e.next && memN p.1 e.mem') e.mem && (allB (fun p => Nat.ble e.next p.1 || memN p.1 e.mem) e.mem' && Nat.ble e.next e.next')

noncomputable def Tent.h0 (e : Tent) : FH := ⟨e.next, setAll e.mem .e⟩
noncomputable def Tent.h1 (e : Tent) : FH := ⟨e.next', setAll e.mem' .e⟩

structure TentOK (P : Program) (f : Nat) (e : Tent) : Prop where
  good : goodE e = true
  call : CallNext P f e.args (hOf e.h0) e.v (hOf e.h1)

theorem h0_blks (e : Tent) (i : Nat) : (hOf e.h0).blks i = lk e.mem i := by
  show T.getR (setAll e.mem .e) i = _
  rw [getR_setAll, getR_e]
  cases lk e.mem i <;> rfl
theorem h1_blks (e : Tent) (i : Nat) : (hOf e.h1).blks i = lk e.mem' i := by
  show T.getR (setAll e.mem' .e) i = _
  rw [getR_setAll, getR_e]
  cases lk e.mem' i <;> rfl

section
variable {P : Program}

/-- the piece: what is run for it -/
noncomputable def pieceK (e : Tent) : KV := fun v h => bif' (rsame v e.v) (FH.rec (motive := fun _ => R) (fun n t => bif' (Nat.beq n e.next') (bif' (memSame t e.mem') .yes (.fail "memory")) (.fail "next")) h) (.fail "value")

theorem piece_ok {F : T FF} (hF : ∀ f ff, F.get f = some ff → FFok P f ff) {n f : Nat} {e : Tent} (hg : goodE e = true)
    (hy : okR (runF F n f e.args e.h0 (pieceK e)) = true) : TentOK P f e := by
  obtain ⟨v, h', h1, h2⟩ := runF_ok hF n f e.args e.h0 (pieceK e) (okR_yes hy)
  obtain ⟨n', t'⟩ := h'
  have h1' : bif' (rsame v e.v) (bif' (Nat.beq n' e.next') (bif' (memSame t' e.mem') R.yes (R.fail "memory")) (R.fail "next")) (R.fail "value") = R.yes := h1
  obtain ⟨h3, h4⟩ := bif'_fail h1'
  obtain ⟨h5, h6⟩ := bif'_fail h4
  obtain ⟨h7, _⟩ := bif'_fail h6
  rw [rsame_eq h3] at h2
  refine ⟨hg, forget_call h2 ?_ ?_⟩
  · exact (beq_eq' h5).symm
  · intro i b hb
    rw [h1_blks] at hb
    exact memSame_ok h7 i b (lk_mem hb)

/-- a call of the table's, over a memory that has what it wants -/
theorem ent_call {f : Nat} {e : Tent} (he : TentOK P f e) {h : FH} (hn : h.next = e.next) (hms : memSame h.t e.mem = true) : CallNext P f e.args (hOf h) e.v (hOf ⟨e.next', setAll e.mem' h.t⟩) := by
  intro φ args' w ha hr hfull
  obtain ⟨hg, hc⟩ := he
  unfold goodE at hg
  simp only [Bool.and_eq_true] at hg
  obtain ⟨g1, g2, g3⟩ := hg
  rw [allB_iff] at g1 g2
  have k1 : ∀ i, i ∈ e.mem.map (·.1) → i < e.next ∧ ∃ b, lk e.mem' i = some b := by
    intro i hi
    obtain ⟨p, hp, rfl⟩ := List.mem_map.1 hi
    have := g1 p hp
    simp only [Bool.and_eq_true] at this
    exact ⟨blt_lt this.1, lk_some (memN_ok this.2)⟩
  have k2 : ∀ i, i ∈ e.mem'.map (·.1) → e.next ≤ i ∨ ∃ b, lk e.mem i = some b := by
    intro i hi
    obtain ⟨p, hp, rfl⟩ := List.mem_map.1 hi
    have := g2 p hp
    simp only [Bool.or_eq_true] at this
    rcases this with h1 | h1
    · exact .inl (ble_le h1)
    · exact .inr (lk_some (memN_ok h1))
  have hnx : (hOf h).next = e.next := hn
  have f1 : CallNext P f e.args (hOf h) e.v (joinH (hOf e.h0) (hOf e.h1) (hOf h)) := by
    refine frame_call hc hn.symm ?_ ?_ ?_ ?_
    · rw [hnx]; exact ble_le g3
    · intro i b hb
      rw [h0_blks] at hb
      exact memSame_ok hms i b (lk_mem hb)
    · intro i hi h0
      rw [h0_blks] at h0
      rw [h1_blks]
      cases hl : lk e.mem' i with
      | none => rfl
      | some b =>
        rcases k2 i (lk_key hl) with h1 | ⟨b', h1⟩
        · rw [hnx] at hi; omega
        · rw [h0] at h1; simp at h1
    · intro i hi
      rw [h0_blks]
      cases hl : lk e.mem i with
      | none => rfl
      | some b => have := (k1 i (lk_key hl)).1; rw [hnx] at hi; omega
  refine forget_call f1 (h2 := hOf ⟨e.next', setAll e.mem' h.t⟩) rfl ?_ φ args' w ha hr hfull
  intro i b hb
  have hb' : T.getR (setAll e.mem' h.t) i = some b := hb
  rw [getR_setAll] at hb'
  show (if i < (hOf h).next then (match (hOf e.h0).blks i with | none => (hOf h).blks i | some _ => (hOf e.h1).blks i) else (hOf e.h1).blks i) = some b
  rw [h0_blks, h1_blks]
  cases hl : lk e.mem' i with
  | some c =>
    rw [hl] at hb'
    simp only [Option.some.injEq] at hb'
    subst hb'
    split
    · rename_i hi
      split
      · rename_i h0
        rcases k2 i (lk_key hl) with h1 | ⟨b', h1⟩
        · rw [hnx] at hi; omega
        · rw [h0] at h1; simp at h1
      · rfl
    · rfl
  | none =>
    rw [hl] at hb'
    simp only at hb'
    have hlt : i < (hOf h).next := by
      rcases Nat.lt_or_ge i (hOf h).next with h1 | h1
      · exact h1
      · have := hr.none i h1
        rw [show (hOf h).blks i = T.getR h.t i from rfl, hb'] at this; simp at this
    rw [if_pos hlt]
    split
    · exact hb'
    · rename_i x h0
      obtain ⟨c, hc⟩ := (k1 i (lk_key h0)).2
      rw [hl] at hc; simp at hc

/-- the table -/
noncomputable def tabFF (es : List Tent) : FF := ⟨fun _ args h k =>
  List.rec (motive := fun _ => R) (.fail "no entry") (fun e _ ih => Tent.rec (motive := fun _ => R) (fun a n m v n' m' =>
    bif' (vsames 10000 args a) (FH.rec (motive := fun _ => R) (fun hn ht => bif' (bif' (Nat.beq hn n) (memSame ht m) false) (k v ⟨n', setAll m' ht⟩) ih) h) ih) e) es⟩

theorem tabFF_ok {f : Nat} : ∀ (es : List Tent), (∀ e, e ∈ es → TentOK P f e) → FFok P f (tabFF es)
  | [], _ => fun call _ args h k hy => by
    have : R.fail "no entry" = .yes := hy
    simp at this
  | e :: es, he => fun call hcs args h k hy => by
    have ih := tabFF_ok es (fun x hx => he x (List.mem_cons_of_mem _ hx)) call hcs args h k
    have hE := he e (by simp)
    obtain ⟨a, n, m, v, n', m'⟩ := e
    obtain ⟨hn, ht⟩ := h
    have hy' : bif' (vsames 10000 args a) (bif' (bif' (Nat.beq hn n) (memSame ht m) false) (k v ⟨n', setAll m' ht⟩) ((tabFF es).f call args ⟨hn, ht⟩ k)) ((tabFF es).f call args ⟨hn, ht⟩ k) = .yes := hy
    cases hv : vsames 10000 args a with
    | false => rw [hv, bif'_false] at hy'; exact ih hy'
    | true =>
      rw [hv, bif'_true] at hy'
      cases hc : bif' (Nat.beq hn n) (memSame ht m) false with
      | false => rw [hc, bif'_false] at hy'; exact ih hy'
      | true =>
        rw [hc, bif'_true] at hy'
        have hc2 : Nat.beq hn n = true ∧ memSame ht m = true := by
          cases hb : Nat.beq hn n with
          | false => rw [hb, bif'_false] at hc; simp at hc
          | true => rw [hb, bif'_true] at hc; exact ⟨rfl, hc⟩
        refine ⟨v, ⟨n', setAll m' ht⟩, hy', ?_⟩
        rw [(vsame_both 10000).2 _ _ hv]
        exact ent_call hE (h := ⟨hn, ht⟩) (beq_eq' hc2.1) hc2.2

noncomputable def withTabs : List (Nat × List Tent) → T FF → T FF
  | [], F => F
  | (f, es) :: l, F => withTabs l (F.set f (tabFF es))

theorem withTabs_ok : ∀ (l : List (Nat × List Tent)) (F : T FF), (∀ x, x ∈ l → ∀ e, e ∈ x.2 → TentOK P x.1 e) → (∀ f ff, F.get f = some ff → FFok P f ff) → ∀ f ff, (withTabs l F).get f = some ff → FFok P f ff
  | [], F, _, hF => hF
  | (g, es) :: l, F, hp, hF => withTabs_ok l _ (fun x hx => hp x (by simp [hx])) fun f ff h => by
    rw [T.get_set] at h
    split at h
    · rename_i he
      subst he
      obtain rfl := Option.some.inj h
      exact tabFF_ok es (hp (f, es) (by simp))
    · exact hF f ff h

/-- a closed call that answers true: from whatever world, it does, and what was there stays -/
theorem closed_trueF {F : T FF} (hF : ∀ f ff, F.get f = some ff → FFok P f ff) {n f : Nat}
    (hy : runF F n f [] emptyH isTrueK = .yes) {fn : Func} (hf : P.funcs[f]? = some fn) (hname : (fn.name == "runtime.NumGoroutine") = false) (hb : fn.body.isSome = true) (w : World) :
    Calls P f #[] w fun e w' => e = .returned (.bool true) ∧ (∀ b, b < w.heap.size → w'.heap[b]? = w.heap[b]?) ∧ w.heap.size ≤ w'.heap.size ∧ w'.os = w.os ∧ w'.tape = w.tape ∧ w'.output = w.output ∧ ∀ a, w'.frozen? a = w.frozen? a := by
  obtain ⟨v, h', h1, h2⟩ := runF_ok hF n f [] emptyH isTrueK hy
  obtain rfl := isTrueK_yes h1
  have hr : HRel (fun _ => none) (hOf emptyH) w := by
    refine ⟨by simp, fun i _ => rfl, by simp, by simp, ?_⟩
    rintro i j im jm ⟨b, hb, _⟩
    have : (hOf emptyH).blks i = none := rfl
    rw [this] at hb; simp at hb
  have hfull : Full (fun _ => none) (hOf emptyH) := by
    rintro i ⟨b, hb, _⟩
    have : (hOf emptyH).blks i = none := rfl
    rw [this] at hb; simp at hb
  have hres := h2 (fun _ => none) [] w .nil hr hfull
  have hcall : (callFunc f ⟨[]⟩).run P w = .ok (.enter f ⟨[]⟩) w := by
    obtain ⟨c, hc⟩ := Option.isSome_iff_exists.1 hb
    have h1 : fn.name ≠ "runtime.NumGoroutine" := by simpa using hname
    simp only [callFunc, Sem.run_bind, run_program, Result.andThen_ok, hf, hname, Bool.false_eq_true, if_false, hc, Option.isNone_some, Sem.run_pure]
  rw [hcall] at hres
  refine Calls.mono hres ?_
  rintro e w' ⟨v', rfl, φ', r1, r2, r3⟩
  rw [r1.bool_inv]
  refine ⟨rfl, fun b hb => r3.frame b hb (fun i im hl => ?_), r3.size, r3.os, r3.tape, r3.output, r3.frz⟩
  obtain ⟨x, hx, _⟩ := hl
  have : (hOf emptyH).blks i = none := rfl
  rw [this] at hx; simp at hx


/-- a closed call with tables, in the rows' words -/
theorem closed_tabs {F : T FF} (hF : ∀ f ff, F.get f = some ff → FFok P f ff) {n f : Nat}
    (hy : okR (runF F n f [] emptyH isTrueK) = true) {fn : Func} (hf : P.funcs[f]? = some fn) (hname : (fn.name == "runtime.NumGoroutine") = false) (hb : fn.body.isSome = true) (w : World) :
    Calls P f #[] w fun e w' => e = .returned (.bool true) ∧ Go.RowKit.Grown w w' := by
  refine Calls.mono (closed_trueF hF (okR_yes hy) hf hname hb w) ?_
  rintro e w' ⟨he, h1, h2, h3, h4, h5, h6⟩
  exact ⟨he, World.keptBut_none_iff.2 ⟨h3, h5, h1⟩, h6, h2⟩

end
end Go.Ab
