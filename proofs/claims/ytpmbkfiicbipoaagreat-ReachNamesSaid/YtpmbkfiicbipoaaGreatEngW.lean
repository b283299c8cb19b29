/- A part of the proof. The abstract machine: a plan that passes the check is one. No condition. -/
import Derived.Test.YtpmbkfiicbipoaaGreatEngV
/-! The abstract machine: a plan that passes the check is one. -/
namespace Go.Ab

def hsAt : List Ent → List Nat → Nat → List Nat
  | _, hs, 0 => hs
  | [], hs, _ + 1 => hs
  | e :: l, hs, p + 1 => hsAt l (bif e.hv then e.i :: hs else hs) p

structure EntFacts (n : Nat) (all l : List Ent) (mask dm : Nat) (hs : List Nat) (p : Nat) (e : Ent) : Prop where
  lt : e.i < n
  new : mask.testBit e.i = false ∧ ∀ p' e', p' < p → l[p']? = some e' → e'.i ≠ e.i
  edge : ∀ d, d ∈ e.o.after → Region.binds .any d = true → mask.testBit d.on = true ∨ ∃ p' e', p' < p ∧ l[p']? = some e' ∧ e'.i = d.on
  rd : readsOk all e.i e.b (e.c.reads e.o) = true
  hvb : e.hv = true → (∀ j, mask.testBit j = true → e.b.testBit j = true) ∧ ∀ p' e', p' < p → l[p']? = some e' → e.b.testBit e'.i = true
  wr : ∀ d, e.c.dst = some d → dm.testBit d = false ∧ ∀ p' e', p' < p → l[p']? = some e' → e'.c.dst ≠ some d
  ld : isLoad e.c.io = true → heaviesOk e.b (dropL e.u (hsAt l hs p)) = true
  hv : e.hv = isHeavy e.c.io

theorem testBit_add {m i j : Nat} : (Nat.lor m (Nat.shiftLeft 1 i)).testBit j = (m.testBit j || decide (j = i)) := by
  show (m ||| (1 <<< i)).testBit j = _
  rw [Nat.testBit_or, Nat.shiftLeft_eq, Nat.one_mul, Nat.testBit_two_pow]
  congr 1
  by_cases h : i = j
  · simp [h]
  · simp [h]; exact fun e => h e.symm

theorem allEdges_sound {mask : Nat} : ∀ {l : List Edge}, allEdges mask l = true → ∀ e, e ∈ l → Region.binds .any e = true → mask.testBit e.on = true
  | [], _, e, h, _ => by simp at h
  | d :: l, h, e, he, hb => by
    simp only [allEdges] at h
    rcases List.mem_cons.1 he with rfl | he
    · rw [hb] at h
      simp only [cond_true] at h
      cases ht : Nat.testBit mask e.on with
      | true => rfl
      | false => rw [ht] at h; simp at h
    · refine allEdges_sound (l := l) ?_ e he hb
      cases hd : Region.binds .any d with
      | false => rw [hd] at h; exact h
      | true =>
        rw [hd] at h
        simp only [cond_true] at h
        cases ht : Nat.testBit mask d.on with
        | true => rw [ht] at h; exact h
        | false => rw [ht] at h; simp at h

theorem land_sub {m b : Nat} (h : Nat.beq (Nat.land m b) m = true) {j : Nat} (hj : m.testBit j = true) : b.testBit j = true := by
  have h1 : (m &&& b) = m := beq_eq' h
  have : (m &&& b).testBit j = true := by rw [h1]; exact hj
  rw [Nat.testBit_and] at this
  simp only [Bool.and_eq_true] at this
  exact this.2

theorem setDst_some {dm dm' : Nat} {d : Option Nat} (h : setDst dm d = some dm') : (∀ k, d = some k → dm.testBit k = false) ∧ ∀ j, dm'.testBit j = (dm.testBit j || decide (d = some j)) := by
  cases d with
  | none => simp only [setDst, Option.some.injEq] at h; subst h; simp
  | some k =>
    simp only [setDst] at h
    cases ht : Nat.testBit dm k with
    | true => rw [ht] at h; simp at h
    | false =>
      rw [ht] at h
      simp only [cond_false, Option.some.injEq] at h; subst h
      refine ⟨fun k' hk => by rw [← Option.some.inj hk]; exact ht, fun j => ?_⟩
      rw [testBit_add]
      by_cases h : j = k
      · simp [h]
      · have : ¬ k = j := fun e => h e.symm
        simp [h, this]

theorem full_mask {n mask : Nat} (h : Nat.beq mask (Nat.sub (Nat.shiftLeft 1 n) 1) = true) {j : Nat} (hj : j < n) : mask.testBit j = true := by
  have h1 : mask = (1 <<< n) - 1 := beq_eq' h
  rw [h1, Nat.shiftLeft_eq, Nat.one_mul, Nat.testBit_two_pow_sub_one]
  simpa using hj

theorem bif_both {c x : Bool} (h : (bif c then x else false) = true) : c = true ∧ x = true := by cases c <;> simp_all

theorem ents_facts (n : Nat) (all : List Ent) : ∀ (l : List Ent) (mask dm : Nat) (hs : List Nat), entsOk n all l mask dm hs = true →
    (∀ p e, l[p]? = some e → EntFacts n all l mask dm hs p e) ∧ ∀ j, j < n → mask.testBit j = true ∨ ∃ (p : Nat) (e : Ent), l[p]? = some e ∧ e.i = j
  | [], mask, dm, hs, h => by
    simp only [entsOk] at h
    exact ⟨fun p e he => by simp at he, fun j hj => .inl (full_mask h hj)⟩
  | x :: l, mask, dm, hs, h => by
    simp only [entsOk] at h
    split at h
    · simp at h
    rename_i dm' hdm
    obtain ⟨hc, hrest⟩ := bif_both h
    simp only [Bool.and_eq_true, Bool.not_eq_true'] at hc
    obtain ⟨⟨⟨⟨⟨⟨c1, c2⟩, c3⟩, c4⟩, c5⟩, c6⟩, c7⟩ := hc
    obtain ⟨d1, d2⟩ := setDst_some hdm
    obtain ⟨ih1, ih2⟩ := ents_facts n all l _ dm' _ hrest
    constructor
    · intro p e he
      cases p with
      | zero =>
        simp only [List.getElem?_cons_zero, Option.some.injEq] at he
        subst he
        refine ⟨blt_lt c1, ⟨c2, fun p' e' h => absurd h (Nat.not_lt_zero _)⟩, fun d hd hb => .inl (allEdges_sound c3 d (by simpa using hd) hb), c4, fun hv => ⟨fun j hj => ?_, fun p' e' h => absurd h (Nat.not_lt_zero _)⟩,
          fun d hd => ⟨d1 d hd, fun p' e' h => absurd h (Nat.not_lt_zero _)⟩, fun hl => ?_, ?_⟩
        · rw [hv] at c5; exact land_sub c5 hj
        · rw [hl] at c6; exact c6
        · cases hh : isHeavy x.c.io with
          | true => rw [hh] at c7; exact c7
          | false => rw [hh] at c7; simpa using c7
      | succ p =>
        simp only [List.getElem?_cons_succ] at he
        have f := ih1 p e he
        have prev : ∀ p' e', p' < p + 1 → (x :: l)[p']? = some e' → (p' = 0 ∧ e' = x) ∨ ∃ q, q < p ∧ l[q]? = some e' := by
          intro p' e' h1 h2
          cases p' with
          | zero => simp only [List.getElem?_cons_zero, Option.some.injEq] at h2; exact .inl ⟨rfl, h2.symm⟩
          | succ q => exact .inr ⟨q, by omega, by simpa using h2⟩
        refine ⟨f.lt, ⟨?_, ?_⟩, ?_, f.rd, fun hv => ⟨?_, ?_⟩, fun d hd => ⟨?_, ?_⟩, f.ld, f.hv⟩
        · have := f.new.1; rw [testBit_add] at this; simp only [Bool.or_eq_false_iff] at this; exact this.1
        · intro p' e' h1 h2
          rcases prev p' e' h1 h2 with ⟨_, rfl⟩ | ⟨q, h3, h4⟩
          · have := f.new.1; rw [testBit_add] at this; simp only [Bool.or_eq_false_iff, decide_eq_false_iff_not] at this; exact fun e => this.2 e.symm
          · exact f.new.2 q e' h3 h4
        · intro d hd hb
          rcases f.edge d hd hb with h1 | ⟨q, e', h1, h2, h3⟩
          · rw [testBit_add] at h1
            simp only [Bool.or_eq_true, decide_eq_true_eq] at h1
            rcases h1 with h1 | h1
            · exact .inl h1
            · exact .inr ⟨0, x, Nat.succ_pos _, by simp, h1.symm⟩
          · exact .inr ⟨q + 1, e', by omega, by simpa using h2, h3⟩
        · intro j hj
          exact (f.hvb hv).1 j (by rw [testBit_add]; simp [hj])
        · intro p' e' h1 h2
          rcases prev p' e' h1 h2 with ⟨_, rfl⟩ | ⟨q, h3, h4⟩
          · exact (f.hvb hv).1 e'.i (by rw [testBit_add]; simp)
          · exact (f.hvb hv).2 q e' h3 h4
        · have := (f.wr d hd).1; rw [d2] at this; simp only [Bool.or_eq_false_iff] at this; exact this.1
        · intro p' e' h1 h2
          rcases prev p' e' h1 h2 with ⟨_, rfl⟩ | ⟨q, h3, h4⟩
          · have := (f.wr d hd).1; rw [d2] at this; simp only [Bool.or_eq_false_iff, decide_eq_false_iff_not] at this; exact this.2
          · exact (f.wr d hd).2 q e' h3 h4
    · intro j hj
      rcases ih2 j hj with h1 | ⟨p, e, h1, h2⟩
      · rw [testBit_add] at h1
        simp only [Bool.or_eq_true, decide_eq_true_eq] at h1
        rcases h1 with h1 | h1
        · exact .inl h1
        · exact .inr ⟨0, x, by simp, h1.symm⟩
      · exact .inr ⟨p + 1, e, by simpa using h1, h2⟩

/-! ## The run of a plan -/
inductive Trace (P : Program) (tt : T TI) : List Ent → List Heap → Fm → Heap → Fm → Heap → Prop where
  | nil (s t h) : Trace P tt [] s t h t h
  | cons (e : Ent) (l : List Ent) (s : List Heap) (v : Value) (t h t' h' t2 h2) (hs : StepC P tt e.c t h v t' h')
      (hld : isLoad e.c.io = true → wantedC e.c t = true → ∀ x, x ∈ s.take e.u → memV t x e.c.io = some (v, x)) (hl : Trace P tt l (bif e.hv then h :: s else s) t' h' t2 h2) : Trace P tt (e :: l) s t h t2 h2

structure TraceFns (P : Program) (tt : T TI) (l : List Ent) (s : List Heap) (t : Fm) (h : Heap) (t' : Fm) (h' : Heap) (T : Nat → Fm) (H : Nat → Heap) (V : Nat → Value) (S : Nat → List Heap) : Prop where
  t0 : T 0 = t
  h0 : H 0 = h
  tn : T l.length = t'
  hn : H l.length = h'
  s0 : S 0 = s
  sn : ∀ p e, l[p]? = some e → S (p + 1) = bif e.hv then H p :: S p else S p
  step : ∀ p e, l[p]? = some e → StepC P tt e.c (T p) (H p) (V p) (T (p + 1)) (H (p + 1))
  ld : ∀ p e, l[p]? = some e → isLoad e.c.io = true → wantedC e.c (T p) = true → ∀ x, x ∈ (S p).take e.u → memV (T p) x e.c.io = some (V p, x)

theorem Trace.fns {P : Program} {tt : T TI} {l : List Ent} {s : List Heap} {t : Fm} {h : Heap} {t' : Fm} {h' : Heap} (tr : Trace P tt l s t h t' h') : ∃ T H V S, TraceFns P tt l s t h t' h' T H V S := by
  induction tr with
  | nil s t h => exact ⟨fun _ => t, fun _ => h, fun _ => undef, fun _ => s, rfl, rfl, rfl, rfl, rfl, fun p e he => by simp at he, fun p e he => by simp at he, fun p e he => by simp at he⟩
  | cons e l s v t h t' h' t2 h2 hs hld hl ih =>
    obtain ⟨T, H, V, S, f⟩ := ih
    refine ⟨fun p => match p with | 0 => t | p + 1 => T p, fun p => match p with | 0 => h | p + 1 => H p, fun p => match p with | 0 => v | p + 1 => V p, fun p => match p with | 0 => s | p + 1 => S p, rfl, rfl, f.tn, f.hn, rfl, ?_, ?_, ?_⟩
    · intro p x hx
      cases p with
      | zero => simp only [List.getElem?_cons_zero, Option.some.injEq] at hx; subst hx; exact f.s0
      | succ p => exact f.sn p x (by simpa using hx)
    · intro p x hx
      cases p with
      | zero =>
        simp only [List.getElem?_cons_zero, Option.some.injEq] at hx; subst hx
        show StepC P tt e.c t h v (T 0) (H 0)
        rw [f.t0, f.h0]; exact hs
      | succ p => exact f.step p x (by simpa using hx)
    · intro p x hx
      cases p with
      | zero => simp only [List.getElem?_cons_zero, Option.some.injEq] at hx; subst hx; exact hld
      | succ p => exact f.ld p x (by simpa using hx)

theorem hsAt_succ : ∀ (l : List Ent) (hs : List Nat) (p : Nat) (e : Ent), l[p]? = some e → hsAt l hs (p + 1) = bif e.hv then e.i :: hsAt l hs p else hsAt l hs p
  | [], _, _, _, h => by simp at h
  | x :: l, hs, 0, e, h => by
    simp only [List.getElem?_cons_zero, Option.some.injEq] at h; subst h
    cases l <;> rfl
  | x :: l, hs, p + 1, e, h => by
    show hsAt l _ (p + 1) = bif e.hv then e.i :: hsAt l _ p else hsAt l _ p
    exact hsAt_succ l _ p e (by simpa using h)

theorem heaviesOk_mem {b : Nat} : ∀ {l : List Nat}, heaviesOk b l = true → ∀ i, i ∈ l → b.testBit i = true
  | [], _, i, h => by simp at h
  | j :: l, h, i, hi => by
    simp only [heaviesOk] at h
    cases ht : Nat.testBit b j with
    | false => rw [ht] at h; simp at h
    | true =>
      rw [ht] at h
      rcases List.mem_cons.1 hi with rfl | hi
      · exact ht
      · exact heaviesOk_mem h i hi

theorem writer_some {k : Nat} : ∀ {l : List Ent} {i b : Nat}, writer k l = some (i, b) → ∃ e, e ∈ l ∧ e.c.dst = some k ∧ e.i = i ∧ e.b = b
  | [], _, _, h => by simp [writer] at h
  | x :: l, i, b, h => by
    simp only [writer] at h
    split at h
    · rename_i d hd
      cases hb : Nat.beq d k with
      | true =>
        rw [hb] at h
        simp only [cond_true, Option.some.injEq, Prod.mk.injEq] at h
        exact ⟨x, by simp, by rw [hd, beq_eq' hb], h.1, h.2⟩
      | false =>
        rw [hb] at h
        obtain ⟨e, h1, h2⟩ := writer_some (l := l) h
        exact ⟨e, by simp [h1], h2⟩
    · obtain ⟨e, h1, h2⟩ := writer_some (l := l) h
      exact ⟨e, by simp [h1], h2⟩

theorem writer_none {k : Nat} : ∀ {l : List Ent}, writer k l = none → ∀ e, e ∈ l → e.c.dst ≠ some k
  | [], _, e, h => by simp at h
  | x :: l, h, e, he => by
    simp only [writer] at h
    split at h
    · rename_i d hd
      cases hb : Nat.beq d k with
      | true => rw [hb] at h; simp at h
      | false =>
        rw [hb] at h
        rcases List.mem_cons.1 he with rfl | he
        · rw [hd]; intro e2; exact beq_ne' hb (Option.some.inj e2)
        · exact writer_none (l := l) h e he
    · rename_i hd
      rcases List.mem_cons.1 he with rfl | he
      · rw [hd]; simp
      · exact writer_none (l := l) h e he

theorem readsOk_mem {all : List Ent} {i b : Nat} : ∀ {l : List Nat}, readsOk all i b l = true → ∀ k, k ∈ l → ∀ i' b', writer k all = some (i', b') → i = i' ∨ b.testBit i' = true ∨ b'.testBit i = true
  | [], _, k, h, _, _, _ => by simp at h
  | k0 :: l, h, k, hk, i', b', hw => by
    simp only [readsOk] at h
    rcases List.mem_cons.1 hk with rfl | hk
    · rw [hw] at h
      simp only at h
      cases h1 : Nat.beq i i' with
      | true => exact .inl (beq_eq' h1)
      | false =>
        rw [h1] at h
        cases h2 : Nat.testBit b i' with
        | true => exact .inr (.inl rfl)
        | false =>
          rw [h2] at h
          cases h3 : Nat.testBit b' i with
          | true => exact .inr (.inr rfl)
          | false => rw [h3] at h; simp at h
    · refine readsOk_mem (l := l) ?_ k hk i' b' hw
      split at h
      · exact h
      · rename_i i2 b2 _
        revert h
        cases Nat.beq i i2 <;> cases Nat.testBit b i2 <;> cases Nat.testBit b2 i <;> simp

/-- a plan's entry is of the region -/
structure EntIs (tt : T TI) (ops : Array Oper) (nt : Nat) (e : Ent) : Prop where
  get : ops[e.i]? = some e.o
  ok : COk tt ops nt e.o e.c
  bef : ∀ j, e.b.testBit j = true → Bef ops j e.i

theorem plan_of {P : Program} {tt : T TI} {ops : Array Oper} {nt : Nat} {l : List Ent} (hlen : l.length = ops.size) (his : ∀ e, e ∈ l → EntIs tt ops nt e) (hok : entsOk ops.size l l 0 0 [] = true)
    {t : Fm} {h : Heap} {t' : Fm} {h' : Heap} (tr : Trace P tt l [] t h t' h') :
    ∃ idx op cop T H V, Plan P tt ops nt idx op cop T H V ∧ T 0 = t ∧ H 0 = h ∧ T ops.size = t' ∧ H ops.size = h' := by
  obtain ⟨T, H, V, S, f⟩ := tr.fns
  obtain ⟨f1, f2⟩ := ents_facts ops.size l l 0 0 [] hok
  cases l with
  | nil =>
    have h0 : ops.size = 0 := by simpa using hlen.symm
    refine ⟨fun _ => 0, fun _ => default, fun _ => ⟨none, .lenc 0, none⟩, T, H, V, ⟨?_, ?_, ?_, ?_, ?_, ?_, ?_, ?_, ?_, ?_⟩, f.t0, f.h0, by rw [h0]; exact f.tn, by rw [h0]; exact f.hn⟩ <;>
      (intros; omega)
  | cons e0 l0 =>
    generalize hl : e0 :: l0 = l at *
    let E : Nat → Ent := fun p => (l[p]?).getD e0
    have hE : ∀ p, p < ops.size → l[p]? = some (E p) := by
      intro p hp
      have : l[p]? = some (l[p]'(by omega)) := List.getElem?_eq_getElem _
      simp only [E, this, Option.getD_some]
    have hmem : ∀ p, p < ops.size → E p ∈ l := fun p hp => List.mem_of_getElem? (hE p hp)
    have hF : ∀ p, p < ops.size → EntFacts ops.size l l 0 0 [] p (E p) := fun p hp => f1 p _ (hE p hp)
    have hinj : ∀ p p', p < ops.size → p' < ops.size → (E p).i = (E p').i → p = p' := by
      intro p p' h1 h2 h3
      rcases Nat.lt_trichotomy p p' with h | h | h
      · exact absurd h3 ((hF p' h2).new.2 p _ h (hE p h1))
      · exact h
      · exact absurd h3.symm ((hF p h1).new.2 p' _ h (hE p' h2))
    have hsurj : ∀ i, i < ops.size → ∃ p, p < ops.size ∧ (E p).i = i := by
      intro i hi
      rcases f2 i hi with h1 | ⟨p, e, h1, h2⟩
      · simp at h1
      · have hp : p < ops.size := by rw [← hlen]; exact (List.getElem?_eq_some_iff.1 h1).1
        refine ⟨p, hp, ?_⟩
        rw [hE p hp] at h1
        rw [Option.some.inj h1]; exact h2
    have hedge : ∀ p, p < ops.size → ∀ e, e ∈ (E p).o.after → Region.binds .any e = true → ∃ p', p' < p ∧ (E p').i = e.on := by
      intro p hp e he hb
      rcases (hF p hp).edge e he hb with h1 | ⟨p', e', h1, h2, h3⟩
      · simp at h1
      · refine ⟨p', h1, ?_⟩
        rw [hE p' (by omega)] at h2
        rw [Option.some.inj h2]; exact h3
    -- what is ordered ahead is ahead
    have hahead : ∀ j i, Bef ops j i → ∀ p, p < ops.size → (E p).i = i → ∃ p', p' < p ∧ (E p').i = j := by
      intro j i hb
      induction hb with
      | edge i j o e ho he hbd hj =>
        rintro p hp rfl
        have := (his _ (hmem p hp)).get
        rw [ho] at this
        obtain rfl := Option.some.inj this
        subst hj
        exact hedge p hp e he hbd
      | trans i j k h1 h2 ih1 ih2 =>
        rintro p hp rfl
        obtain ⟨p1, q1, q2⟩ := ih2 p hp rfl
        obtain ⟨p2, q3, q4⟩ := ih1 p1 (by omega) q2
        exact ⟨p2, by omega, q4⟩
    have hlt : ∀ p p', p < ops.size → p' < ops.size → Bef ops (E p').i (E p).i → p' < p := by
      intro p p' h1 h2 hb
      obtain ⟨q, q1, q2⟩ := hahead _ _ hb p h1 rfl
      rw [← hinj q p' (by omega) h2 q2]; exact q1
    have hwr : ∀ p p', p < ops.size → p' < ops.size → p ≠ p' → ∀ d, (E p).c.dst = some d → (E p').c.dst ≠ some d := by
      intro p p' h1 h2 hne d hd hd'
      rcases Nat.lt_or_ge p p' with h | h
      · exact ((hF p' h2).wr d hd').2 p _ h (hE p h1) hd
      · exact ((hF p h1).wr d hd).2 p' _ (by omega) (hE p' h2) hd'
    -- the snapshots
    have hsn : ∀ p, p ≤ ops.size → ∀ p', p' < p → (E p').hv = true → ∃ j : Nat, (hsAt l [] p)[j]? = some (E p').i ∧ (S p)[j]? = some (H p') := by
      intro p
      induction p with
      | zero => intro _ p' h; omega
      | succ p ih =>
        intro hp p' hlt' hv
        have hEp := hE p (by omega)
        rw [hsAt_succ l [] p _ hEp, f.sn p _ hEp]
        rcases Nat.lt_succ_iff_lt_or_eq.1 hlt' with h | rfl
        · obtain ⟨j, j1, j2⟩ := ih (by omega) p' h hv
          cases (E p).hv with
          | true => exact ⟨j + 1, by simpa using j1, by simpa using j2⟩
          | false => exact ⟨j, j1, j2⟩
        · rw [hv]
          exact ⟨0, by simp, by simp⟩
    refine ⟨fun p => (E p).i, fun p => (E p).o, fun p => (E p).c, T, H, V, ⟨?_, ?_, ?_, hinj, hsurj, hedge, ?_, hwr, ?_, ?_⟩, f.t0, f.h0, by rw [← hlen]; exact f.tn, by rw [← hlen]; exact f.hn⟩
    · exact fun p hp => (his _ (hmem p hp)).get
    · exact fun p hp => (his _ (hmem p hp)).ok
    · exact fun p hp => f.step p _ (hE p hp)
    · intro p p' hp hp' hne k hk hd
      cases hw : writer k l with
      | none => exact absurd hd (writer_none hw _ (hmem p' hp'))
      | some x =>
        obtain ⟨i', b'⟩ := x
        obtain ⟨e, e1, e2, e3, e4⟩ := writer_some hw
        obtain ⟨q, hq⟩ := List.mem_iff_getElem?.1 e1
        have hqn : q < ops.size := by rw [← hlen]; exact (List.getElem?_eq_some_iff.1 hq).1
        have hEq : E q = e := by rw [hE q hqn] at hq; exact Option.some.inj hq
        have hqp : q = p' := by
          rcases Decidable.em (q = p') with h | h
          · exact h
          · exact absurd hd (hwr q p' hqn hp' h k (by rw [hEq]; exact e2))
        subst hqp
        rw [← hEq] at e3 e4
        rcases readsOk_mem (hF p hp).rd k hk i' b' hw with h1 | h1 | h1
        · exact absurd (hinj p q hp hqn (h1.trans e3.symm)) (fun e => hne e.symm)
        · rw [← e3] at h1
          have hb := (his _ (hmem p hp)).bef _ h1
          exact .inl ⟨hlt p q hp hqn hb, hb⟩
        · rw [← e4] at h1
          have hb := (his _ (hmem q hqn)).bef _ h1
          exact .inr ⟨hlt q p hqn hp hb, hb⟩
    · intro p p' hlt' hp' hh
      have hv : (E p').hv = true := by rw [(hF p' hp').hv]; exact hh
      exact (his _ (hmem p' hp')).bef _ (((hF p' hp').hvb hv).2 p _ hlt' (hE p (by omega)))
    · intro p p' hlt' hp hl2 hh hw
      have hv : (E p').hv = true := by rw [(hF p' (by omega)).hv]; exact hh
      obtain ⟨j, j1, j2⟩ := hsn p (Nat.le_of_lt hp) p' hlt' hv
      rcases Nat.lt_or_ge j (E p).u with h | h
      · refine .inr (f.ld p _ (hE p hp) hl2 hw (H p') ?_)
        exact List.mem_of_getElem? (i := j) (by rw [List.getElem?_take, if_pos h]; exact j2)
      · have h1 := (hF p hp).ld hl2
        rw [dropL_eq] at h1
        have h2 : (E p').i ∈ (hsAt l [] p).drop (E p).u := List.mem_of_getElem? (i := j - (E p).u) (by rw [List.getElem?_drop, show (E p).u + (j - (E p).u) = j by omega]; exact j1)
        exact .inl ((his _ (hmem p hp)).bef _ (heaviesOk_mem h1 _ h2))

end Go.Ab
