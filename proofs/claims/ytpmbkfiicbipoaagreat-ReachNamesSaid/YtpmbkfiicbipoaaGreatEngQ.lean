/- A part of the proof. The abstract machine: regions whose order is drawn. Part 2: the plan, its facts. No condition. -/
import Derived.Test.YtpmbkfiicbipoaaGreatEngP
/-! The abstract machine: regions whose order is drawn. Part 2: the plan, its facts. -/
namespace Go.Ab

structure Plan (P : Program) (tt : T TI) (ops : Array Oper) (nt : Nat) (idx : Nat → Nat) (op : Nat → Oper) (cop : Nat → COp) (T : Nat → Fm) (H : Nat → Heap) (V : Nat → Value) : Prop where
  get : ∀ p, p < ops.size → ops[idx p]? = some (op p)
  ok : ∀ p, p < ops.size → COk tt ops nt (op p) (cop p)
  step : ∀ p, p < ops.size → StepC P tt (cop p) (T p) (H p) (V p) (T (p + 1)) (H (p + 1))
  inj : ∀ p p', p < ops.size → p' < ops.size → idx p = idx p' → p = p'
  surj : ∀ i, i < ops.size → ∃ p, p < ops.size ∧ idx p = i
  edge : ∀ p, p < ops.size → ∀ e, e ∈ (op p).after → Region.binds .any e = true → ∃ p', p' < p ∧ idx p' = e.on
  rd : ∀ p p', p < ops.size → p' < ops.size → p' ≠ p → ∀ k, k ∈ (cop p).reads (op p) → (cop p').dst = some k → (p' < p ∧ Bef ops (idx p') (idx p)) ∨ (p < p' ∧ Bef ops (idx p) (idx p'))
  wr : ∀ p p', p < ops.size → p' < ops.size → p ≠ p' → ∀ d, (cop p).dst = some d → (cop p').dst ≠ some d
  hv : ∀ p p', p < p' → p' < ops.size → isHeavy (cop p').io = true → Bef ops (idx p) (idx p')
  ld : ∀ p p', p' < p → p < ops.size → isLoad (cop p).io = true → isHeavy (cop p').io = true → wantedC (cop p) (T p) = true → Bef ops (idx p') (idx p) ∨ memV (T p) (H p') (cop p).io = some (V p, H p')

section
variable {P : Program} {tt : T TI} (hT : TOk P tt) {ops : Array Oper} {nt : Nat} {idx : Nat → Nat} {op : Nat → Oper} {cop : Nat → COp} {T : Nat → Fm} {H : Nat → Heap} {V : Nat → Value}
  (pl : Plan P tt ops nt idx op cop T H V) (hf0 : Feas nt (T 0) (H 0))

include hT pl hf0

theorem Plan.feas : ∀ p, p ≤ ops.size → Feas nt (T p) (H p)
  | 0, _ => hf0
  | p + 1, h => (feas_step hT (pl.get p h) (pl.ok p h) (pl.step p h) (Plan.feas p (Nat.le_of_succ_le h))).1

theorem Plan.next1 (p : Nat) (h : p < ops.size) : (H p).next ≤ (H (p + 1)).next :=
  (feas_step hT (pl.get p h) (pl.ok p h) (pl.step p h) (Plan.feas hT pl hf0 p (Nat.le_of_lt h))).2

theorem Plan.next_mono : ∀ {p p' : Nat}, p ≤ p' → p' ≤ ops.size → (H p).next ≤ (H p').next := by
  intro p p' h
  induction h with
  | refl => intro _; exact Nat.le_refl _
  | step h ih => intro h2; exact Nat.le_trans (ih (Nat.le_of_succ_le h2)) (Plan.next1 hT pl hf0 _ h2)

theorem Plan.none {p : Nat} (h : p ≤ ops.size) {i : Nat} (hi : (H p).next ≤ i) : (H p).blks i = none := by
  obtain ⟨φ, a, w, _, h2, _⟩ := Plan.feas hT pl hf0 p h
  exact h2.none i hi

omit hT hf0 in
theorem Plan.tget1 {p' k : Nat} (hp' : p' < ops.size) (hd : (cop p').dst = some k) : ∀ {p : Nat}, p' < p → p ≤ ops.size → T p k = V p' := by
  intro p h
  induction h with
  | refl =>
    intro _
    obtain ⟨s1, _⟩ := pl.step p' hp'
    rw [s1, hd]; simp [putT]
  | @step m h ih =>
    intro h2
    obtain ⟨s1, _⟩ := pl.step m h2
    rw [s1]
    have hm : p' ≠ m := Nat.ne_of_lt h
    have hnd := pl.wr p' m hp' h2 hm k hd
    rw [← ih (Nat.le_of_succ_le h2)]
    cases hmd : (cop m).dst with
    | none => rfl
    | some d =>
      have hne : k ≠ d := fun e => hnd (by rw [hmd, e])
      have hb : Nat.beq k d = false := by cases hb : Nat.beq k d <;> simp_all
      show (bif Nat.beq k d then V m else T m k) = _
      rw [hb]; rfl

omit hT hf0 in
theorem Plan.tget0 {k : Nat} : ∀ {p : Nat}, p ≤ ops.size → (∀ p', p' < p → (cop p').dst ≠ some k) → T p k = T 0 k
  | 0, _, _ => rfl
  | p + 1, h, hn => by
    obtain ⟨s1, _⟩ := pl.step p h
    rw [s1, ← Plan.tget0 (p := p) (Nat.le_of_succ_le h) fun p' hp' => hn p' (Nat.lt_succ_of_lt hp')]
    cases hmd : (cop p).dst with
    | none => rfl
    | some d =>
      have hne : k ≠ d := fun e => hn p (Nat.lt_succ_self p) (by rw [hmd, e])
      have hb : Nat.beq k d = false := by cases hb : Nat.beq k d <;> simp_all
      show (bif Nat.beq k d then V p else T p k) = _
      rw [hb]; rfl

end

/-- an operation whose block is new, at its place in the machine's order -/
def Late (n : Nat) (cop : Nat → COp) (T : Nat → Fm) (H : Nat → Heap) (p id : Nat) : Prop := p < n ∧ isAlloc (cop p).io = true ∧ wantedC (cop p) (T p) = true ∧ id = (H p).next

open Classical in
/-- the memory behind the first q, with the blocks to come -/
noncomputable def HC (n : Nat) (cop : Nat → COp) (T : Nat → Fm) (H : Nat → Heap) (q : Nat) : Heap :=
  ⟨(H n).next, fun id => if id < (H q).next then (H q).blks id else if h : ∃ p, q ≤ p ∧ Late n cop T H p id then (H (Classical.choose h + 1)).blks id else none⟩

section
variable {P : Program} {tt : T TI} (hT : TOk P tt) {ops : Array Oper} {nt : Nat} {idx : Nat → Nat} {op : Nat → Oper} {cop : Nat → COp} {T : Nat → Fm} {H : Nat → Heap} {V : Nat → Value}
  (pl : Plan P tt ops nt idx op cop T H V) (hf0 : Feas nt (T 0) (H 0))

include pl in
theorem Plan.light {p : Nat} (h : p < ops.size) (hl : isHeavy (cop p).io = false) :
    (H (p + 1) = H p ∧ ¬ ∃ id, Late ops.size cop T H p id) ∨ (Late ops.size cop T H p (H p).next ∧ ∃ b, b ≠ .gone ∧ H (p + 1) = (H p).push b ∧ ∀ h2 : Heap, h2.next = (H p).next → OpRes P tt (T p) h2 (cop p).io (V p) (h2.push b)) := by
  obtain ⟨_, s2, s3⟩ := pl.step p h
  cases hw : wantedC (cop p) (T p) with
  | false => exact .inl ⟨(s3 hw).2, fun ⟨id, hL⟩ => by have := hL.2.2.1; rw [hw] at this; simp at this⟩
  | true =>
    rcases light_heap hl (s2 hw) with ⟨h1, h2⟩ | ⟨h1, b, h2, h3, h4⟩
    · exact .inl ⟨h2, fun ⟨id, hL⟩ => by have := hL.2.1; rw [h1] at this; simp at this⟩
    · exact .inr ⟨⟨h, h1, hw, rfl⟩, b, h2, h3, h4⟩

omit pl in
theorem isAlloc_light {io : IOp} (h : isAlloc io = true) : isHeavy io = false := by simp [isHeavy, h]

include pl in
theorem Plan.late_next {p id : Nat} (hL : Late ops.size cop T H p id) : (H (p + 1)).next = id + 1 := by
  rcases Plan.light pl hL.1 (isAlloc_light hL.2.1) with ⟨_, h2⟩ | ⟨_, b, _, h3, _⟩
  · exact absurd ⟨id, hL⟩ h2
  · rw [h3, hL.2.2.2]; rfl

include hT pl hf0

theorem Plan.late_uniq {p p' id : Nat} (h1 : Late ops.size cop T H p id) (h2 : Late ops.size cop T H p' id) : p = p' := by
  rcases Nat.lt_trichotomy p p' with h | h | h
  · have e1 := Plan.late_next pl h1
    have e2 := Plan.next_mono hT pl hf0 (p := p + 1) (p' := p') h (Nat.le_of_lt h2.1)
    have e3 := h2.2.2.2
    omega
  · exact h
  · have e1 := Plan.late_next pl h2
    have e2 := Plan.next_mono hT pl hf0 (p := p' + 1) (p' := p) h (Nat.le_of_lt h1.1)
    have e3 := h1.2.2.2
    omega

theorem Plan.late_ge {q p id : Nat} (hq : q ≤ p) (h1 : Late ops.size cop T H p id) : (H q).next ≤ id ∧ id < (H ops.size).next := by
  have e1 := Plan.next_mono hT pl hf0 hq (Nat.le_of_lt h1.1)
  have e2 := Plan.late_next pl h1
  have e3 := Plan.next_mono hT pl hf0 (p := p + 1) h1.1 (Nat.le_refl _)
  have e4 := h1.2.2.2
  omega

theorem HC_late {q p id : Nat} (hq : q ≤ p) (hL : Late ops.size cop T H p id) : (HC ops.size cop T H q).blks id = (H (p + 1)).blks id := by
  have hge := (Plan.late_ge hT pl hf0 hq hL).1
  have hex : ∃ p, q ≤ p ∧ Late ops.size cop T H p id := ⟨p, hq, hL⟩
  show (if id < (H q).next then _ else _) = _
  rw [if_neg (by omega), dif_pos hex]
  have := Plan.late_uniq hT pl hf0 (Classical.choose_spec hex).2 hL
  rw [this]

omit hT pl hf0 in
theorem HC_old {q id : Nat} (h : id < (H q).next) : (HC ops.size cop T H q).blks id = (H q).blks id := by
  show (if id < (H q).next then _ else _) = _
  rw [if_pos h]

omit hT pl hf0 in
theorem HC_some {q id : Nat} {b : Blk} (h : (HC ops.size cop T H q).blks id = some b) : id < (H q).next ∨ ∃ p, q ≤ p ∧ Late ops.size cop T H p id := by
  by_cases h1 : id < (H q).next
  · exact .inl h1
  · by_cases h2 : ∃ p, q ≤ p ∧ Late ops.size cop T H p id
    · exact .inr h2
    · have : (HC ops.size cop T H q).blks id = none := by
        show (if id < (H q).next then _ else _) = _
        rw [if_neg h1, dif_neg h2]
      rw [this] at h; simp at h

theorem HC_none {q id : Nat} (hq : q ≤ ops.size) (h : (H ops.size).next ≤ id) : (HC ops.size cop T H q).blks id = none := by
  cases hb : (HC ops.size cop T H q).blks id with
  | none => rfl
  | some b =>
    rcases HC_some hb with h1 | ⟨p, h1, h2⟩
    · have := Plan.next_mono hT pl hf0 hq (Nat.le_refl _); omega
    · have := (Plan.late_ge hT pl hf0 h1 h2).2; omega

/-- as long as the operations are light, the memory is that -/
theorem HC_at {q : Nat} : ∀ {p : Nat}, q ≤ p → p ≤ ops.size → (∀ r, q ≤ r → r < p → isHeavy (cop r).io = false) → ∀ id, id < (H p).next → (HC ops.size cop T H q).blks id = (H p).blks id := by
  intro p h
  induction h with
  | refl => intro _ _ id hid; exact HC_old hid
  | @step m h ih =>
    intro h2 hl id hid
    have hm : m < ops.size := h2
    have ih' := ih (Nat.le_of_lt hm) fun r h3 h4 => hl r h3 (Nat.lt_succ_of_lt h4)
    rcases Plan.light pl hm (hl m h (Nat.lt_succ_self m)) with ⟨h3, _⟩ | ⟨hL, b, _, h4, _⟩
    · rw [h3] at hid ⊢; exact ih' id hid
    · by_cases he : id = (H m).next
      · subst he; exact HC_late hT pl hf0 h hL
      · rw [h4] at hid ⊢
        have hid' : id < (H m).next + 1 := hid
        rw [Heap.get_push, if_neg he]
        exact ih' id (by omega)

omit hT hf0 pl in
theorem first_heavy (cop : Nat → COp) (q : Nat) : ∀ p, q ≤ p → (∀ r, q ≤ r → r < p → isHeavy (cop r).io = false) ∨ ∃ p1, q ≤ p1 ∧ p1 < p ∧ isHeavy (cop p1).io = true ∧ ∀ r, q ≤ r → r < p1 → isHeavy (cop r).io = false := by
  intro p h
  induction h with
  | refl => exact .inl fun r h1 h2 => absurd h1 (by omega)
  | @step m h ih =>
    rcases ih with h1 | ⟨p1, h1, h2, h3, h4⟩
    · cases hm : isHeavy (cop m).io with
      | false =>
        refine .inl fun r h2 h3 => ?_
        by_cases he : r = m
        · rw [he]; exact hm
        · exact h1 r h2 (by omega)
      | true => exact .inr ⟨m, h, Nat.lt_succ_self m, hm, h1⟩
    · exact .inr ⟨p1, h1, Nat.lt_succ_of_lt h2, h3, h4⟩

end
end Go.Ab
