/- A part of the proof. The abstract machine: regions whose order is drawn. Part 3: what holds on the way. No condition. -/
import Derived.Test.YtpmbkfiicbipoaaGreatEngQ
/-! The abstract machine: regions whose order is drawn. Part 3: what holds on the way. -/
namespace Go.Ab

section
variable {P : Program} {tt : T TI} (hT : TOk P tt) {ops : Array Oper} {nt : Nat} {idx : Nat → Nat} {op : Nat → Oper} {cop : Nat → COp} {T : Nat → Fm} {H : Nat → Heap} {V : Nat → Value}
  (pl : Plan P tt ops nt idx op cop T H V) (hf0 : Feas nt (T 0) (H 0)) (ds : List Deferred) (φ0 : Phi) (w0 : World)

def On (listed : Array Bool) (i : Nat) : Prop := listed.getD i false = true

theorem On.set {listed : Array Bool} {i j : Nat} (hi : i < listed.size) : On (listed.setIfInBounds i true) j ↔ (j = i ∨ On listed j) := by
  unfold On
  simp only [Array.getD_eq_getD_getElem?, Array.getElem?_setIfInBounds]
  by_cases h : i = j
  · subst h; simp [hi]
  · rw [if_neg h]
    constructor
    · exact .inr
    · rintro (e | e)
      · exact absurd e.symm h
      · exact e

/-- the temporaries, on the way -/
structure Tm (ops : Array Oper) (idx : Nat → Nat) (cop : Nat → COp) (T : Nat → Fm) (V : Nat → Value) (nt : Nat) (ds : List Deferred) (listed : Array Bool) (ψ : Phi) (a : Act) : Prop where
  tm : ∀ p, p < ops.size → On listed (idx p) → ∀ d, (cop p).dst = some d → VRel ψ (V p) (a.tmps.getD d undef)
  t0 : ∀ k, (∀ p, p < ops.size → On listed (idx p) → (cop p).dst ≠ some k) → VRel ψ (T 0 k) (a.tmps.getD k undef)
  sz : a.tmps.size = nt
  df : a.defers = ds

structure Es (ops : Array Oper) (idx : Nat → Nat) (cop : Nat → COp) (listed : Array Bool) (q : Nat) : Prop where
  qle : q ≤ ops.size
  lsz : listed.size = ops.size
  pre : ∀ p, p < q → On listed (idx p)
  nohe : ∀ p, q ≤ p → p < ops.size → On listed (idx p) → isHeavy (cop p).io = false
  closed : ∀ i j, Bef ops j i → On listed i → On listed j

structure Mem (ops : Array Oper) (idx : Nat → Nat) (cop : Nat → COp) (T : Nat → Fm) (H : Nat → Heap) (φ0 : Phi) (w0 : World) (listed : Array Bool) (q : Nat) (ψ : Phi) (w : World) : Prop where
  hr : HRel ψ (HC ops.size cop T H q) w
  pdom : ∀ id im, ψ id = some im → (H q).next ≤ id → ∃ p, q ≤ p ∧ On listed (idx p) ∧ Late ops.size cop T H p id
  pfull : ∀ p id, q ≤ p → On listed (idx p) → Late ops.size cop T H p id → ∃ im, ψ id = some im
  qfull : Full ψ (H q)
  eold : ∀ i, i < (H 0).next → ψ i = φ0 i
  efr : ∀ b, b < w0.heap.size → (∀ i im, (H 0).live i → φ0 i = some im → im.blk ≠ b) → w.heap[b]? = w0.heap[b]?
  enew : ∀ i im, (HC ops.size cop T H q).live i → ψ i = some im → w0.heap.size ≤ im.blk ∨ ∃ j jm, (H 0).live j ∧ φ0 j = some jm ∧ jm.blk = im.blk
  esz : w0.heap.size ≤ w.heap.size
  eos : w.os = w0.os
  etape : w.tape = w0.tape
  eout : w.output = w0.output
  efz : ∀ a, w.frozen? a = w0.frozen? a

/-- ready: all that it waits for is done, it is not -/
def IsReady (ops : Array Oper) (listed : Array Bool) (i : Nat) : Prop := i < ops.size ∧ ¬ On listed i ∧ ∀ o, ops[i]? = some o → ∀ e, e ∈ o.after → Region.binds .any e = true → On listed e.on

theorem ready_is {listed : Array Bool} (hl : listed.size = ops.size) {i : Nat} (h : i ∈ Region.ready .any ops listed) : IsReady ops listed i := by
  simp only [Region.ready, List.mem_filter, List.mem_range, Bool.and_eq_true] at h
  obtain ⟨h1, h2, h3⟩ := h
  have hi : i < listed.size := by omega
  refine ⟨h1, ?_, ?_⟩
  · unfold On
    simp only [Array.getD_eq_getD_getElem?, Array.getElem?_eq_getElem hi, Option.getD_some] at h2 ⊢
    simpa using h2
  · intro o ho e he hb
    rw [ho] at h3
    simp only [Option.map_some, Option.getD_some, Array.all_eq_true_iff_forall_mem] at h3
    have := h3 e he
    rw [hb] at this
    simpa [On] using this

theorem bef_on {listed : Array Bool} {i : Nat} (hr : IsReady ops listed i) (hc : ∀ i j, Bef ops j i → On listed i → On listed j) : ∀ {j k : Nat}, Bef ops j k → k = i → On listed j := by
  intro j k hb
  induction hb with
  | edge i' j o e ho he hb hj => rintro rfl; subst hj; exact hr.2.2 o ho e he hb
  | trans i' j' k' h1 h2 ih1 ih2 => rintro rfl; exact hc _ _ h1 (ih2 rfl)

include pl in
theorem Es.step {listed : Array Bool} {q p : Nat} (es : Es ops idx cop listed q) (hp : p < ops.size) (hr : IsReady ops listed (idx p)) :
    q ≤ p ∧ (isHeavy (cop p).io = false → Es ops idx cop (listed.setIfInBounds (idx p) true) q) ∧
      (isHeavy (cop p).io = true → (∀ r, r < p → On listed (idx r)) ∧ Es ops idx cop (listed.setIfInBounds (idx p) true) (p + 1)) := by
  have hi : idx p < listed.size := by rw [es.lsz]; exact hr.1
  have hq : q ≤ p := by
    rcases Nat.lt_or_ge p q with h | h
    · exact absurd (es.pre p h) hr.2.1
    · exact h
  have hcl : ∀ i j, Bef ops j i → On (listed.setIfInBounds (idx p) true) i → On (listed.setIfInBounds (idx p) true) j := by
    intro i j hb h
    rw [On.set hi] at h ⊢
    rcases h with rfl | h
    · exact .inr (bef_on hr es.closed hb rfl)
    · exact .inr (es.closed i j hb h)
  have hsz : (listed.setIfInBounds (idx p) true).size = ops.size := by simp [es.lsz]
  refine ⟨hq, fun hl => ⟨es.qle, hsz, fun r h => (On.set hi).2 (.inr (es.pre r h)), ?_, hcl⟩, fun hh => ?_⟩
  · intro r h1 h2 h3
    rcases (On.set hi).1 h3 with h | h
    · rw [pl.inj r p h2 hp h]; exact hl
    · exact es.nohe r h1 h2 h
  · have hall : ∀ r, r < p → On listed (idx r) := fun r h => bef_on hr es.closed (pl.hv r p h hp hh) rfl
    refine ⟨hall, hp, hsz, ?_, ?_, hcl⟩
    · intro r h
      rw [On.set hi]
      rcases Nat.lt_succ_iff_lt_or_eq.1 h with h | rfl
      · exact .inr (hall r h)
      · exact .inl rfl
    · intro r h1 h2 h3
      rcases (On.set hi).1 h3 with h | h
      · exact absurd (pl.inj r p h2 hp h) (by omega)
      · exact es.nohe r (by omega) h2 h

include pl in
theorem Tm.step {listed : Array Bool} {p : Nat} {ψ ψ' : Phi} {a : Act} (tm : Tm ops idx cop T V nt ds listed ψ a) (hl : listed.size = ops.size) (hp : p < ops.size) (hi : idx p < ops.size) (hle : ψ.le ψ')
    {v' : Value} (hv : VRel ψ' (V p) v') : Tm ops idx cop T V nt ds (listed.setIfInBounds (idx p) true) ψ' (a.put (cop p).dst v') := by
  have hi' : idx p < listed.size := by omega
  have get : ∀ k, (cop p).dst ≠ some k → (a.put (cop p).dst v').tmps.getD k undef = a.tmps.getD k undef := by
    intro k hk
    cases hd : (cop p).dst with
    | none => rfl
    | some d =>
      have := (pl.ok p hp).dlt d hd
      rw [put_get _ _ _ _ (by rw [tm.sz]; exact this), if_neg (fun e => hk (by rw [hd, e]))]
  refine ⟨?_, ?_, by rw [act_put_size]; exact tm.sz, by rw [act_put_defers]; exact tm.df⟩
  · intro r hr hon d hd
    by_cases he : r = p
    · subst he
      have := (pl.ok r hp).dlt d hd
      rw [hd, put_get _ _ _ _ (by rw [tm.sz]; exact this), if_pos rfl]
      exact hv
    · rw [get d (pl.wr r p hr hp he d hd)]
      rcases (On.set hi').1 hon with h | h
      · exact absurd (pl.inj r p hr hp h) he
      · exact (tm.tm r hr h d hd).mono hle
  · intro k hk
    rw [get k (hk p hp ((On.set hi').2 (.inl rfl)))]
    exact (tm.t0 k fun r hr hon => hk r hr ((On.set hi').2 (.inr hon))).mono hle

include pl in
/-- what an operation reads is what the machine reads -/
theorem Tm.reads {listed : Array Bool} {q p : Nat} {ψ : Phi} {a : Act} (tm : Tm ops idx cop T V nt ds listed ψ a) (es : Es ops idx cop listed q) (hp : p < ops.size) (hr : IsReady ops listed (idx p)) :
    ∀ k, k ∈ (cop p).reads (op p) → VRel ψ (T p k) (a.tmps.getD k undef) := by
  intro k hk
  by_cases hex : ∃ r, r < ops.size ∧ r ≠ p ∧ (cop r).dst = some k
  · obtain ⟨r, hr1, hr2, hr3⟩ := hex
    rcases pl.rd p r hp hr1 hr2 k hk hr3 with ⟨h1, h2⟩ | ⟨h1, h2⟩
    · rw [Plan.tget1 pl hr1 hr3 h1 (Nat.le_of_lt hp)]
      exact tm.tm r hr1 (bef_on hr es.closed h2 rfl) k hr3
    · rw [Plan.tget0 pl (Nat.le_of_lt hp) (fun s hs hd => by
        have hne : s ≠ r := by omega
        exact pl.wr s r (by omega) hr1 hne k hd hr3)]
      refine tm.t0 k fun s hs hon hd => ?_
      by_cases he : s = r
      · subst he; exact hr.2.1 (es.closed _ _ h2 hon)
      · exact pl.wr s r hs hr1 he k hd hr3
  · have hno : ∀ s, s < ops.size → s ≠ p → (cop s).dst ≠ some k := fun s h1 h2 h3 => hex ⟨s, h1, h2, h3⟩
    rw [Plan.tget0 pl (Nat.le_of_lt hp) fun s hs => hno s (by omega) (by omega)]
    refine tm.t0 k fun s hs hon => hno s hs fun e => ?_
    subst e; exact hr.2.1 hon

end
end Go.Ab
