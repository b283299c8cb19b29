/- A part of the proof. The quick machine: a call proved apart, taken for granted elsewhere. No condition. -/
import Derived.Test.YtpmbkfiicbipoaaGreatEngZB
/-! The quick machine: a call proved apart, taken for granted elsewhere. -/
namespace Go.Ab
set_option linter.unusedVariables false

section
variable {P : Program}

/-- what a part of the memory has become, in the whole -/
def joinH (hs hs' h : Heap) : Heap := ⟨hs'.next, fun i => if i < h.next then (match hs.blks i with | none => h.blks i | some _ => hs'.blks i) else hs'.blks i⟩

/-- a call over a part of the memory is one over the whole -/
theorem frame_call {f : Nat} {args : List Value} {hs hs' h : Heap} {v : Value} (hN : CallNext P f args hs v hs') (hnext : hs.next = h.next) (hle : h.next ≤ hs'.next) (hsub : ∀ i b, hs.blks i = some b → h.blks i = some b)
    (hout : ∀ i, i < h.next → hs.blks i = none → hs'.blks i = none) (hin : ∀ i, h.next ≤ i → hs.blks i = none) : CallNext P f args h v (joinH hs hs' h) := by
  intro φ args' w ha hr hfull
  have hlt : ∀ i, (∃ b, h.blks i = some b) → i < h.next := by
    rintro i ⟨b, hb⟩
    rcases Nat.lt_or_ge i h.next with h1 | h1
    · exact h1
    · rw [hr.none i h1] at hb; simp at hb
  have hlive : ∀ i, hs.live i → h.live i := by rintro i ⟨b, hb, hn⟩; exact ⟨b, hsub i b hb, hn⟩
  have hrs : HRel φ hs w := by
    refine ⟨fun i im hi => by rw [hnext]; exact hr.dom i im hi, fun i hi => hin i (by rw [← hnext]; exact hi), ?_, ?_, ?_⟩
    · intro i im c g h1 h2; exact hr.cells i im c g h1 (hsub i _ h2)
    · intro i im es h1 h2; exact hr.map i im es h1 (hsub i _ h2)
    · intro i j im jm hi hj; exact hr.inj i j im jm (hlive i hi) (hlive j hj)
  have hfs : Full φ hs := fun i hl => hfull i (hlive i hl)
  have key : ∀ {φ' : Phi} {w' : World}, HRel φ' hs' w' → Ext φ hs w φ' hs' w' → HRel φ' (joinH hs hs' h) w' ∧ Ext φ h w φ' (joinH hs hs' h) w' := by
    intro φ' w' hr' hx
    have old : ∀ i, i < h.next → φ' i = φ i := fun i hi => hx.old i (by rw [hnext]; exact hi)
    -- which side a block of the joined memory is of
    have side : ∀ i b, (joinH hs hs' h).blks i = some b → (hs'.blks i = some b) ∨ (i < h.next ∧ hs.blks i = none ∧ h.blks i = some b) := by
      intro i b hb
      have hb' : (if i < h.next then (match hs.blks i with | none => h.blks i | some _ => hs'.blks i) else hs'.blks i) = some b := hb
      split at hb'
      · rename_i hi
        cases hsi : hs.blks i with
        | none => rw [hsi] at hb'; exact .inr ⟨hi, rfl, hb'⟩
        | some x => rw [hsi] at hb'; exact .inl hb'
      · exact .inl hb'
    have same : ∀ i im b, i < h.next → hs.blks i = none → h.blks i = some b → b ≠ .gone → φ i = some im → w'.heap[im.blk]? = w.heap[im.blk]? := by
      intro i im b hi h1 h2 h3 h4
      refine hx.frame _ (hr.dom i im h4).2 fun j jm hj hjm he => ?_
      have := hr.inj j i jm im (hlive j hj) ⟨b, h2, h3⟩ hjm h4 he
      subst this
      obtain ⟨x, hx, _⟩ := hj
      rw [h1] at hx; simp at hx
    have hmix : ∀ i j im jm, hs'.live i → j < h.next → hs.blks j = none → h.live j → φ' i = some im → φ j = some jm → im.blk = jm.blk → False := by
      intro i j im jm hi hj hjn hjl h1 h2 h3
      have hjb := (hr.dom j jm h2).2
      rcases hx.new i im hi h1 with h4 | ⟨k, km, k1, k2, k3⟩
      · omega
      · have := hr.inj k j km jm (hlive k k1) hjl k2 h2 (k3.trans h3)
        subst this
        obtain ⟨x, hx, _⟩ := k1
        rw [hjn] at hx; simp at hx
    have hmono : φ.le φ' := hx.mono
    have hnj : (joinH hs hs' h).next = hs'.next := rfl
    constructor
    · refine ⟨hr'.dom, ?_, ?_, ?_, ?_⟩
      · intro i hi
        have hi' : hs'.next ≤ i := hi
        show (if i < h.next then _ else _) = _
        rw [if_neg (by omega)]
        exact hr'.none i hi'
      · intro i im c g h1 h2
        rcases side i _ h2 with h3 | ⟨h3, h4, h5⟩
        · exact hr'.cells i im c g h1 h3
        · rw [old i h3] at h1
          obtain ⟨arr, e, k1, k2, k3⟩ := hr.cells i im c g h1 h5
          exact ⟨arr, e, by rw [same i im _ h3 h4 h5 (by simp) h1]; exact k1, k2.mono hmono, k3⟩
      · intro i im es h1 h2
        rcases side i _ h2 with h3 | ⟨h3, h4, h5⟩
        · exact hr'.map i im es h1 h3
        · rw [old i h3] at h1
          obtain ⟨ents, cl, k1, k2⟩ := hr.map i im es h1 h5
          exact ⟨ents, cl, by rw [same i im _ h3 h4 h5 (by simp) h1]; exact k1, k2.mono hmono⟩
      · rintro i j im jm ⟨bi, hbi, hni⟩ ⟨bj, hbj, hnj⟩ h1 h2 h3
        rcases side i _ hbi with h4 | ⟨h4, h5, h6⟩
        · rcases side j _ hbj with h7 | ⟨h7, h8, h9⟩
          · exact hr'.inj i j im jm ⟨bi, h4, hni⟩ ⟨bj, h7, hnj⟩ h1 h2 h3
          · rw [old j h7] at h2
            exact (hmix i j im jm ⟨bi, h4, hni⟩ h7 h8 ⟨bj, h9, hnj⟩ h1 h2 h3).elim
        · rw [old i h4] at h1
          rcases side j _ hbj with h7 | ⟨h7, h8, h9⟩
          · exact (hmix j i jm im ⟨bj, h7, hnj⟩ h4 h5 ⟨bi, h6, hni⟩ h2 h1 h3.symm).elim
          · rw [old j h7] at h2
            exact hr.inj i j im jm ⟨bi, h6, hni⟩ ⟨bj, h9, hnj⟩ h1 h2 h3
    · refine ⟨hx.mono, ?_, ?_, hx.size, hle, hx.os, hx.tape, hx.output, old, ?_, hx.frz⟩
      · intro b hb hn
        exact hx.frame b hb fun i im hi => hn i im (hlive i hi)
      · rintro i im ⟨b, hb, hn⟩ h1
        rcases side i _ hb with h2 | ⟨h2, h3, h4⟩
        · rcases hx.new i im ⟨b, h2, hn⟩ h1 with h5 | ⟨k, km, k1, k2, k3⟩
          · exact .inl h5
          · exact .inr ⟨k, km, hlive k k1, k2, k3⟩
        · rw [old i h2] at h1
          exact .inr ⟨i, im, ⟨b, h4, hn⟩, h1, rfl⟩
      · rintro _ i ⟨b, hb, hn⟩
        rcases side i _ hb with h2 | ⟨h2, h3, h4⟩
        · exact hx.full hfs i ⟨b, h2, hn⟩
        · rw [old i h2]; exact hfull i ⟨b, h4, hn⟩
  have hres := hN φ args' w ha hrs hfs
  generalize (callFunc f ⟨args'⟩).run P w = r at hres
  cases r with
  | halt x w' => exact hres
  | ok n w' =>
    cases n <;> simp only [ResOK] at hres ⊢ <;> (try exact hres)
    · obtain ⟨φ', h1, h2, h3⟩ := hres
      exact ⟨φ', h1, (key h2 h3).1, (key h2 h3).2⟩
    · obtain ⟨φ', h1, h2, h3⟩ := hres
      exact ⟨φ', h1, (key h2 h3).1, (key h2 h3).2⟩
    · refine Calls.mono hres ?_
      rintro e w'' ⟨v', he, φ', h1, h2, h3⟩
      exact ⟨v', he, φ', h1, (key h2 h3).1, (key h2 h3).2⟩

/-- what is forgotten is not missed -/
theorem forget_call {f : Nat} {args : List Value} {h h1 h2 : Heap} {v : Value} (hN : CallNext P f args h v h1) (hnext : h2.next = h1.next) (hsub : ∀ i b, h2.blks i = some b → h1.blks i = some b) : CallNext P f args h v h2 := by
  intro φ args' w ha hr hfull
  have hlive : ∀ i, h2.live i → h1.live i := by rintro i ⟨b, hb, hn⟩; exact ⟨b, hsub i b hb, hn⟩
  have key : ∀ {φ' : Phi} {w' : World}, HRel φ' h1 w' → Ext φ h w φ' h1 w' → HRel φ' h2 w' ∧ Ext φ h w φ' h2 w' := by
    intro φ' w' hr' hx
    constructor
    · refine ⟨fun i im hi => by rw [hnext]; exact hr'.dom i im hi, fun i hi => ?_, ?_, ?_, ?_⟩
      · cases hb : h2.blks i with
        | none => rfl
        | some b => have := hsub i b hb; rw [hr'.none i (by rw [← hnext]; exact hi)] at this; simp at this
      · intro i im c g h3 h4; exact hr'.cells i im c g h3 (hsub i _ h4)
      · intro i im es h3 h4; exact hr'.map i im es h3 (hsub i _ h4)
      · intro i j im jm hi hj; exact hr'.inj i j im jm (hlive i hi) (hlive j hj)
    · exact ⟨hx.mono, hx.frame, fun i im hi => hx.new i im (hlive i hi), hx.size, by rw [hnext]; exact hx.next, hx.os, hx.tape, hx.output, hx.old, fun hf i hi => hx.full hf i (hlive i hi), hx.frz⟩
  have hres := hN φ args' w ha hr hfull
  generalize (callFunc f ⟨args'⟩).run P w = r at hres
  cases r with
  | halt x w' => exact hres
  | ok n w' =>
    cases n <;> simp only [ResOK] at hres ⊢ <;> (try exact hres)
    · obtain ⟨φ', h3, h4, h5⟩ := hres
      exact ⟨φ', h3, (key h4 h5).1, (key h4 h5).2⟩
    · obtain ⟨φ', h3, h4, h5⟩ := hres
      exact ⟨φ', h3, (key h4 h5).1, (key h4 h5).2⟩
    · refine Calls.mono hres ?_
      rintro e w'' ⟨v', he, φ', h3, h4, h5⟩
      exact ⟨v', he, φ', h3, (key h4 h5).1, (key h4 h5).2⟩

end
end Go.Ab
