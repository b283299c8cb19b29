/- A part of the proof. The abstract machine: regions whose order is drawn. Part 4: the memory on the way. No condition. -/
import Derived.Test.YtpmbkfiicbipoaaGreatEngR
/-! The abstract machine: regions whose order is drawn. Part 4: the memory on the way. -/
namespace Go.Ab

section
variable {P : Program} {tt : T TI} (hT : TOk P tt) {ops : Array Oper} {nt : Nat} {idx : Nat → Nat} {op : Nat → Oper} {cop : Nat → COp} {T : Nat → Fm} {H : Nat → Heap} {V : Nat → Value}
  (pl : Plan P tt ops nt idx op cop T H V) (hf0 : Feas nt (T 0) (H 0)) {φ0 : Phi} {w0 : World}
  {listed : Array Bool} {q : Nat} {ψ : Phi} {w : World}

theorem Mem.frame0 (m : Mem ops idx cop T H φ0 w0 listed q ψ w) {b : Nat} (hb : b < w0.heap.size) (hn : ∀ i im, (H 0).live i → φ0 i = some im → im.blk ≠ b) :
    ∀ i im, (HC ops.size cop T H q).live i → ψ i = some im → im.blk ≠ b := by
  intro i im h1 h2 e
  rcases m.enew i im h1 h2 with h | ⟨j, jm, k1, k2, k3⟩
  · omega
  · exact hn j jm k1 k2 (k3.trans e)

include pl in
/-- behind an operation that leaves the machine's memory as it is -/
theorem Mem.light (m : Mem ops idx cop T H φ0 w0 listed q ψ w) (es : Es ops idx cop listed q) {p : Nat} (hi : idx p < ops.size) (hp : p < ops.size) (hnl : ¬ ∃ id, Late ops.size cop T H p id)
    {φ' : Phi} {w' : World} (hr : HRel φ' (HC ops.size cop T H q) w') (hx : Ext ψ (HC ops.size cop T H q) w φ' (HC ops.size cop T H q) w') :
    φ' = ψ ∧ Mem ops idx cop T H φ0 w0 (listed.setIfInBounds (idx p) true) q ψ w' := by
  have e : φ' = ψ := by
    funext i
    by_cases h : i < (HC ops.size cop T H q).next
    · exact hx.old i h
    · have h1 : φ' i = none := by
        cases hh : φ' i with
        | none => rfl
        | some im => exact absurd (hr.dom i im hh).1 h
      have h2 : ψ i = none := by
        cases hh : ψ i with
        | none => rfl
        | some im => exact absurd (m.hr.dom i im hh).1 h
      rw [h1, h2]
  subst e
  have hi' : idx p < listed.size := by rw [es.lsz]; exact hi
  refine ⟨rfl, hr, ?_, ?_, m.qfull, m.eold, ?_, m.enew, Nat.le_trans m.esz hx.size, hx.os.trans m.eos, hx.tape.trans m.etape, hx.output.trans m.eout, fun a => (hx.frz a).trans (m.efz a)⟩
  · intro id im h1 h2
    obtain ⟨r, k1, k2, k3⟩ := m.pdom id im h1 h2
    exact ⟨r, k1, (On.set hi').2 (.inr k2), k3⟩
  · intro r id h1 h2 h3
    rcases (On.set hi').1 h2 with h | h
    · rw [pl.inj r p h3.1 hp h] at h3; exact absurd ⟨id, h3⟩ hnl
    · exact m.pfull r id h1 h h3
  · intro b hb hn
    rw [hx.frame b (Nat.lt_of_lt_of_le hb m.esz) (m.frame0 hb hn)]
    exact m.efr b hb hn

include hT pl hf0 in
/-- behind an operation whose block is new -/
theorem Mem.late (m : Mem ops idx cop T H φ0 w0 listed q ψ w) (es : Es ops idx cop listed q) {p : Nat} (hr0 : IsReady ops listed (idx p)) (hq : q ≤ p) (hL : Late ops.size cop T H p (H p).next) {b : Blk} (hb : b ≠ .gone)
    (hH : H (p + 1) = (H p).push b) {φ' : Phi} {w' : World} (hr : HRel φ' ((⟨(H p).next, fun _ => none⟩ : Heap).push b) w')
    (hx : Ext (cut ψ (H p).next) ⟨(H p).next, fun _ => none⟩ w φ' ((⟨(H p).next, fun _ => none⟩ : Heap).push b) w') :
    ∃ ψ', ψ.le ψ' ∧ φ'.le ψ' ∧ Mem ops idx cop T H φ0 w0 (listed.setIfInBounds (idx p) true) q ψ' w' := by
  have hp := hL.1
  have hi' : idx p < listed.size := by rw [es.lsz]; exact hr0.1
  have hge := Plan.late_ge hT pl hf0 hq hL
  have hnew : ψ (H p).next = none := by
    cases hh : ψ (H p).next with
    | none => rfl
    | some im =>
      obtain ⟨r, k1, k2, k3⟩ := m.pdom _ im hh hge.1
      have := Plan.late_uniq hT pl hf0 k3 hL
      subst this
      exact absurd k2 hr0.2.1
  have hframe : ∀ b, b < w.heap.size → w'.heap[b]? = w.heap[b]? := fun b hb => hx.frame b hb (fun i im hl => by
    obtain ⟨x, hx, _⟩ := hl; simp at hx)
  have hlivep : ((⟨(H p).next, fun _ => none⟩ : Heap).push b).live (H p).next := ⟨b, by rw [Heap.get_push, if_pos rfl], hb⟩
  obtain ⟨im0, him0⟩ := hx.full (fun i hl => by obtain ⟨x, hx, _⟩ := hl; simp at hx) _ hlivep
  have hblk : w.heap.size ≤ im0.blk := by
    rcases hx.new _ _ hlivep him0 with h | ⟨j, jm, hl, _⟩
    · exact h
    · obtain ⟨x, hx, _⟩ := hl; simp at hx
  have hdomp : ∀ i im, φ' i = some im → i < (H p).next + 1 := fun i im h => (hr.dom i im h).1
  let ψ' : Phi := fun i => if i = (H p).next then some im0 else ψ i
  have p0 : ψ' (H p).next = some im0 := by simp [ψ']
  have p1 : ∀ i, i ≠ (H p).next → ψ' i = ψ i := fun i h => by simp [ψ', h]
  have hle : ψ.le ψ' := by
    intro i im h
    by_cases he : i = (H p).next
    · subst he; rw [hnew] at h; simp at h
    · rw [p1 i he]; exact h
  have hle' : φ'.le ψ' := by
    intro i im h
    by_cases he : i = (H p).next
    · subst he; rw [him0] at h; rw [p0]; exact h
    · rw [p1 i he]
      have hlt := hdomp i im h
      have := hx.old i (show i < (H p).next by omega)
      rw [this] at h
      exact cut_le _ _ i im h
  have hcell : (HC ops.size cop T H q).blks (H p).next = some b := by
    rw [HC_late hT pl hf0 hq hL, hH, Heap.get_push, if_pos rfl]
  have hpb : ((⟨(H p).next, fun _ => none⟩ : Heap).push b).blks (H p).next = some b := by rw [Heap.get_push, if_pos rfl]
  refine ⟨ψ', hle, hle', ⟨⟨?_, m.hr.none, ?_, ?_, ?_⟩, ?_, ?_, ?_, ?_, ?_, ?_, Nat.le_trans m.esz hx.size, hx.os.trans m.eos, hx.tape.trans m.etape, hx.output.trans m.eout, fun a => (hx.frz a).trans (m.efz a)⟩⟩
  · intro i im h
    by_cases he : i = (H p).next
    · subst he; rw [p0] at h; obtain rfl := Option.some.inj h
      exact ⟨hge.2, (hr.dom _ _ him0).2⟩
    · rw [p1 i he] at h
      obtain ⟨k1, k2⟩ := m.hr.dom i im h
      exact ⟨k1, Nat.lt_of_lt_of_le k2 hx.size⟩
  · intro i im c g h1 h2
    by_cases he : i = (H p).next
    · subst he; rw [p0] at h1; obtain rfl := Option.some.inj h1
      rw [hcell] at h2
      obtain ⟨arr, e, k1, k2, k3⟩ := hr.cells _ _ c g him0 (by rw [hpb]; exact h2)
      exact ⟨arr, e, k1, k2.mono hle', k3⟩
    · rw [p1 i he] at h1
      obtain ⟨arr, e, k1, k2, k3⟩ := m.hr.cells i im c g h1 h2
      exact ⟨arr, e, by rw [hframe _ (m.hr.dom i im h1).2]; exact k1, k2.mono hle, k3⟩
  · intro i im es' h1 h2
    by_cases he : i = (H p).next
    · subst he; rw [p0] at h1; obtain rfl := Option.some.inj h1
      rw [hcell] at h2
      obtain ⟨ents, cl, k1, k2⟩ := hr.map _ _ es' him0 (by rw [hpb]; exact h2)
      exact ⟨ents, cl, k1, k2.mono hle'⟩
    · rw [p1 i he] at h1
      obtain ⟨ents, cl, k1, k2⟩ := m.hr.map i im es' h1 h2
      exact ⟨ents, cl, by rw [hframe _ (m.hr.dom i im h1).2]; exact k1, k2.mono hle⟩
  · intro i j im jm hi hj h1 h2 h3
    by_cases he : i = (H p).next
    · by_cases he2 : j = (H p).next
      · rw [he, he2]
      · rw [he, p0] at h1; obtain rfl := Option.some.inj h1
        rw [p1 j he2] at h2
        have := (m.hr.dom j jm h2).2; omega
    · rw [p1 i he] at h1
      by_cases he2 : j = (H p).next
      · rw [he2, p0] at h2; obtain rfl := Option.some.inj h2
        have := (m.hr.dom i im h1).2; omega
      · rw [p1 j he2] at h2
        exact m.hr.inj i j im jm hi hj h1 h2 h3
  · intro id im h1 h2
    by_cases he : id = (H p).next
    · subst he; exact ⟨p, hq, (On.set hi').2 (.inl rfl), hL⟩
    · rw [p1 id he] at h1
      obtain ⟨r, k1, k2, k3⟩ := m.pdom id im h1 h2
      exact ⟨r, k1, (On.set hi').2 (.inr k2), k3⟩
  · intro r id h1 h2 h3
    by_cases he : id = (H p).next
    · subst he; exact ⟨im0, p0⟩
    · rw [p1 id he]
      rcases (On.set hi').1 h2 with h | h
      · have := pl.inj r p h3.1 hp h
        subst this
        exact absurd h3.2.2.2 he
      · exact m.pfull r id h1 h h3
  · intro i hl
    obtain ⟨im, h⟩ := m.qfull i hl
    exact ⟨im, hle i im h⟩
  · intro i hi
    rw [p1 i (by have := Plan.next_mono hT pl hf0 (Nat.zero_le p) (Nat.le_of_lt hp); omega)]
    exact m.eold i hi
  · intro b' hb' hn
    rw [hframe _ (Nat.lt_of_lt_of_le hb' m.esz)]
    exact m.efr b' hb' hn
  · intro i im hl h
    by_cases he : i = (H p).next
    · subst he; rw [p0] at h; obtain rfl := Option.some.inj h
      exact .inl (Nat.le_trans m.esz hblk)
    · rw [p1 i he] at h; exact m.enew i im hl h

include hT pl hf0 in
/-- ahead of an operation that may do anything: the memory is the machine's -/
theorem Mem.at (m : Mem ops idx cop T H φ0 w0 listed q ψ w) {p : Nat} (hq : q ≤ p) (hp : p ≤ ops.size) (hl : ∀ r, q ≤ r → r < p → isHeavy (cop r).io = false) (hon : ∀ r, q ≤ r → r < p → On listed (idx r)) :
    HRel (cut ψ (H p).next) (H p) w ∧ Full (cut ψ (H p).next) (H p) := by
  have hat := HC_at hT pl hf0 hq hp hl
  obtain ⟨φg, ag, wg, g1, g2, g3, g4⟩ := Plan.feas hT pl hf0 p hp
  have hgb : ∀ i im, φg i = some im → i < (H p).next := fun i im h => (g2.dom i im h).1
  have hcut : ∀ {i im}, cut ψ (H p).next i = some im → ψ i = some im ∧ i < (H p).next := by
    intro i im h
    unfold cut at h
    split at h
    · exact ⟨h, by assumption⟩
    · simp at h
  have hlive : ∀ i, (H p).live i → i < (H p).next := by
    rintro i ⟨b, h, _⟩
    rcases Nat.lt_or_ge i (H p).next with h1 | h1
    · exact h1
    · rw [Plan.none hT pl hf0 hp h1] at h; simp at h
  refine ⟨⟨?_, fun i h => Plan.none hT pl hf0 hp h, ?_, ?_, ?_⟩, ?_⟩
  · intro i im h
    obtain ⟨h1, h2⟩ := hcut h
    exact ⟨h2, (m.hr.dom i im h1).2⟩
  · intro i im c g h1 h2
    obtain ⟨h1, h3⟩ := hcut h1
    obtain ⟨arr, e, k1, k2, k3⟩ := m.hr.cells i im c g h1 (by rw [hat i h3]; exact h2)
    obtain ⟨img, hg⟩ := g4 i ⟨_, h2, by simp⟩
    obtain ⟨arrg, eg, _, k5, _⟩ := g2.cells i img c g hg h2
    exact ⟨arr, e, k1, k2.bound hgb k5, k3⟩
  · intro i im es' h1 h2
    obtain ⟨h1, h3⟩ := hcut h1
    obtain ⟨ents, cl, k1, k2⟩ := m.hr.map i im es' h1 (by rw [hat i h3]; exact h2)
    obtain ⟨img, hg⟩ := g4 i ⟨_, h2, by simp⟩
    obtain ⟨entsg, clg, _, k5⟩ := g2.map i img es' hg h2
    exact ⟨ents, cl, k1, k2.bound hgb k5⟩
  · intro i j im jm hi hj h1 h2 h3
    obtain ⟨h1, h4⟩ := hcut h1
    obtain ⟨h2, h5⟩ := hcut h2
    refine m.hr.inj i j im jm ?_ ?_ h1 h2 h3
    · obtain ⟨b, hb, hn⟩ := hi; exact ⟨b, by rw [hat i h4]; exact hb, hn⟩
    · obtain ⟨b, hb, hn⟩ := hj; exact ⟨b, by rw [hat j h5]; exact hb, hn⟩
  · intro i hl2
    have hlt := hlive i hl2
    obtain ⟨b, hb, hn⟩ := hl2
    have hb' := hb
    rw [← hat i hlt] at hb'
    by_cases h1 : i < (H q).next
    · have : (H q).live i := ⟨b, by rw [← HC_old h1 (cop := cop) (T := T) (ops := ops)]; exact hb', hn⟩
      obtain ⟨im, him⟩ := m.qfull i this
      exact ⟨im, cut_some him hlt⟩
    · rcases HC_some hb' with h2 | ⟨r, h2, h3⟩
      · exact absurd h2 h1
      · have hr : r < p := by
          rcases Nat.lt_or_ge r p with h | h
          · exact h
          · have := (Plan.late_ge hT pl hf0 h h3).1; omega
        obtain ⟨im, him⟩ := m.pfull r i h2 (hon r h2 hr) h3
        exact ⟨im, cut_some him hlt⟩

include hT pl hf0 in
theorem Mem.heavy (m : Mem ops idx cop T H φ0 w0 listed q ψ w) (es : Es ops idx cop listed q) {p : Nat} (hr0 : IsReady ops listed (idx p)) (hq : q ≤ p) (hp : p < ops.size) (hhv : isHeavy (cop p).io = true)
    (hl : ∀ r, q ≤ r → r < p → isHeavy (cop r).io = false) (hon : ∀ r, q ≤ r → r < p → On listed (idx r)) {φ' : Phi} {w' : World} (hr : HRel φ' (H (p + 1)) w')
    (hx : Ext (cut ψ (H p).next) (H p) w φ' (H (p + 1)) w') :
    ∃ ψ', ψ.le ψ' ∧ φ'.le ψ' ∧ Mem ops idx cop T H φ0 w0 (listed.setIfInBounds (idx p) true) (p + 1) ψ' w' := by
  have hi' : idx p < listed.size := by rw [es.lsz]; exact hr0.1
  have hat := HC_at hT pl hf0 hq (Nat.le_of_lt hp) hl
  obtain ⟨hm1, hm2⟩ := m.at hT pl hf0 hq (Nat.le_of_lt hp) hl hon
  have hnx := Plan.next1 hT pl hf0 p hp
  have hq1 := Plan.next_mono hT pl hf0 hq (Nat.le_of_lt hp)
  have hpn := Plan.next_mono hT pl hf0 (p := p + 1) hp (Nat.le_refl _)
  have hz := Plan.next_mono hT pl hf0 (Nat.zero_le p) (Nat.le_of_lt hp)
  have hnotp : ∀ id, ¬ Late ops.size cop T H p id := fun id hL => by
    have := isAlloc_light hL.2.1; rw [hhv] at this; simp at this
  -- what the old relation bears beyond
  have hbeyond : ∀ i im, ψ i = some im → (H p).next ≤ i → (H (p + 1)).next ≤ i ∧ ∃ r, p + 1 ≤ r ∧ q ≤ r ∧ On listed (idx r) ∧ Late ops.size cop T H r i := by
    intro i im h1 h2
    obtain ⟨r, k1, k2, k3⟩ := m.pdom i im h1 (by omega)
    have hrp : p < r := by
      rcases Nat.lt_trichotomy r p with h | h | h
      · have e1 := Plan.late_next pl k3
        have e2 := Plan.next_mono hT pl hf0 (p := r + 1) (p' := p) h (Nat.le_of_lt hp)
        omega
      · subst h; exact absurd k3 (hnotp i)
      · exact h
    exact ⟨(Plan.late_ge hT pl hf0 hrp k3).1, r, hrp, k1, k2, k3⟩
  let ψ' : Phi := fun i => if i < (H (p + 1)).next then φ' i else ψ i
  have p0 : ∀ i, i < (H (p + 1)).next → ψ' i = φ' i := fun i h => by simp [ψ', h]
  have p1 : ∀ i, (H (p + 1)).next ≤ i → ψ' i = ψ i := fun i h => by simp only [ψ']; rw [if_neg (by omega)]
  have hle' : φ'.le ψ' := fun i im h => by rw [p0 i (hr.dom i im h).1]; exact h
  have hle : ψ.le ψ' := by
    intro i im h
    rcases Nat.lt_or_ge i (H p).next with h1 | h1
    · rw [p0 i (by omega), hx.old i h1]; exact cut_some h h1
    · rw [p1 i (hbeyond i im h h1).1]; exact h
  -- blocks to come stay as they are
  have hlate : ∀ i im, ψ i = some im → (H (p + 1)).next ≤ i → (∀ b, (HC ops.size cop T H (p + 1)).blks i = some b → b ≠ .gone → w'.heap[im.blk]? = w.heap[im.blk]?) ∧ (HC ops.size cop T H (p + 1)).blks i = (HC ops.size cop T H q).blks i := by
    intro i im h1 h2
    obtain ⟨_, r, k1, k2, k3, k4⟩ := hbeyond i im h1 (by omega)
    have heq : (HC ops.size cop T H (p + 1)).blks i = (HC ops.size cop T H q).blks i := by rw [HC_late hT pl hf0 k1 k4, HC_late hT pl hf0 k2 k4]
    refine ⟨fun b hb hne => hx.frame _ (m.hr.dom i im h1).2 fun j jm hj hjm he => ?_, heq⟩
    have hj1 : ψ j = some jm ∧ j < (H p).next := by
      unfold cut at hjm
      split at hjm
      · exact ⟨hjm, by assumption⟩
      · simp at hjm
    have hjl : (HC ops.size cop T H q).live j := by
      obtain ⟨b2, hb2, hn2⟩ := hj
      exact ⟨b2, by rw [hat j hj1.2]; exact hb2, hn2⟩
    have hil : (HC ops.size cop T H q).live i := ⟨b, by rw [← heq]; exact hb, hne⟩
    have := m.hr.inj j i jm im hjl hil hj1.1 h1 he
    omega
  have hold : ∀ i, i < (H (p + 1)).next → (HC ops.size cop T H (p + 1)).blks i = (H (p + 1)).blks i := fun i h => HC_old h
  refine ⟨ψ', hle, hle', ⟨⟨?_, fun i h => HC_none hT pl hf0 hp h, ?_, ?_, ?_⟩, ?_, ?_, ?_, ?_, ?_, ?_, Nat.le_trans m.esz hx.size, hx.os.trans m.eos, hx.tape.trans m.etape, hx.output.trans m.eout, fun a => (hx.frz a).trans (m.efz a)⟩⟩
  · intro i im h
    rcases Nat.lt_or_ge i (H (p + 1)).next with h1 | h1
    · rw [p0 i h1] at h
      exact ⟨Nat.lt_of_lt_of_le h1 hpn, (hr.dom i im h).2⟩
    · rw [p1 i h1] at h
      obtain ⟨k1, k2⟩ := m.hr.dom i im h
      exact ⟨k1, Nat.lt_of_lt_of_le k2 hx.size⟩
  · intro i im c g h1 h2
    rcases Nat.lt_or_ge i (H (p + 1)).next with h3 | h3
    · rw [p0 i h3] at h1
      rw [hold i h3] at h2
      obtain ⟨arr, e, k1, k2, k3⟩ := hr.cells i im c g h1 h2
      exact ⟨arr, e, k1, k2.mono hle', k3⟩
    · rw [p1 i h3] at h1
      obtain ⟨f1, f2⟩ := hlate i im h1 h3
      obtain ⟨arr, e, k1, k2, k3⟩ := m.hr.cells i im c g h1 (by rw [← f2]; exact h2)
      exact ⟨arr, e, by rw [f1 _ h2 (by simp)]; exact k1, k2.mono hle, k3⟩
  · intro i im es' h1 h2
    rcases Nat.lt_or_ge i (H (p + 1)).next with h3 | h3
    · rw [p0 i h3] at h1
      rw [hold i h3] at h2
      obtain ⟨ents, cl, k1, k2⟩ := hr.map i im es' h1 h2
      exact ⟨ents, cl, k1, k2.mono hle'⟩
    · rw [p1 i h3] at h1
      obtain ⟨f1, f2⟩ := hlate i im h1 h3
      obtain ⟨ents, cl, k1, k2⟩ := m.hr.map i im es' h1 (by rw [← f2]; exact h2)
      exact ⟨ents, cl, by rw [f1 _ h2 (by simp)]; exact k1, k2.mono hle⟩
  · have mixed : ∀ i j im jm, (HC ops.size cop T H (p + 1)).live i → (HC ops.size cop T H (p + 1)).live j → i < (H (p + 1)).next → (H (p + 1)).next ≤ j → φ' i = some im → ψ j = some jm → im.blk = jm.blk → False := by
      intro i j im jm hi hj h1 h2 h3 h4 h5
      have hil : (H (p + 1)).live i := by obtain ⟨b, hb, hn⟩ := hi; exact ⟨b, by rw [← hold i h1]; exact hb, hn⟩
      have hjl : (HC ops.size cop T H q).live j := by obtain ⟨b, hb, hn⟩ := hj; exact ⟨b, by rw [← (hlate j jm h4 h2).2]; exact hb, hn⟩
      have hjb := (m.hr.dom j jm h4).2
      rcases hx.new i im hil h3 with h | ⟨k, km, g1, g2, g3⟩
      · omega
      · have hk : ψ k = some km ∧ k < (H p).next := by
          unfold cut at g2
          split at g2
          · exact ⟨g2, by assumption⟩
          · simp at g2
        have hkl : (HC ops.size cop T H q).live k := by obtain ⟨b, hb, hn⟩ := g1; exact ⟨b, by rw [hat k hk.2]; exact hb, hn⟩
        have := m.hr.inj k j km jm hkl hjl hk.1 h4 (g3.trans h5)
        omega
    intro i j im jm hi hj h1 h2 h3
    rcases Nat.lt_or_ge i (H (p + 1)).next with h4 | h4
    · rw [p0 i h4] at h1
      rcases Nat.lt_or_ge j (H (p + 1)).next with h5 | h5
      · rw [p0 j h5] at h2
        refine hr.inj i j im jm ?_ ?_ h1 h2 h3
        · obtain ⟨b, hb, hn⟩ := hi; exact ⟨b, by rw [← hold i h4]; exact hb, hn⟩
        · obtain ⟨b, hb, hn⟩ := hj; exact ⟨b, by rw [← hold j h5]; exact hb, hn⟩
      · rw [p1 j h5] at h2
        exact (mixed i j im jm hi hj h4 h5 h1 h2 h3).elim
    · rw [p1 i h4] at h1
      rcases Nat.lt_or_ge j (H (p + 1)).next with h5 | h5
      · rw [p0 j h5] at h2
        exact (mixed j i jm im hj hi h5 h4 h2 h1 h3.symm).elim
      · rw [p1 j h5] at h2
        refine m.hr.inj i j im jm ?_ ?_ h1 h2 h3
        · obtain ⟨b, hb, hn⟩ := hi; exact ⟨b, by rw [← (hlate i im h1 h4).2]; exact hb, hn⟩
        · obtain ⟨b, hb, hn⟩ := hj; exact ⟨b, by rw [← (hlate j jm h2 h5).2]; exact hb, hn⟩
  · intro id im h1 h2
    rw [p1 id h2] at h1
    obtain ⟨_, r, k1, k2, k3, k4⟩ := hbeyond id im h1 (by omega)
    exact ⟨r, k1, (On.set hi').2 (.inr k3), k4⟩
  · intro r id h1 h2 h3
    rcases (On.set hi').1 h2 with h | h
    · have := pl.inj r p h3.1 hp h; omega
    · obtain ⟨im, him⟩ := m.pfull r id (by omega) h h3
      exact ⟨im, hle id im him⟩
  · intro i hl2
    obtain ⟨im, him⟩ := hx.full hm2 i hl2
    exact ⟨im, hle' i im him⟩
  · intro i hi
    rw [p0 i (by omega), hx.old i (by omega)]
    show (if i < (H p).next then ψ i else none) = _
    rw [if_pos (by omega)]
    exact m.eold i hi
  · intro b hb hn
    rw [hx.frame b (Nat.lt_of_lt_of_le hb m.esz) fun i im h1 h2 => ?_]
    · exact m.efr b hb hn
    · have hi : ψ i = some im ∧ i < (H p).next := by
        unfold cut at h2
        split at h2
        · exact ⟨h2, by assumption⟩
        · simp at h2
      obtain ⟨b2, hb2, hn2⟩ := h1
      exact m.frame0 hb hn i im ⟨b2, by rw [hat i hi.2]; exact hb2, hn2⟩ hi.1
  · intro i im hl2 h
    rcases Nat.lt_or_ge i (H (p + 1)).next with h1 | h1
    · rw [p0 i h1] at h
      have hil : (H (p + 1)).live i := by obtain ⟨b, hb, hn⟩ := hl2; exact ⟨b, by rw [← hold i h1]; exact hb, hn⟩
      rcases hx.new i im hil h with h2 | ⟨k, km, g1, g2, g3⟩
      · exact .inl (Nat.le_trans m.esz h2)
      · have hk : ψ k = some km ∧ k < (H p).next := by
          unfold cut at g2
          split at g2
          · exact ⟨g2, by assumption⟩
          · simp at g2
        have hkl : (HC ops.size cop T H q).live k := by obtain ⟨b, hb, hn⟩ := g1; exact ⟨b, by rw [hat k hk.2]; exact hb, hn⟩
        rcases m.enew k km hkl hk.1 with h3 | ⟨j, jm, j1, j2, j3⟩
        · exact .inl (g3 ▸ h3)
        · exact .inr ⟨j, jm, j1, j2, j3.trans g3⟩
    · rw [p1 i h1] at h
      refine m.enew i im ?_ h
      obtain ⟨b, hb, hn⟩ := hl2; exact ⟨b, by rw [← (hlate i im h h1).2]; exact hb, hn⟩

end
end Go.Ab
