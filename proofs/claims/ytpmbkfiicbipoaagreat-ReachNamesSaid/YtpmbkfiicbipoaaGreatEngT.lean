/- A part of the proof. The abstract machine: regions whose order is drawn. Part 5: they come to what the machine's one order comes to. No condition. -/
import Derived.Test.YtpmbkfiicbipoaaGreatEngS
/-! The abstract machine: regions whose order is drawn. Part 5: they come to what the machine's one order comes to. -/
namespace Go.Ab

theorem load_any {t : Fm} {h h' : Heap} {io : IOp} {v : Value} (hl : isLoad io = true) (hm : memV t h io = some (v, h')) :
    h' = h ∧ ∃ b, h.blks b ≠ none ∧ ∀ h2 : Heap, h2.blks b = h.blks b → memV t h2 io = some (v, h2) := by
  cases io <;> simp only [isLoad, Bool.false_eq_true] at hl
  rename_i n x
  simp only [memV] at hm
  split at hm
  case h_2 => simp at hm
  rename_i a hx
  split at hm
  · split at hm
    case h_2 => simp at hm
    rename_i u hu
    simp only [Option.some.injEq, Prod.mk.injEq] at hm
    obtain ⟨rfl, rfl⟩ := hm
    refine ⟨rfl, a.block, ?_, fun h2 he => ?_⟩
    · intro hn; unfold Heap.load1 at hu; rw [hn] at hu; simp at hu
    · have : h2.load1 a = h.load1 a := by unfold Heap.load1; rw [he]
      simp only [memV, hx, this, hu]
  · split at hm
    case h_2 => simp at hm
    rename_i u hu
    simp only [Option.some.injEq, Prod.mk.injEq] at hm
    obtain ⟨rfl, rfl⟩ := hm
    refine ⟨rfl, a.block, ?_, fun h2 he => ?_⟩
    · intro hn; unfold Heap.loadN at hu; rw [hn] at hu; simp at hu
    · have : ∀ k, h2.loadN a k = h.loadN a k := fun k => by unfold Heap.loadN; rw [he]
      simp only [memV, hx, this, hu]

section
variable {P : Program} {tt : T TI} (hT : TOk P tt) {ops : Array Oper} {nt : Nat} {idx : Nat → Nat} {op : Nat → Oper} {cop : Nat → COp} {T : Nat → Fm} {H : Nat → Heap} {V : Nat → Value}
  (pl : Plan P tt ops nt idx op cop T H V) (hf0 : Feas nt (T 0) (H 0)) {ds : List Deferred} {φ0 : Phi} {w0 : World}

/-- what holds on the way -/
def Way (ops : Array Oper) (nt : Nat) (idx : Nat → Nat) (cop : Nat → COp) (T : Nat → Fm) (H : Nat → Heap) (V : Nat → Value) (ds : List Deferred) (φ0 : Phi) (w0 : World) (listed : Array Bool) (a : Act) (w : World) : Prop :=
  ∃ q ψ, Es ops idx cop listed q ∧ Tm ops idx cop T V nt ds listed ψ a ∧ Mem ops idx cop T H φ0 w0 listed q ψ w

theorem call_heavy {tt : Go.Ab.T TI} {t : Fm} {io : IOp} (h : isHeavy io = false) : callee tt t io = none := by
  cases hp : isPure io with
  | true => exact (isPure_not hp).2.2.2 tt t
  | false =>
    cases hl : isLoad io with
    | true => exact (isLoad_not hl).2.2.2 tt t
    | false => exact (isAlloc_not (by simp [isHeavy, hp, hl] at h; exact h)).2 tt t

include hT pl hf0 in
theorem way_step {listed : Array Bool} {a : Act} {w : World} (hw : Way ops nt idx cop T H V ds φ0 w0 listed a w) {i : Nat} (hr : IsReady ops listed i) {Q : Exit → Act → World → Prop} :
    wpOp P ops Q i (fun a w => Way ops nt idx cop T H V ds φ0 w0 (listed.setIfInBounds i true) a w) a w := by
  obtain ⟨q, ψ, es, tm, m⟩ := hw
  obtain ⟨p, hp, rfl⟩ := pl.surj i hr.1
  obtain ⟨hq, es1, es2⟩ := Es.step pl es hp hr
  have hrd := Tm.reads pl ds tm es hp hr
  have hk := pl.ok p hp
  have hrdo : ∀ k, k ∈ tmpsOf (op p).op.operands.toList → VRel ψ (T p k) (a.tmps.getD k undef) := fun k h => hrd k (by simp [COp.reads, h])
  obtain ⟨φg, ag, wg, g1, g2, g3, g4⟩ := Plan.feas hT pl hf0 p (Nat.le_of_lt hp)
  have hgb : ∀ i im, φg i = some im → i < (H p).next := fun i im h => (g2.dom i im h).1
  have hrdc : ∀ k, k ∈ tmpsOf (op p).op.operands.toList → VRel (cut ψ (H p).next) (T p k) (a.tmps.getD k undef) := fun k h => (hrdo k h).bound hgb (g1 k)
  obtain ⟨_, s2, s3⟩ := pl.step p hp
  have hwant : Region.wanted (op p) (yielded ops a.tmps) = wantedC (cop p) (T p) := wanted_eq hk tm.sz fun d g h => hrd d (by simp [COp.reads, h])
  have tmstep : ∀ {ψ' : Phi} {v' : Value}, ψ.le ψ' → VRel ψ' (V p) v' → Tm ops idx cop T V nt ds (listed.setIfInBounds (idx p) true) ψ' (a.put (cop p).dst v') :=
    fun hle hv => Tm.step pl ds tm es.lsz hp hr.1 hle hv
  cases hhv : isHeavy (cop p).io with
  | true =>
    obtain ⟨hall, es'⟩ := es2 hhv
    have hl : ∀ r, q ≤ r → r < p → isHeavy (cop r).io = false := fun r h1 h2 => es.nohe r h1 (by omega) (hall r h2)
    have hon : ∀ r, q ≤ r → r < p → On listed (idx r) := fun r _ h2 => hall r h2
    obtain ⟨hm1, hm2⟩ := m.at hT pl hf0 hq (Nat.le_of_lt hp) hl hon
    refine wpOp_of (pl.get p hp) hk hwant (fun hb => op_sound' hT (op p) hk.okx hk.comp hk.sub (s2 hb) hrdc hm1 fun _ => hm2) ?_ ?_
    · intro _ φ' v' w' hv hh hx
      obtain ⟨ψ', k1, k2, k3⟩ := m.heavy hT pl hf0 es hr hq hp hhv hl hon hh hx
      exact ⟨p + 1, ψ', es', tmstep k1 (hv.mono k2), k3⟩
    · intro hb
      obtain ⟨e1, e2⟩ := s3 hb
      obtain ⟨ψ', k1, k2, k3⟩ := m.heavy hT pl hf0 es hr hq hp hhv hl hon (by rw [e2]; exact hm1) (by rw [e2]; exact .refl _ _ _)
      exact ⟨p + 1, ψ', es', tmstep k1 (by rw [e1]; exact undef_rel _), k3⟩
  | false =>
    have es' := es1 hhv
    rcases Plan.light pl hp hhv with ⟨hsame, hnl⟩ | ⟨hL, b, hb, hH, hany⟩
    · -- the machine's memory stays
      have hrun : wantedC (cop p) (T p) = true → OpRes P tt (T p) (HC ops.size cop T H q) (cop p).io (V p) (HC ops.size cop T H q) := by
        intro hwt
        have hres := s2 hwt
        rw [hsame] at hres
        rcases hres with ⟨h1, h2, _⟩ | ⟨h1, h2⟩ | ⟨f, args, h1, _⟩
        · exact .inl ⟨h1, h2, rfl⟩
        · have hld : isLoad (cop p).io = true := by
            cases hld : isLoad (cop p).io with
            | true => rfl
            | false =>
              have hpu : isPure (cop p).io = false := by
                cases hpu : isPure (cop p).io with
                | false => rfl
                | true => have := (isPure_not hpu).2.2.1; rw [h1] at this; simp at this
              have hal : isAlloc (cop p).io = true := by simp [isHeavy, hpu, hld] at hhv; exact hhv
              exact absurd ⟨(H p).next, hp, hal, hwt, rfl⟩ hnl
          -- a load: from the memory ahead of the next heavy operation
          have key : ∀ r, q ≤ r → r ≤ ops.size → (∀ s, q ≤ s → s < r → isHeavy (cop s).io = false) → memV (T p) (H r) (cop p).io = some (V p, H r) →
              memV (T p) (HC ops.size cop T H q) (cop p).io = some (V p, HC ops.size cop T H q) := by
            intro r hr1 hr2 hr3 hr4
            obtain ⟨_, blk, hb1, hb2⟩ := load_any hld hr4
            refine hb2 _ (HC_at hT pl hf0 hr1 hr2 hr3 blk ?_)
            rcases Nat.lt_or_ge blk (H r).next with h | h
            · exact h
            · exact absurd (Plan.none hT pl hf0 hr2 h) hb1
          refine .inr (.inl ⟨h1, ?_⟩)
          rcases first_heavy cop q p hq with hno | ⟨p1, f1, f2, f3, f4⟩
          · exact key p hq (Nat.le_of_lt hp) hno h2
          · rcases pl.ld p p1 f2 hp hld f3 hwt with hbef | hm1
            · have := bef_on hr es.closed hbef rfl
              have := es.nohe p1 f1 (by omega) this
              rw [f3] at this; simp at this
            · exact key p1 f1 (by omega) f4 hm1
        · rw [call_heavy hhv] at h1; simp at h1
      refine wpOp_of (pl.get p hp) hk hwant (fun hb => op_sound' hT (op p) hk.okx hk.comp hk.sub (hrun hb) hrdo m.hr fun hc => absurd (call_heavy hhv) hc) ?_ ?_
      · intro _ φ' v' w' hv hh hx
        obtain ⟨rfl, k3⟩ := m.light pl es hr.1 hp hnl hh hx
        exact ⟨q, φ', es', tmstep (fun _ _ h => h) hv, k3⟩
      · intro hb
        obtain ⟨e1, e2⟩ := s3 hb
        obtain ⟨_, k3⟩ := m.light pl es hr.1 hp hnl m.hr (.refl _ _ _)
        exact ⟨q, ψ, es', tmstep (fun _ _ h => h) (by rw [e1]; exact undef_rel _), k3⟩
    · -- a new block
      have htriv : HRel (cut ψ (H p).next) ⟨(H p).next, fun _ => none⟩ w := by
        refine ⟨?_, fun _ _ => rfl, by simp, by simp, ?_⟩
        · intro i im h
          unfold cut at h
          split at h
          · exact ⟨by assumption, (m.hr.dom i im h).2⟩
          · simp at h
        · rintro i j im jm ⟨x, hx, _⟩; simp at hx
      refine wpOp_of (pl.get p hp) hk hwant (fun _ => op_sound' hT (op p) hk.okx hk.comp hk.sub (hany ⟨(H p).next, fun _ => none⟩ rfl) hrdc htriv fun hc => absurd (call_heavy hhv) hc) ?_ ?_
      · intro _ φ' v' w' hv hh hx
        obtain ⟨ψ', k1, k2, k3⟩ := m.late hT pl hf0 es hr hq hL hb hH hh hx
        exact ⟨q, ψ', es', tmstep k1 (hv.mono k2), k3⟩
      · intro hb2
        have := hL.2.2.1; rw [hb2] at this; simp at this

/-- how many are still to come -/
def toCome (listed : Array Bool) : List Nat → Nat
  | [] => 0
  | i :: l => (if listed.getD i false then 0 else 1) + toCome listed l

theorem toCome_le (listed : Array Bool) (i : Nat) (hi : i < listed.size) : ∀ l, toCome (listed.setIfInBounds i true) l ≤ toCome listed l
  | [] => Nat.le_refl _
  | j :: l => by
    have ih := toCome_le listed i hi l
    have := (On.set (listed := listed) (j := j) hi)
    unfold On at this
    simp only [toCome]
    by_cases h1 : listed.getD j false = true
    · rw [if_pos h1, if_pos (this.2 (.inr h1))]; omega
    · rw [if_neg h1]; split <;> omega

theorem toCome_lt (listed : Array Bool) (i : Nat) (hi : i < listed.size) (hn : ¬ On listed i) : ∀ l, i ∈ l → toCome (listed.setIfInBounds i true) l < toCome listed l
  | [], h => by simp at h
  | j :: l, h => by
    have ih := toCome_le listed i hi l
    simp only [toCome]
    by_cases he : j = i
    · subst he
      have h1 := (On.set (listed := listed) (i := j) (j := j) hi).2 (.inl rfl)
      unfold On at h1 hn
      rw [if_pos h1, if_neg hn]; omega
    · have hm : i ∈ l := by rcases List.mem_cons.1 h with h | h; exact absurd h.symm he; exact h
      have ih2 := toCome_lt listed i hi hn l hm
      have := (On.set (listed := listed) (j := j) hi)
      unfold On at this
      by_cases h1 : listed.getD j false = true
      · rw [if_pos h1, if_pos (this.2 (.inr h1))]; omega
      · rw [if_neg h1]; split <;> omega

theorem toCome_zero (listed : Array Bool) : ∀ l, toCome listed l = 0 → ∀ i, i ∈ l → On listed i
  | [], _, i, h => by simp at h
  | j :: l, h0, i, h => by
    simp only [toCome] at h0
    have h1 : toCome listed l = 0 := by omega
    rcases List.mem_cons.1 h with rfl | h
    · unfold On
      by_cases h2 : listed.getD i false = true
      · exact h2
      · rw [if_neg h2] at h0; omega
    · exact toCome_zero listed l h1 i h

include pl in
/-- where nothing is ready, all is done -/
theorem all_on {listed : Array Bool} (hl : listed.size = ops.size) (hn : Region.ready .any ops listed = []) : ∀ p, p < ops.size → On listed (idx p) := by
  intro p
  induction p using Nat.strongRecOn with
  | _ p ih =>
    intro hp
    rcases Classical.em (On listed (idx p)) with h | h
    · exact h
    · exfalso
      have hget := pl.get p hp
      have hi : idx p < ops.size := (Array.getElem?_eq_some_iff.1 hget).1
      have hmem : idx p ∈ Region.ready .any ops listed := by
        simp only [Region.ready, List.mem_filter, List.mem_range, Bool.and_eq_true]
        refine ⟨hi, ?_, ?_⟩
        · have hlt : idx p < listed.size := by omega
          unfold On at h
          simp only [Array.getD_eq_getD_getElem?, Array.getElem?_eq_getElem hlt, Option.getD_some] at h ⊢
          simpa using h
        · rw [hget]
          simp only [Option.map_some, Option.getD_some, Array.all_eq_true_iff_forall_mem]
          intro e he
          cases hb : Region.binds .any e with
          | false => rfl
          | true =>
            obtain ⟨p', hp', hidx⟩ := pl.edge p hp e he hb
            have := ih p' hp' (by omega)
            rw [hidx] at this
            simpa [On] using this
      rw [hn] at hmem; simp at hmem

include hT pl hf0 in
theorem way_end {listed : Array Bool} {a : Act} {w : World} (hd : ∀ i im, φ0 i = some im → i < (H 0).next) (hw : Way ops nt idx cop T H V ds φ0 w0 listed a w) (hall : ∀ p, p < ops.size → On listed (idx p)) :
    ∃ φ', SRel nt ds φ' (T ops.size) (H ops.size) a w ∧ Ext φ0 (H 0) w0 φ' (H ops.size) w := by
  obtain ⟨q, ψ, es, tm, m⟩ := hw
  have hl : ∀ r, q ≤ r → r < ops.size → isHeavy (cop r).io = false := fun r h1 h2 => es.nohe r h1 h2 (hall r h2)
  obtain ⟨h1, h2⟩ := m.at hT pl hf0 es.qle (Nat.le_refl _) hl (fun r _ h => hall r h)
  have hat := HC_at hT pl hf0 es.qle (Nat.le_refl _) hl
  have hcut : cut ψ (H ops.size).next = ψ := by
    funext i
    unfold cut
    by_cases hi : i < (H ops.size).next
    · rw [if_pos hi]
    · rw [if_neg hi]
      cases hh : ψ i with
      | none => rfl
      | some im => exact absurd (m.hr.dom i im hh).1 hi
  rw [hcut] at h1 h2
  refine ⟨ψ, ⟨fun k => ?_, h1, tm.sz, tm.df, h2⟩, ?_⟩
  · show VRel ψ (T ops.size k) _
    by_cases hex : ∃ p, p < ops.size ∧ (cop p).dst = some k
    · obtain ⟨p, hp, hd⟩ := hex
      rw [Plan.tget1 pl hp hd hp (Nat.le_refl _)]
      exact tm.tm p hp (hall p hp) k hd
    · rw [Plan.tget0 pl (Nat.le_refl _) fun p hp hd => hex ⟨p, hp, hd⟩]
      exact tm.t0 k fun p hp _ hd => hex ⟨p, hp, hd⟩
  · refine ⟨?_, m.efr, ?_, m.esz, Plan.next_mono hT pl hf0 (Nat.zero_le _) (Nat.le_refl _), m.eos, m.etape, m.eout, m.eold, fun _ => h2, m.efz⟩
    · intro i im h
      rw [m.eold i (hd i im h)]; exact h
    · intro i im hl2 h
      refine m.enew i im ?_ h
      obtain ⟨b, hb, hn⟩ := hl2
      exact ⟨b, by rw [hat i (h1.dom i im h).1]; exact hb, hn⟩

include hT pl hf0 in
theorem way_any (hd : ∀ i im, φ0 i = some im → i < (H 0).next) {Q : Exit → Act → World → Prop} (hQ : ∀ φ' a' w', SRel nt ds φ' (T ops.size) (H ops.size) a' w' → Ext φ0 (H 0) w0 φ' (H ops.size) w' → Q .normal a' w') :
    ∀ (fuel : Nat) (listed : Array Bool) (a : Act) (w : World), listed.size = ops.size → toCome listed (List.range ops.size) ≤ fuel → Way ops nt idx cop T H V ds φ0 w0 listed a w → wpAny P .any ops Q fuel listed a w
  | 0, listed, a, w, hl, hf, hw => by
    have hz := toCome_zero listed (List.range ops.size) (Nat.le_zero.1 hf)
    have hall : ∀ p, p < ops.size → On listed (idx p) := fun p hp => hz _ (List.mem_range.2 (Array.getElem?_eq_some_iff.1 (pl.get p hp)).1)
    refine ⟨?_, ?_⟩
    · have : ∀ i, i ∉ Region.ready .any ops listed := fun i h => by
        have hr := ready_is hl h
        exact hr.2.1 (hz i (List.mem_range.2 hr.1))
      exact List.eq_nil_iff_forall_not_mem.2 this
    · obtain ⟨φ', h1, h2⟩ := way_end hT pl hf0 hd hw hall
      exact hQ φ' a w h1 h2
  | fuel + 1, listed, a, w, hl, hf, hw => by
    refine ⟨fun hn => ?_, fun i hi => ?_⟩
    · obtain ⟨φ', h1, h2⟩ := way_end hT pl hf0 hd hw (all_on pl hl hn)
      exact hQ φ' a w h1 h2
    · have hr := ready_is hl hi
      refine wpOp_mono ?_ (way_step hT pl hf0 hw hr)
      intro a' w' hw'
      have hlt := toCome_lt listed i (by rw [hl]; exact hr.1) hr.2.1 (List.range ops.size) (List.mem_range.2 hr.1)
      exact way_any hd hQ fuel _ a' w' (by simp [hl]) (by omega) hw'

include hT pl in
/-- a region whose order is drawn: in whatever order, it comes to what the plan comes to -/
theorem drawn_sound {id : Nat} (hm : P.follows .mixedOrders = true) {Q : Exit → Act → World → Prop} {a : Act} {w : World} (hr : SRel nt ds φ0 (T 0) (H 0) a w)
    (hQ : ∀ φ' a' w', SRel nt ds φ' (T ops.size) (H ops.size) a' w' → Ext φ0 (H 0) w φ' (H ops.size) w' → Q .normal a' w') : (Code.region id ops true).wp P Q a w := by
  obtain ⟨h1, h2, h3, h4, h5⟩ := hr
  have hf0 : Feas nt (T 0) (H 0) := ⟨φ0, a, w, h1, h2, h3, h5⟩
  refine wp_region_any hm ?_
  have hd : ∀ i im, φ0 i = some im → i < (H 0).next := fun i im h => (h2.dom i im h).1
  have hoff : ∀ i, ¬ On (Array.replicate ops.size false) i := by
    intro i h
    unfold On at h
    simp only [Array.getD_eq_getD_getElem?, Array.getElem?_replicate] at h
    split at h <;> simp at h
  have hext : Ext φ0 (H 0) w φ0 (H 0) { w with drawn := w.drawn + 1 } := (⟨rfl, rfl, rfl, rfl⟩ : Same w { w with drawn := w.drawn + 1 }).ext φ0 (H 0)
  have h2' : HRel φ0 (H 0) { w with drawn := w.drawn + 1 } := h2.same ⟨rfl, rfl, rfl, rfl⟩
  refine way_any (w0 := w) (φ0 := φ0) hT pl hf0 hd hQ ops.size _ a _ (by simp) ?_ ?_
  · have : ∀ l : List Nat, toCome (Array.replicate ops.size false) l ≤ l.length := by
      intro l
      induction l with
      | nil => exact Nat.le_refl _
      | cons i l ih => simp only [toCome, List.length_cons]; split <;> omega
    have := this (List.range ops.size)
    simpa using this
  · refine ⟨0, φ0, ⟨Nat.zero_le _, by simp, fun p h => absurd h (Nat.not_lt_zero p), fun p _ _ h => absurd h (hoff _), fun i j _ h => absurd h (hoff _)⟩,
      ⟨fun p _ h => absurd h (hoff _), fun k _ => h1 k, h3, h4⟩, ?_⟩
    have hlt := Plan.next_mono hT pl hf0 (Nat.zero_le ops.size) (Nat.le_refl _)
    refine ⟨⟨?_, fun i h => HC_none hT pl hf0 (Nat.zero_le _) h, ?_, ?_, ?_⟩, ?_, ?_, h5, fun _ _ => rfl, fun _ _ _ => rfl, ?_, Nat.le_refl _, rfl, rfl, rfl, fun _ => rfl⟩
    · intro i im h
      exact ⟨Nat.lt_of_lt_of_le (hd i im h) hlt, (h2.dom i im h).2⟩
    · intro i im c g k1 k2
      rw [HC_old (hd i im k1)] at k2
      exact h2'.cells i im c g k1 k2
    · intro i im es' k1 k2
      rw [HC_old (hd i im k1)] at k2
      exact h2'.map i im es' k1 k2
    · intro i j im jm hi hj k1 k2 k3
      refine h2.inj i j im jm ?_ ?_ k1 k2 k3
      · obtain ⟨b, hb, hn⟩ := hi; exact ⟨b, by rw [← HC_old (hd i im k1) (cop := cop) (T := T) (ops := ops)]; exact hb, hn⟩
      · obtain ⟨b, hb, hn⟩ := hj; exact ⟨b, by rw [← HC_old (hd j jm k2) (cop := cop) (T := T) (ops := ops)]; exact hb, hn⟩
    · intro id im k1 k2
      have := hd id im k1; omega
    · intro p id _ h; exact absurd h (hoff _)
    · intro i im hi k1
      obtain ⟨b, hb, hn⟩ := hi
      exact .inr ⟨i, im, ⟨b, by rw [← HC_old (hd i im k1) (cop := cop) (T := T) (ops := ops)]; exact hb, hn⟩, k1, rfl⟩

end
end Go.Ab
