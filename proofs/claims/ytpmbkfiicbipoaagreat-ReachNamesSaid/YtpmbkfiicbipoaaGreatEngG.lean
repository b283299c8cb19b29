/- A part of the proof. The abstract machine: memory. No condition. -/
import Derived.Test.YtpmbkfiicbipoaaGreatEngF
/-! The abstract machine: memory. -/
namespace Go.Ab

section
variable {P : Program} {φ : Phi} {h : Heap} {w : World}

theorem ARel.cell {a a' : Addr} (hr : HRel φ h w) (ha : ARel φ a a') {c : List Value} {g : Option Nat} (hg : h.blks a.block = some (.cells c g)) :
    ∃ im arr e, φ a.block = some im ∧ a' = ⟨im.blk, a.off, none⟩ ∧ w.heap[im.blk]? = some (.cells arr e (0, 0)) ∧ CRel φ c arr ∧ growOk g c.length im arr := by
  obtain ⟨im, h1, h2, _⟩ := ha
  obtain ⟨arr, e, k2, k3, k4⟩ := hr.cells _ _ _ _ h1 hg
  exact ⟨im, arr, e, h1, h2, k2, k3, k4⟩

theorem cell_of {arr : Array Value} {b e off : Nat} {fr : Nat × Nat} (hb : w.heap[b]? = some (.cells arr e fr)) : w.cell? ⟨b, off, none⟩ = arr[off]? := by
  simp [World.cell?, hb]

theorem growOk.le {g : Option Nat} {n : Nat} {im : Img} {arr : Array Value} {c : List Value} (_hg : growOk g n im arr) (hc : CRel φ c arr) : c.length ≤ arr.size := by
  cases hl : c.length with
  | zero => omega
  | succ k =>
    have hk : c[k]? = some (c[k]'(by omega)) := by simp [hl]
    obtain ⟨v', q, _⟩ := hc k _ hk
    have := (Array.getElem?_eq_some_iff.1 q).1
    omega

theorem m_load1 (hr : HRel φ h w) {a a' : Addr} (ha : ARel φ a a') {v : Value} (hl : h.load1 a = some v) : ∃ v', w.cell? a' = some v' ∧ VRel φ v v' := by
  unfold Heap.load1 at hl
  split at hl
  · rename_i c g hg
    obtain ⟨im, arr, e, _, rfl, k2, k3, _⟩ := ARel.cell hr ha hg
    rw [nth_eq] at hl
    obtain ⟨v', q1, q2⟩ := k3 _ _ hl
    exact ⟨v', by rw [cell_of k2]; exact q1, q2⟩
  · simp at hl

theorem add_cell (b off j : Nat) : (⟨b, off, none⟩ : Addr).add j = ⟨b, off + j, none⟩ := addA_eq _ _ rfl

theorem m_loadN (hr : HRel φ h w) {a a' : Addr} (ha : ARel φ a a') {n : Nat} {l : List Value} (hl : h.loadN a n = some l) :
    ∃ l', (∀ v : World, v.heap = w.heap → (loadCells a' n).run P v = .ok ⟨l'⟩ v) ∧ LRel φ l l' ∧ l.length = n := by
  unfold Heap.loadN at hl
  split at hl
  · rename_i c g hg
    obtain ⟨im, arr, e, _, rfl, k2, k3, _⟩ := ARel.cell hr ha hg
    rw [dropN_eq] at hl
    obtain ⟨h1, h2⟩ := takeN_some hl
    have hlen : l.length = n := by rw [h1]; simp at h2 ⊢; omega
    -- the model's cells
    have hget : ∀ j, j < n → ∃ v', arr[a.off + j]? = some v' ∧ ∀ v, l[j]? = some v → VRel φ v v' := by
      intro j hj
      have hlj : l[j]? = c[a.off + j]? := by rw [h1, List.getElem?_take, if_pos hj, List.getElem?_drop]
      have : j < l.length := by omega
      obtain ⟨v', q1, q2⟩ := k3 (a.off + j) (l[j]) (by rw [← hlj]; simp [this])
      refine ⟨v', q1, fun v hv => ?_⟩
      have : v = l[j] := by simp [this] at hv; exact hv.symm
      rw [this]; exact q2
    have hl' := fun (v : World) (hv : v.heap = w.heap) => run_loadCells (P := P) v (⟨im.blk, a.off, none⟩ : Addr) n (fun j => arr.getD (a.off + j) undef) (fun j hj => by
      obtain ⟨v', q1, _⟩ := hget j hj
      rw [add_cell, cell_of (by rw [hv]; exact k2), q1]
      simp [q1])
    refine ⟨(List.range n).map fun j => arr.getD (a.off + j) undef, hl', ?_, hlen⟩
    refine LRel.of_get _ _ (by simp [hlen]) fun k v hk => ?_
    have hkn : k < n := by
      have := (List.getElem?_eq_some_iff.1 hk).1; omega
    obtain ⟨v', q1, q2⟩ := hget k hkn
    refine ⟨v', ?_, q2 v hk⟩
    simp [hkn, q1]
  · simp at hl

theorem VRel.one {v v' : Value} (hv : VRel φ v v') (h1 : oneCellB v = true) : v'.oneCell' = true := by
  cases hv <;> first | rfl | simp [oneCellB] at h1

/-- the world with other cells in one block -/
theorem HRel.setRow (hr : HRel φ h w) {i : Nat} {im : Img} {c c2 : List Value} {g : Option Nat} {arr arr2 : Array Value} {e : TypeId} (hi : h.blks i = some (.cells c g)) (him : φ i = some im)
    (hb : w.heap[im.blk]? = some (.cells arr e (0, 0))) (hs : arr2.size = arr.size) (hl : c2.length = c.length) (hc : CRel φ c2 arr2) (hg : growOk g c.length im arr) :
    HRel φ (h.setB i (.cells c2 g)) (w.setRow im.blk arr2) ∧ Ext φ h w φ (h.setB i (.cells c2 g)) (w.setRow im.blk arr2) := by
  have live : ∀ j, (h.setB i (.cells c2 g)).live j ↔ h.live j := by
    intro j
    unfold Heap.live
    constructor
    · rintro ⟨b, hj, hne⟩
      rw [Heap.get_setB] at hj
      split at hj
      · rename_i hji; subst hji; exact ⟨_, hi, by simp⟩
      · exact ⟨b, hj, hne⟩
    · rintro ⟨b, hj, hne⟩
      by_cases hji : j = i
      · subst hji; exact ⟨.cells c2 g, by rw [Heap.get_setB, if_pos rfl], by simp⟩
      · exact ⟨b, by rw [Heap.get_setB, if_neg hji]; exact hj, hne⟩
  have hlive : h.live i := ⟨_, hi, by simp⟩
  have other : ∀ j jm, h.live j → φ j = some jm → j ≠ i → jm.blk ≠ im.blk := fun j jm hj hjm hne he => hne (hr.inj j i jm im hj hlive hjm him he)
  have hsz : (w.setRow im.blk arr2).heap.size = w.heap.size := by simp
  constructor
  · refine ⟨?_, ?_, ?_, ?_, ?_⟩
    · intro j jm hj; rw [hsz]; exact hr.dom j jm hj
    · intro j hj
      rw [Heap.get_setB]
      split
      · rename_i hji; subst hji
        have := hr.none j hj
        rw [hi] at this; simp at this
      · exact hr.none j hj
    · intro j jm c' g' k1 hj
      rw [Heap.get_setB] at hj
      split at hj
      · rename_i hji; subst hji
        rw [him] at k1; obtain rfl := Option.some.inj k1
        simp only [Option.some.injEq, Blk.cells.injEq] at hj
        obtain ⟨rfl, rfl⟩ := hj
        refine ⟨arr2, e, setRow_heap w im.blk arr arr2 e (0, 0) hb, hc, ?_⟩
        unfold growOk at hg ⊢
        rw [hl]
        cases g with
        | none => exact ⟨hg.1, by rw [hs]; exact hg.2⟩
        | some z => simp only at hg ⊢; rw [hs]; exact hg
      · rename_i hji
        obtain ⟨arr', e', k2, k3, k4⟩ := hr.cells j jm c' g' k1 hj
        exact ⟨arr', e', by rw [setRow_other w _ _ _ (other j jm ⟨_, hj, by simp⟩ k1 hji)]; exact k2, k3, k4⟩
    · intro j jm es k1 hj
      rw [Heap.get_setB] at hj
      split at hj
      · simp at hj
      · rename_i hji
        obtain ⟨ents, cl, k2, k3⟩ := hr.map j jm es k1 hj
        exact ⟨ents, cl, by rw [setRow_other w _ _ _ (other j jm ⟨_, hj, by simp⟩ k1 hji)]; exact k2, k3⟩
    · intro j k jm km hj hk h1 h2 h3
      exact hr.inj j k jm km ((live j).1 hj) ((live k).1 hk) h1 h2 h3
  · refine ⟨fun _ _ h => h, ?_, ?_, by rw [hsz]; exact Nat.le_refl _, Nat.le_refl _, rfl, rfl, rfl, fun _ _ => rfl, fun hf j hj => hf j ((live j).1 hj), fun a => by
      unfold World.frozen?
      by_cases he : a.block = im.blk
      · rw [he, setRow_heap w im.blk arr arr2 e (0, 0) hb, hb]
      · rw [setRow_other w _ _ _ he]⟩
    · intro b _ hn
      exact setRow_other w _ _ _ (fun he => hn i im hlive him he.symm)
    · intro j jm hj hjm
      exact .inr ⟨j, jm, (live j).1 hj, hjm, rfl⟩

theorem over_arr {arr : Array Value} {vs' : List Value} {off : Nat} (hfit : off + vs'.length ≤ arr.size) :
    (arr.toList.take off ++ vs' ++ arr.toList.drop (off + vs'.length)).toArray.size = arr.size ∧
    ∀ k, (arr.toList.take off ++ vs' ++ arr.toList.drop (off + vs'.length)).toArray[k]? = if off ≤ k ∧ k < off + vs'.length then vs'[k - off]? else arr[k]? := by
  constructor
  · simp; omega
  · intro k
    have hto : (arr.toList.take off).length = off := by simp; omega
    simp only [List.getElem?_toArray, List.append_assoc]
    by_cases h1 : k < off
    · rw [List.getElem?_append_left (by omega), if_neg (by omega), List.getElem?_take, if_pos h1, Array.getElem?_toList]
    · rw [List.getElem?_append_right (by omega), hto]
      by_cases h2 : k < off + vs'.length
      · rw [List.getElem?_append_left (by omega), if_pos (by omega)]
      · rw [List.getElem?_append_right (by omega), if_neg (by omega), List.getElem?_drop, show off + vs'.length + (k - off - vs'.length) = k from by omega, Array.getElem?_toList]

/-- cells written, in a block that has room for them -/
theorem m_write (hr : HRel φ h w) {a a' : Addr} (ha : ARel φ a a') {c c2 : List Value} {g : Option Nat} (hi : h.blks a.block = some (.cells c g)) {vs vs' : List Value} (hone : ∀ v ∈ vs, oneCellB v = true)
    (hv : LRel φ vs vs') (hp : putAt vs a.off c = some c2) :
    ∃ w', (storeCells a' vs').run P w = .ok () w' ∧ HRel φ (h.setB a.block (.cells c2 g)) w' ∧ Ext φ h w φ (h.setB a.block (.cells c2 g)) w' := by
  obtain ⟨im, arr, e, k0, rfl, k2, k3, k4⟩ := ARel.cell hr ha hi
  obtain ⟨p1, p2, p3⟩ := putAt_some hp
  have hlen := hv.length
  have hle := growOk.le k4 k3
  have hone' : ∀ v ∈ vs', v.oneCell' = true := by
    intro v' hv'
    obtain ⟨k, hk⟩ := List.mem_iff_getElem?.1 hv'
    have hkl : k < vs.length := by have := (List.getElem?_eq_some_iff.1 hk).1; omega
    obtain ⟨u, hu, hr'⟩ := hv.get k (vs[k]) (by simp [hkl])
    rw [hk] at hu
    obtain rfl := Option.some.inj hu
    exact hr'.one (hone _ (by simp))
  have hfit : a.off + vs'.length ≤ arr.size := by omega
  have hrun := run_storeCells_at P im.blk a.off e vs' 0 arr w k2 (by simpa using hfit) hone'
  obtain ⟨o1, o2⟩ := over_arr hfit
  simp only [Nat.add_zero] at hrun
  obtain ⟨r1, r2⟩ := HRel.setRow hr hi k0 k2 o1 p2 (c2 := c2) (arr2 := (arr.toList.take a.off ++ vs' ++ arr.toList.drop (a.off + vs'.length)).toArray) (by
    intro k v hk
    rw [p3 k] at hk
    rw [o2 k, ← hlen]
    split at hk
    · rename_i hin; rw [if_pos hin]; exact hv.get _ _ hk
    · rename_i hin; rw [if_neg hin]; exact k3 _ _ hk) k4
  exact ⟨_, hrun, r1, r2⟩

theorem m_storeN (hr : HRel φ h w) {a a' : Addr} (ha : ARel φ a a') {vs vs' : List Value} (hv : LRel φ vs vs') {h' : Heap} (hs : h.storeN a vs = some h') :
    ∃ w', (storeCells a' vs').run P w = .ok () w' ∧ HRel φ h' w' ∧ Ext φ h w φ h' w' := by
  unfold Heap.storeN at hs
  split at hs
  · rename_i c g hi
    obtain ⟨h1, h2⟩ := bif_some hs
    split at h2
    · rename_i c2 hp
      simp only [Option.some.injEq] at h2; subst h2
      exact m_write hr ha hi ((allB_iff _ _).1 h1) hv hp
    · simp at h2
  · simp at hs

/-! ## New blocks -/
def phiPut (φ : Phi) (i : Nat) (im : Img) : Phi := fun j => if j = i then some im else φ j

theorem phiPut_self (φ : Phi) (i : Nat) (im : Img) : phiPut φ i im i = some im := by simp [phiPut]
theorem phiPut_ne (φ : Phi) {i j : Nat} (im : Img) (hne : j ≠ i) : phiPut φ i im j = φ j := by simp [phiPut, hne]

theorem hr_next_none (hr : HRel φ h w) : φ h.next = none := by
  cases hf : φ h.next with
  | none => rfl
  | some im => have := (hr.dom _ _ hf).1; omega

theorem hr_put_le (hr : HRel φ h w) (im : Img) : φ.le (phiPut φ h.next im) := by
  intro j jm hj
  by_cases he : j = h.next
  · subst he; rw [hr_next_none hr] at hj; simp at hj
  · rw [phiPut_ne _ _ he]; exact hj

/-- a new block of the model's is one of the machine's -/
theorem m_push (hr : HRel φ h w) {b : Blk} {o : Obj} {w' : World} {im : Img} (hw : w'.heap = w.heap.push o) (him : im.blk = w.heap.size)
    (hos : w'.os = w.os) (htape : w'.tape = w.tape) (hout : w'.output = w.output)
    (hcells : ∀ c g, b = .cells c g → ∃ arr e, o = .cells arr e (0, 0) ∧ CRel φ c arr ∧ growOk g c.length im arr)
    (hmap : ∀ es, b = .map es → ∃ ents cl, o = .map ents cl ∧ MRel φ es ents.toList) (hgone : b ≠ .gone := by simp) :
    HRel (phiPut φ h.next im) (h.push b) w' ∧ Ext φ h w (phiPut φ h.next im) (h.push b) w' ∧ (phiPut φ h.next im) h.next = some im := by
  have hle := hr_put_le hr im
  have hold : ∀ i, i < w.heap.size → w'.heap[i]? = w.heap[i]? := fun i hi => by rw [hw, Array.getElem?_push, if_neg (by omega)]
  have hnew : w'.heap[im.blk]? = some o := by rw [hw, him]; simp
  have hsize : w'.heap.size = w.heap.size + 1 := by rw [hw]; simp
  have hnone := hr.none h.next (Nat.le_refl _)
  have live : ∀ j, (h.push b).live j → j ≠ h.next → h.live j := by
    rintro j ⟨x, hj, hx⟩ hne'
    rw [Heap.get_push, if_neg hne'] at hj
    exact ⟨x, hj, hx⟩
  have liveLt : ∀ j, h.live j → j ≠ h.next := by
    rintro j ⟨x, hj, _⟩ rfl
    rw [hnone] at hj; simp at hj
  refine ⟨⟨?_, ?_, ?_, ?_, ?_⟩, ⟨hle, ?_, ?_, by omega, Nat.le_succ _, hos, htape, hout, fun i hi => phiPut_ne _ _ (Nat.ne_of_lt hi), fun hf j hj => by
    by_cases he : j = h.next
    · subst he; exact ⟨im, phiPut_self _ _ _⟩
    · rw [phiPut_ne _ _ he]; exact hf j (live j hj he), fun a => by
    unfold World.frozen?
    by_cases hlt : a.block < w.heap.size
    · rw [hold _ hlt]
    · have h0 : w.heap[a.block]? = none := Array.getElem?_eq_none (by omega)
      rw [h0]
      by_cases he : a.block = im.blk
      · rw [he, hnew]
        cases b with
        | cells c g => obtain ⟨arr, e, q1, _⟩ := hcells c g rfl; rw [q1]; simp
        | map es => obtain ⟨ents, cl, q1, _⟩ := hmap es rfl; rw [q1]
        | gone => exact absurd rfl hgone
      · rw [Array.getElem?_eq_none (by omega)]⟩, phiPut_self _ _ _⟩
  · intro i jm hi
    show i < h.next + 1 ∧ _
    by_cases he : i = h.next
    · subst he; rw [phiPut_self] at hi; obtain rfl := Option.some.inj hi; omega
    · rw [phiPut_ne _ _ he] at hi
      obtain ⟨q1, q2⟩ := hr.dom i jm hi
      omega
  · intro i hi
    have hi' : h.next + 1 ≤ i := hi
    rw [Heap.get_push, if_neg (by omega)]
    exact hr.none i (by omega)
  · intro i jm c g k1 hi
    rw [Heap.get_push] at hi
    split at hi
    · rename_i he; subst he
      rw [phiPut_self] at k1; obtain rfl := Option.some.inj k1
      obtain ⟨arr, e, q1, q2, q3⟩ := hcells c g (Option.some.inj hi)
      exact ⟨arr, e, by rw [hnew, q1], fun k v hk => by obtain ⟨v', z1, z2⟩ := q2 k v hk; exact ⟨v', z1, z2.mono hle⟩, q3⟩
    · rename_i he
      rw [phiPut_ne _ _ he] at k1
      obtain ⟨arr, e, q2, q3, q4⟩ := hr.cells i jm c g k1 hi
      exact ⟨arr, e, by rw [hold _ (hr.dom i jm k1).2]; exact q2, fun k v hk => by obtain ⟨v', z1, z2⟩ := q3 k v hk; exact ⟨v', z1, z2.mono hle⟩, q4⟩
  · intro i jm es k1 hi
    rw [Heap.get_push] at hi
    split at hi
    · rename_i he; subst he
      rw [phiPut_self] at k1; obtain rfl := Option.some.inj k1
      obtain ⟨ents, cl, q1, q2⟩ := hmap es (Option.some.inj hi)
      exact ⟨ents, cl, by rw [hnew, q1], q2.mono hle⟩
    · rename_i he
      rw [phiPut_ne _ _ he] at k1
      obtain ⟨ents, cl, q2, q3⟩ := hr.map i jm es k1 hi
      exact ⟨ents, cl, by rw [hold _ (hr.dom i jm k1).2]; exact q2, q3.mono hle⟩
  · intro i j jm km hi hj h1 h2 h3
    by_cases hi' : i = h.next
    · by_cases hj' : j = h.next
      · rw [hi', hj']
      · rw [hi', phiPut_self] at h1; obtain rfl := Option.some.inj h1
        rw [phiPut_ne _ _ hj'] at h2
        have := (hr.dom j km h2).2; omega
    · rw [phiPut_ne _ _ hi'] at h1
      by_cases hj' : j = h.next
      · rw [hj', phiPut_self] at h2; obtain rfl := Option.some.inj h2
        have := (hr.dom i jm h1).2; omega
      · rw [phiPut_ne _ _ hj'] at h2
        exact hr.inj i j jm km (live i hi hi') (live j hj hj') h1 h2 h3
  · intro i hi _
    exact hold i hi
  · intro i jm hi hjm
    by_cases he : i = h.next
    · subst he; rw [phiPut_self] at hjm; obtain rfl := Option.some.inj hjm; exact .inl (by omega)
    · rw [phiPut_ne _ _ he] at hjm
      exact .inr ⟨i, jm, live i hi he, hjm, rfl⟩

theorem LRel.crel {c : List Value} {arr : Array Value} (hc : LRel φ c arr.toList) : CRel φ c arr := by
  intro k v hk
  obtain ⟨v', h1, h2⟩ := hc.get k v hk
  exact ⟨v', by rwa [Array.getElem?_toList] at h1, h2⟩

/-- .. of known size -/
theorem m_new (hr : HRel φ h w) {c : List Value} {arr : Array Value} (hc : LRel φ c arr.toList) (e : TypeId) :
    ∃ φ', HRel φ' (h.push (.cells c none)) { w with heap := w.heap.push (.cells arr e) } ∧ Ext φ h w φ' (h.push (.cells c none)) { w with heap := w.heap.push (.cells arr e) } ∧
      φ' h.next = some ⟨w.heap.size, none⟩ := by
  refine ⟨_, m_push hr (im := ⟨w.heap.size, none⟩) (o := .cells arr e) rfl rfl rfl rfl rfl ?_ (by simp)⟩
  intro c' g' he
  simp only [Blk.cells.injEq] at he
  obtain ⟨rfl, rfl⟩ := he
  exact ⟨arr, e, rfl, hc.crel, rfl, by rw [hc.length]; simp⟩

end

end Go.Ab
