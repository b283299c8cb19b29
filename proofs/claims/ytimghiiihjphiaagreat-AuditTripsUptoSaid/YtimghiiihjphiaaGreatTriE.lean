/- A part of the proof: a sample of a plane stored, as_ the row of planes is told. No condition. -/
import Derived.Test.YtimghiiihjphiaaGreatTriD
import Derived.Test.YtimghiiihjphiaaGreatTriK
namespace Go.Proofs.YtimghiiihjphiaaGreat.trips
open Go.RowKit Go.Proofs.YtimghiiihjphiaaGreatW.PrintWords Go.Proofs.YtimghiiihjphiaaGreat.PTri
set_option linter.unusedVariables false
set_option linter.unusedSimpArgs false

/-- the list of planes, sample j of plane k set -/
def setP (l : List S37) (k j : Nat) (x : Int) : List S37 := l.set k { rd_T37 l k with f2 := (rd_T37 l k).f2.set j x }
theorem rd37 (l : List S37) (k : Nat) : l.getD k z37 = rd_T37 l (k : Int) := by simp [rd_T37]

theorem S_plane {W : World} {base : Nat} {ok : Nat → Prop} {G n cap : Nat} {l : List S37} (h : Kd.S k37 37 W base ok (.slice (some ⟨G, 0, none⟩) n cap) l) (k : Nat) (hk : k < n) (hp : 0 < (rd_T37 l k).f2.length) :
    ∃ g c, W.cell? ⟨G, k * 3 + 2, none⟩ = some (.slice (some ⟨g, 0, none⟩) (rd_T37 l k).f2.length c) ∧ G ≠ g := by
  obtain ⟨oki, c, hcl, hM, hcc, hoki, hB⟩ := Kd.S_borrow h z37 k (by omega) (by omega)
  rw [Int.toNat_natCast, rd37] at hM
  obtain ⟨v2, rfl, hR⟩ := k37_openM hM
  obtain ⟨g, cg, rfl, h1, h2, cells, h3⟩ := Kd.R_form hR hp
  have hc2 := hcc 2 _ rfl
  rw [Int.toNat_natCast] at hc2
  have hgg := (hoki g (hR.1 g (by simp [Value.ownBlock]))).2
  have e1 : (⟨G, 0, none⟩ : Addr).add (k * k37.sz + 2) = ⟨G, k * 3 + 2, none⟩ := by rw [add_plain, show k37.sz = 3 from rfl]
  rw [e1] at hc2
  exact ⟨g, cg, hc2, fun e => hgg (by simp [Value.ownBlock, e])⟩

theorem S_store {W : World} {base : Nat} {ok : Nat → Prop} {G n cap : Nat} {l : List S37} (h : Kd.S k37 37 W base ok (.slice (some ⟨G, 0, none⟩) n cap) l) (k : Nat) (hk : k < n) {g m c : Nat} (hc : W.cell? ⟨G, k * 3 + 2, none⟩ = some (.slice (some ⟨g, 0, none⟩) m c)) :
    m = (rd_T37 l k).f2.length ∧ G ≠ g ∧ base ≤ g ∧ (∃ cells, W.heap[g]? = some (.cells cells 38 (0, 0))) ∧ (∀ j : Nat, j < m → W.cell? ⟨g, j, none⟩ = some (.int .u32 (rd (rd_T37 l k).f2 j)) ∧ W.frozen? ⟨g, j, none⟩ = false) ∧
      ∀ (j : Nat) (x : Int), Kd.S k37 37 (W.setCell ⟨g, j, none⟩ (.int .u32 x)) base ok (.slice (some ⟨G, 0, none⟩) n cap) (setP l k j x) := by
  obtain ⟨oki, c, hcl, hM, hcc, hoki, hB⟩ := Kd.S_borrow h z37 k (by omega) (by omega)
  rw [Int.toNat_natCast, rd37] at hM
  obtain ⟨v2, rfl, hR⟩ := k37_openM hM
  have hc2 := hcc 2 _ rfl
  rw [Int.toNat_natCast] at hc2
  have e1 : (⟨G, 0, none⟩ : Addr).add (k * k37.sz + 2) = ⟨G, k * 3 + 2, none⟩ := by rw [add_plain, show k37.sz = 3 from rfl]
  rw [e1, hc] at hc2
  simp only [Option.some.injEq] at hc2
  subst hc2
  obtain ⟨hm, hmc, hC⟩ := Kd.R_reads' hR
  have ho : (Value.slice (some ⟨g, 0, none⟩) m c).ownBlock = some g := by simp [Value.ownBlock]
  have hgg := (hoki g (hR.1 g ho)).2
  have hne : G ≠ g := fun e => hgg (by simp [Value.ownBlock, e])
  refine ⟨hm, hne, ?_, ?_, fun j hj => ?_, fun j x => ?_⟩
  · exact Kd.R_base hR g ho
  · exact Kd.R_typed hR g ho
  · have := Kd.R_celln (0 : Int) hR j (by omega) (by omega)
    simpa [rd, rdOf] using this
  · obtain ⟨h1, h2⟩ := Kd.R_putg hR j x
    have h3 := hB (w1 := W.setCell ⟨g, j, none⟩ (.int .u32 x)) (row := some g) (x' := { rd_T37 l k with f2 := (rd_T37 l k).f2.set j x }) (by simpa using h2) (fun k' hk' => by cases hk'; exact hR.1 _ ho) (k37_mkM _ _ _ { rd_T37 l k with f2 := (rd_T37 l k).f2.set j x } (by rw [Int.toNat_natCast] at h1; exact h1))
    rw [Int.toNat_natCast] at h3
    exact h3

theorem setP_len (l : List S37) (k j : Nat) (x : Int) : (setP l k j x).length = l.length := by simp [setP]
theorem setP_same {l : List S37} {k : Nat} (hk : k < l.length) (j : Nat) (x : Int) : rd_T37 (setP l k j x) k = { rd_T37 l k with f2 := (rd_T37 l k).f2.set j x } := by
  simp [setP, rd_T37, List.getD_eq_getElem?_getD, hk]
theorem setP_other {l : List S37} {k k' : Nat} (h : k ≠ k') (j : Nat) (x : Int) : rd_T37 (setP l k j x) k' = rd_T37 l k' := by
  simp [setP, rd_T37, List.getD_eq_getElem?_getD, List.getElem?_set_ne h]
/-- sample j of plane k -/
def smp (l : List S37) (k j : Nat) : Int := rd (rd_T37 l k).f2 j
theorem smp_set {l : List S37} {k : Nat} (hk : k < l.length) {j : Nat} (hj : j < (rd_T37 l k).f2.length) (x : Int) : smp (setP l k j x) k j = x := by
  unfold smp
  rw [setP_same hk]
  simp [rd, List.getD_eq_getElem?_getD, hj]
theorem smp_place {l : List S37} {k j j' : Nat} (hk : k < l.length) (h : j ≠ j') (x : Int) : smp (setP l k j x) k j' = smp l k j' := by
  unfold smp
  rw [setP_same hk]
  simp [rd, List.getD_eq_getElem?_getD, List.getElem?_set_ne h]
theorem smp_other {l : List S37} {k k' : Nat} (h : k ≠ k') (j j' : Nat) (x : Int) : smp (setP l k j x) k' j' = smp l k' j' := by
  unfold smp
  rw [setP_other h]
theorem len_set (l : List S37) (k j : Nat) (x : Int) (k' : Nat) : (rd_T37 (setP l k j x) k').f2.length = (rd_T37 l k').f2.length ∧ (rd_T37 (setP l k j x) k').f0 = (rd_T37 l k').f0 ∧ (rd_T37 (setP l k j x) k').f1 = (rd_T37 l k').f1 := by
  by_cases h : k = k'
  · subst h
    by_cases hk : k < l.length
    · rw [setP_same hk]; simp
    · have : setP l k j x = l := by unfold setP; rw [List.set_eq_of_length_le (by omega)]
      rw [this]; simp
  · rw [setP_other h]; simp

/-- the first i places are done -/
structure Stage (R : Nat → Int → Int → Int → Int → Int → Int → Prop) (l L : List S37) (i : Nat) : Prop where
  like : sides.Like l L
  rest : ∀ k : Nat, 3 ≤ k → rd_T37 L k = rd_T37 l k
  done : ∀ j : Nat, j < i → R j (smp l 0 j) (smp l 1 j) (smp l 2 j) (smp L 0 j) (smp L 1 j) (smp L 2 j)
  todo : ∀ k j : Nat, i ≤ j → smp L k j = smp l k j
theorem like_set (l : List S37) (k j : Nat) (x : Int) : sides.Like l (setP l k j x) where
  len := setP_len l k j x
  w := fun i => (len_set l k j x i.toNat).2.1
  h := fun i => (len_set l k j x i.toNat).2.2
  n := fun i => (len_set l k j x i.toNat).1
theorem like_trans {l m n : List S37} (h : sides.Like l m) (h' : sides.Like m n) : sides.Like l n where
  len := h'.len.trans h.len
  w := fun i => (h'.w i).trans (h.w i)
  h := fun i => (h'.h i).trans (h.h i)
  n := fun i => (h'.n i).trans (h.n i)
theorem like_refl (l : List S37) : sides.Like l l := ⟨rfl, fun _ => rfl, fun _ => rfl, fun _ => rfl⟩
theorem Stage.zero (R : Nat → Int → Int → Int → Int → Int → Int → Prop) (l : List S37) : Stage R l l 0 := ⟨like_refl l, fun _ _ => rfl, fun j h => by omega, fun _ _ _ => rfl⟩
theorem Stage.next {R : Nat → Int → Int → Int → Int → Int → Int → Prop} {l L : List S37} {i : Nat} (h : Stage R l L i) (h3 : 3 ≤ l.length) {n : Nat} (hn : ∀ k : Nat, k < 3 → (rd_T37 l k).f2.length = n) (hi : i < n) {x y z : Int} (hr : R i (smp l 0 i) (smp l 1 i) (smp l 2 i) x y z) : Stage R l (setP (setP (setP L 0 i x) 1 i y) 2 i z) (i + 1) where
  like := like_trans (like_trans (like_trans h.like (like_set _ _ _ _)) (like_set _ _ _ _)) (like_set _ _ _ _)
  rest := fun k hk => by rw [setP_other (by omega), setP_other (by omega), setP_other (by omega)]; exact h.rest k hk
  done := fun j hj => by
    have hl : L.length = l.length := h.like.len
    have e0 : (rd_T37 L (0 : Nat)).f2.length = n := (h.like.n _).trans (hn 0 (by omega))
    have e1 : (rd_T37 (setP L 0 i x) (1 : Nat)).f2.length = n := (len_set _ _ _ _ _).1.trans ((h.like.n _).trans (hn 1 (by omega)))
    have e2 : (rd_T37 (setP (setP L 0 i x) 1 i y) (2 : Nat)).f2.length = n := (len_set _ _ _ _ _).1.trans ((len_set _ _ _ _ _).1.trans ((h.like.n _).trans (hn 2 (by omega))))
    by_cases hji : j = i
    · subst hji
      rw [smp_other (k := 2) (k' := 0) (by omega), smp_other (k := 1) (k' := 0) (by omega), smp_set (by omega) (by omega), smp_other (k := 2) (k' := 1) (by omega), smp_set (by rw [setP_len]; omega) (by omega), smp_set (by rw [setP_len, setP_len]; omega) (by omega)]
      exact hr
    · have hij : i ≠ j := fun e => hji e.symm
      rw [smp_other (k := 2) (k' := 0) (by omega), smp_other (k := 1) (k' := 0) (by omega), smp_place (by omega) hij, smp_other (k := 2) (k' := 1) (by omega), smp_place (by rw [setP_len]; omega) hij, smp_other (k := 0) (k' := 1) (by omega), smp_place (by rw [setP_len, setP_len]; omega) hij, smp_other (k := 1) (k' := 2) (by omega), smp_other (k := 0) (k' := 2) (by omega)]
      exact h.done j (by omega)
  todo := fun k j hj => by
    have hl : L.length = l.length := h.like.len
    have hij : i ≠ j := by omega
    have key : ∀ (M : List S37) (q : Nat) (v : Int), q < M.length → smp (setP M q i v) k j = smp M k j := by
      intro M q v hq
      by_cases e : q = k
      · subst e; exact smp_place hq hij v
      · exact smp_other e _ _ _
    rw [key _ _ _ (by rw [setP_len, setP_len]; omega), key _ _ _ (by rw [setP_len]; omega), key _ _ _ (by omega)]
    exact h.todo k j (by omega)
end Go.Proofs.YtimghiiihjphiaaGreat.trips
