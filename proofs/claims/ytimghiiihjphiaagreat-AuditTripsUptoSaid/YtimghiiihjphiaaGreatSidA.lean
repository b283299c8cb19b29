/- A part of the proof: one sample's distance is put into the meter. Conditions: the meter lies in a block of its own. -/
import Derived.Test.YtimghiiihjphiaaGreatPTrix
import Derived.RegionTactic
import Derived.ChangeAlike
import Derived.BigRegion
namespace Go.Proofs.YtimghiiihjphiaaGreat.sides
open Go.RowKit Go.Proofs.YtimghiiihjphiaaGreatW.PrintWords Go.Proofs.YtimghiiihjphiaaGreat.PTri
set_option linter.unusedVariables false
set_option linter.unusedSimpArgs false

structure Mt where
  u : Int
  m : Int
  p : Int
  x : Int
  y : Int
  s : Int

def Mt.vals (t : Mt) : Array Value := #[.int .i64 t.u, .int .i64 t.m, .int .i64 t.p, .int .i64 t.x, .int .i64 t.y, .int .i64 t.s]
def Mt.agg (t : Mt) : Value := .agg t.vals

def stepM (wv pl i d : Int) (t : Mt) : Mt := ⟨t.u + (if 0 < d then 1 else 0), if t.m < d then d else t.m, if t.m < d then pl else t.p, if t.m < d then i % wv else t.x, if t.m < d then i / wv else t.y, t.s + d⟩

structure MAt (M V : Nat) (wv : Int) (t : Mt) (W : World) : Prop where
  m : W.heap[M]? = some (.cells t.vals 28 (0, 0))
  v : W.heap[V]? = some (.cells #[.int .i64 wv] 3 (0, 0))

theorem MAt.ne {M V : Nat} {wv : Int} {t : Mt} {W : World} (h : MAt M V wv t W) : M ≠ V := blk_ne h.m h.v (by decide)

theorem MAt.cells {M V : Nat} {wv u m p x y s : Int} {W : World} (h : MAt M V wv ⟨u, m, p, x, y, s⟩ W) :
    W.cell? ⟨M, 0, none⟩ = some (.int .i64 u) ∧ W.cell? ⟨M, 1, none⟩ = some (.int .i64 m) ∧ W.cell? ⟨M, 2, none⟩ = some (.int .i64 p) ∧ W.cell? ⟨M, 3, none⟩ = some (.int .i64 x) ∧ W.cell? ⟨M, 4, none⟩ = some (.int .i64 y) ∧ W.cell? ⟨M, 5, none⟩ = some (.int .i64 s) ∧ W.cell? ⟨V, 0, none⟩ = some (.int .i64 wv) :=
  ⟨blk_cell h.m 0, blk_cell h.m 1, blk_cell h.m 2, blk_cell h.m 3, blk_cell h.m 4, blk_cell h.m 5, blk_cell h.v 0⟩

theorem MAt.frz {M V : Nat} {wv : Int} {t : Mt} {W : World} (h : MAt M V wv t W) :
    W.frozen? ⟨M, 0, none⟩ = false ∧ W.frozen? ⟨M, 1, none⟩ = false ∧ W.frozen? ⟨M, 2, none⟩ = false ∧ W.frozen? ⟨M, 3, none⟩ = false ∧ W.frozen? ⟨M, 4, none⟩ = false ∧ W.frozen? ⟨M, 5, none⟩ = false :=
  ⟨blk_frozen h.m 0, blk_frozen h.m 1, blk_frozen h.m 2, blk_frozen h.m 3, blk_frozen h.m 4, blk_frozen h.m 5⟩

/-- all but one block is as it was -/
def ButM (M : Nat) (W W' : World) : Prop := W.grownBy W' (some M)
theorem ButM.refl (M : Nat) (W : World) : ButM M W W := ⟨rfl, rfl, rfl, Nat.le_refl _, fun _ _ _ => rfl⟩
theorem ButM.set {M : Nat} {W W' : World} (h : ButM M W W') (j : Nat) (u : Value) : ButM M W (W'.setCell ⟨M, j, none⟩ u) :=
  ⟨h.os, h.tape, h.output, by simpa [World.setCell] using h.size, fun i hi hne => (Below.heap_setCell W' ⟨M, j, none⟩ u i (fun e => hne (by rw [e]))).trans (h.block i hi hne)⟩
theorem ButM.drewN {M : Nat} {W W' : World} (h : ButM M W W') (n : Nat) : ButM M W (W'.drewN n) := ⟨h.os, h.tape, h.output, h.size, h.block⟩
theorem ButM.alloc {M : Nat} {W W' : World} (h : ButM M W W') (o : Obj) : ButM M W (W'.alloc o) := ⟨h.os, h.tape, h.output, Nat.le_trans h.size (by simp), fun i hi hne => (Below.heap_alloc W' o i (Nat.lt_of_lt_of_le hi h.size)).trans (h.block i hi hne)⟩
theorem ButM.drew {M : Nat} {W W' : World} (h : ButM M W W') : ButM M W W'.drew := ⟨h.os, h.tape, h.output, h.size, h.block⟩

theorem ButM.trans {M : Nat} {A B C : World} (h : ButM M A B) (k : ButM M B C) : ButM M A C :=
  ⟨k.os.trans h.os, k.tape.trans h.tape, k.output.trans h.output, Nat.le_trans h.size k.size, fun i hi hne => (k.block i (Nat.lt_of_lt_of_le hi h.size) hne).trans (h.block i hi hne)⟩
theorem ButM.of_below {M : Nat} {A B : World} (h : Below A.heap.size A B) : ButM M A B := ⟨h.os, h.tape, h.output, h.size, fun i hi _ => h.block i hi⟩
theorem below_but {w A B : World} {M : Nat} (h : Below w.heap.size w A) (k : ButM M A B) (hM : w.heap.size ≤ M) : Below w.heap.size w B :=
  ⟨k.os.trans h.os, k.tape.trans h.tape, k.output.trans h.output, Nat.le_trans h.size k.size, fun i hi => (k.block i (Nat.lt_of_lt_of_le hi h.size) (fun e => by injection e with e; omega)).trans (h.block i hi)⟩
theorem blk_but {A B : World} {M g : Nat} {o : Obj} (h : A.heap[g]? = some o) (k : ButM M A B) (hne : g ≠ M) : B.heap[g]? = some o := (k.block g (blk_lt h) (fun e => hne (by injection e))).trans h

theorem set_m {M i : Nat} {W : World} {cs cs' : Array Value} (h : W.heap[M]? = some (.cells cs 28 (0, 0))) (u : Value) (e : cs.setIfInBounds i u = cs') : (W.setCell ⟨M, i, none⟩ u).heap[M]? = some (.cells cs' 28 (0, 0)) := blk_put h i u e

set_option maxHeartbeats 400000 in
theorem f33_zero (pl i d : Int) (M V : Nat) (wv u m p x y s : Int) (W : World) (h : MAt M V wv ⟨u, m, p, x, y, s⟩ W) (hd : d ≤ 0) (hm : d ≤ m) (hs1 : -9223372036854775808 ≤ s + d) (hs2 : s + d ≤ 9223372036854775807) :
    Calls Tryz.prog 23 #[.int .i64 pl, .int .i64 i, .int .i64 d, .pointer (some ⟨M, 0, none⟩), .pointer (some ⟨V, 0, none⟩)] W fun e W' => e = .returned undef ∧ W' = W.setCell ⟨M, 5, none⟩ (.int .i64 (s + d)) := by
  obtain ⟨c0, c1, c2, c3, c4, c5, c6⟩ := h.cells
  obtain ⟨f0, f1, f2, f3, f4, f5⟩ := h.frz
  have hd' : decide (d > 0) = false := by simp; omega
  have hm' : decide (d > m) = false := by simp; omega
  clear h
  go_enter Tryz.func23, Tryz.ntmps23
  go_wp2
  go_end0
  exact ⟨rfl, rfl⟩

set_option maxHeartbeats 400000 in
theorem f33_low (pl i d : Int) (M V : Nat) (wv u m p x y s : Int) (W : World) (h : MAt M V wv ⟨u, m, p, x, y, s⟩ W) (hd : 0 < d) (hm : d ≤ m) (hs1 : -9223372036854775808 ≤ s + d) (hs2 : s + d ≤ 9223372036854775807) (hu1 : -9223372036854775808 ≤ u + 1) (hu2 : u + 1 ≤ 9223372036854775807) :
    Calls Tryz.prog 23 #[.int .i64 pl, .int .i64 i, .int .i64 d, .pointer (some ⟨M, 0, none⟩), .pointer (some ⟨V, 0, none⟩)] W fun e W' => e = .returned undef ∧ W' = (W.setCell ⟨M, 0, none⟩ (.int .i64 (u + 1))).setCell ⟨M, 5, none⟩ (.int .i64 (s + d)) := by
  obtain ⟨c0, c1, c2, c3, c4, c5, c6⟩ := h.cells
  obtain ⟨f0, f1, f2, f3, f4, f5⟩ := h.frz
  have hd' : decide (d > 0) = true := by simp; omega
  have hm' : decide (d > m) = false := by simp; omega
  clear h
  go_enter Tryz.func23, Tryz.ntmps23
  go_wp2
  go_end0
  exact ⟨rfl, rfl⟩

set_option maxHeartbeats 800000 in
theorem f33_high (pl i d : Int) (M V : Nat) (wv u m p x y s : Int) (W : World) (h : MAt M V wv ⟨u, m, p, x, y, s⟩ W) (hd : 0 < d) (hm : m < d) (hs1 : -9223372036854775808 ≤ s + d) (hs2 : s + d ≤ 9223372036854775807) (hu1 : -9223372036854775808 ≤ u + 1) (hu2 : u + 1 ≤ 9223372036854775807)
    (hi : 0 ≤ i) (hi2 : i ≤ 9223372036854775807) (hw : 0 < wv) :
    Calls Tryz.prog 23 #[.int .i64 pl, .int .i64 i, .int .i64 d, .pointer (some ⟨M, 0, none⟩), .pointer (some ⟨V, 0, none⟩)] W fun e W' => e = .returned undef ∧ MAt M V wv ⟨u + 1, d, pl, i % wv, i / wv, s + d⟩ W' ∧ ButM M W W' := by
  obtain ⟨c0, c1, c2, c3, c4, c5, c6⟩ := h.cells
  obtain ⟨f0, f1, f2, f3, f4, f5⟩ := h.frz
  have hne := h.ne
  have hd' : decide (d > 0) = true := by simp; omega
  have hm' : decide (d > m) = true := by simp; omega
  have H := Aside0.mk h
  clear h
  go_enter Tryz.func23, Tryz.ntmps23
  go_wp2
  go_region
  go_wp2
  go_end0
  refine ⟨rfl, ⟨?_, ?_⟩, ?_⟩
  · refine blk_drew ?_
    exact blk_put (blk_put (blk_put (blk_put (blk_put (blk_put H.out.m 0 _ rfl) 1 _ rfl) 2 _ rfl) 3 _ rfl) 4 _ rfl) 5 _ rfl
  · refine blk_drew ?_
    have h' : ∀ {w : World}, w.heap[V]? = some (.cells #[.int .i64 wv] 3 (0, 0)) → ∀ (j : Nat) (q : Value), (w.setCell ⟨M, j, none⟩ q).heap[V]? = some (.cells #[.int .i64 wv] 3 (0, 0)) := fun hw j q => blk_far hw (fun e => hne e.symm) q
    exact h' (h' (h' (h' (h' (h' H.out.v 0 _) 1 _) 2 _) 3 _) 4 _) 5 _
  · exact ((((((((ButM.refl M W).set 0 _).set 1 _).set 2 _).set 3 _).set 4 _).set 5 _).drew)

theorem f33_any (pl i d : Int) (M V : Nat) (wv : Int) (t : Mt) (W : World) (h : MAt M V wv t W) (hd : 0 ≤ d) (hm : 0 ≤ t.m) (hs0 : 0 ≤ t.s) (hs : t.s + d ≤ 9223372036854775807) (hu0 : 0 ≤ t.u) (hu : t.u + 1 ≤ 9223372036854775807)
    (hi : 0 ≤ i) (hi2 : i ≤ 9223372036854775807) (hw : 0 < wv) :
    Calls Tryz.prog 23 #[.int .i64 pl, .int .i64 i, .int .i64 d, .pointer (some ⟨M, 0, none⟩), .pointer (some ⟨V, 0, none⟩)] W fun e W' => e = .returned undef ∧ MAt M V wv (stepM wv pl i d t) W' ∧ ButM M W W' := by
  obtain ⟨u, m, p, x, y, s⟩ := t
  simp only at hm hs0 hs hu0 hu
  have far : ∀ {w : World}, w.heap[V]? = some (.cells #[.int .i64 wv] 3 (0, 0)) → ∀ (j : Nat) (q : Value), (w.setCell ⟨M, j, none⟩ q).heap[V]? = some (.cells #[.int .i64 wv] 3 (0, 0)) := fun hw j q => blk_far hw (fun e => h.ne e.symm) q
  by_cases h1 : 0 < d
  · by_cases h2 : m < d
    · refine (f33_high pl i d M V wv u m p x y s W h h1 h2 (by omega) hs (by omega) hu hi hi2 hw).mono ?_
      rintro e W' ⟨he, hM, hB⟩
      refine ⟨he, ?_, hB⟩
      simp only [stepM, if_pos h1, if_pos h2]
      exact hM
    · refine (f33_low pl i d M V wv u m p x y s W h h1 (by omega) (by omega) hs (by omega) hu).mono ?_
      rintro e W' ⟨he, rfl⟩
      refine ⟨he, ⟨?_, far (far h.v 0 _) 5 _⟩, ((ButM.refl M W).set 0 _).set 5 _⟩
      simp only [stepM, if_pos h1, if_neg h2]
      exact blk_put (blk_put h.m 0 _ rfl) 5 _ rfl
  · refine (f33_zero pl i d M V wv u m p x y s W h (by omega) (by omega) (by omega) hs).mono ?_
    rintro e W' ⟨he, rfl⟩
    refine ⟨he, ⟨?_, far h.v 5 _⟩, (ButM.refl M W).set 5 _⟩
    have h2 : ¬ m < d := by omega
    simp only [stepM, if_neg h1, if_neg h2, Int.add_zero]
    exact blk_put h.m 5 _ rfl
end Go.Proofs.YtimghiiihjphiaaGreat.sides
