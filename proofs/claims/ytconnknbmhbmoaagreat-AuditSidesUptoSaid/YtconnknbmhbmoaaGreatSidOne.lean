/- Parts of the proof, one behind the other. A part of the proof: one sample's distance is put into the meter. Conditions: the meter lies in a block of its own. A part of the proof: all samples of two pictures are measured. Conditions: the pictures are of one form; the meter lies in a block of its own. A part of the proof: the walk over all samples of two pictures. Conditions: the pictures are of one form; the meter lies in a block of its own. A part of the proof: how far two pictures are apart: the walk. Conditions: what the checks answer. A part of the proof: how far two pictures are apart: the walk, where the first one is right. Conditions: what the checks answer. A part of the proof: how far two pictures are apart: the walk, where both are right and of one form. Conditions: what the checks answer. A part of the proof: what the checks of a picture answer, in plain numbers. No condition. A part of the proof: the meter of two pictures, in plain numbers: both ways alike, nothing just of the same, three of them. No condition. A part of the proof: what Apart answers, for every two pictures of samples; and what holds of its answers. Condition: the samples are of 32 bits. -/
import Derived.Test.YtconnknbmhbmoaaGreatPSidx
import Derived.RegionTactic
import Derived.ChangeAlike
import Derived.BigRegion
import Derived.LoopTactic
namespace Go.Proofs.YtconnknbmhbmoaaGreat.sides
open Go.RowKit Go.Proofs.YtconnknbmhbmoaaGreatW.PrintWords Go.Proofs.YtconnknbmhbmoaaGreat.PSid
set_option linter.unusedVariables false
set_option linter.unusedSimpArgs false

structure Mt where
  u : Int
  m : Int
  p : Int
  x : Int
  y : Int
  s : Int

def Mt.vals (t : Mt) : Array Value := #[.int .i64 t.u, .int .i64 t.m, .int .i64 t.p, .int .i64 t.x, .int .i64 t.y, .int .i64 t.s]
def Mt.agg (t : Mt) : Value := .agg t.vals

def stepM (wv pl i d : Int) (t : Mt) : Mt := ⟨t.u + (if 0 < d then 1 else 0), if t.m < d then d else t.m, if t.m < d then pl else t.p, if t.m < d then i % wv else t.x, if t.m < d then i / wv else t.y, t.s + d⟩

structure MAt (M V : Nat) (wv : Int) (t : Mt) (W : World) : Prop where
  m : W.heap[M]? = some (.cells t.vals 37 (0, 0))
  v : W.heap[V]? = some (.cells #[.int .i64 wv] 3 (0, 0))

theorem MAt.ne {M V : Nat} {wv : Int} {t : Mt} {W : World} (h : MAt M V wv t W) : M ≠ V := blk_ne h.m h.v (by decide)

theorem MAt.cells {M V : Nat} {wv u m p x y s : Int} {W : World} (h : MAt M V wv ⟨u, m, p, x, y, s⟩ W) :
    W.cell? ⟨M, 0, none⟩ = some (.int .i64 u) ∧ W.cell? ⟨M, 1, none⟩ = some (.int .i64 m) ∧ W.cell? ⟨M, 2, none⟩ = some (.int .i64 p) ∧ W.cell? ⟨M, 3, none⟩ = some (.int .i64 x) ∧ W.cell? ⟨M, 4, none⟩ = some (.int .i64 y) ∧ W.cell? ⟨M, 5, none⟩ = some (.int .i64 s) ∧ W.cell? ⟨V, 0, none⟩ = some (.int .i64 wv) :=
  ⟨blk_cell h.m 0, blk_cell h.m 1, blk_cell h.m 2, blk_cell h.m 3, blk_cell h.m 4, blk_cell h.m 5, blk_cell h.v 0⟩

theorem MAt.frz {M V : Nat} {wv : Int} {t : Mt} {W : World} (h : MAt M V wv t W) :
    W.frozen? ⟨M, 0, none⟩ = false ∧ W.frozen? ⟨M, 1, none⟩ = false ∧ W.frozen? ⟨M, 2, none⟩ = false ∧ W.frozen? ⟨M, 3, none⟩ = false ∧ W.frozen? ⟨M, 4, none⟩ = false ∧ W.frozen? ⟨M, 5, none⟩ = false :=
  ⟨blk_frozen h.m 0, blk_frozen h.m 1, blk_frozen h.m 2, blk_frozen h.m 3, blk_frozen h.m 4, blk_frozen h.m 5⟩

/-- all but one block is as it was -/
def ButM (M : Nat) (W W' : World) : Prop := W.grownBy W' (some M)
theorem ButM.refl (M : Nat) (W : World) : ButM M W W := ⟨rfl, rfl, rfl, Nat.le_refl _, fun _ _ _ => rfl⟩
theorem ButM.set {M : Nat} {W W' : World} (h : ButM M W W') (j : Nat) (u : Value) : ButM M W (W'.setCell ⟨M, j, none⟩ u) :=
  ⟨h.os, h.tape, h.output, by simpa [World.setCell] using h.size, fun i hi hne => (Below.heap_setCell W' ⟨M, j, none⟩ u i (fun e => hne (by rw [e]))).trans (h.block i hi hne)⟩
theorem ButM.drewN {M : Nat} {W W' : World} (h : ButM M W W') (n : Nat) : ButM M W (W'.drewN n) := ⟨h.os, h.tape, h.output, h.size, h.block⟩
theorem ButM.alloc {M : Nat} {W W' : World} (h : ButM M W W') (o : Obj) : ButM M W (W'.alloc o) := ⟨h.os, h.tape, h.output, Nat.le_trans h.size (by simp), fun i hi hne => (Below.heap_alloc W' o i (Nat.lt_of_lt_of_le hi h.size)).trans (h.block i hi hne)⟩
theorem ButM.drew {M : Nat} {W W' : World} (h : ButM M W W') : ButM M W W'.drew := ⟨h.os, h.tape, h.output, h.size, h.block⟩

theorem ButM.trans {M : Nat} {A B C : World} (h : ButM M A B) (k : ButM M B C) : ButM M A C :=
  ⟨k.os.trans h.os, k.tape.trans h.tape, k.output.trans h.output, Nat.le_trans h.size k.size, fun i hi hne => (k.block i (Nat.lt_of_lt_of_le hi h.size) hne).trans (h.block i hi hne)⟩
theorem ButM.of_below {M : Nat} {A B : World} (h : Below A.heap.size A B) : ButM M A B := ⟨h.os, h.tape, h.output, h.size, fun i hi _ => h.block i hi⟩
theorem below_but {w A B : World} {M : Nat} (h : Below w.heap.size w A) (k : ButM M A B) (hM : w.heap.size ≤ M) : Below w.heap.size w B :=
  ⟨k.os.trans h.os, k.tape.trans h.tape, k.output.trans h.output, Nat.le_trans h.size k.size, fun i hi => (k.block i (Nat.lt_of_lt_of_le hi h.size) (fun e => by injection e with e; omega)).trans (h.block i hi)⟩
theorem blk_but {A B : World} {M g : Nat} {o : Obj} (h : A.heap[g]? = some o) (k : ButM M A B) (hne : g ≠ M) : B.heap[g]? = some o := (k.block g (blk_lt h) (fun e => hne (by injection e))).trans h

theorem set_m {M i : Nat} {W : World} {cs cs' : Array Value} (h : W.heap[M]? = some (.cells cs 37 (0, 0))) (u : Value) (e : cs.setIfInBounds i u = cs') : (W.setCell ⟨M, i, none⟩ u).heap[M]? = some (.cells cs' 37 (0, 0)) := blk_put h i u e

set_option maxHeartbeats 400000 in
theorem f33_zero (pl i d : Int) (M V : Nat) (wv u m p x y s : Int) (W : World) (h : MAt M V wv ⟨u, m, p, x, y, s⟩ W) (hd : d ≤ 0) (hm : d ≤ m) (hs1 : -9223372036854775808 ≤ s + d) (hs2 : s + d ≤ 9223372036854775807) :
    Calls Tryz.prog 33 #[.int .i64 pl, .int .i64 i, .int .i64 d, .pointer (some ⟨M, 0, none⟩), .pointer (some ⟨V, 0, none⟩)] W fun e W' => e = .returned undef ∧ W' = W.setCell ⟨M, 5, none⟩ (.int .i64 (s + d)) := by
  obtain ⟨c0, c1, c2, c3, c4, c5, c6⟩ := h.cells
  obtain ⟨f0, f1, f2, f3, f4, f5⟩ := h.frz
  have hd' : decide (d > 0) = false := by simp; omega
  have hm' : decide (d > m) = false := by simp; omega
  clear h
  go_enter Tryz.func33, Tryz.ntmps33
  go_wp2
  go_end0
  exact ⟨rfl, rfl⟩

set_option maxHeartbeats 400000 in
theorem f33_low (pl i d : Int) (M V : Nat) (wv u m p x y s : Int) (W : World) (h : MAt M V wv ⟨u, m, p, x, y, s⟩ W) (hd : 0 < d) (hm : d ≤ m) (hs1 : -9223372036854775808 ≤ s + d) (hs2 : s + d ≤ 9223372036854775807) (hu1 : -9223372036854775808 ≤ u + 1) (hu2 : u + 1 ≤ 9223372036854775807) :
    Calls Tryz.prog 33 #[.int .i64 pl, .int .i64 i, .int .i64 d, .pointer (some ⟨M, 0, none⟩), .pointer (some ⟨V, 0, none⟩)] W fun e W' => e = .returned undef ∧ W' = (W.setCell ⟨M, 0, none⟩ (.int .i64 (u + 1))).setCell ⟨M, 5, none⟩ (.int .i64 (s + d)) := by
  obtain ⟨c0, c1, c2, c3, c4, c5, c6⟩ := h.cells
  obtain ⟨f0, f1, f2, f3, f4, f5⟩ := h.frz
  have hd' : decide (d > 0) = true := by simp; omega
  have hm' : decide (d > m) = false := by simp; omega
  clear h
  go_enter Tryz.func33, Tryz.ntmps33
  go_wp2
  go_end0
  exact ⟨rfl, rfl⟩

set_option maxHeartbeats 800000 in
theorem f33_high (pl i d : Int) (M V : Nat) (wv u m p x y s : Int) (W : World) (h : MAt M V wv ⟨u, m, p, x, y, s⟩ W) (hd : 0 < d) (hm : m < d) (hs1 : -9223372036854775808 ≤ s + d) (hs2 : s + d ≤ 9223372036854775807) (hu1 : -9223372036854775808 ≤ u + 1) (hu2 : u + 1 ≤ 9223372036854775807)
    (hi : 0 ≤ i) (hi2 : i ≤ 9223372036854775807) (hw : 0 < wv) :
    Calls Tryz.prog 33 #[.int .i64 pl, .int .i64 i, .int .i64 d, .pointer (some ⟨M, 0, none⟩), .pointer (some ⟨V, 0, none⟩)] W fun e W' => e = .returned undef ∧ MAt M V wv ⟨u + 1, d, pl, i % wv, i / wv, s + d⟩ W' ∧ ButM M W W' := by
  obtain ⟨c0, c1, c2, c3, c4, c5, c6⟩ := h.cells
  obtain ⟨f0, f1, f2, f3, f4, f5⟩ := h.frz
  have hne := h.ne
  have hd' : decide (d > 0) = true := by simp; omega
  have hm' : decide (d > m) = true := by simp; omega
  have H := Aside0.mk h
  clear h
  go_enter Tryz.func33, Tryz.ntmps33
  go_wp2
  go_region
  go_wp2
  go_end0
  refine ⟨rfl, ⟨?_, ?_⟩, ?_⟩
  · refine blk_drew ?_
    exact blk_put (blk_put (blk_put (blk_put (blk_put (blk_put H.out.m 0 _ rfl) 1 _ rfl) 2 _ rfl) 3 _ rfl) 4 _ rfl) 5 _ rfl
  · refine blk_drew ?_
    have h' : ∀ {w : World}, w.heap[V]? = some (.cells #[.int .i64 wv] 3 (0, 0)) → ∀ (j : Nat) (q : Value), (w.setCell ⟨M, j, none⟩ q).heap[V]? = some (.cells #[.int .i64 wv] 3 (0, 0)) := fun hw j q => blk_far hw (fun e => hne e.symm) q
    exact h' (h' (h' (h' (h' (h' H.out.v 0 _) 1 _) 2 _) 3 _) 4 _) 5 _
  · exact ((((((((ButM.refl M W).set 0 _).set 1 _).set 2 _).set 3 _).set 4 _).set 5 _).drew)

theorem f33_any (pl i d : Int) (M V : Nat) (wv : Int) (t : Mt) (W : World) (h : MAt M V wv t W) (hd : 0 ≤ d) (hm : 0 ≤ t.m) (hs0 : 0 ≤ t.s) (hs : t.s + d ≤ 9223372036854775807) (hu0 : 0 ≤ t.u) (hu : t.u + 1 ≤ 9223372036854775807)
    (hi : 0 ≤ i) (hi2 : i ≤ 9223372036854775807) (hw : 0 < wv) :
    Calls Tryz.prog 33 #[.int .i64 pl, .int .i64 i, .int .i64 d, .pointer (some ⟨M, 0, none⟩), .pointer (some ⟨V, 0, none⟩)] W fun e W' => e = .returned undef ∧ MAt M V wv (stepM wv pl i d t) W' ∧ ButM M W W' := by
  obtain ⟨u, m, p, x, y, s⟩ := t
  simp only at hm hs0 hs hu0 hu
  have far : ∀ {w : World}, w.heap[V]? = some (.cells #[.int .i64 wv] 3 (0, 0)) → ∀ (j : Nat) (q : Value), (w.setCell ⟨M, j, none⟩ q).heap[V]? = some (.cells #[.int .i64 wv] 3 (0, 0)) := fun hw j q => blk_far hw (fun e => h.ne e.symm) q
  by_cases h1 : 0 < d
  · by_cases h2 : m < d
    · refine (f33_high pl i d M V wv u m p x y s W h h1 h2 (by omega) hs (by omega) hu hi hi2 hw).mono ?_
      rintro e W' ⟨he, hM, hB⟩
      refine ⟨he, ?_, hB⟩
      simp only [stepM, if_pos h1, if_pos h2]
      exact hM
    · refine (f33_low pl i d M V wv u m p x y s W h h1 (by omega) (by omega) hs (by omega) hu).mono ?_
      rintro e W' ⟨he, rfl⟩
      refine ⟨he, ⟨?_, far (far h.v 0 _) 5 _⟩, ((ButM.refl M W).set 0 _).set 5 _⟩
      simp only [stepM, if_pos h1, if_neg h2]
      exact blk_put (blk_put h.m 0 _ rfl) 5 _ rfl
  · refine (f33_zero pl i d M V wv u m p x y s W h (by omega) (by omega) (by omega) hs).mono ?_
    rintro e W' ⟨he, rfl⟩
    refine ⟨he, ⟨?_, far h.v 5 _⟩, (ButM.refl M W).set 5 _⟩
    have h2 : ¬ m < d := by omega
    simp only [stepM, if_neg h1, if_neg h2, Int.add_zero]
    exact blk_put h.m 5 _ rfl
end Go.Proofs.YtconnknbmhbmoaaGreat.sides
namespace Go.Proofs.YtconnknbmhbmoaaGreat.sides
open Go.RowKit Go.Proofs.YtconnknbmhbmoaaGreatW.PrintWords Go.Proofs.YtconnknbmhbmoaaGreat.PSid
set_option linter.unusedVariables false
set_option linter.unusedSimpArgs false

def key (s : Int) : Int := if s < 2147483648 then s + 2147483648 else 4294967295 - s
def dist (a b : Int) : Int := if key b - key a < key a - key b then key a - key b else key b - key a

def U32 (x : Int) : Prop := 0 ≤ x ∧ x ≤ 4294967295

theorem key_u {x : Int} (h : U32 x) : 0 ≤ key x ∧ key x ≤ 4294967295 := by obtain ⟨h1, h2⟩ := h; unfold key; split <;> omega
theorem key_f {x : Int} (h : U32 x) : bits_Key.f x = some (key x) := by
  obtain ⟨h1, h2⟩ := h
  unfold bits_Key.f key
  split
  · rw [Int.emod_eq_of_lt (by omega) (by omega)]
  · rw [Int.emod_eq_of_lt (by omega) (by omega)]
theorem wrap_id {x : Int} (h1 : -9223372036854775808 ≤ x) (h2 : x ≤ 9223372036854775807) : wrap64 x = x := by unfold wrap64; omega
theorem apart_f {a b : Int} (ha : U32 a) (hb : U32 b) : bits_Apart.f a b = some (key b - key a) := by
  unfold bits_Apart.f
  rw [key_f hb, key_f ha]
  simp only [Option.bind_some]
  have := key_u ha; have := key_u hb
  rw [wrap_id (x := key b) (by omega) (by omega), wrap_id (x := key a) (by omega) (by omega), wrap_id (by omega) (by omega)]
theorem dist_f {a b : Int} (ha : U32 a) (hb : U32 b) : audit_distance.f a b = some (dist a b) := by
  unfold audit_distance.f
  rw [apart_f ha hb, apart_f hb ha]
  rfl
theorem dist_nonneg (a b : Int) : 0 ≤ dist a b := by unfold dist; split <;> omega
theorem dist_le {a b : Int} (ha : U32 a) (hb : U32 b) : dist a b ≤ 4294967295 := by
  have := key_u ha; have := key_u hb
  unfold dist; split <;> omega

def inner (wv k : Int) (P Q : List Int) (t : Mt) : Nat → Mt
  | 0 => t
  | n + 1 => stepM wv k n (dist (rd P n) (rd Q n)) (inner wv k P Q t n)

def outer (wv : Int) (lp lq : List S58) (t : Mt) : Nat → Mt
  | 0 => t
  | n + 1 => inner wv n (rd_T58 lp n).f2 (rd_T58 lq n).f2 (outer wv lp lq t n) (rd_T58 lp n).f2.length

/-- a meter of so many samples at most -/
structure Up (N : Int) (t : Mt) : Prop where
  m : 0 ≤ t.m
  u0 : 0 ≤ t.u
  u : t.u ≤ N
  s0 : 0 ≤ t.s
  s : t.s ≤ N * 4294967295
  mm : t.m ≤ 4294967295

theorem Up.step {N : Int} {t : Mt} (h : Up N t) (wv pl i : Int) {d : Int} (h0 : 0 ≤ d) (h1 : d ≤ 4294967295) : Up (N + 1) (stepM wv pl i d t) := by
  obtain ⟨a, b, c, e, f, g⟩ := h
  refine ⟨?_, ?_, ?_, ?_, ?_, ?_⟩ <;> simp only [stepM]
  · split <;> omega
  · split <;> omega
  · split <;> omega
  · omega
  · omega
  · split <;> omega

def AllU (l : List Int) : Prop := ∀ x ∈ l, U32 x
theorem AllU.at_ {l : List Int} (h : AllU l) {i : Nat} (hi : i < l.length) : U32 (rd l i) := by
  unfold rd
  rw [Int.toNat_natCast, List.getD_eq_getElem?_getD, List.getElem?_eq_getElem hi]
  exact h _ (List.getElem_mem hi)

theorem Up.inner {N : Int} {t : Mt} (h : Up N t) (wv k : Int) {P Q : List Int} (hP : AllU P) (hQ : AllU Q) : ∀ n : Nat, n ≤ P.length → n ≤ Q.length → Up (N + n) (inner wv k P Q t n)
  | 0, _, _ => by simpa [sides.inner] using h
  | n + 1, h1, h2 => by
    have := (Up.inner h wv k hP hQ n (by omega) (by omega)).step wv k n (dist_nonneg (rd P n) (rd Q n)) (dist_le (hP.at_ (by omega)) (hQ.at_ (by omega)))
    rw [show N + ((n + 1 : Nat) : Int) = N + n + 1 by push_cast; omega]
    exact this

theorem Up.le {N N' : Int} {t : Mt} (h : Up N t) (hN : N ≤ N') : Up N' t := ⟨h.m, h.u0, by have := h.u; omega, h.s0, by have := h.s; omega, h.mm⟩

/-- two lists of planes of one form, not many samples -/
structure Fit (lp lq : List S58) : Prop where
  few : lp.length ≤ 4
  len : lq.length = lp.length
  small : ∀ k : Nat, k < lp.length → (rd_T58 lp k).f2.length ≤ 65536
  same : ∀ k : Nat, k < lp.length → (rd_T58 lq k).f2.length = (rd_T58 lp k).f2.length
  up : ∀ k : Nat, k < lp.length → AllU (rd_T58 lp k).f2
  uq : ∀ k : Nat, k < lp.length → AllU (rd_T58 lq k).f2

theorem Up.outer {lp lq : List S58} (hf : Fit lp lq) {t : Mt} (h : Up 0 t) (wv : Int) : ∀ n : Nat, n ≤ lp.length → Up (n * 65536) (outer wv lp lq t n)
  | 0, _ => by simpa [sides.outer] using h
  | n + 1, h1 => by
    have ih := Up.outer hf h wv n (by omega)
    have h2 := hf.small n (by omega)
    have h3 := hf.same n (by omega)
    have := ih.inner wv n (hf.up n (by omega)) (hf.uq n (by omega)) (rd_T58 lp n).f2.length (Nat.le_refl _) (by omega)
    refine this.le ?_
    push_cast; omega

end Go.Proofs.YtconnknbmhbmoaaGreat.sides
namespace Go.Proofs.YtconnknbmhbmoaaGreat.sides
open Go.RowKit Go.Proofs.YtconnknbmhbmoaaGreatW.PrintWords Go.Proofs.YtconnknbmhbmoaaGreat.PSid
set_option linter.unusedVariables false
set_option linter.unusedSimpArgs false

set_option maxHeartbeats 1600000 in
set_option maxRecDepth 100000 in
theorem measured_any (sp sq : Int) (Ap Aq : Option Addr) (cp cq : Nat) (lp lq : List S58) (w W : World) (M V : Nat) (wv : Int) (t : Mt)
    (hp : Kd.C k58 w Ap lp.length lp) (hq : Kd.C k58 w Aq lq.length lq) (hf : Fit lp lq) (hB : Below w.heap.size w W) (hM : w.heap.size ≤ M) (hV : w.heap.size ≤ V) (hA : MAt M V wv t W) (hU : Up 0 t) (hw : 0 < wv) :
    Calls Tryz.prog 32 #[.agg #[.int .i64 sp, .slice Ap lp.length cp], .agg #[.int .i64 sq, .slice Aq lq.length cq], .func (.func 33) #[] #[.pointer (some ⟨M, 0, none⟩), .pointer (some ⟨V, 0, none⟩)]] W
      fun e W' => e = .returned undef ∧ MAt M V wv (outer wv lp lq t lp.length) W' ∧ ButM M W W' := by
  have HP := Aside0.mk hp
  have HQ := Aside0.mk hq
  have HF := Aside0.mk hf
  have HB := Aside0.mk hB
  have HA := Aside0.mk hA
  have HU := Aside0.mk hU
  have HM := Aside0.mk hM
  have HV := Aside0.mk hV
  have HW := Aside0.mk hw
  have b1 : M < W.heap.size := blk_lt hA.m
  clear hp hq hf hB hA hU hM hV hw
  go_enter Tryz.func32, Tryz.ntmps32
  go_wp2
  have HG := Aside0.mk (rfl : W.heap.size + 1 = W.heap.size + 1)
  go_loopw [13] (fun v13 wr => ∃ k : Nat, k ≤ lp.length ∧ v13 = .int .i64 k ∧ Aside0 (MAt M V wv (outer wv lp lq t k) wr) ∧ Aside0 (Below w.heap.size w wr) ∧ Aside0 (wr.heap[W.heap.size + 1]? = some (.cells #[.int .i64 sq, .slice Aq lq.length cq] 24 (0, 0))) ∧ Aside0 (ButM M W wr))
    (fun v13 _ => lp.length - (intOf v13).toNat)
  case atStart => exact ⟨0, Nat.zero_le _, rfl, ⟨⟨blk_alloc (blk_alloc HA.out.m _) _, blk_alloc (blk_alloc HA.out.v _) _⟩⟩, ⟨below_alloc (below_alloc HB.out _) _⟩, ⟨by simpa using blk_new (W.alloc (.cells #[.int .i64 sp, .slice Ap lp.length cp] 24)) (.cells #[.int .i64 sq, .slice Aq lq.length cq] 24)⟩, ⟨((ButM.refl M W).alloc _).alloc _⟩⟩
  case round =>
    obtain ⟨k, hk, rfl, RA, RB, RQ, RW⟩ := hrel
    clear HA HB
    have hcz0 : wr.cell? ⟨W.heap.size + 1, 0, none⟩ = some (.int .i64 sq) := (blk_cell RQ.out 0).trans rfl
    have hcz1 : wr.cell? ⟨W.heap.size + 1, 1, none⟩ = some (.slice Aq lq.length cq) := (blk_cell RQ.out 1).trans rfl
    by_cases hlt : k < lp.length
    · obtain ⟨ad, A2, c2, e2, hx0, hx1, hx2, hl2, hi2⟩ := at_T58 HP.out k (by omega) (by omega)
      cases e2
      replace hx0 := (RB.out.cell (World.block_lt_of_cell? w _ hx0)).trans hx0
      replace hx1 := (RB.out.cell (World.block_lt_of_cell? w _ hx1)).trans hx1
      replace hx2 := (RB.out.cell (World.block_lt_of_cell? w _ hx2)).trans hx2
      have HI := Aside0.mk hi2
      have HL := Aside0.mk hl2
      clear hi2 hl2
      simp only [Int.toNat_natCast] at hx0 hx1 hx2
      go_wp2
      have hqk : k < lq.length := by rw [HF.out.len]; exact hlt
      obtain ⟨aq, Aq2, cq2, eq2, hq0, hq1, hq2, hql2, hqi2⟩ := at_T58 HQ.out k (by omega) (by omega)
      cases eq2
      simp only [Int.toNat_natCast] at hq0 hq1 hq2
      have HQI := Aside0.mk hqi2
      have HQL := Aside0.mk hql2
      have HQ2 := Aside0.mk hq2
      have HSM := Aside0.mk (HF.out.same k hlt)
      have HUP := Aside0.mk (HF.out.up k hlt)
      have HUQ := Aside0.mk (HF.out.uq k hlt)
      have HUO := Aside0.mk (HU.out.outer HF.out wv k (by omega))
      have HFW := Aside0.mk HF.out.few
      have HSS := Aside0.mk (HF.out.small k hlt)
      clear hqi2 hql2 hq0 hq1 hq2
      have hk4 : k < 4 := Nat.lt_of_lt_of_le hlt HFW.out
      go_loopw [21] (fun v21 wi => ∃ i : Nat, i ≤ (rd_T58 lp k).f2.length ∧ v21 = .int .i64 i ∧ Aside0 (MAt M V wv (inner wv k (rd_T58 lp k).f2 (rd_T58 lq k).f2 (outer wv lp lq t k) i) wi) ∧ Aside0 (Below w.heap.size w wi) ∧ Aside0 (wi.heap[W.heap.size + 1]? = some (.cells #[.int .i64 sq, .slice (some aq) lq.length cq] 24 (0, 0))) ∧ Aside0 (ButM M W wi))
        (fun v21 _ => (rd_T58 lp k).f2.length - (intOf v21).toNat)
      case atStart => exact ⟨0, Nat.zero_le _, rfl, ⟨⟨blk_alloc RA.out.m _, blk_alloc RA.out.v _⟩⟩, ⟨below_alloc RB.out _⟩, ⟨blk_alloc RQ.out _⟩, ⟨RW.out.alloc _⟩⟩
      case round =>
        obtain ⟨i, hi, rfl, SA, SB, SQ, SW⟩ := hrel
        clear RA RB RQ RW hx0 hx1 hx2 hcz0 hcz1
        have hcz0 : wr.cell? ⟨W.heap.size + 1, 0, none⟩ = some (.int .i64 sq) := (blk_cell SQ.out 0).trans rfl
        have hcz1 : wr.cell? ⟨W.heap.size + 1, 1, none⟩ = some (.slice (some aq) lq.length cq) := (blk_cell SQ.out 1).trans rfl
        have hi6 : i ≤ 65536 := Nat.le_trans hi HSS.out
        by_cases hil : i < (rd_T58 lp k).f2.length
        · have hql : i < (rd_T58 lq k).f2.length := by rw [HSM.out]; exact hil
          obtain ⟨ad3, e3, hx3⟩ := Kd.at_int HI.out i (by omega) (by omega)
          cases e3
          obtain ⟨ad4, e4, hx4⟩ := Kd.at_int HQI.out i (by omega) (by omega)
          cases e4
          simp only [Int.toNat_natCast] at hx3 hx4
          replace hx3 := (SB.out.cell (World.block_lt_of_cell? w _ hx3)).trans hx3
          replace hx4 := (SB.out.cell (World.block_lt_of_cell? w _ hx4)).trans hx4
          have hx5 := (SB.out.cell (World.block_lt_of_cell? w _ HQ2.out)).trans HQ2.out
          have HD := Aside0.mk (dist_f (HUP.out.at_ hil) (HUQ.out.at_ hql))
          have HI1 := Aside0.mk (HUO.out.inner wv k HUP.out HUQ.out i (by omega) (by omega))
          have HD0 := Aside0.mk (dist_nonneg (rd (rd_T58 lp k).f2 i) (rd (rd_T58 lq k).f2 i))
          have HD1 := Aside0.mk (dist_le (HUP.out.at_ hil) (HUQ.out.at_ hql))
          go_wp2_with fail
          refine (audit_distance.calls _ _ _ _ HD.out).mono ?_
          rintro e w3 ⟨rfl, hb3⟩
          have HB3 := Aside0.mk hb3
          clear hb3 hx3 hx4 hx5 hcz0 hcz1
          go_wp2_with fail
          refine (f33_any _ _ _ M V wv _ _ ⟨blk_below SA.out.m HB3.out, blk_below SA.out.v HB3.out⟩ HD0.out HI1.out.m HI1.out.s0 (by have := HI1.out.s; have := HD1.out; omega) HI1.out.u0 (by have := HI1.out.u; omega) (by omega) (by omega) HW.out).mono ?_
          rintro e w4 ⟨rfl, hA4, hB4⟩
          have HA4 := Aside0.mk hA4
          have HB4 := Aside0.mk hB4
          clear hA4 hB4
          go_wp2
          go_roundw
          case rel =>
            refine ⟨i + 1, by omega, by go_num, HA4, ⟨?_⟩, ⟨?_⟩, ⟨?_⟩⟩
            · exact below_but (below_then SB.out SB.out.size HB3.out) HB4.out HM.out
            · exact blk_but (blk_below SQ.out HB3.out) HB4.out (blk_ne SQ.out SA.out.m (by decide))
            · exact (SW.out.trans (ButM.of_below HB3.out)).trans HB4.out
          case measure => simp [intOf]; omega
        · have hie : i = (rd_T58 lp k).f2.length := by omega
          subst hie
          go_wp2
          go_roundw
          case rel => exact ⟨k + 1, by omega, by go_num, SA, SB, SQ, SW⟩
          case measure => simp [intOf]; omega
    · have hke : k = lp.length := by omega
      subst hke
      go_wp2
      go_end0
      exact ⟨rfl, RA.out, RW.out⟩
end Go.Proofs.YtconnknbmhbmoaaGreat.sides
namespace Go.Proofs.YtconnknbmhbmoaaGreat.sides
open Go.RowKit Go.Proofs.YtconnknbmhbmoaaGreatW.PrintWords Go.Proofs.YtconnknbmhbmoaaGreat.PSid
set_option linter.unusedVariables false
set_option linter.unusedSimpArgs false

def zeroM : Mt := ⟨0, 0, 0, 0, 0, 0⟩
def told (t : Mt) (e : Int) : Ending := .returned (.tuple #[t.agg, .int .i64 e])

theorem idx0 (a b c d : Value) (w : World) : (Instr.index 72 (.agg #[a, b, c, d]) (.int .i64 0)).run Tryz.prog w = .ok (.agg #[a, b]) w := by
  have h1 := Tryz.underlying72
  have h2 := Tryz.underlying24
  simp only [Instr.index, Sem.run_bind]
  simp [run_underlying h1, go_sem, h1, h2]
theorem idx1 (a b c d : Value) (w : World) : (Instr.index 72 (.agg #[a, b, c, d]) (.int .i64 1)).run Tryz.prog w = .ok (.agg #[c, d]) w := by
  have h1 := Tryz.underlying72
  have h2 := Tryz.underlying24
  simp only [Instr.index, Sem.run_bind]
  simp [run_underlying h1, go_sem, h1, h2]

theorem third (w : World) (a b c : Obj) : (((w.alloc a).alloc b).alloc c).heap[w.heap.size + 1 + 1]? = some c := by
  have := blk_new ((w.alloc a).alloc b) c
  simpa using this

set_option maxHeartbeats 800000 in
theorem res14 {tmps : Array Value} {R : Nat} {e : Int} {t : Mt} {W : World} (h4 : tmps.getD 4 undef = .pointer (some ⟨R, 0, none⟩)) (h5 : tmps.getD 5 undef = .int .i64 e) (hb : W.heap[R]? = some (.cells t.vals 37 (0, 0))) :
    (results Tryz.f14 tmps).run Tryz.prog W = .ok (.tuple #[t.agg, .int .i64 e]) W := by
  have g0 := blk_cell hb 0
  have g1 := blk_cell hb 1
  have g2 := blk_cell hb 2
  have g3 := blk_cell hb 3
  have g4 := blk_cell hb 4
  have g5 := blk_cell hb 5
  simp [Mt.vals] at g0 g1 g2 g3 g4 g5
  have hu := Tryz.underlying37
  rw [Array.getD_eq_getD_getElem?] at h4 h5
  simp [results, Tryz.results14, h4, h5, go_sem, g0, g1, g2, g3, g4, g5, hu, Mt.agg, Mt.vals]

theorem set6 {W : World} {R : Nat} {cs : Array Value} (hb : W.heap[R]? = some (.cells cs 37 (0, 0))) (h6 : cs.size = 6) (t : Mt) :
    ((((((W.setCell ⟨R, 0, none⟩ (.int .i64 t.u)).setCell ⟨R, 1, none⟩ (.int .i64 t.m)).setCell ⟨R, 2, none⟩ (.int .i64 t.p)).setCell ⟨R, 3, none⟩ (.int .i64 t.x)).setCell ⟨R, 4, none⟩ (.int .i64 t.y)).setCell ⟨R, 5, none⟩ (.int .i64 t.s)).heap[R]? = some (.cells t.vals 37 (0, 0)) := by
  obtain ⟨l⟩ := cs
  match l, h6 with
  | [a, b, c, d, e, f], _ => exact blk_put (blk_put (blk_put (blk_put (blk_put (blk_put hb 0 _ rfl) 1 _ rfl) 2 _ rfl) 3 _ rfl) 4 _ rfl) 5 _ rfl
theorem below6 {w W : World} {R : Nat} (hb : Below w.heap.size w W) (h : w.heap.size ≤ R) (a b c d e f : Value) :
    Below w.heap.size w ((((((W.setCell ⟨R, 0, none⟩ a).setCell ⟨R, 1, none⟩ b).setCell ⟨R, 2, none⟩ c).setCell ⟨R, 3, none⟩ d).setCell ⟨R, 4, none⟩ e).setCell ⟨R, 5, none⟩ f) :=
  below_set (below_set (below_set (below_set (below_set (below_set hb h) h) h) h) h) h

set_option maxHeartbeats 1600000 in
set_option maxRecDepth 100000 in
theorem apart_p (k : Nat) (sp sq ep : Int) (Ap Aq : Option Addr) (cp cq : Nat) (lp lq : List S58) (w : World)
    (hp : Kd.C k58 w Ap lp.length lp) (hcp : lp.length ≤ cp) (hq : Kd.C k58 w Aq lq.length lq) (hcq : lq.length ≤ cq) (h : picture_Check.f k sp lp = some ep) (he : ep ≠ 0) :
    Calls Tryz.prog 14 #[.agg #[.int .i64 sp, .slice Ap lp.length cp], .agg #[.int .i64 sq, .slice Aq lq.length cq]] w fun e w' => e = told zeroM ep ∧ Below w.heap.size w w' := by
  have HP := Aside0.mk hp
  have HQ := Aside0.mk hq
  have HCP := Aside0.mk hcp
  have HCQ := Aside0.mk hcq
  have H := Aside0.mk h
  have he1 : (ep != 0) = true := by simp [he]
  have he2 : (ep == 0) = false := by simp [he]
  clear hp hq h he hcp hcq
  go_enter Tryz.func14, Tryz.ntmps14
  go_wp2
  go_loopw [14] (fun v14 wr => v14 = .int .i64 0 ∧ Aside0 (Below w.heap.size w wr) ∧ Aside0 (wr.heap[w.heap.size + 1 + 1]? = some (.cells zeroM.vals 37 (0, 0)))) (fun _ _ => 0)
  case atStart => exact ⟨rfl, ⟨below_alloc (below_alloc (below_alloc (Below.refl _ w) _) _) _⟩, ⟨third _ _ _ _⟩⟩
  case round =>
    obtain ⟨rfl, RB, RZ⟩ := hrel
    have hidx := idx0 (.int .i64 sp) (.slice Ap lp.length cp) (.int .i64 sq) (.slice Aq lq.length cq)
    go_wp2_with fail
    refine (picture_Check.calls k sp Ap cp lp ep _ (Kd.C_below HP.out (below_alloc RB.out _)) HCP.out H.out).mono ?_
    rintro e w3 ⟨rfl, hb3⟩
    have HB3 := Aside0.mk hb3
    have hz := blk_below (blk_alloc RZ.out _) HB3.out
    have HZ := Aside0.mk hz
    have g0 := blk_cell hz 0
    have g1 := blk_cell hz 1
    have g2 := blk_cell hz 2
    have g3 := blk_cell hz 3
    have g4 := blk_cell hz 4
    have g5 := blk_cell hz 5
    have f0 := blk_frozen hz 0
    have f1 := blk_frozen hz 1
    have f2 := blk_frozen hz 2
    have f3 := blk_frozen hz 3
    have f4 := blk_frozen hz 4
    have f5 := blk_frozen hz 5
    simp [zeroM, Mt.vals] at g0 g1 g2 g3 g4 g5
    clear hz hb3
    go_wp2
    refine bodyPost_ret (v := .tuple #[zeroM.agg, .int .i64 ep]) ?_ rfl ⟨rfl, ?_⟩
    · exact res14 rfl rfl (set6 (blk_below (blk_alloc RZ.out _) HB3.out) rfl zeroM)
    · exact below6 (below_then (below_alloc RB.out _) (below_alloc RB.out _).size HB3.out) (by omega) _ _ _ _ _ _
end Go.Proofs.YtconnknbmhbmoaaGreat.sides
namespace Go.Proofs.YtconnknbmhbmoaaGreat.sides
open Go.RowKit Go.Proofs.YtconnknbmhbmoaaGreatW.PrintWords Go.Proofs.YtconnknbmhbmoaaGreat.PSid
set_option linter.unusedVariables false
set_option linter.unusedSimpArgs false

theorem first3 (w : World) (a b c : Obj) : (((w.alloc a).alloc b).alloc c).heap[w.heap.size]? = some a := blk_alloc (blk_alloc (blk_new w a) b) c
theorem second3 (w : World) (a b c : Obj) : (((w.alloc a).alloc b).alloc c).heap[w.heap.size + 1]? = some b := by
  have := blk_new (w.alloc a) b
  refine blk_alloc ?_ c
  simpa using this

set_option maxHeartbeats 1600000 in
set_option maxRecDepth 100000 in
theorem apart_q (k : Nat) (sp sq eq : Int) (Ap Aq : Option Addr) (cp cq : Nat) (lp lq : List S58) (w : World)
    (hp : Kd.C k58 w Ap lp.length lp) (hcp : lp.length ≤ cp) (hq : Kd.C k58 w Aq lq.length lq) (hcq : lq.length ≤ cq) (h : picture_Check.f k sp lp = some 0) (hh : picture_Check.f k sq lq = some eq) (he : eq ≠ 0) :
    Calls Tryz.prog 14 #[.agg #[.int .i64 sp, .slice Ap lp.length cp], .agg #[.int .i64 sq, .slice Aq lq.length cq]] w fun e w' => e = told zeroM eq ∧ Below w.heap.size w w' := by
  have HP := Aside0.mk hp
  have HQ := Aside0.mk hq
  have HCP := Aside0.mk hcp
  have HCQ := Aside0.mk hcq
  have H := Aside0.mk h
  have H2 := Aside0.mk hh
  have he1 : (eq != 0) = true := by simp [he]
  have he2 : (eq == 0) = false := by simp [he]
  clear hp hq h hh he hcp hcq
  go_enter Tryz.func14, Tryz.ntmps14
  go_wp2
  go_loopw [14] (fun v14 wr => ∃ j : Nat, j ≤ 1 ∧ v14 = .int .i64 j ∧ Aside0 (Below w.heap.size w wr) ∧ Aside0 (wr.heap[w.heap.size + 1 + 1]? = some (.cells zeroM.vals 37 (0, 0)))) (fun v14 _ => 2 - (intOf v14).toNat)
  case atStart => exact ⟨0, by omega, rfl, ⟨below_alloc (below_alloc (below_alloc (Below.refl _ w) _) _) _⟩, ⟨third _ _ _ _⟩⟩
  case round =>
    obtain ⟨j, hj, rfl, RB, RZ⟩ := hrel
    have hidx := idx0 (.int .i64 sp) (.slice Ap lp.length cp) (.int .i64 sq) (.slice Aq lq.length cq)
    have hidx1 := idx1 (.int .i64 sp) (.slice Ap lp.length cp) (.int .i64 sq) (.slice Aq lq.length cq)
    rcases (show j = 0 ∨ j = 1 by omega) with rfl | rfl
    · go_wp2_with fail
      refine (picture_Check.calls k sp Ap cp lp 0 _ (Kd.C_below HP.out (below_alloc RB.out _)) HCP.out H.out).mono ?_
      rintro e w3 ⟨rfl, hb3⟩
      have HB3 := Aside0.mk hb3
      clear hb3
      go_wp2
      go_roundw
      case rel => exact ⟨1, by omega, by go_num, ⟨below_then (below_alloc RB.out _) (below_alloc RB.out _).size HB3.out⟩, ⟨blk_below (blk_alloc RZ.out _) HB3.out⟩⟩
      case measure => simp [intOf]
    · go_wp2_with fail
      refine (picture_Check.calls k sq Aq cq lq eq _ (Kd.C_below HQ.out (below_alloc RB.out _)) HCQ.out H2.out).mono ?_
      rintro e w3 ⟨rfl, hb3⟩
      have HB3 := Aside0.mk hb3
      have hz := blk_below (blk_alloc RZ.out _) HB3.out
      have g0 := blk_cell hz 0
      have g1 := blk_cell hz 1
      have g2 := blk_cell hz 2
      have g3 := blk_cell hz 3
      have g4 := blk_cell hz 4
      have g5 := blk_cell hz 5
      have f0 := blk_frozen hz 0
      have f1 := blk_frozen hz 1
      have f2 := blk_frozen hz 2
      have f3 := blk_frozen hz 3
      have f4 := blk_frozen hz 4
      have f5 := blk_frozen hz 5
      simp [zeroM, Mt.vals] at g0 g1 g2 g3 g4 g5
      clear hz hb3
      go_wp2
      refine bodyPost_ret (v := .tuple #[zeroM.agg, .int .i64 eq]) ?_ rfl ⟨rfl, ?_⟩
      · exact res14 rfl rfl (set6 (blk_below (blk_alloc RZ.out _) HB3.out) rfl zeroM)
      · exact below6 (below_then (below_alloc RB.out _) (below_alloc RB.out _).size HB3.out) (by omega) _ _ _ _ _ _

set_option maxHeartbeats 1600000 in
set_option maxRecDepth 100000 in
theorem apart_fit (k : Nat) (sp sq : Int) (Ap Aq : Option Addr) (cp cq : Nat) (lp lq : List S58) (w : World)
    (hp : Kd.C k58 w Ap lp.length lp) (hcp : lp.length ≤ cp) (hq : Kd.C k58 w Aq lq.length lq) (hcq : lq.length ≤ cq) (h : picture_Check.f k sp lp = some 0) (hh : picture_Check.f k sq lq = some 0) (hfit : audit_fit.f sp lp sq lq = some false) :
    Calls Tryz.prog 14 #[.agg #[.int .i64 sp, .slice Ap lp.length cp], .agg #[.int .i64 sq, .slice Aq lq.length cq]] w fun e w' => e = told zeroM 270 ∧ Below w.heap.size w w' := by
  have HP := Aside0.mk hp
  have HQ := Aside0.mk hq
  have HCP := Aside0.mk hcp
  have HCQ := Aside0.mk hcq
  have H := Aside0.mk h
  have H2 := Aside0.mk hh
  have HF := Aside0.mk hfit
  clear hp hq h hh hcp hcq hfit
  go_enter Tryz.func14, Tryz.ntmps14
  go_wp2
  go_loopw [14] (fun v14 wr => ∃ j : Nat, j ≤ 2 ∧ v14 = .int .i64 j ∧ Aside0 (Below w.heap.size w wr) ∧ Aside0 (wr.heap[w.heap.size + 1 + 1]? = some (.cells zeroM.vals 37 (0, 0))) ∧ Aside0 (wr.heap[w.heap.size]? = some (.cells #[.int .i64 sp, .slice Ap lp.length cp] 24 (0, 0))) ∧ Aside0 (wr.heap[w.heap.size + 1]? = some (.cells #[.int .i64 sq, .slice Aq lq.length cq] 24 (0, 0)))) (fun v14 _ => 2 - (intOf v14).toNat)
  case atStart => exact ⟨0, by omega, rfl, ⟨below_alloc (below_alloc (below_alloc (Below.refl _ w) _) _) _⟩, ⟨third _ _ _ _⟩, ⟨first3 _ _ _ _⟩, ⟨second3 _ _ _ _⟩⟩
  case round =>
    obtain ⟨j, hj, rfl, RB, RZ, RP, RQ⟩ := hrel
    have hidx := idx0 (.int .i64 sp) (.slice Ap lp.length cp) (.int .i64 sq) (.slice Aq lq.length cq)
    have hidx1 := idx1 (.int .i64 sp) (.slice Ap lp.length cp) (.int .i64 sq) (.slice Aq lq.length cq)
    rcases (show j = 0 ∨ j = 1 ∨ j = 2 by omega) with rfl | rfl | rfl
    · go_wp2_with fail
      refine (picture_Check.calls k sp Ap cp lp 0 _ (Kd.C_below HP.out (below_alloc RB.out _)) HCP.out H.out).mono ?_
      rintro e w3 ⟨rfl, hb3⟩
      have HB3 := Aside0.mk hb3
      clear hb3
      go_wp2
      go_roundw
      case rel => exact ⟨1, by omega, by go_num, ⟨below_then (below_alloc RB.out _) (below_alloc RB.out _).size HB3.out⟩, ⟨blk_below (blk_alloc RZ.out _) HB3.out⟩, ⟨blk_below (blk_alloc RP.out _) HB3.out⟩, ⟨blk_below (blk_alloc RQ.out _) HB3.out⟩⟩
      case measure => simp [intOf]
    · go_wp2_with fail
      refine (picture_Check.calls k sq Aq cq lq 0 _ (Kd.C_below HQ.out (below_alloc RB.out _)) HCQ.out H2.out).mono ?_
      rintro e w3 ⟨rfl, hb3⟩
      have HB3 := Aside0.mk hb3
      clear hb3
      go_wp2
      go_roundw
      case rel => exact ⟨2, by omega, by go_num, ⟨below_then (below_alloc RB.out _) (below_alloc RB.out _).size HB3.out⟩, ⟨blk_below (blk_alloc RZ.out _) HB3.out⟩, ⟨blk_below (blk_alloc RP.out _) HB3.out⟩, ⟨blk_below (blk_alloc RQ.out _) HB3.out⟩⟩
      case measure => simp [intOf]
    · have p0 := (blk_cell RP.out 0).trans rfl
      have p1 := (blk_cell RP.out 1).trans rfl
      have q0 := (blk_cell RQ.out 0).trans rfl
      have q1 := (blk_cell RQ.out 1).trans rfl
      simp at p0 p1 q0 q1
      go_wp2_with fail
      refine (audit_fit.calls sp Ap cp lp sq Aq cq lq false _ (Kd.C_below HP.out RB.out) HCP.out (Kd.C_below HQ.out RB.out) HCQ.out HF.out).mono ?_
      rintro e w3 ⟨rfl, hb3⟩
      have HB3 := Aside0.mk hb3
      have hz := blk_below RZ.out HB3.out
      have g0 := blk_cell hz 0
      have g1 := blk_cell hz 1
      have g2 := blk_cell hz 2
      have g3 := blk_cell hz 3
      have g4 := blk_cell hz 4
      have g5 := blk_cell hz 5
      have f0 := blk_frozen hz 0
      have f1 := blk_frozen hz 1
      have f2 := blk_frozen hz 2
      have f3 := blk_frozen hz 3
      have f4 := blk_frozen hz 4
      have f5 := blk_frozen hz 5
      simp [zeroM, Mt.vals] at g0 g1 g2 g3 g4 g5
      clear hz hb3 p0 p1 q0 q1
      go_wp2
      refine bodyPost_ret (v := .tuple #[zeroM.agg, .int .i64 270]) ?_ rfl ⟨rfl, ?_⟩
      · exact res14 rfl rfl (set6 (blk_below RZ.out HB3.out) rfl zeroM)
      · exact below6 (below_then RB.out RB.out.size HB3.out) (by omega) _ _ _ _ _ _
end Go.Proofs.YtconnknbmhbmoaaGreat.sides
namespace Go.Proofs.YtconnknbmhbmoaaGreat.sides
open Go.RowKit Go.Proofs.YtconnknbmhbmoaaGreatW.PrintWords Go.Proofs.YtconnknbmhbmoaaGreat.PSid
set_option linter.unusedVariables false
set_option linter.unusedSimpArgs false

set_option maxHeartbeats 1600000 in
set_option maxRecDepth 100000 in
theorem apart_ok (k : Nat) (sp sq : Int) (Ap Aq : Option Addr) (cp cq : Nat) (lp lq : List S58) (w : World)
    (hp : Kd.C k58 w Ap lp.length lp) (hcp : lp.length ≤ cp) (hq : Kd.C k58 w Aq lq.length lq) (hcq : lq.length ≤ cq) (h : picture_Check.f k sp lp = some 0) (hh : picture_Check.f k sq lq = some 0) (hfit : audit_fit.f sp lp sq lq = some true) (h0 : 0 < lp.length) (hF : Fit lp lq) (hw : 0 < (rd_T58 lp 0).f0) :
    Calls Tryz.prog 14 #[.agg #[.int .i64 sp, .slice Ap lp.length cp], .agg #[.int .i64 sq, .slice Aq lq.length cq]] w fun e w' => e = told (outer (rd_T58 lp 0).f0 lp lq zeroM lp.length) 0 ∧ Below w.heap.size w w' := by
  have HP := Aside0.mk hp
  have HQ := Aside0.mk hq
  have HCP := Aside0.mk hcp
  have HCQ := Aside0.mk hcq
  have H := Aside0.mk h
  have H2 := Aside0.mk hh
  have HF := Aside0.mk hfit
  have HFF := Aside0.mk hF
  have HW := Aside0.mk hw
  clear hF hw
  clear hp hq h hh hcp hcq hfit
  go_enter Tryz.func14, Tryz.ntmps14
  go_wp2
  go_loopw [14] (fun v14 wr => ∃ j : Nat, j ≤ 2 ∧ v14 = .int .i64 j ∧ Aside0 (Below w.heap.size w wr) ∧ Aside0 (wr.heap[w.heap.size + 1 + 1]? = some (.cells zeroM.vals 37 (0, 0))) ∧ Aside0 (wr.heap[w.heap.size]? = some (.cells #[.int .i64 sp, .slice Ap lp.length cp] 24 (0, 0))) ∧ Aside0 (wr.heap[w.heap.size + 1]? = some (.cells #[.int .i64 sq, .slice Aq lq.length cq] 24 (0, 0)))) (fun v14 _ => 2 - (intOf v14).toNat)
  case atStart => exact ⟨0, by omega, rfl, ⟨below_alloc (below_alloc (below_alloc (Below.refl _ w) _) _) _⟩, ⟨third _ _ _ _⟩, ⟨first3 _ _ _ _⟩, ⟨second3 _ _ _ _⟩⟩
  case round =>
    obtain ⟨j, hj, rfl, RB, RZ, RP, RQ⟩ := hrel
    have hidx := idx0 (.int .i64 sp) (.slice Ap lp.length cp) (.int .i64 sq) (.slice Aq lq.length cq)
    have hidx1 := idx1 (.int .i64 sp) (.slice Ap lp.length cp) (.int .i64 sq) (.slice Aq lq.length cq)
    rcases (show j = 0 ∨ j = 1 ∨ j = 2 by omega) with rfl | rfl | rfl
    · go_wp2_with fail
      refine (picture_Check.calls k sp Ap cp lp 0 _ (Kd.C_below HP.out (below_alloc RB.out _)) HCP.out H.out).mono ?_
      rintro e w3 ⟨rfl, hb3⟩
      have HB3 := Aside0.mk hb3
      clear hb3
      go_wp2
      go_roundw
      case rel => exact ⟨1, by omega, by go_num, ⟨below_then (below_alloc RB.out _) (below_alloc RB.out _).size HB3.out⟩, ⟨blk_below (blk_alloc RZ.out _) HB3.out⟩, ⟨blk_below (blk_alloc RP.out _) HB3.out⟩, ⟨blk_below (blk_alloc RQ.out _) HB3.out⟩⟩
      case measure => simp [intOf]
    · go_wp2_with fail
      refine (picture_Check.calls k sq Aq cq lq 0 _ (Kd.C_below HQ.out (below_alloc RB.out _)) HCQ.out H2.out).mono ?_
      rintro e w3 ⟨rfl, hb3⟩
      have HB3 := Aside0.mk hb3
      clear hb3
      go_wp2
      go_roundw
      case rel => exact ⟨2, by omega, by go_num, ⟨below_then (below_alloc RB.out _) (below_alloc RB.out _).size HB3.out⟩, ⟨blk_below (blk_alloc RZ.out _) HB3.out⟩, ⟨blk_below (blk_alloc RP.out _) HB3.out⟩, ⟨blk_below (blk_alloc RQ.out _) HB3.out⟩⟩
      case measure => simp [intOf]
    · have p0 := (blk_cell RP.out 0).trans rfl
      have p1 := (blk_cell RP.out 1).trans rfl
      have q0 := (blk_cell RQ.out 0).trans rfl
      have q1 := (blk_cell RQ.out 1).trans rfl
      simp at p0 p1 q0 q1
      go_wp2_with fail
      refine (audit_fit.calls sp Ap cp lp sq Aq cq lq true _ (Kd.C_below HP.out RB.out) HCP.out (Kd.C_below HQ.out RB.out) HCQ.out HF.out).mono ?_
      rintro e w3 ⟨rfl, hb3⟩
      have HB3 := Aside0.mk hb3
      have HB4 := Aside0.mk (below_then RB.out RB.out.size hb3)
      have hZ := blk_below RZ.out hb3
      have hP := blk_below RP.out hb3
      have hQ := blk_below RQ.out hb3
      have HZ := Aside0.mk hZ
      have HP3 := Aside0.mk hP
      have HQ3 := Aside0.mk hQ
      clear hb3 p0 p1 q0 q1
      have p0 := (blk_cell hP 0).trans rfl
      have p1 := (blk_cell hP 1).trans rfl
      have q0 := (blk_cell hQ 0).trans rfl
      have q1 := (blk_cell hQ 1).trans rfl
      simp at p0 p1 q0 q1
      clear hZ hP hQ
      obtain ⟨ad, A2, c2, e2, hx0, hx1, hx2, hl2, hi2⟩ := at_T58 HP.out 0 (by omega) (by omega)
      cases e2
      clear hl2 hi2
      simp only [Int.toNat_zero, Nat.zero_mul] at hx0 hx1 hx2
      replace hx0 := (HB4.out.cell (World.block_lt_of_cell? w _ hx0)).trans hx0
      replace hx1 := (HB4.out.cell (World.block_lt_of_cell? w _ hx1)).trans hx1
      replace hx2 := (HB4.out.cell (World.block_lt_of_cell? w _ hx2)).trans hx2
      have hs3 : w.heap.size + 1 + 1 < w3.heap.size := blk_lt HZ.out
      have hs4 : w.heap.size < w3.heap.size := by omega
      have hs5 : w.heap.size + 1 < w3.heap.size := by omega
      have hx0' : w3.cell? ad = some (.int .i64 (rd_T58 lp 0).f0) := hx0
      have hca : ∀ o, (w3.alloc o).cell? ad = some (.int .i64 (rd_T58 lp 0).f0) := fun o => pw_cell_below (below_alloc (Below.refl _ _) o) hx0'
      clear hx0 hx1 hx2 hx0'
      go_wp2_with fail
      have hM0 : ((w3.alloc (.cells zeroM.vals 37)).alloc (.cells #[.int .i64 (rd_T58 lp 0).f0] 3)).heap[w3.heap.size]? = some (.cells zeroM.vals 37) := blk_alloc (blk_new _ _) _
      have hV0 : ((w3.alloc (.cells zeroM.vals 37)).alloc (.cells #[.int .i64 (rd_T58 lp 0).f0] 3)).heap[w3.heap.size + 1]? = some (.cells #[.int .i64 (rd_T58 lp 0).f0] 3) := by
        have := blk_new (w3.alloc (.cells zeroM.vals 37)) (.cells #[.int .i64 (rd_T58 lp 0).f0] 3)
        simpa using this
      refine (measured_any sp sq (some ad) Aq cp cq lp lq w _ w3.heap.size (w3.heap.size + 1) (rd_T58 lp 0).f0 zeroM HP.out HQ.out HFF.out (below_alloc (below_alloc HB4.out _) _) (by omega) (by omega) ⟨hM0, hV0⟩ ⟨by decide, by decide, by decide, by decide, by decide, by decide⟩ HW.out).mono ?_
      rintro e w5 ⟨rfl, hA5, hB5⟩
      have HA5 := Aside0.mk hA5
      have HB5 := Aside0.mk hB5
      have HR := Aside0.mk (blk_but (blk_alloc (blk_alloc HZ.out _) _) hB5 (by omega))
      clear hM0 hV0 hca p0 p1 q0 q1
      clear hA5 hB5
      generalize hT : outer (rd_T58 lp 0).f0 lp lq zeroM lp.length = T at HA5
      have HT := Aside0.mk hT
      clear hT
      have m0 := blk_cell HA5.out.m 0
      have m1 := blk_cell HA5.out.m 1
      have m2 := blk_cell HA5.out.m 2
      have m3 := blk_cell HA5.out.m 3
      have m4 := blk_cell HA5.out.m 4
      have m5 := blk_cell HA5.out.m 5
      have g0 := blk_cell HR.out 0
      have g1 := blk_cell HR.out 1
      have g2 := blk_cell HR.out 2
      have g3 := blk_cell HR.out 3
      have g4 := blk_cell HR.out 4
      have g5 := blk_cell HR.out 5
      have f0 := blk_frozen HR.out 0
      have f1 := blk_frozen HR.out 1
      have f2 := blk_frozen HR.out 2
      have f3 := blk_frozen HR.out 3
      have f4 := blk_frozen HR.out 4
      have f5 := blk_frozen HR.out 5
      simp [zeroM, Mt.vals] at g0 g1 g2 g3 g4 g5 m0 m1 m2 m3 m4 m5
      go_wp2
      refine bodyPost_ret (v := .tuple #[T.agg, .int .i64 0]) ?_ rfl ⟨by rw [HT.out]; rfl, ?_⟩
      · exact res14 rfl rfl (set6 HR.out rfl T)
      · exact below6 (below_but (below_alloc (below_alloc HB4.out _) _) HB5.out (by omega)) (by omega) _ _ _ _ _ _
end Go.Proofs.YtconnknbmhbmoaaGreat.sides
namespace Go.Proofs.YtconnknbmhbmoaaGreat.sides
open Go.RowKit Go.Proofs.YtconnknbmhbmoaaGreatW.PrintWords Go.Proofs.YtconnknbmhbmoaaGreat.PSid
set_option linter.unusedVariables false
set_option linter.unusedSimpArgs false

theorem light_total (sp : Int) (l : List S58) : ∀ (d k i : Nat) (x : Int), i ≤ l.length → i ≤ 100 → 100 - i = d → d < k → ∃ b, halidelaw27_light.l0 k x i sp l = some b
  | d, 0, i, x, h1, h2, h3, h4 => by omega
  | d, k + 1, i, x, h1, h2, h3, h4 => by
    simp only [halidelaw27_light.l0]
    by_cases c1 : (i : Int) < (l.length : Int)
    · rw [if_pos c1]
      by_cases c2 : (i : Int) < 100
      · rw [if_pos c2, if_pos (by omega), wrap_id (x := (i : Int) + 1) (by omega) (by omega)]
        have := light_total sp l (100 - (i + 1)) k (i + 1) (wrap64 (x + (((rd_T58 l i).f2).length : Int))) (by omega) (by omega) rfl (by omega)
        simpa using this
      · rw [if_neg c2]; exact ⟨_, rfl⟩
    · rw [if_neg c1]; exact ⟨_, rfl⟩

theorem light_f (sp : Int) (l : List S58) : ∃ b, halidelaw27_light.f 200 sp l = some b := light_total sp l 100 200 0 _ (by omega) (by omega) rfl (by omega)

/-- what a plane that may be is -/
structure PlaneOK (x : S58) : Prop where
  w : 1 ≤ x.f0
  size : (x.f2.length : Int) = x.f0 * x.f1
  small : x.f2.length ≤ 65536

theorem size_f (w h : Int) : ∃ b, plane_size.f w h = some b ∧ (b = true → 1 ≤ w ∧ 1 ≤ h ∧ w ≤ 1024 ∧ h ≤ 1024 ∧ w * h ≤ 65536) := by
  unfold plane_size.f
  by_cases c1 : w ≥ 1
  · rw [if_pos c1]
    by_cases c2 : h ≥ 1
    · rw [if_pos c2]
      by_cases c3 : w ≤ 1024
      · rw [if_pos c3]
        by_cases c4 : h ≤ 1024
        · rw [if_pos c4]
          refine ⟨_, rfl, fun hb => ?_⟩
          have h1 : w * h ≤ 1024 * 1024 := Int.mul_le_mul c3 c4 (by omega) (by omega)
          have h2 : 0 ≤ w * h := Int.mul_nonneg (by omega) (by omega)
          rw [wrap_id (by omega) (by omega)] at hb
          exact ⟨c1, c2, c3, c4, of_decide_eq_true hb⟩
        · rw [if_neg c4]; exact ⟨_, rfl, fun h => by simp at h⟩
      · rw [if_neg c3]; exact ⟨_, rfl, fun h => by simp at h⟩
    · rw [if_neg c2]; exact ⟨_, rfl, fun h => by simp at h⟩
  · rw [if_neg c1]; exact ⟨_, rfl, fun h => by simp at h⟩

theorem plane_f (x : S58) : ∃ e, plane_Check.f x.f0 x.f1 x.f2 = some e ∧ (e = 0 → PlaneOK x) := by
  unfold plane_Check.f
  obtain ⟨b, hb, hs⟩ := size_f x.f0 x.f1
  rw [hb]
  simp only [Option.bind_some]
  cases b with
  | false => exact ⟨51 - 1, by simp, by simp⟩
  | true =>
    rw [if_pos rfl]
    obtain ⟨h1, h2, h3, h4, h5⟩ := hs rfl
    have h6 : 0 ≤ x.f0 * x.f1 := Int.mul_nonneg (by omega) (by omega)
    rw [wrap_id (by omega) (by omega)]
    by_cases c : (x.f2.length : Int) = x.f0 * x.f1
    · rw [if_pos c]; exact ⟨0, rfl, fun _ => ⟨h1, c, by omega⟩⟩
    · rw [if_neg c]; exact ⟨51, rfl, by simp⟩

theorem space_f (a b : Int) : ∃ e, picture_spaceOf.f a b = some e := by
  unfold picture_spaceOf.f
  repeat (first | exact ⟨_, rfl⟩ | split)

/-- what a picture that may be is -/
structure Good (l : List S58) : Prop where
  pos : 1 ≤ l.length
  few : l.length ≤ 4
  ok : ∀ j : Nat, j < l.length → PlaneOK (rd_T58 l j)
  same : ∀ j : Nat, j < l.length → (rd_T58 l j).f0 = (rd_T58 l 0).f0 ∧ (rd_T58 l j).f1 = (rd_T58 l 0).f1

theorem check_l1 (sp : Int) (l : List S58) (h0 : 1 ≤ l.length) (h4 : l.length ≤ 4) : ∀ (d k i : Nat), i ≤ l.length → l.length - i = d → d < k →
    ∃ e, picture_Check.l1 k l l.length i sp l = some e ∧ (e = 0 → ∀ j : Nat, i ≤ j → j < l.length → (rd_T58 l j).f0 = (rd_T58 l 0).f0 ∧ (rd_T58 l j).f1 = (rd_T58 l 0).f1)
  | d, 0, i, h1, h2, h3 => by omega
  | d, k + 1, i, h1, h2, h3 => by
    simp only [picture_Check.l1]
    by_cases c1 : (i : Int) < (l.length : Int)
    · rw [if_pos c1, if_pos (by omega), if_pos c1, if_pos (by omega)]
      by_cases c2 : (rd_T58 l i).f0 = (rd_T58 l 0).f0
      · rw [if_pos c2]
        by_cases c3 : (rd_T58 l i).f1 = (rd_T58 l 0).f1
        · rw [if_pos c3, wrap_id (x := (i : Int) + 1) (by omega) (by omega)]
          obtain ⟨e, he, hr⟩ := check_l1 sp l h0 h4 (l.length - (i + 1)) k (i + 1) (by omega) rfl (by omega)
          refine ⟨e, by simpa using he, fun h j hj1 hj2 => ?_⟩
          rcases Nat.eq_or_lt_of_le hj1 with rfl | hj
          · exact ⟨c2, c3⟩
          · exact hr h j (by omega) hj2
        · rw [if_neg c3]; exact ⟨80, rfl, by simp⟩
      · rw [if_neg c2]; exact ⟨80, rfl, by simp⟩
    · rw [if_neg c1]
      obtain ⟨e, he⟩ := space_f sp l.length
      rw [he]
      exact ⟨e, rfl, fun _ j hj1 hj2 => by omega⟩

theorem check_l0 (sp : Int) (l : List S58) (h0 : 1 ≤ l.length) (h4 : l.length ≤ 4) : ∀ (d k i : Nat), i ≤ l.length → l.length - i = d → d + 6 < k →
    ∃ e, picture_Check.l0 k l l.length i sp l = some e ∧ (e = 0 → (∀ j : Nat, i ≤ j → j < l.length → PlaneOK (rd_T58 l j)) ∧ ∀ j : Nat, j < l.length → (rd_T58 l j).f0 = (rd_T58 l 0).f0 ∧ (rd_T58 l j).f1 = (rd_T58 l 0).f1)
  | d, 0, i, h1, h2, h3 => by omega
  | d, k + 1, i, h1, h2, h3 => by
    simp only [picture_Check.l0]
    by_cases c1 : (i : Int) < (l.length : Int)
    · rw [if_pos c1, if_pos (by omega), if_pos c1]
      obtain ⟨e, he, hr⟩ := plane_f (rd_T58 l i)
      rw [he]
      simp only [Option.bind_some]
      by_cases c2 : e = 0
      · rw [if_pos c2, wrap_id (x := (i : Int) + 1) (by omega) (by omega)]
        obtain ⟨e', he', hr'⟩ := check_l0 sp l h0 h4 (l.length - (i + 1)) k (i + 1) (by omega) rfl (by omega)
        refine ⟨e', by simpa using he', fun h => ⟨fun j hj1 hj2 => ?_, (hr' h).2⟩⟩
        rcases Nat.eq_or_lt_of_le hj1 with rfl | hj
        · exact hr c2
        · exact (hr' h).1 j (by omega) hj2
      · rw [if_neg c2]; exact ⟨e, rfl, fun h => absurd h c2⟩
    · rw [if_neg c1]
      obtain ⟨e, he, hr⟩ := check_l1 sp l h0 h4 l.length k 0 (by omega) (by omega) (by omega)
      exact ⟨e, by simpa using he, fun h => ⟨fun j hj1 hj2 => by omega, fun j hj => hr h j (by omega) hj⟩⟩

theorem check_f (sp : Int) (l : List S58) : ∃ e, picture_Check.f 20 sp l = some e ∧ (e = 0 → Good l) := by
  unfold picture_Check.f
  by_cases c1 : (l.length : Int) = 0
  · rw [if_pos c1]
    exact ⟨80, by simp [picture_Check.j0], by simp⟩
  · rw [if_neg c1]
    by_cases c2 : (l.length : Int) > 4
    · exact ⟨80, by simp [picture_Check.j0, c2], by simp⟩
    · obtain ⟨e, he, hr⟩ := check_l0 sp l (by omega) (by omega) l.length 19 0 (by omega) (by omega) (by omega)
      refine ⟨e, ?_, fun h => ⟨by omega, by omega, fun j hj => (hr h).1 j (by omega) hj, (hr h).2⟩⟩
      simp only [picture_Check.j0, decide_eq_false c2]
      simpa using he

theorem fit_f (sp sq : Int) (lp lq : List S58) (h1 : 0 < lp.length) (h2 : 0 < lq.length) :
    ∃ b, audit_fit.f sp lp sq lq = some b ∧ (b = true ↔ sp = sq ∧ lp.length = lq.length ∧ (rd_T58 lp 0).f0 = (rd_T58 lq 0).f0 ∧ (rd_T58 lp 0).f1 = (rd_T58 lq 0).f1) := by
  unfold audit_fit.f
  by_cases c1 : sp = sq
  · rw [if_pos c1]
    by_cases c2 : (lp.length : Int) = (lq.length : Int)
    · rw [if_pos c2, if_pos (by omega), if_pos (by omega)]
      by_cases c3 : (rd_T58 lp 0).f0 = (rd_T58 lq 0).f0
      · rw [if_pos c3]
        refine ⟨_, rfl, ?_⟩
        simp [c1, c3, show lp.length = lq.length by omega]
      · rw [if_neg c3]; exact ⟨false, rfl, by simp [c3]⟩
    · rw [if_neg c2]; exact ⟨false, rfl, by simp; intro _ h; exact absurd (by omega) c2⟩
  · rw [if_neg c1]; exact ⟨false, rfl, by simp [c1]⟩

end Go.Proofs.YtconnknbmhbmoaaGreat.sides
namespace Go.Proofs.YtconnknbmhbmoaaGreat.sides
open Go.RowKit Go.Proofs.YtconnknbmhbmoaaGreatW.PrintWords Go.Proofs.YtconnknbmhbmoaaGreat.PSid
set_option linter.unusedVariables false
set_option linter.unusedSimpArgs false

theorem dist_comm (a b : Int) : dist a b = dist b a := by unfold dist; split <;> split <;> omega
theorem dist_zero {a b : Int} (ha : U32 a) (hb : U32 b) : dist a b = 0 ↔ a = b := by
  obtain ⟨a1, a2⟩ := ha; obtain ⟨b1, b2⟩ := hb
  unfold dist key
  constructor
  · intro h
    split at h <;> (split at h <;> split at h <;> omega)
  · intro h; subst h; split <;> omega
theorem dist_tri (a b c : Int) : dist a c ≤ dist a b + dist b c := by unfold dist; split <;> split <;> split <;> omega

/-! ### Both ways alike -/
theorem inner_comm (wv k : Int) (P Q : List Int) (t : Mt) : ∀ n, inner wv k P Q t n = inner wv k Q P t n
  | 0 => rfl
  | n + 1 => by simp only [inner]; rw [inner_comm wv k P Q t n, dist_comm]
theorem outer_comm (wv : Int) (lp lq : List S58) (t : Mt) (hs : ∀ k : Nat, k < lp.length → (rd_T58 lq k).f2.length = (rd_T58 lp k).f2.length) : ∀ n, n ≤ lp.length → outer wv lp lq t n = outer wv lq lp t n
  | 0, _ => rfl
  | n + 1, h => by
    simp only [outer]
    rw [outer_comm wv lp lq t hs n (by omega), inner_comm, hs n (by omega)]

/-! ### One meter -/
structure Inv (t : Mt) : Prop where
  m : 0 ≤ t.m
  u : 0 ≤ t.u
  ms : t.m ≤ t.s
  us : t.u ≤ t.s
  su : t.s ≤ t.u * t.m

theorem Inv.step {t : Mt} (h : Inv t) (wv pl i : Int) {d : Int} (h0 : 0 ≤ d) : Inv (stepM wv pl i d t) := by
  obtain ⟨h1, h2, h3, h4, h5⟩ := h
  have hm : 0 ≤ (if t.m < d then d else t.m) := by split <;> omega
  have hm1 : t.m ≤ (if t.m < d then d else t.m) := by split <;> omega
  have hm2 : d ≤ (if t.m < d then d else t.m) := by split <;> omega
  refine ⟨?_, ?_, ?_, ?_, ?_⟩ <;> simp only [stepM]
  · exact hm
  · split <;> omega
  · split <;> omega
  · split <;> omega
  · have h6 : t.u * t.m ≤ t.u * (if t.m < d then d else t.m) := Int.mul_le_mul_of_nonneg_left hm1 h2
    by_cases c : 0 < d
    · rw [if_pos c, Int.add_mul, Int.one_mul]; omega
    · rw [if_neg c, Int.add_zero]; omega

theorem Inv.inner {t : Mt} (h : Inv t) (wv k : Int) (P Q : List Int) : ∀ n, Inv (inner wv k P Q t n)
  | 0 => h
  | n + 1 => (Inv.inner h wv k P Q n).step _ _ _ (dist_nonneg _ _)
theorem Inv.outer {t : Mt} (h : Inv t) (wv : Int) (lp lq : List S58) : ∀ n, Inv (outer wv lp lq t n)
  | 0 => h
  | n + 1 => (Inv.outer h wv lp lq n).inner _ _ _ _ _

theorem Inv.zero {t : Mt} (h : Inv t) : (t.u = 0 ↔ t.s = 0) ∧ (t.m = 0 ↔ t.s = 0) := by
  obtain ⟨h1, h2, h3, h4, h5⟩ := h
  refine ⟨⟨fun e => ?_, fun e => by omega⟩, ⟨fun e => ?_, fun e => by omega⟩⟩
  · rw [e, Int.zero_mul] at h5; omega
  · rw [e, Int.mul_zero] at h5; omega

theorem inner_zero (wv k : Int) (P Q : List Int) {t : Mt} (ht : Inv t) : ∀ n : Nat, ((inner wv k P Q t n).s = 0 ↔ t.s = 0 ∧ ∀ i : Nat, i < n → dist (rd P i) (rd Q i) = 0)
  | 0 => by simp [inner]
  | n + 1 => by
    have ih := inner_zero wv k P Q ht n
    have h1 := (ht.inner wv k P Q n).ms
    have h2 := (ht.inner wv k P Q n).m
    have h3 := dist_nonneg (rd P n) (rd Q n)
    simp only [inner, stepM]
    constructor
    · intro h
      have h4 : (inner wv k P Q t n).s = 0 := by omega
      refine ⟨(ih.1 h4).1, fun i hi => ?_⟩
      rcases Nat.lt_succ_iff_lt_or_eq.1 hi with hlt | rfl
      · exact (ih.1 h4).2 i hlt
      · omega
    · rintro ⟨h4, h5⟩
      have h6 := ih.2 ⟨h4, fun i hi => h5 i (by omega)⟩
      have h7 := h5 n (by omega)
      omega
theorem outer_zero (wv : Int) (lp lq : List S58) {t : Mt} (ht : Inv t) : ∀ n : Nat, ((outer wv lp lq t n).s = 0 ↔ t.s = 0 ∧ ∀ k : Nat, k < n → ∀ i : Nat, i < (rd_T58 lp k).f2.length → dist (rd (rd_T58 lp k).f2 i) (rd (rd_T58 lq k).f2 i) = 0)
  | 0 => by simp [outer]
  | n + 1 => by
    have ih := outer_zero wv lp lq ht n
    simp only [outer]
    rw [inner_zero wv n _ _ (ht.outer wv lp lq n), ih]
    constructor
    · rintro ⟨⟨h1, h2⟩, h3⟩
      refine ⟨h1, fun k hk => ?_⟩
      rcases Nat.lt_succ_iff_lt_or_eq.1 hk with hlt | rfl
      · exact h2 k hlt
      · exact h3
    · rintro ⟨h1, h2⟩
      exact ⟨⟨h1, fun k hk => h2 k (by omega)⟩, h2 n (by omega)⟩

/-! ### Three meters -/
structure Tri (a b c : Mt) : Prop where
  m : c.m ≤ a.m + b.m
  s : c.s ≤ a.s + b.s
  u : c.u ≤ a.u + b.u
theorem Tri.step {a b c : Mt} (h : Tri a b c) (ha : 0 ≤ a.m) (hb : 0 ≤ b.m) (w1 w2 w3 k i : Int) {x y z : Int} (hx : 0 ≤ x) (hy : 0 ≤ y) (hz : z ≤ x + y) : Tri (stepM w1 k i x a) (stepM w2 k i y b) (stepM w3 k i z c) := by
  obtain ⟨h1, h2, h3⟩ := h
  refine ⟨?_, ?_, ?_⟩ <;> simp only [stepM]
  · split <;> split <;> split <;> omega
  · omega
  · split <;> split <;> split <;> omega
theorem Tri.inner {a b c : Mt} (h : Tri a b c) (ha : Inv a) (hb : Inv b) (w1 w2 w3 k : Int) (P Q R : List Int) : ∀ n, Tri (inner w1 k P Q a n) (inner w2 k Q R b n) (inner w3 k P R c n)
  | 0 => h
  | n + 1 => (Tri.inner h ha hb w1 w2 w3 k P Q R n).step (ha.inner w1 k P Q n).m (hb.inner w2 k Q R n).m _ _ _ _ _ (dist_nonneg _ _) (dist_nonneg _ _) (dist_tri _ _ _)
theorem Tri.outer {a b c : Mt} (h : Tri a b c) (ha : Inv a) (hb : Inv b) (w1 w2 w3 : Int) (lp lq lr : List S58) (hs : ∀ k : Nat, k < lp.length → (rd_T58 lq k).f2.length = (rd_T58 lp k).f2.length) : ∀ n, n ≤ lp.length → Tri (outer w1 lp lq a n) (outer w2 lq lr b n) (outer w3 lp lr c n)
  | 0, _ => h
  | n + 1, hn => by
    simp only [sides.outer]
    rw [hs n (by omega)]
    exact (Tri.outer h ha hb w1 w2 w3 lp lq lr hs n (by omega)).inner (ha.outer w1 lp lq n) (hb.outer w2 lq lr n) w1 w2 w3 n _ _ _ _

/-! ### The same picture -/
theorem words_l0 (P Q : List Int) (hl : P.length = Q.length) (hs : P.length ≤ 65536) : ∀ (d k i : Nat), i ≤ P.length → P.length - i = d → d < k →
    ∃ b, halidehelp_Words.l0 k P Q i = some b ∧ (b = true ↔ ∀ j : Nat, i ≤ j → j < P.length → rd P j = rd Q j)
  | d, 0, i, h1, h2, h3 => by omega
  | d, k + 1, i, h1, h2, h3 => by
    simp only [halidehelp_Words.l0]
    by_cases c1 : (i : Int) < (P.length : Int)
    · rw [if_pos c1, if_pos (by omega), if_pos (by omega)]
      by_cases c2 : rd P i = rd Q i
      · rw [if_pos c2, wrap_id (x := (i : Int) + 1) (by omega) (by omega)]
        obtain ⟨b, hb, hr⟩ := words_l0 P Q hl hs (P.length - (i + 1)) k (i + 1) (by omega) rfl (by omega)
        refine ⟨b, by simpa using hb, hr.trans ⟨fun h j h4 h5 => ?_, fun h j h4 h5 => h j (by omega) h5⟩⟩
        rcases Nat.eq_or_lt_of_le h4 with rfl | h6
        · exact c2
        · exact h j (by omega) h5
      · rw [if_neg c2]; exact ⟨false, rfl, by simp; exact ⟨i, by omega, by omega, c2⟩⟩
    · rw [if_neg c1]; exact ⟨true, rfl, by simp; intro j h4 h5; omega⟩

theorem plane_same (x y : S58) (h0 : x.f0 = y.f0) (h1 : x.f1 = y.f1) (hl : x.f2.length = y.f2.length) (hs : x.f2.length ≤ 65536) (k : Nat) (hk : 65537 ≤ k) :
    ∃ b, halidehelp_Plane.f k x.f0 x.f1 x.f2 y.f0 y.f1 y.f2 = some b ∧ (b = true ↔ ∀ j : Nat, j < x.f2.length → rd x.f2 j = rd y.f2 j) := by
  unfold halidehelp_Plane.f halidehelp_Words.f
  rw [if_pos h0, if_pos h1, if_pos (by omega)]
  obtain ⟨b, hb, hr⟩ := words_l0 x.f2 y.f2 hl hs x.f2.length k 0 (by omega) (by omega) (by omega)
  refine ⟨b, ?_, hr.trans ⟨fun h j h5 => h j (by omega) h5, fun h j _ h5 => h j h5⟩⟩
  rw [show ((0 : Nat) : Int) = 0 from rfl] at hb
  rw [hb]; rfl

structure Alike (lp lq : List S58) : Prop where
  len : lp.length = lq.length
  few : lp.length ≤ 4
  f0 : ∀ k : Nat, k < lp.length → (rd_T58 lp k).f0 = (rd_T58 lq k).f0
  f1 : ∀ k : Nat, k < lp.length → (rd_T58 lp k).f1 = (rd_T58 lq k).f1
  f2 : ∀ k : Nat, k < lp.length → (rd_T58 lp k).f2.length = (rd_T58 lq k).f2.length
  small : ∀ k : Nat, k < lp.length → (rd_T58 lp k).f2.length ≤ 65536

theorem pic_l0 (sp sq : Int) (lp lq : List S58) (ha : Alike lp lq) : ∀ (d k i : Nat), i ≤ lp.length → lp.length - i = d → 65537 + d < k →
    ∃ b, halidehelp_Picture.l0 k i sp lp sq lq = some b ∧ (b = true ↔ ∀ n : Nat, i ≤ n → n < lp.length → ∀ j : Nat, j < (rd_T58 lp n).f2.length → rd (rd_T58 lp n).f2 j = rd (rd_T58 lq n).f2 j)
  | d, 0, i, h1, h2, h3 => by omega
  | d, k + 1, i, h1, h2, h3 => by
    have hlen := ha.len
    have hfew := ha.few
    simp only [halidehelp_Picture.l0]
    by_cases c1 : (i : Int) < (lp.length : Int)
    · rw [if_pos c1, if_pos (by omega), if_pos (by omega)]
      obtain ⟨b, hb, hr⟩ := plane_same (rd_T58 lp i) (rd_T58 lq i) (ha.f0 i (by omega)) (ha.f1 i (by omega)) (ha.f2 i (by omega)) (ha.small i (by omega)) k (by omega)
      rw [hb]
      simp only [Option.bind_some]
      cases b with
      | true =>
        rw [if_pos rfl, wrap_id (x := (i : Int) + 1) (by omega) (by omega)]
        obtain ⟨b', hb', hr'⟩ := pic_l0 sp sq lp lq ha (lp.length - (i + 1)) k (i + 1) (by omega) rfl (by omega)
        refine ⟨b', by simpa using hb', hr'.trans ⟨fun h n h4 h5 => ?_, fun h n h4 h5 => h n (by omega) h5⟩⟩
        rcases Nat.eq_or_lt_of_le h4 with rfl | h6
        · exact hr.1 rfl
        · exact h n (by omega) h5
      | false =>
        refine ⟨false, by simp, ?_⟩
        simp only [Bool.false_eq_true, false_iff] at hr ⊢
        exact fun h => hr (h i (Nat.le_refl _) (by omega))
    · rw [if_neg c1]; exact ⟨true, rfl, by simp; intro n h4 h5; omega⟩

theorem pic_f (sp : Int) (lp lq : List S58) (ha : Alike lp lq) :
    ∃ b, halidehelp_Picture.f 65550 sp lp sp lq = some b ∧ (b = true ↔ ∀ n : Nat, n < lp.length → ∀ j : Nat, j < (rd_T58 lp n).f2.length → rd (rd_T58 lp n).f2 j = rd (rd_T58 lq n).f2 j) := by
  have hlen := ha.len
  have hfew := ha.few
  obtain ⟨b, hb, hr⟩ := pic_l0 sp sp lp lq ha lp.length 65549 0 (by omega) (by omega) (by omega)
  refine ⟨b, ?_, hr.trans ⟨fun h n h5 => h n (by omega) h5, fun h n _ h5 => h n h5⟩⟩
  unfold halidehelp_Picture.f
  rw [if_pos rfl]
  have hne : ((lp.length : Int) != (lq.length : Int)) = false := by simp [hlen]
  rw [hne, show (65550 : Nat) = 65549 + 1 from rfl]
  simp only [halidehelp_Picture.j0]
  simpa using hb

end Go.Proofs.YtconnknbmhbmoaaGreat.sides
namespace Go.Proofs.YtconnknbmhbmoaaGreat.sides
open Go.RowKit Go.Proofs.YtconnknbmhbmoaaGreatW.PrintWords Go.Proofs.YtconnknbmhbmoaaGreat.PSid
set_option linter.unusedVariables false
set_option linter.unusedSimpArgs false

def UL (l : List S58) : Prop := ∀ j : Nat, j < l.length → AllU (rd_T58 l j).f2

/-- what Apart answers -/
def apartR (sp : Int) (lp : List S58) (sq : Int) (lq : List S58) : Mt × Int :=
  match picture_Check.f 20 sp lp with
  | some ep => if ep = 0 then (match picture_Check.f 20 sq lq with
    | some eq => if eq = 0 then (match audit_fit.f sp lp sq lq with
      | some true => (outer (rd_T58 lp 0).f0 lp lq zeroM lp.length, 0)
      | _ => (zeroM, 270)) else (zeroM, eq)
    | none => (zeroM, 270)) else (zeroM, ep)
  | none => (zeroM, 270)

theorem lens_of {lp lq : List S58} (hp : Good lp) (hq : Good lq) (hl : lp.length = lq.length) (h0 : (rd_T58 lp 0).f0 = (rd_T58 lq 0).f0) (h1 : (rd_T58 lp 0).f1 = (rd_T58 lq 0).f1) (k : Nat) (hk : k < lp.length) :
    (rd_T58 lp k).f0 = (rd_T58 lq k).f0 ∧ (rd_T58 lp k).f1 = (rd_T58 lq k).f1 ∧ (rd_T58 lp k).f2.length = (rd_T58 lq k).f2.length := by
  have a := hp.same k hk
  have b := hq.same k (by omega)
  have c := (hp.ok k hk).size
  have d := (hq.ok k (by omega)).size
  have e : (rd_T58 lp k).f0 = (rd_T58 lq k).f0 := by rw [a.1, b.1, h0]
  have f : (rd_T58 lp k).f1 = (rd_T58 lq k).f1 := by rw [a.2, b.2, h1]
  exact ⟨e, f, by rw [e, f, ← d] at c; omega⟩

theorem Fit.of {lp lq : List S58} (hp : Good lp) (hq : Good lq) (hl : lp.length = lq.length) (h0 : (rd_T58 lp 0).f0 = (rd_T58 lq 0).f0) (h1 : (rd_T58 lp 0).f1 = (rd_T58 lq 0).f1) (up : UL lp) (uq : UL lq) : Fit lp lq where
  few := hp.few
  len := hl.symm
  small := fun k hk => (hp.ok k hk).small
  same := fun k hk => (lens_of hp hq hl h0 h1 k hk).2.2.symm
  up := up
  uq := fun k hk => uq k (by omega)

/-- where the error is 0 -/
structure R0 (sp : Int) (lp : List S58) (sq : Int) (lq : List S58) : Prop where
  cp : picture_Check.f 20 sp lp = some 0
  cq : picture_Check.f 20 sq lq = some 0
  fit : audit_fit.f sp lp sq lq = some true
  gp : Good lp
  gq : Good lq
  esp : sp = sq
  len : lp.length = lq.length
  w : (rd_T58 lp 0).f0 = (rd_T58 lq 0).f0
  h : (rd_T58 lp 0).f1 = (rd_T58 lq 0).f1
  val : apartR sp lp sq lq = (outer (rd_T58 lp 0).f0 lp lq zeroM lp.length, 0)

theorem R0.of {sp sq : Int} {lp lq : List S58} (h : (apartR sp lp sq lq).2 = 0) : R0 sp lp sq lq := by
  obtain ⟨ep, hep, gp⟩ := check_f sp lp
  obtain ⟨eq, heq, gq⟩ := check_f sq lq
  unfold apartR at h
  simp only [hep, heq] at h
  by_cases c1 : ep = 0
  · rw [if_pos c1] at h
    by_cases c2 : eq = 0
    · rw [if_pos c2] at h
      have hp := gp c1
      have hq := gq c2
      obtain ⟨b, hb, hr⟩ := fit_f sp sq lp lq hp.pos hq.pos
      rw [hb] at h
      cases b with
      | false => simp at h
      | true =>
        obtain ⟨h1, h2, h3, h4⟩ := hr.1 rfl
        refine ⟨by rw [hep, c1], by rw [heq, c2], hb, hp, hq, h1, h2, h3, h4, ?_⟩
        unfold apartR
        simp only [hep, heq, c1, c2, if_true, hb]
    · rw [if_neg c2] at h; exact absurd h c2
  · rw [if_neg c1] at h; exact absurd h c1

theorem R0.fitOf {sp sq : Int} {lp lq : List S58} (h : R0 sp lp sq lq) (up : UL lp) (uq : UL lq) : Fit lp lq := Fit.of h.gp h.gq h.len h.w h.h up uq

theorem apart_any (sp sq : Int) (Ap Aq : Option Addr) (cp cq : Nat) (lp lq : List S58) (w : World)
    (hp : Kd.C k58 w Ap lp.length lp) (hcp : lp.length ≤ cp) (hq : Kd.C k58 w Aq lq.length lq) (hcq : lq.length ≤ cq) (up : UL lp) (uq : UL lq) :
    Calls Tryz.prog 14 #[.agg #[.int .i64 sp, .slice Ap lp.length cp], .agg #[.int .i64 sq, .slice Aq lq.length cq]] w fun e w' => e = told (apartR sp lp sq lq).1 (apartR sp lp sq lq).2 ∧ Below w.heap.size w w' := by
  obtain ⟨ep, hep, gp⟩ := check_f sp lp
  obtain ⟨eq, heq, gq⟩ := check_f sq lq
  by_cases c1 : ep = 0
  · by_cases c2 : eq = 0
    · have hgp := gp c1
      have hgq := gq c2
      obtain ⟨b, hb, hr⟩ := fit_f sp sq lp lq hgp.pos hgq.pos
      rw [c1] at hep
      rw [c2] at heq
      cases b with
      | false =>
        have := apart_fit 20 sp sq Ap Aq cp cq lp lq w hp hcp hq hcq hep heq hb
        simpa only [apartR, hep, heq, if_true, hb] using this
      | true =>
        obtain ⟨h1, h2, h3, h4⟩ := hr.1 rfl
        have := apart_ok 20 sp sq Ap Aq cp cq lp lq w hp hcp hq hcq hep heq hb hgp.pos (Fit.of hgp hgq h2 h3 h4 up uq) (by have := (hgp.ok 0 hgp.pos).w; rw [show ((0 : Nat) : Int) = 0 from rfl] at this; omega)
        simpa only [apartR, hep, heq, if_true, hb] using this
    · rw [c1] at hep
      have := apart_q 20 sp sq eq Ap Aq cp cq lp lq w hp hcp hq hcq hep heq c2
      simpa only [apartR, hep, heq, if_true, if_neg c2] using this
  · have := apart_p 20 sp sq ep Ap Aq cp cq lp lq w hp hcp hq hcq hep c1
    simpa only [apartR, hep, if_neg c1] using this

theorem inv_zero : Inv zeroM := ⟨by decide, by decide, by decide, by decide, by decide⟩
theorem up_zero : Up 0 zeroM := ⟨by decide, by decide, by decide, by decide, by decide, by decide⟩

theorem fit_true {sp sq : Int} {lp lq : List S58} (hp : Good lp) (hq : Good lq) (h : sp = sq ∧ lp.length = lq.length ∧ (rd_T58 lp 0).f0 = (rd_T58 lq 0).f0 ∧ (rd_T58 lp 0).f1 = (rd_T58 lq 0).f1) : audit_fit.f sp lp sq lq = some true := by
  obtain ⟨b, hb, hr⟩ := fit_f sp sq lp lq hp.pos hq.pos
  rw [hb, hr.2 h]

/-- both ways alike -/
theorem both_ways {sp sq : Int} {lp lq : List S58} (h : (apartR sp lp sq lq).2 = 0) : apartR sq lq sp lp = apartR sp lp sq lq := by
  have r := R0.of h
  have hf := fit_true r.gq r.gp ⟨r.esp.symm, r.len.symm, r.w.symm, r.h.symm⟩
  rw [r.val]
  unfold apartR
  simp only [r.cp, r.cq, if_true, hf]
  rw [← r.w, ← r.len, outer_comm _ lp lq zeroM (fun k hk => (lens_of r.gp r.gq r.len r.w r.h k hk).2.2.symm) lp.length (Nat.le_refl _)]

/-- a third picture's error is the same from both -/
theorem third_err {sp sq sr : Int} {lp lq lr : List S58} (h : (apartR sp lp sq lq).2 = 0) : (apartR sq lq sr lr).2 = (apartR sp lp sr lr).2 := by
  have r := R0.of h
  obtain ⟨er, her, gr⟩ := check_f sr lr
  unfold apartR
  simp only [r.cp, r.cq, if_true, her]
  by_cases c : er = 0
  · have hr := gr c
    obtain ⟨b, hb, hbr⟩ := fit_f sp sr lp lr r.gp.pos hr.pos
    obtain ⟨b', hb', hbr'⟩ := fit_f sq sr lq lr r.gq.pos hr.pos
    have : b = b' := by
      rw [Bool.eq_iff_iff, hbr, hbr', r.esp, r.len, r.w, r.h]
    subst this
    rw [if_pos c, if_pos c, hb, hb']
    cases b <;> rfl
  · rw [if_neg c, if_neg c]

/-- three pictures -/
theorem three {sp sq sr : Int} {lp lq lr : List S58} (h : (apartR sp lp sq lq).2 = 0) (h' : (apartR sq lq sr lr).2 = 0) : Tri (apartR sp lp sq lq).1 (apartR sq lq sr lr).1 (apartR sp lp sr lr).1 := by
  have r := R0.of h
  have r' := R0.of h'
  have r'' := R0.of ((third_err (sr := sr) (lr := lr) h).symm.trans h')
  rw [r.val, r'.val, r''.val]
  rw [← r.len]
  exact Tri.outer (a := zeroM) (b := zeroM) (c := zeroM) ⟨by decide, by decide, by decide⟩ inv_zero inv_zero _ _ _ lp lq lr (fun k hk => (lens_of r.gp r.gq r.len r.w r.h k hk).2.2.symm) lp.length (Nat.le_refl _)

/-- one answer -/
theorem one {sp sq : Int} {lp lq : List S58} (h : (apartR sp lp sq lq).2 = 0) (up : UL lp) (uq : UL lq) :
    Inv (apartR sp lp sq lq).1 ∧ Up 262144 (apartR sp lp sq lq).1 ∧ ∃ b, halidehelp_Picture.f 65550 sp lp sq lq = some b ∧ (b = true ↔ (apartR sp lp sq lq).1.s = 0) := by
  have r := R0.of h
  have hF := r.fitOf up uq
  rw [r.val]
  refine ⟨inv_zero.outer _ _ _ _, (up_zero.outer hF _ lp.length (Nat.le_refl _)).le (by have := r.gp.few; omega), ?_⟩
  obtain ⟨b, hb, hr⟩ := pic_f sp lp lq ⟨r.len, r.gp.few, fun k hk => (lens_of r.gp r.gq r.len r.w r.h k hk).1, fun k hk => (lens_of r.gp r.gq r.len r.w r.h k hk).2.1, fun k hk => (lens_of r.gp r.gq r.len r.w r.h k hk).2.2, fun k hk => (r.gp.ok k hk).small⟩
  refine ⟨b, by rw [← r.esp]; exact hb, hr.trans ?_⟩
  show _ ↔ (outer (rd_T58 lp 0).f0 lp lq zeroM lp.length).s = 0
  rw [outer_zero _ lp lq inv_zero]
  constructor
  · exact fun hh => ⟨rfl, fun k hk i hi => (dist_zero ((hF.up k hk).at_ hi) ((hF.uq k hk).at_ (by rw [hF.same k hk]; exact hi))).2 (hh k hk i hi)⟩
  · exact fun hh k hk i hi => (dist_zero ((hF.up k hk).at_ hi) ((hF.uq k hk).at_ (by rw [hF.same k hk]; exact hi))).1 (hh.2 k hk i hi)

end Go.Proofs.YtconnknbmhbmoaaGreat.sides
