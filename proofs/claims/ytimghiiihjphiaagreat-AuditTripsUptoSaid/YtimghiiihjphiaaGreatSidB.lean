/- A part of the proof: all samples of two pictures are measured. Conditions: the pictures are of one form; the meter lies in a block of its own. -/
import Derived.Test.YtimghiiihjphiaaGreatSidA
namespace Go.Proofs.YtimghiiihjphiaaGreat.sides
open Go.RowKit Go.Proofs.YtimghiiihjphiaaGreatW.PrintWords Go.Proofs.YtimghiiihjphiaaGreat.PTri
set_option linter.unusedVariables false
set_option linter.unusedSimpArgs false

def key (s : Int) : Int := if s < 2147483648 then s + 2147483648 else 4294967295 - s
def dist (a b : Int) : Int := if key b - key a < key a - key b then key a - key b else key b - key a

def U32 (x : Int) : Prop := 0 ≤ x ∧ x ≤ 4294967295

theorem key_u {x : Int} (h : U32 x) : 0 ≤ key x ∧ key x ≤ 4294967295 := by obtain ⟨h1, h2⟩ := h; unfold key; split <;> omega
theorem key_f {x : Int} (h : U32 x) : bits_Key.f x = some (key x) := by
  obtain ⟨h1, h2⟩ := h
  unfold bits_Key.f key
  split
  · rw [Int.emod_eq_of_lt (by omega) (by omega)]
  · rw [Int.emod_eq_of_lt (by omega) (by omega)]
theorem wrap_id {x : Int} (h1 : -9223372036854775808 ≤ x) (h2 : x ≤ 9223372036854775807) : wrap64 x = x := by unfold wrap64; omega
theorem apart_f {a b : Int} (ha : U32 a) (hb : U32 b) : bits_Apart.f a b = some (key b - key a) := by
  unfold bits_Apart.f
  rw [key_f hb, key_f ha]
  simp only [Option.bind_some]
  have := key_u ha; have := key_u hb
  rw [wrap_id (x := key b) (by omega) (by omega), wrap_id (x := key a) (by omega) (by omega), wrap_id (by omega) (by omega)]
theorem dist_f {a b : Int} (ha : U32 a) (hb : U32 b) : audit_distance.f a b = some (dist a b) := by
  unfold audit_distance.f
  rw [apart_f ha hb, apart_f hb ha]
  rfl
theorem dist_nonneg (a b : Int) : 0 ≤ dist a b := by unfold dist; split <;> omega
theorem dist_le {a b : Int} (ha : U32 a) (hb : U32 b) : dist a b ≤ 4294967295 := by
  have := key_u ha; have := key_u hb
  unfold dist; split <;> omega

def inner (wv k : Int) (P Q : List Int) (t : Mt) : Nat → Mt
  | 0 => t
  | n + 1 => stepM wv k n (dist (rd P n) (rd Q n)) (inner wv k P Q t n)

def outer (wv : Int) (lp lq : List S37) (t : Mt) : Nat → Mt
  | 0 => t
  | n + 1 => inner wv n (rd_T37 lp n).f2 (rd_T37 lq n).f2 (outer wv lp lq t n) (rd_T37 lp n).f2.length

/-- a meter of so many samples at most -/
structure Up (N : Int) (t : Mt) : Prop where
  m : 0 ≤ t.m
  u0 : 0 ≤ t.u
  u : t.u ≤ N
  s0 : 0 ≤ t.s
  s : t.s ≤ N * 4294967295
  mm : t.m ≤ 4294967295

theorem Up.step {N : Int} {t : Mt} (h : Up N t) (wv pl i : Int) {d : Int} (h0 : 0 ≤ d) (h1 : d ≤ 4294967295) : Up (N + 1) (stepM wv pl i d t) := by
  obtain ⟨a, b, c, e, f, g⟩ := h
  refine ⟨?_, ?_, ?_, ?_, ?_, ?_⟩ <;> simp only [stepM]
  · split <;> omega
  · split <;> omega
  · split <;> omega
  · omega
  · omega
  · split <;> omega

def AllU (l : List Int) : Prop := ∀ x ∈ l, U32 x
theorem AllU.at_ {l : List Int} (h : AllU l) {i : Nat} (hi : i < l.length) : U32 (rd l i) := by
  unfold rd
  rw [Int.toNat_natCast, List.getD_eq_getElem?_getD, List.getElem?_eq_getElem hi]
  exact h _ (List.getElem_mem hi)

theorem Up.inner {N : Int} {t : Mt} (h : Up N t) (wv k : Int) {P Q : List Int} (hP : AllU P) (hQ : AllU Q) : ∀ n : Nat, n ≤ P.length → n ≤ Q.length → Up (N + n) (inner wv k P Q t n)
  | 0, _, _ => by simpa [sides.inner] using h
  | n + 1, h1, h2 => by
    have := (Up.inner h wv k hP hQ n (by omega) (by omega)).step wv k n (dist_nonneg (rd P n) (rd Q n)) (dist_le (hP.at_ (by omega)) (hQ.at_ (by omega)))
    rw [show N + ((n + 1 : Nat) : Int) = N + n + 1 by push_cast; omega]
    exact this

theorem Up.le {N N' : Int} {t : Mt} (h : Up N t) (hN : N ≤ N') : Up N' t := ⟨h.m, h.u0, by have := h.u; omega, h.s0, by have := h.s; omega, h.mm⟩

/-- two lists of planes of one form, not many samples -/
structure Fit (lp lq : List S37) : Prop where
  few : lp.length ≤ 4
  len : lq.length = lp.length
  small : ∀ k : Nat, k < lp.length → (rd_T37 lp k).f2.length ≤ 65536
  same : ∀ k : Nat, k < lp.length → (rd_T37 lq k).f2.length = (rd_T37 lp k).f2.length
  up : ∀ k : Nat, k < lp.length → AllU (rd_T37 lp k).f2
  uq : ∀ k : Nat, k < lp.length → AllU (rd_T37 lq k).f2

theorem Up.outer {lp lq : List S37} (hf : Fit lp lq) {t : Mt} (h : Up 0 t) (wv : Int) : ∀ n : Nat, n ≤ lp.length → Up (n * 65536) (outer wv lp lq t n)
  | 0, _ => by simpa [sides.outer] using h
  | n + 1, h1 => by
    have ih := Up.outer hf h wv n (by omega)
    have h2 := hf.small n (by omega)
    have h3 := hf.same n (by omega)
    have := ih.inner wv n (hf.up n (by omega)) (hf.uq n (by omega)) (rd_T37 lp n).f2.length (Nat.le_refl _) (by omega)
    refine this.le ?_
    push_cast; omega

end Go.Proofs.YtimghiiihjphiaaGreat.sides
