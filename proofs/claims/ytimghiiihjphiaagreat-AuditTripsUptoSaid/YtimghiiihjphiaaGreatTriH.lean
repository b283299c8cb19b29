/- A part of the proof: lifting and dropping, by the program's own text; one undoes the other. Condition: the samples are of 32 bits. -/
import Derived.Test.YtimghiiihjphiaaGreatTriB
import Derived.Test.YtimghiiihjphiaaGreatSidE
namespace Go.Proofs.YtimghiiihjphiaaGreat.trips
open Go.RowKit Go.Proofs.YtimghiiihjphiaaGreatW.PrintWords Go.Proofs.YtimghiiihjphiaaGreat.PTri
set_option linter.unusedVariables false
set_option linter.unusedSimpArgs false

def key (x : Int) : Int := if x < 2147483648 then (x + 2147483648) % 4294967296 else (4294967295 - x) % 4294967296
def frk (x : Int) : Int := if x ≥ 2147483648 then (x - 2147483648) % 4294967296 else (4294967295 - x) % 4294967296
def hlv (x : Int) : Int := wrap32 x / 2 % 4294967296
theorem key_any (a : Int) (w : World) : Calls Tryz.prog 40 #[.int .u32 a] w fun e w' => e = .returned (.int .u32 (key a)) ∧ Below w.heap.size w w' :=
  (bits_Key.calls a (key a) w (by unfold bits_Key.f key; split <;> rfl)).mono fun _ _ h => ⟨h.1, h.2.below⟩
theorem frk_any (a : Int) (w : World) : Calls Tryz.prog 94 #[.int .u32 a] w fun e w' => e = .returned (.int .u32 (frk a)) ∧ Below w.heap.size w w' :=
  (bits_FromKey.calls a (frk a) w (by unfold bits_FromKey.f frk; split <;> rfl)).mono fun _ _ h => ⟨h.1, h.2.below⟩
theorem hlv_any (a : Int) (w : World) : Calls Tryz.prog 138 #[.int .u32 a] w fun e w' => e = .returned (.int .u32 (hlv a)) ∧ Below w.heap.size w w' :=
  (space_halved.calls a (hlv a) w rfl).mono fun _ _ h => ⟨h.1, h.2.below⟩

def lco (a c : Int) : Int := (key a - key c) % 4294967296
def ltt (a c : Int) : Int := (key c + hlv (lco a c)) % 4294967296
def lcg (a b c : Int) : Int := (key b - ltt a c) % 4294967296
def lx (a b c : Int) : Int := frk ((ltt a c + hlv (lcg a b c)) % 4294967296)
def ly (a b c : Int) : Int := frk ((lcg a b c + 2147483648) % 4294967296)
def lz (a c : Int) : Int := frk ((lco a c + 2147483648) % 4294967296)
def dg (b : Int) : Int := (key b - 2147483648) % 4294967296
def dt (a b : Int) : Int := (key a - hlv (dg b)) % 4294967296
def db (a b c : Int) : Int := (dt a b - hlv (dg c)) % 4294967296
def dx (a b c : Int) : Int := frk ((db a b c + dg c) % 4294967296)
def dy (a b : Int) : Int := frk ((dg b + dt a b) % 4294967296)
def dz (a b c : Int) : Int := frk (db a b c)

set_option maxHeartbeats 1600000 in
set_option maxRecDepth 100000 in
theorem lift_any (a b c : Int) (w : World) : Calls Tryz.prog 92 #[.int .u32 a, .int .u32 b, .int .u32 c] w fun e w' => e = .returned (.tuple #[.int .u32 (lx a b c), .int .u32 (ly a b c), .int .u32 (lz a c)]) ∧ Below w.heap.size w w' := by
  have HB0 := Aside0.mk (Below.refl w.heap.size w)
  go_enter Tryz.func92, Tryz.ntmps92
  go_wp2_with fail
  refine (key_any a _).mono ?_
  rintro e w1 ⟨rfl, hb⟩
  have HB1 := Aside0.mk (below_step HB0.out hb)
  clear hb HB0
  go_wp2_with fail
  refine (key_any c _).mono ?_
  rintro e w2 ⟨rfl, hb⟩
  have HB2 := Aside0.mk (below_step HB1.out hb)
  clear hb HB1
  go_wp2_with fail
  refine (key_any c _).mono ?_
  rintro e w3 ⟨rfl, hb⟩
  have HB3 := Aside0.mk (below_step HB2.out hb)
  clear hb HB2
  go_wp2_with fail
  refine (hlv_any _ _).mono ?_
  rintro e w4 ⟨rfl, hb⟩
  have HB4 := Aside0.mk (below_step HB3.out hb)
  clear hb HB3
  go_wp2_with fail
  refine (key_any b _).mono ?_
  rintro e w5 ⟨rfl, hb⟩
  have HB5 := Aside0.mk (below_step HB4.out hb)
  clear hb HB4
  go_wp2_with fail
  refine (hlv_any _ _).mono ?_
  rintro e w6 ⟨rfl, hb⟩
  have HB6 := Aside0.mk (below_step HB5.out hb)
  clear hb HB5
  go_wp2_with fail
  refine (frk_any _ _).mono ?_
  rintro e w7 ⟨rfl, hb⟩
  have HB7 := Aside0.mk (below_step HB6.out hb)
  clear hb HB6
  go_wp2_with fail
  refine (frk_any _ _).mono ?_
  rintro e w8 ⟨rfl, hb⟩
  have HB8 := Aside0.mk (below_step HB7.out hb)
  clear hb HB7
  go_wp2_with fail
  refine (frk_any _ _).mono ?_
  rintro e w9 ⟨rfl, hb⟩
  have HB9 := Aside0.mk (below_step HB8.out hb)
  clear hb HB8
  go_wp2
  go_ret3
  exact ⟨by simp [lx, ly, lz, lcg, ltt, lco], HB9.out⟩

set_option maxHeartbeats 1600000 in
set_option maxRecDepth 100000 in
theorem drop_any (a b c : Int) (w : World) : Calls Tryz.prog 91 #[.int .u32 a, .int .u32 b, .int .u32 c] w fun e w' => e = .returned (.tuple #[.int .u32 (dx a b c), .int .u32 (dy a b), .int .u32 (dz a b c)]) ∧ Below w.heap.size w w' := by
  have HB0 := Aside0.mk (Below.refl w.heap.size w)
  go_enter Tryz.func91, Tryz.ntmps91
  go_wp2_with fail
  refine (key_any b _).mono ?_
  rintro e w1 ⟨rfl, hb⟩
  have HB1 := Aside0.mk (below_step HB0.out hb)
  clear hb HB0
  go_wp2_with fail
  refine (key_any c _).mono ?_
  rintro e w2 ⟨rfl, hb⟩
  have HB2 := Aside0.mk (below_step HB1.out hb)
  clear hb HB1
  go_wp2_with fail
  refine (key_any a _).mono ?_
  rintro e w3 ⟨rfl, hb⟩
  have HB3 := Aside0.mk (below_step HB2.out hb)
  clear hb HB2
  go_wp2_with fail
  refine (hlv_any _ _).mono ?_
  rintro e w4 ⟨rfl, hb⟩
  have HB4 := Aside0.mk (below_step HB3.out hb)
  clear hb HB3
  go_wp2_with fail
  refine (hlv_any _ _).mono ?_
  rintro e w5 ⟨rfl, hb⟩
  have HB5 := Aside0.mk (below_step HB4.out hb)
  clear hb HB4
  go_wp2_with fail
  refine (frk_any _ _).mono ?_
  rintro e w6 ⟨rfl, hb⟩
  have HB6 := Aside0.mk (below_step HB5.out hb)
  clear hb HB5
  go_wp2_with fail
  refine (frk_any _ _).mono ?_
  rintro e w7 ⟨rfl, hb⟩
  have HB7 := Aside0.mk (below_step HB6.out hb)
  clear hb HB6
  go_wp2_with fail
  refine (frk_any _ _).mono ?_
  rintro e w8 ⟨rfl, hb⟩
  have HB8 := Aside0.mk (below_step HB7.out hb)
  clear hb HB7
  go_wp2
  go_ret3
  exact ⟨by simp [dx, dy, dz, db, dt, dg], HB8.out⟩

theorem key_in {x : Int} (h0 : 0 ≤ x) (h1 : x < 4294967296) : 0 ≤ key x ∧ key x < 4294967296 := by unfold key; split <;> omega
theorem frk_in (x : Int) : 0 ≤ frk x ∧ frk x < 4294967296 := by unfold frk; split <;> omega
theorem key_frk {x : Int} (h0 : 0 ≤ x) (h1 : x < 4294967296) : key (frk x) = x := by unfold key frk; split <;> split <;> omega
theorem frk_key {x : Int} (h0 : 0 ≤ x) (h1 : x < 4294967296) : frk (key x) = x := by unfold key frk; split <;> split <;> omega
theorem hlv_in (x : Int) : 0 ≤ hlv x ∧ hlv x < 4294967296 := by unfold hlv; omega
theorem mod_in (x : Int) : 0 ≤ x % 4294967296 ∧ x % 4294967296 < 4294967296 := by omega
theorem dg_of {x : Int} (h0 : 0 ≤ x) (h1 : x < 4294967296) : dg (frk ((x + 2147483648) % 4294967296)) = x := by
  unfold dg
  rw [key_frk (mod_in _).1 (mod_in _).2]
  omega
theorem trip_lift {a b c : Int} (a0 : 0 ≤ a) (a1 : a < 4294967296) (b0 : 0 ≤ b) (b1 : b < 4294967296) (c0 : 0 ≤ c) (c1 : c < 4294967296) :
    dx (lx a b c) (ly a b c) (lz a c) = a ∧ dy (lx a b c) (ly a b c) = b ∧ dz (lx a b c) (ly a b c) (lz a c) = c := by
  have g1 : dg (ly a b c) = lcg a b c := dg_of (mod_in _).1 (mod_in _).2
  have g2 : dg (lz a c) = lco a c := dg_of (mod_in _).1 (mod_in _).2
  have g3 : dt (lx a b c) (ly a b c) = ltt a c := by
    unfold dt
    rw [g1]
    unfold lx
    rw [key_frk (mod_in _).1 (mod_in _).2]
    have := mod_in (key c + hlv (lco a c))
    unfold ltt
    omega
  have g4 : db (lx a b c) (ly a b c) (lz a c) = key c := by
    unfold db
    rw [g3, g2]
    have := key_in c0 c1
    unfold ltt
    omega
  refine ⟨?_, ?_, ?_⟩
  · unfold dx
    rw [g4, g2]
    have := key_in a0 a1
    have h : (key c + lco a c) % 4294967296 = key a := by unfold lco; omega
    rw [h, frk_key a0 a1]
  · unfold dy
    rw [g1, g3]
    have := key_in b0 b1
    have h : (lcg a b c + ltt a c) % 4294967296 = key b := by unfold lcg; omega
    rw [h, frk_key b0 b1]
  · unfold dz
    rw [g4, frk_key c0 c1]
end Go.Proofs.YtimghiiihjphiaaGreat.trips
