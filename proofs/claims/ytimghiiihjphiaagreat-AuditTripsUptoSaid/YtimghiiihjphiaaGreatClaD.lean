/- A part of the proof: the writer of bits: one number. Condition: the writer lies in a block of its own, and so do its bytes; the state's numbers are small. -/
import Derived.Test.YtimghiiihjphiaaGreatClaC
namespace Go.Proofs.YtimghiiihjphiaaGreat.classes
open Go.RowKit Go.Proofs.YtimghiiihjphiaaGreatW.PrintWords
set_option linter.unusedVariables false
set_option linter.unusedSimpArgs false

/-- what is learnt -/
def nxS (sum cnt z : Int) : Int := if cnt + 1 = 64 then (sum + z) / 2 else sum + z
def nxC (cnt : Int) : Int := if cnt + 1 = 64 then 32 else cnt + 1
/-- a state that may be -/
structure StOK (sum cnt : Int) : Prop where
  c0 : 1 ≤ cnt
  c1 : cnt ≤ 63
  s0 : 0 ≤ sum
  s1 : sum ≤ cnt * 4294967296
theorem StOK.next {sum cnt z : Int} (h : StOK sum cnt) (h0 : 0 ≤ z) (h1 : z ≤ 4294967295) : StOK (nxS sum cnt z) (nxC cnt) := by
  obtain ⟨a, b, c, d⟩ := h
  unfold nxS nxC
  by_cases e : cnt + 1 = 64
  · rw [if_pos e, if_pos e]; refine ⟨?_, ?_, ?_, ?_⟩ <;> omega
  · rw [if_neg e, if_neg e]; refine ⟨?_, ?_, ?_, ?_⟩ <;> omega

theorem WR.setState {w W : World} {G : Nat} {sum cnt bits : Int} (h : WR w G sum cnt bits W) (s' : Int) : WR w G s' cnt bits (W.setCell ⟨G, 0, none⟩ (.int .u64 s')) := by
  obtain ⟨hB, hG, v, xs, n, h1, h2, h3⟩ := h
  have hv : some G ≠ v.ownBlock := by
    intro e
    obtain ⟨cells, hc⟩ := own_typed h2 G e.symm
    rw [h1] at hc
    injection hc with hc; injection hc with _ hc; exact absurd hc (by decide)
  exact ⟨below_set hB hG, hG, v, xs, n, blk_put h1 0 _ rfl, own_setCell h2 hv _, h3⟩
theorem WR.setCount {w W : World} {G : Nat} {sum cnt bits : Int} (h : WR w G sum cnt bits W) (c' : Int) : WR w G sum c' bits (W.setCell ⟨G, 1, none⟩ (.int .u64 c')) := by
  obtain ⟨hB, hG, v, xs, n, h1, h2, h3⟩ := h
  have hv : some G ≠ v.ownBlock := by
    intro e
    obtain ⟨cells, hc⟩ := own_typed h2 G e.symm
    rw [h1] at hc
    injection hc with hc; injection hc with _ hc; exact absurd hc (by decide)
  exact ⟨below_set hB hG, hG, v, xs, n, blk_put h1 1 _ rfl, own_setCell h2 hv _, h3⟩
theorem WR.drewN {w W : World} {G : Nat} {sum cnt bits : Int} (h : WR w G sum cnt bits W) (n : Nat) : WR w G sum cnt bits (W.drewN n) := by
  obtain ⟨hB, hG, v, xs, m, h1, h2, h3⟩ := h
  exact ⟨pw_below_drewN hB n, hG, v, xs, m, h1, ⟨h2.1, h2.2⟩, h3⟩
theorem WR.cells {w W : World} {G : Nat} {sum cnt bits : Int} (h : WR w G sum cnt bits W) : W.cell? ⟨G, 0, none⟩ = some (.int .u64 sum) ∧ W.cell? ⟨G, 1, none⟩ = some (.int .u64 cnt) ∧ W.cell? ⟨G, 3, none⟩ = some (.int .i64 bits) ∧ W.frozen? ⟨G, 0, none⟩ = false ∧ W.frozen? ⟨G, 1, none⟩ = false := by
  obtain ⟨hB, hG, v, xs, m, h1, h2, h3⟩ := h
  exact ⟨blk_cell h1 0, blk_cell h1 1, blk_cell h1 3, blk_frozen h1 0, blk_frozen h1 1⟩

set_option maxHeartbeats 800000 in
theorem learns_any (w W : World) (G : Nat) (sum cnt bits z : Int) (h : WR w G sum cnt bits W) (hS : StOK sum cnt) (hz0 : 0 ≤ z) (hz1 : z ≤ 4294967295) :
    Calls Tryz.prog 100 #[.pointer (some ⟨G, 0, none⟩), .int .u32 z] W fun e W' => e = .returned undef ∧ WR w G (nxS sum cnt z) (nxC cnt) bits W' := by
  obtain ⟨a, b, c, d⟩ := hS
  obtain ⟨c0, c1, _, f0, f1⟩ := h.cells
  have H := Aside0.mk h
  have u1 : IntKind.u64.wrap z = z := u64_id hz0 (by omega)
  have u2 : IntKind.u64.wrap (sum + z) = sum + z := u64_id (by omega) (by omega)
  have u3 : IntKind.u64.wrap (cnt + 1) = cnt + 1 := u64_id (by omega) (by omega)
  have u4 : 0 ≤ sum + z := by omega
  clear h
  by_cases e : cnt + 1 = 64
  · have e1 : (cnt + 1 == 64) = true := by simpa using e
    have e2 : nxS sum cnt z = (sum + z) / 2 := by unfold nxS; rw [if_pos e]
    have e3 : nxC cnt = 32 := by unfold nxC; rw [if_pos e]
    have E2 := Aside0.mk e2
    have E3 := Aside0.mk e3
    clear e e2 e3
    go_enter Tryz.func100, Tryz.ntmps100
    go_wp2
    go_end0
    exact ⟨rfl, by rw [E2.out, E3.out]; exact (((H.out.setState _).setCount _).setState _).setCount _⟩
  · have e1 : (cnt + 1 == 64) = false := by simpa using e
    have e2 : nxS sum cnt z = sum + z := by unfold nxS; rw [if_neg e]
    have e3 : nxC cnt = cnt + 1 := by unfold nxC; rw [if_neg e]
    have E2 := Aside0.mk e2
    have E3 := Aside0.mk e3
    clear e e2 e3
    go_enter Tryz.func100, Tryz.ntmps100
    go_wp2
    go_end0
    exact ⟨rfl, by rw [E2.out, E3.out]; exact (H.out.setState _).setCount _⟩

/-- how many bits a number takes -/
def costOf (z : Int) (k : Nat) : Int := if z / 2 ^ k < 24 then z / 2 ^ k + 1 + k else 56
theorem costOf_le {z : Int} {k : Nat} (hk : k ≤ 31) (h0 : 0 ≤ z) : 0 ≤ costOf z k ∧ costOf z k ≤ 56 := by
  have h2 : (0 : Int) < 2 ^ k := Int.pow_pos (by omega)
  have h1 : 0 ≤ z / 2 ^ k := Int.ediv_nonneg h0 (by omega)
  unfold costOf
  split <;> omega
theorem kq_le (sum cnt : Int) : ∀ d i, kq sum cnt d i ≤ i + d
  | 0, i => by simp [kq]
  | d + 1, i => by
    simp only [kq]
    split
    · have := kq_le sum cnt d (i + 1); omega
    · omega
theorem kOf_le (sum cnt : Int) : kOf sum cnt ≤ 31 := by have := kq_le sum cnt 31 0; unfold kOf; omega

set_option maxHeartbeats 1600000 in
theorem number_any (w W : World) (G : Nat) (sum cnt bits z : Int) (h : WR w G sum cnt bits W) (hS : StOK sum cnt) (hz0 : 0 ≤ z) (hz1 : z ≤ 4294967295) (hb0 : 0 ≤ bits) (hb1 : bits ≤ 10000000) :
    Calls Tryz.prog 63 #[.pointer (some ⟨G, 0, none⟩), .int .u32 z] W fun e W' => e = .returned undef ∧ WR w G (nxS sum cnt z) (nxC cnt) (bits + costOf z (kOf sum cnt)) W' := by
  obtain ⟨c0, c1, _, f0, f1⟩ := h.cells
  have H := Aside0.mk h
  have HS := Aside0.mk hS
  have hk := kOf_le sum cnt
  have hp : (0 : Int) < 2 ^ kOf sum cnt := Int.pow_pos (by omega)
  have q0 : 0 ≤ z / 2 ^ kOf sum cnt := Int.ediv_nonneg hz0 (by omega)
  have q1 : z / 2 ^ kOf sum cnt ≤ z := Int.ediv_le_self _ hz0
  have HK := Aside0.mk (k_any W G sum cnt c0 c1 (by have := hS.c0; omega) (by have := hS.c1; omega))
  have HC := Aside0.mk (show costOf z (kOf sum cnt) = if z / 2 ^ kOf sum cnt < 24 then z / 2 ^ kOf sum cnt + 1 + kOf sum cnt else 56 from rfl)
  clear h hS c0 c1 f0 f1
  obtain ⟨q, hq⟩ : ∃ q : Nat, z / 2 ^ kOf sum cnt = q := ⟨(z / 2 ^ kOf sum cnt).toNat, by omega⟩
  rw [hq] at HC q0 q1
  have HC' := Aside0.mk (show costOf z (kOf sum cnt) = if (q : Int) < 24 then (q : Int) + 1 + kOf sum cnt else 56 from HC.out)
  clear HC
  by_cases c : (q : Int) < 24
  · have c1 : decide ((q : Int) < 24) = true := decide_eq_true c
    have HC2 := Aside0.mk (show costOf z (kOf sum cnt) = (q : Int) + 1 + kOf sum cnt by have := HC'.out; rwa [if_pos c] at this)
    have hq24 : q ≤ 24 := by omega
    clear HC' c
    go_enter Tryz.func63, Tryz.ntmps63
    go_wp2_with fail
    refine HK.out.mono ?_
    rintro e w1 ⟨rfl, n, rfl⟩
    clear HK
    have H1 := Aside0.mk (H.out.drewN n)
    clear H
    go_wp2_with fail
    refine (ones_any w _ G q sum cnt bits H1.out hb0 (by omega) (by omega)).mono ?_
    rintro e w2 ⟨rfl, h2⟩
    have H2 := Aside0.mk h2
    clear h2 H1
    go_wp2_with fail
    refine (bit_any w _ G sum cnt (bits + q) 0 H2.out (by omega) (by omega)).mono ?_
    rintro e w3 ⟨rfl, h3⟩
    have H3 := Aside0.mk h3
    clear h3 H2
    go_wp2_with fail
    refine (low_any w _ G (kOf sum cnt) z sum cnt (bits + q + 1) H3.out (by omega) (by omega) (by omega)).mono ?_
    rintro e w4 ⟨rfl, h4⟩
    have H4 := Aside0.mk h4
    clear h4 H3
    go_wp2_with fail
    refine (learns_any w _ G sum cnt (bits + q + 1 + kOf sum cnt) z H4.out HS.out hz0 hz1).mono ?_
    rintro e w5 ⟨rfl, h5⟩
    have H5 := Aside0.mk h5
    clear h5 H4
    go_wp2
    go_end0
    exact ⟨rfl, by rw [HC2.out, show bits + ((q : Int) + 1 + kOf sum cnt) = bits + q + 1 + kOf sum cnt by omega]; exact H5.out⟩
  · have c1 : decide ((q : Int) < 24) = false := decide_eq_false c
    have HC2 := Aside0.mk (show costOf z (kOf sum cnt) = 56 by have := HC'.out; rwa [if_neg c] at this)
    clear HC' c
    go_enter Tryz.func63, Tryz.ntmps63
    go_wp2_with fail
    refine HK.out.mono ?_
    rintro e w1 ⟨rfl, n, rfl⟩
    clear HK
    have H1 := Aside0.mk (H.out.drewN n)
    clear H
    go_wp2_with fail
    refine (ones_any w _ G 24 sum cnt bits H1.out hb0 (by omega) (by omega)).mono ?_
    rintro e w2 ⟨rfl, h2⟩
    have H2 := Aside0.mk h2
    clear h2 H1
    go_wp2_with fail
    refine (low_any w _ G 32 z sum cnt (bits + 24) H2.out (by omega) (by omega) (by omega)).mono ?_
    rintro e w4 ⟨rfl, h4⟩
    have H4 := Aside0.mk h4
    clear h4 H2
    go_wp2_with fail
    refine (learns_any w _ G sum cnt (bits + 24 + 32) z H4.out HS.out hz0 hz1).mono ?_
    rintro e w5 ⟨rfl, h5⟩
    have H5 := Aside0.mk h5
    clear h5 H4
    go_wp2
    go_end0
    exact ⟨rfl, by rw [HC2.out, show bits + 56 = bits + 24 + 32 by omega]; exact H5.out⟩
end Go.Proofs.YtimghiiihjphiaaGreat.classes
