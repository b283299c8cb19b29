/- A part of the proof: what the law calls, told as it needs it. Condition: the samples are of 32 bits. -/
import Derived.Test.YtimghiiihjphiaaGreatTriR
import Derived.Test.YtimghiiihjphiaaGreatTriQ
namespace Go.Proofs.YtimghiiihjphiaaGreat.trips
open Go.RowKit Go.Proofs.YtimghiiihjphiaaGreatW.PrintWords Go.Proofs.YtimghiiihjphiaaGreat.PTri Go.Proofs.YtimghiiihjphiaaGreat.sides
set_option linter.unusedVariables false
set_option linter.unusedSimpArgs false

set_option maxHeartbeats 1600000 in
set_option maxRecDepth 100000 in
theorem trip_bad (w : World) (p q er : Int) (A : Option Addr) (cap : Nat) (l : List S37) (hr : Kd.C k37 w A l.length l) (hcap : l.length ≤ cap) (hck : picture_Check.f 20 p l = some er) (he : er ≠ 0) :
    Calls Tryz.prog 6 #[.agg #[.int .i64 p, .slice A l.length cap], .int .i64 q] w fun e w' => e = told zeroM er ∧ Below w.heap.size w w' := by
  have HX := Aside0.mk hr
  have HK := Aside0.mk hck
  have b0 : (er != 0) = true := by simpa using he
  clear hr hck he
  have HB0 := Aside0.mk (below_alloc (below_alloc (Below.refl w.heap.size w) (.cells #[.int .i64 p, .slice A l.length cap] 24 (0, 0))) (.cells zeroM.vals 28 (0, 0)))
  have BR := Aside0.mk (heap_alloc2_new w (.cells #[.int .i64 p, .slice A l.length cap] 24 (0, 0)) (.cells zeroM.vals 28 (0, 0)))
  go_enter Tryz.func6, Tryz.ntmps6
  go_wp2_with fail
  generalize HW0 : (w.alloc (.cells #[.int .i64 p, .slice A l.length cap] 24 (0, 0))).alloc (.cells zeroM.vals 28 (0, 0)) = W0 at HB0 BR
  replace HW0 : (w.alloc (.cells #[.int .i64 p, .slice A l.length cap] 24 (0, 0))).alloc (.cells #[.int .i64 0, .int .i64 0, .int .i64 0, .int .i64 0, .int .i64 0, .int .i64 0] 28 (0, 0)) = W0 := HW0
  rw [HW0]
  clear HW0
  refine (picture_Check.calls 20 p A cap l er W0 (Kd.C_below HX.out HB0.out) hcap HK.out).mono ?_
  rintro e w1 ⟨rfl, hb⟩
  have HB1 := Aside0.mk (below_step HB0.out hb)
  have BR1 := Aside0.mk (blk_below BR.out hb)
  have hz := BR1.out
  have g0 := blk_cell hz 0
  have g1 := blk_cell hz 1
  have g2 := blk_cell hz 2
  have g3 := blk_cell hz 3
  have g4 := blk_cell hz 4
  have g5 := blk_cell hz 5
  have f0 := blk_frozen hz 0
  have f1 := blk_frozen hz 1
  have f2 := blk_frozen hz 2
  have f3 := blk_frozen hz 3
  have f4 := blk_frozen hz 4
  have f5 := blk_frozen hz 5
  simp [zeroM, Mt.vals] at g0 g1 g2 g3 g4 g5
  clear hz hb HB0 BR
  go_wp2
  try simp only [Exit.inBlock, Exit.then]
  refine bodyPost_ret (results_cell_tmp rfl _ _ (w.heap.size + 1) 28 zeroM.vals (0, 0) _ (.int .i64 er) rfl rfl (set6 BR1.out rfl zeroM) Tryz.underlying28 (by kernel_rfl)) rfl ⟨rfl, below6 HB1.out (by omega) _ _ _ _ _ _⟩

theorem up_to {α : Type} {f : Nat → Option α} (hm : ∀ k, LeO (f k) (f (k + 1))) {a : α} {k : Nat} (h : f k = some a) : ∀ {K : Nat}, k ≤ K → f K = some a := by
  intro K hK
  obtain ⟨d, rfl⟩ := Nat.exists_eq_add_of_le hK
  clear hK
  induction d with
  | zero => exact h
  | succ d ih => exact hm _ _ ih

/-- the counts, as the law reads them -/
theorem classes_six (w : World) {sp : Int} {l : List S37} (h : Fine sp l) (hs : ∀ j : Nat, j < l.length → (rd_T37 l j).f2.length ≤ 2000) (A : Option Addr) (cap : Nat) (hr : Kd.C k37 w A l.length l) (hcap : l.length ≤ cap) :
    Calls Tryz.prog 7 #[.agg #[.int .i64 sp, .slice A l.length cap]] w fun e w' => ∃ (ad : Addr) (c' : Nat) (a b c d x y : Int), e = .returned (.tuple #[.slice (some ad) 6 c', .int .i64 0]) ∧ classes.CI a b c d x y (classes.tot l l.length) ∧
      (w'.cell? (ad.add 0) = some (.int .i64 a) ∧ w'.cell? (ad.add 1) = some (.int .i64 b) ∧ w'.cell? (ad.add 2) = some (.int .i64 c) ∧ w'.cell? (ad.add 3) = some (.int .i64 d) ∧ w'.cell? (ad.add 4) = some (.int .i64 x) ∧ w'.cell? (ad.add 5) = some (.int .i64 y)) ∧ Below w.heap.size w w' := by
  have g4 := h.good.few
  obtain ⟨a, b, c, d, x, y, hc, hi⟩ := classes.call_ci l 2000 hs l.length (Nat.le_refl _) (by have : 2000 * l.length ≤ 2000 * 4 := Nat.mul_le_mul_left _ g4; omega)
  refine (classes.classes_good w sp A cap l hr hcap 20 h.chk (by omega) (fun j hj => by have := hs j hj; omega)).mono ?_
  rintro e w' ⟨A', c', he, hle, hC, hb⟩
  rw [hc] at he hC hle
  obtain ⟨ad, hA, k0⟩ := Kd.at_int hC 0 (by omega) (by simp)
  obtain ⟨ad1, hA1, k1⟩ := Kd.at_int hC 1 (by omega) (by simp)
  obtain ⟨ad2, hA2, k2⟩ := Kd.at_int hC 2 (by omega) (by simp)
  obtain ⟨ad3, hA3, k3⟩ := Kd.at_int hC 3 (by omega) (by simp)
  obtain ⟨ad4, hA4, k4⟩ := Kd.at_int hC 4 (by omega) (by simp)
  obtain ⟨ad5, hA5, k5⟩ := Kd.at_int hC 5 (by omega) (by simp)
  rw [hA] at hA1 hA2 hA3 hA4 hA5 he
  obtain rfl := Option.some.inj hA1
  obtain rfl := Option.some.inj hA2
  obtain rfl := Option.some.inj hA3
  obtain rfl := Option.some.inj hA4
  obtain rfl := Option.some.inj hA5
  exact ⟨ad, c', a, b, c, d, x, y, he, hi, ⟨k0, k1, k2, k3, k4, k5⟩, hb⟩

/-- the bits, as the law reads them -/
theorem bits_list (w : World) {sp : Int} {l : List S37} (h : Fine sp l) (hs : ∀ j : Nat, j < l.length → (rd_T37 l j).f2.length ≤ 2000) (A : Option Addr) (cap : Nat) (hr : Kd.C k37 w A l.length l) (hcap : l.length ≤ cap) :
    Calls Tryz.prog 8 #[.agg #[.int .i64 sp, .slice A l.length cap]] w fun e w' => ∃ (ad : Addr) (c' : Nat) (bl : Nat → Int), e = .returned (.tuple #[.slice (some ad) l.length c', .int .i64 0]) ∧ (∀ j : Nat, j < l.length → w'.cell? (ad.add j) = some (.int .i64 (bl j)) ∧ ((rd_T37 l j).f2.length : Int) ≤ bl j ∧ bl j ≤ 56 * ((rd_T37 l j).f2.length : Int)) ∧ Below w.heap.size w w' := by
  obtain ⟨e2, he2, hg2⟩ := classes.check_f sp l
  have hcc := h.chk
  rw [he2] at hcc
  have g2 := hg2 (Option.some.inj hcc)
  have g4 := h.good.few
  have hex : ∀ j : Nat, ∃ r : List Int, j < l.length → r.length = (rd_T37 l j).f2.length ∧ codec_Rests.f 70000 (rd_T37 l j).f0 (rd_T37 l j).f1 (rd_T37 l j).f2 = some (r, 0) := by
    intro j
    by_cases hj : j < l.length
    · have := hs j hj
      obtain ⟨r, h1, h2, h3⟩ := classes.rests_f (g2.ok j hj) (h.up j hj) (g2.ok j hj).chk 70000 (by omega)
      exact ⟨r, fun _ => ⟨h1, h3⟩⟩
    · exact ⟨[], fun h => absurd h hj⟩
  obtain ⟨rs, hrs⟩ := Classical.axiomOfChoice hex
  have hck : picture_Check.f 70000 sp l = some 0 := up_to (f := fun k => picture_Check.f k sp l) (fun k => picture_Check.mono _ _ k) h.chk (by omega)
  refine (classes.bits_good w sp A cap l rs hr hcap 70000 hck (by omega) (fun j hj => ⟨(hrs j hj).2, by rw [(hrs j hj).1]; exact hs j hj⟩)).mono ?_
  rintro e w' ⟨v, rfl, ho, hb⟩
  obtain ⟨A', c', rfl, hle, hC⟩ := Kd.R_reads ho
  rw [classes.bitsOf_length] at hC ⊢
  have hp := h.good.pos
  obtain ⟨ad, hA, _⟩ := Kd.at_int hC 0 (by omega) (by omega)
  subst hA
  refine ⟨ad, c', fun j => (classes.stS (rs j) (rs j).length).2.2, rfl, fun j hj => ?_, hb⟩
  obtain ⟨ad2, hA2, k2⟩ := Kd.at_int hC j (by omega) (by omega)
  obtain rfl := Option.some.inj hA2
  have e1 : rd (classes.bitsOf rs l.length) j = (classes.stS (rs j) (rs j).length).2.2 := by simp [rd, classes.bitsOf, List.getD_eq_getElem?_getD, hj]
  rw [e1, Int.toNat_natCast] at k2
  have h1 := classes.stS_lo (rs j) (rs j).length
  have h2 := (classes.stS_ok (rs j) (rs j).length).2.2
  refine ⟨k2, ?_, ?_⟩
  · show _ ≤ (classes.stS (rs j) (rs j).length).2.2
    rw [← (hrs j hj).1]; exact h1
  · show (classes.stS (rs j) (rs j).length).2.2 ≤ _
    rw [← (hrs j hj).1]; exact h2
end Go.Proofs.YtimghiiihjphiaaGreat.trips
