/- A part of the proof: the walk over all samples of two pictures. Conditions: the pictures are of one form; the meter lies in a block of its own. -/
import Derived.Test.YtimghiiihjphiaaGreatSidB
import Derived.LoopTactic
namespace Go.Proofs.YtimghiiihjphiaaGreat.sides
open Go.RowKit Go.Proofs.YtimghiiihjphiaaGreatW.PrintWords Go.Proofs.YtimghiiihjphiaaGreat.PTri
set_option linter.unusedVariables false
set_option linter.unusedSimpArgs false

set_option maxHeartbeats 1600000 in
set_option maxRecDepth 100000 in
theorem measured_any (sp sq : Int) (Ap Aq : Option Addr) (cp cq : Nat) (lp lq : List S37) (w W : World) (M V : Nat) (wv : Int) (t : Mt)
    (hp : Kd.C k37 w Ap lp.length lp) (hq : Kd.C k37 w Aq lq.length lq) (hf : Fit lp lq) (hB : Below w.heap.size w W) (hM : w.heap.size ≤ M) (hV : w.heap.size ≤ V) (hA : MAt M V wv t W) (hU : Up 0 t) (hw : 0 < wv) :
    Calls Tryz.prog 22 #[.agg #[.int .i64 sp, .slice Ap lp.length cp], .agg #[.int .i64 sq, .slice Aq lq.length cq], .func (.func 23) #[] #[.pointer (some ⟨M, 0, none⟩), .pointer (some ⟨V, 0, none⟩)]] W
      fun e W' => e = .returned undef ∧ MAt M V wv (outer wv lp lq t lp.length) W' ∧ ButM M W W' := by
  have HP := Aside0.mk hp
  have HQ := Aside0.mk hq
  have HF := Aside0.mk hf
  have HB := Aside0.mk hB
  have HA := Aside0.mk hA
  have HU := Aside0.mk hU
  have HM := Aside0.mk hM
  have HV := Aside0.mk hV
  have HW := Aside0.mk hw
  have b1 : M < W.heap.size := blk_lt hA.m
  clear hp hq hf hB hA hU hM hV hw
  go_enter Tryz.func22, Tryz.ntmps22
  go_wp2
  have HG := Aside0.mk (rfl : W.heap.size + 1 = W.heap.size + 1)
  go_loopw [13] (fun v13 wr => ∃ k : Nat, k ≤ lp.length ∧ v13 = .int .i64 k ∧ Aside0 (MAt M V wv (outer wv lp lq t k) wr) ∧ Aside0 (Below w.heap.size w wr) ∧ Aside0 (wr.heap[W.heap.size + 1]? = some (.cells #[.int .i64 sq, .slice Aq lq.length cq] 24 (0, 0))) ∧ Aside0 (ButM M W wr))
    (fun v13 _ => lp.length - (intOf v13).toNat)
  case atStart => exact ⟨0, Nat.zero_le _, rfl, ⟨⟨blk_alloc (blk_alloc HA.out.m _) _, blk_alloc (blk_alloc HA.out.v _) _⟩⟩, ⟨below_alloc (below_alloc HB.out _) _⟩, ⟨by simpa using blk_new (W.alloc (.cells #[.int .i64 sp, .slice Ap lp.length cp] 24)) (.cells #[.int .i64 sq, .slice Aq lq.length cq] 24)⟩, ⟨((ButM.refl M W).alloc _).alloc _⟩⟩
  case round =>
    obtain ⟨k, hk, rfl, RA, RB, RQ, RW⟩ := hrel
    clear HA HB
    have hcz0 : wr.cell? ⟨W.heap.size + 1, 0, none⟩ = some (.int .i64 sq) := (blk_cell RQ.out 0).trans rfl
    have hcz1 : wr.cell? ⟨W.heap.size + 1, 1, none⟩ = some (.slice Aq lq.length cq) := (blk_cell RQ.out 1).trans rfl
    by_cases hlt : k < lp.length
    · obtain ⟨ad, A2, c2, e2, hx0, hx1, hx2, hl2, hi2⟩ := at_T37 HP.out k (by omega) (by omega)
      cases e2
      replace hx0 := (RB.out.cell (World.block_lt_of_cell? w _ hx0)).trans hx0
      replace hx1 := (RB.out.cell (World.block_lt_of_cell? w _ hx1)).trans hx1
      replace hx2 := (RB.out.cell (World.block_lt_of_cell? w _ hx2)).trans hx2
      have HI := Aside0.mk hi2
      have HL := Aside0.mk hl2
      clear hi2 hl2
      simp only [Int.toNat_natCast] at hx0 hx1 hx2
      go_wp2
      have hqk : k < lq.length := by rw [HF.out.len]; exact hlt
      obtain ⟨aq, Aq2, cq2, eq2, hq0, hq1, hq2, hql2, hqi2⟩ := at_T37 HQ.out k (by omega) (by omega)
      cases eq2
      simp only [Int.toNat_natCast] at hq0 hq1 hq2
      have HQI := Aside0.mk hqi2
      have HQL := Aside0.mk hql2
      have HQ2 := Aside0.mk hq2
      have HSM := Aside0.mk (HF.out.same k hlt)
      have HUP := Aside0.mk (HF.out.up k hlt)
      have HUQ := Aside0.mk (HF.out.uq k hlt)
      have HUO := Aside0.mk (HU.out.outer HF.out wv k (by omega))
      have HFW := Aside0.mk HF.out.few
      have HSS := Aside0.mk (HF.out.small k hlt)
      clear hqi2 hql2 hq0 hq1 hq2
      have hk4 : k < 4 := Nat.lt_of_lt_of_le hlt HFW.out
      go_loopw [21] (fun v21 wi => ∃ i : Nat, i ≤ (rd_T37 lp k).f2.length ∧ v21 = .int .i64 i ∧ Aside0 (MAt M V wv (inner wv k (rd_T37 lp k).f2 (rd_T37 lq k).f2 (outer wv lp lq t k) i) wi) ∧ Aside0 (Below w.heap.size w wi) ∧ Aside0 (wi.heap[W.heap.size + 1]? = some (.cells #[.int .i64 sq, .slice (some aq) lq.length cq] 24 (0, 0))) ∧ Aside0 (ButM M W wi))
        (fun v21 _ => (rd_T37 lp k).f2.length - (intOf v21).toNat)
      case atStart => exact ⟨0, Nat.zero_le _, rfl, ⟨⟨blk_alloc RA.out.m _, blk_alloc RA.out.v _⟩⟩, ⟨below_alloc RB.out _⟩, ⟨blk_alloc RQ.out _⟩, ⟨RW.out.alloc _⟩⟩
      case round =>
        obtain ⟨i, hi, rfl, SA, SB, SQ, SW⟩ := hrel
        clear RA RB RQ RW hx0 hx1 hx2 hcz0 hcz1
        have hcz0 : wr.cell? ⟨W.heap.size + 1, 0, none⟩ = some (.int .i64 sq) := (blk_cell SQ.out 0).trans rfl
        have hcz1 : wr.cell? ⟨W.heap.size + 1, 1, none⟩ = some (.slice (some aq) lq.length cq) := (blk_cell SQ.out 1).trans rfl
        have hi6 : i ≤ 65536 := Nat.le_trans hi HSS.out
        by_cases hil : i < (rd_T37 lp k).f2.length
        · have hql : i < (rd_T37 lq k).f2.length := by rw [HSM.out]; exact hil
          obtain ⟨ad3, e3, hx3⟩ := Kd.at_int HI.out i (by omega) (by omega)
          cases e3
          obtain ⟨ad4, e4, hx4⟩ := Kd.at_int HQI.out i (by omega) (by omega)
          cases e4
          simp only [Int.toNat_natCast] at hx3 hx4
          replace hx3 := (SB.out.cell (World.block_lt_of_cell? w _ hx3)).trans hx3
          replace hx4 := (SB.out.cell (World.block_lt_of_cell? w _ hx4)).trans hx4
          have hx5 := (SB.out.cell (World.block_lt_of_cell? w _ HQ2.out)).trans HQ2.out
          have HD := Aside0.mk (dist_f (HUP.out.at_ hil) (HUQ.out.at_ hql))
          have HI1 := Aside0.mk (HUO.out.inner wv k HUP.out HUQ.out i (by omega) (by omega))
          have HD0 := Aside0.mk (dist_nonneg (rd (rd_T37 lp k).f2 i) (rd (rd_T37 lq k).f2 i))
          have HD1 := Aside0.mk (dist_le (HUP.out.at_ hil) (HUQ.out.at_ hql))
          go_wp2_with fail
          refine (audit_distance.calls _ _ _ _ HD.out).mono ?_
          rintro e w3 ⟨rfl, hb3⟩
          have HB3 := Aside0.mk hb3
          clear hb3 hx3 hx4 hx5 hcz0 hcz1
          go_wp2_with fail
          refine (f33_any _ _ _ M V wv _ _ ⟨blk_below SA.out.m HB3.out, blk_below SA.out.v HB3.out⟩ HD0.out HI1.out.m HI1.out.s0 (by have := HI1.out.s; have := HD1.out; omega) HI1.out.u0 (by have := HI1.out.u; omega) (by omega) (by omega) HW.out).mono ?_
          rintro e w4 ⟨rfl, hA4, hB4⟩
          have HA4 := Aside0.mk hA4
          have HB4 := Aside0.mk hB4
          clear hA4 hB4
          go_wp2
          go_roundw
          case rel =>
            refine ⟨i + 1, by omega, by go_num, HA4, ⟨?_⟩, ⟨?_⟩, ⟨?_⟩⟩
            · exact below_but (below_then SB.out SB.out.size HB3.out) HB4.out HM.out
            · exact blk_but (blk_below SQ.out HB3.out) HB4.out (blk_ne SQ.out SA.out.m (by decide))
            · exact (SW.out.trans (ButM.of_below HB3.out)).trans HB4.out
          case measure => simp [intOf]; omega
        · have hie : i = (rd_T37 lp k).f2.length := by omega
          subst hie
          go_wp2
          go_roundw
          case rel => exact ⟨k + 1, by omega, by go_num, SA, SB, SQ, SW⟩
          case measure => simp [intOf]; omega
    · have hke : k = lp.length := by omega
      subst hke
      go_wp2
      go_end0
      exact ⟨rfl, RA.out, RW.out⟩
end Go.Proofs.YtimghiiihjphiaaGreat.sides
