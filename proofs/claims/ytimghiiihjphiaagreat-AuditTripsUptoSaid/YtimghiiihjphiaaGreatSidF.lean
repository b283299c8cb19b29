/- A part of the proof: how far two pictures are apart: the walk, where both are right and of one form. Conditions: what the checks answer. -/
import Derived.Test.YtimghiiihjphiaaGreatSidE
namespace Go.Proofs.YtimghiiihjphiaaGreat.sides
open Go.RowKit Go.Proofs.YtimghiiihjphiaaGreatW.PrintWords Go.Proofs.YtimghiiihjphiaaGreat.PTri
set_option linter.unusedVariables false
set_option linter.unusedSimpArgs false

set_option maxHeartbeats 1600000 in
set_option maxRecDepth 100000 in
theorem apart_ok (k : Nat) (sp sq : Int) (Ap Aq : Option Addr) (cp cq : Nat) (lp lq : List S37) (w : World)
    (hp : Kd.C k37 w Ap lp.length lp) (hcp : lp.length ≤ cp) (hq : Kd.C k37 w Aq lq.length lq) (hcq : lq.length ≤ cq) (h : picture_Check.f k sp lp = some 0) (hh : picture_Check.f k sq lq = some 0) (hfit : audit_fit.f sp lp sq lq = some true) (h0 : 0 < lp.length) (hF : Fit lp lq) (hw : 0 < (rd_T37 lp 0).f0) :
    Calls Tryz.prog 9 #[.agg #[.int .i64 sp, .slice Ap lp.length cp], .agg #[.int .i64 sq, .slice Aq lq.length cq]] w fun e w' => e = told (outer (rd_T37 lp 0).f0 lp lq zeroM lp.length) 0 ∧ Below w.heap.size w w' := by
  have HP := Aside0.mk hp
  have HQ := Aside0.mk hq
  have HCP := Aside0.mk hcp
  have HCQ := Aside0.mk hcq
  have H := Aside0.mk h
  have H2 := Aside0.mk hh
  have HF := Aside0.mk hfit
  have HFF := Aside0.mk hF
  have HW := Aside0.mk hw
  clear hF hw
  clear hp hq h hh hcp hcq hfit
  go_enter Tryz.func9, Tryz.ntmps9
  go_wp2
  go_loopw [14] (fun v14 wr => ∃ j : Nat, j ≤ 2 ∧ v14 = .int .i64 j ∧ Aside0 (Below w.heap.size w wr) ∧ Aside0 (wr.heap[w.heap.size + 1 + 1]? = some (.cells zeroM.vals 28 (0, 0))) ∧ Aside0 (wr.heap[w.heap.size]? = some (.cells #[.int .i64 sp, .slice Ap lp.length cp] 24 (0, 0))) ∧ Aside0 (wr.heap[w.heap.size + 1]? = some (.cells #[.int .i64 sq, .slice Aq lq.length cq] 24 (0, 0)))) (fun v14 _ => 2 - (intOf v14).toNat)
  case atStart => exact ⟨0, by omega, rfl, ⟨below_alloc (below_alloc (below_alloc (Below.refl _ w) _) _) _⟩, ⟨third _ _ _ _⟩, ⟨first3 _ _ _ _⟩, ⟨second3 _ _ _ _⟩⟩
  case round =>
    obtain ⟨j, hj, rfl, RB, RZ, RP, RQ⟩ := hrel
    have hidx := idx0 (.int .i64 sp) (.slice Ap lp.length cp) (.int .i64 sq) (.slice Aq lq.length cq)
    have hidx1 := idx1 (.int .i64 sp) (.slice Ap lp.length cp) (.int .i64 sq) (.slice Aq lq.length cq)
    rcases (show j = 0 ∨ j = 1 ∨ j = 2 by omega) with rfl | rfl | rfl
    · go_wp2_with fail
      refine (picture_Check.calls k sp Ap cp lp 0 _ (Kd.C_below HP.out (below_alloc RB.out _)) HCP.out H.out).mono ?_
      rintro e w3 ⟨rfl, hb3⟩
      have HB3 := Aside0.mk hb3
      clear hb3
      go_wp2
      go_roundw
      case rel => exact ⟨1, by omega, by go_num, ⟨below_then (below_alloc RB.out _) (below_alloc RB.out _).size HB3.out⟩, ⟨blk_below (blk_alloc RZ.out _) HB3.out⟩, ⟨blk_below (blk_alloc RP.out _) HB3.out⟩, ⟨blk_below (blk_alloc RQ.out _) HB3.out⟩⟩
      case measure => simp [intOf]
    · go_wp2_with fail
      refine (picture_Check.calls k sq Aq cq lq 0 _ (Kd.C_below HQ.out (below_alloc RB.out _)) HCQ.out H2.out).mono ?_
      rintro e w3 ⟨rfl, hb3⟩
      have HB3 := Aside0.mk hb3
      clear hb3
      go_wp2
      go_roundw
      case rel => exact ⟨2, by omega, by go_num, ⟨below_then (below_alloc RB.out _) (below_alloc RB.out _).size HB3.out⟩, ⟨blk_below (blk_alloc RZ.out _) HB3.out⟩, ⟨blk_below (blk_alloc RP.out _) HB3.out⟩, ⟨blk_below (blk_alloc RQ.out _) HB3.out⟩⟩
      case measure => simp [intOf]
    · have p0 := (blk_cell RP.out 0).trans rfl
      have p1 := (blk_cell RP.out 1).trans rfl
      have q0 := (blk_cell RQ.out 0).trans rfl
      have q1 := (blk_cell RQ.out 1).trans rfl
      simp at p0 p1 q0 q1
      go_wp2_with fail
      refine (audit_fit.calls sp Ap cp lp sq Aq cq lq true _ (Kd.C_below HP.out RB.out) HCP.out (Kd.C_below HQ.out RB.out) HCQ.out HF.out).mono ?_
      rintro e w3 ⟨rfl, hb3⟩
      have HB3 := Aside0.mk hb3
      have HB4 := Aside0.mk (below_then RB.out RB.out.size hb3)
      have hZ := blk_below RZ.out hb3
      have hP := blk_below RP.out hb3
      have hQ := blk_below RQ.out hb3
      have HZ := Aside0.mk hZ
      have HP3 := Aside0.mk hP
      have HQ3 := Aside0.mk hQ
      clear hb3 p0 p1 q0 q1
      have p0 := (blk_cell hP 0).trans rfl
      have p1 := (blk_cell hP 1).trans rfl
      have q0 := (blk_cell hQ 0).trans rfl
      have q1 := (blk_cell hQ 1).trans rfl
      simp at p0 p1 q0 q1
      clear hZ hP hQ
      obtain ⟨ad, A2, c2, e2, hx0, hx1, hx2, hl2, hi2⟩ := at_T37 HP.out 0 (by omega) (by omega)
      cases e2
      clear hl2 hi2
      simp only [Int.toNat_zero, Nat.zero_mul] at hx0 hx1 hx2
      replace hx0 := (HB4.out.cell (World.block_lt_of_cell? w _ hx0)).trans hx0
      replace hx1 := (HB4.out.cell (World.block_lt_of_cell? w _ hx1)).trans hx1
      replace hx2 := (HB4.out.cell (World.block_lt_of_cell? w _ hx2)).trans hx2
      have hs3 : w.heap.size + 1 + 1 < w3.heap.size := blk_lt HZ.out
      have hs4 : w.heap.size < w3.heap.size := by omega
      have hs5 : w.heap.size + 1 < w3.heap.size := by omega
      have hx0' : w3.cell? ad = some (.int .i64 (rd_T37 lp 0).f0) := hx0
      have hca : ∀ o, (w3.alloc o).cell? ad = some (.int .i64 (rd_T37 lp 0).f0) := fun o => pw_cell_below (below_alloc (Below.refl _ _) o) hx0'
      clear hx0 hx1 hx2 hx0'
      go_wp2_with fail
      have hM0 : ((w3.alloc (.cells zeroM.vals 28)).alloc (.cells #[.int .i64 (rd_T37 lp 0).f0] 3)).heap[w3.heap.size]? = some (.cells zeroM.vals 28) := blk_alloc (blk_new _ _) _
      have hV0 : ((w3.alloc (.cells zeroM.vals 28)).alloc (.cells #[.int .i64 (rd_T37 lp 0).f0] 3)).heap[w3.heap.size + 1]? = some (.cells #[.int .i64 (rd_T37 lp 0).f0] 3) := by
        have := blk_new (w3.alloc (.cells zeroM.vals 28)) (.cells #[.int .i64 (rd_T37 lp 0).f0] 3)
        simpa using this
      refine (measured_any sp sq (some ad) Aq cp cq lp lq w _ w3.heap.size (w3.heap.size + 1) (rd_T37 lp 0).f0 zeroM HP.out HQ.out HFF.out (below_alloc (below_alloc HB4.out _) _) (by omega) (by omega) ⟨hM0, hV0⟩ ⟨by decide, by decide, by decide, by decide, by decide, by decide⟩ HW.out).mono ?_
      rintro e w5 ⟨rfl, hA5, hB5⟩
      have HA5 := Aside0.mk hA5
      have HB5 := Aside0.mk hB5
      have HR := Aside0.mk (blk_but (blk_alloc (blk_alloc HZ.out _) _) hB5 (by omega))
      clear hM0 hV0 hca p0 p1 q0 q1
      clear hA5 hB5
      generalize hT : outer (rd_T37 lp 0).f0 lp lq zeroM lp.length = T at HA5
      have HT := Aside0.mk hT
      clear hT
      have m0 := blk_cell HA5.out.m 0
      have m1 := blk_cell HA5.out.m 1
      have m2 := blk_cell HA5.out.m 2
      have m3 := blk_cell HA5.out.m 3
      have m4 := blk_cell HA5.out.m 4
      have m5 := blk_cell HA5.out.m 5
      have g0 := blk_cell HR.out 0
      have g1 := blk_cell HR.out 1
      have g2 := blk_cell HR.out 2
      have g3 := blk_cell HR.out 3
      have g4 := blk_cell HR.out 4
      have g5 := blk_cell HR.out 5
      have f0 := blk_frozen HR.out 0
      have f1 := blk_frozen HR.out 1
      have f2 := blk_frozen HR.out 2
      have f3 := blk_frozen HR.out 3
      have f4 := blk_frozen HR.out 4
      have f5 := blk_frozen HR.out 5
      simp [zeroM, Mt.vals] at g0 g1 g2 g3 g4 g5 m0 m1 m2 m3 m4 m5
      go_wp2
      refine bodyPost_ret (v := .tuple #[T.agg, .int .i64 0]) ?_ rfl ⟨by rw [HT.out]; rfl, ?_⟩
      · exact res14 rfl rfl (set6 HR.out rfl T)
      · exact below6 (below_but (below_alloc (below_alloc HB4.out _) _) HB5.out (by omega)) (by omega) _ _ _ _ _ _
end Go.Proofs.YtimghiiihjphiaaGreat.sides
