/- A part of the proof: how far two pictures are apart: the walk, where the first one is right. Conditions: what the checks answer. -/
import Derived.Test.YtimghiiihjphiaaGreatSidD
namespace Go.Proofs.YtimghiiihjphiaaGreat.sides
open Go.RowKit Go.Proofs.YtimghiiihjphiaaGreatW.PrintWords Go.Proofs.YtimghiiihjphiaaGreat.PTri
set_option linter.unusedVariables false
set_option linter.unusedSimpArgs false

theorem first3 (w : World) (a b c : Obj) : (((w.alloc a).alloc b).alloc c).heap[w.heap.size]? = some a := blk_alloc (blk_alloc (blk_new w a) b) c
theorem second3 (w : World) (a b c : Obj) : (((w.alloc a).alloc b).alloc c).heap[w.heap.size + 1]? = some b := by
  have := blk_new (w.alloc a) b
  refine blk_alloc ?_ c
  simpa using this

set_option maxHeartbeats 1600000 in
set_option maxRecDepth 100000 in
theorem apart_q (k : Nat) (sp sq eq : Int) (Ap Aq : Option Addr) (cp cq : Nat) (lp lq : List S37) (w : World)
    (hp : Kd.C k37 w Ap lp.length lp) (hcp : lp.length ≤ cp) (hq : Kd.C k37 w Aq lq.length lq) (hcq : lq.length ≤ cq) (h : picture_Check.f k sp lp = some 0) (hh : picture_Check.f k sq lq = some eq) (he : eq ≠ 0) :
    Calls Tryz.prog 9 #[.agg #[.int .i64 sp, .slice Ap lp.length cp], .agg #[.int .i64 sq, .slice Aq lq.length cq]] w fun e w' => e = told zeroM eq ∧ Below w.heap.size w w' := by
  have HP := Aside0.mk hp
  have HQ := Aside0.mk hq
  have HCP := Aside0.mk hcp
  have HCQ := Aside0.mk hcq
  have H := Aside0.mk h
  have H2 := Aside0.mk hh
  have he1 : (eq != 0) = true := by simp [he]
  have he2 : (eq == 0) = false := by simp [he]
  clear hp hq h hh he hcp hcq
  go_enter Tryz.func9, Tryz.ntmps9
  go_wp2
  go_loopw [14] (fun v14 wr => ∃ j : Nat, j ≤ 1 ∧ v14 = .int .i64 j ∧ Aside0 (Below w.heap.size w wr) ∧ Aside0 (wr.heap[w.heap.size + 1 + 1]? = some (.cells zeroM.vals 28 (0, 0)))) (fun v14 _ => 2 - (intOf v14).toNat)
  case atStart => exact ⟨0, by omega, rfl, ⟨below_alloc (below_alloc (below_alloc (Below.refl _ w) _) _) _⟩, ⟨third _ _ _ _⟩⟩
  case round =>
    obtain ⟨j, hj, rfl, RB, RZ⟩ := hrel
    have hidx := idx0 (.int .i64 sp) (.slice Ap lp.length cp) (.int .i64 sq) (.slice Aq lq.length cq)
    have hidx1 := idx1 (.int .i64 sp) (.slice Ap lp.length cp) (.int .i64 sq) (.slice Aq lq.length cq)
    rcases (show j = 0 ∨ j = 1 by omega) with rfl | rfl
    · go_wp2_with fail
      refine (picture_Check.calls k sp Ap cp lp 0 _ (Kd.C_below HP.out (below_alloc RB.out _)) HCP.out H.out).mono ?_
      rintro e w3 ⟨rfl, hb3⟩
      have HB3 := Aside0.mk hb3
      clear hb3
      go_wp2
      go_roundw
      case rel => exact ⟨1, by omega, by go_num, ⟨below_then (below_alloc RB.out _) (below_alloc RB.out _).size HB3.out⟩, ⟨blk_below (blk_alloc RZ.out _) HB3.out⟩⟩
      case measure => simp [intOf]
    · go_wp2_with fail
      refine (picture_Check.calls k sq Aq cq lq eq _ (Kd.C_below HQ.out (below_alloc RB.out _)) HCQ.out H2.out).mono ?_
      rintro e w3 ⟨rfl, hb3⟩
      have HB3 := Aside0.mk hb3
      have hz := blk_below (blk_alloc RZ.out _) HB3.out
      have g0 := blk_cell hz 0
      have g1 := blk_cell hz 1
      have g2 := blk_cell hz 2
      have g3 := blk_cell hz 3
      have g4 := blk_cell hz 4
      have g5 := blk_cell hz 5
      have f0 := blk_frozen hz 0
      have f1 := blk_frozen hz 1
      have f2 := blk_frozen hz 2
      have f3 := blk_frozen hz 3
      have f4 := blk_frozen hz 4
      have f5 := blk_frozen hz 5
      simp [zeroM, Mt.vals] at g0 g1 g2 g3 g4 g5
      clear hz hb3
      go_wp2
      refine bodyPost_ret (v := .tuple #[zeroM.agg, .int .i64 eq]) ?_ rfl ⟨rfl, ?_⟩
      · exact res14 rfl rfl (set6 (blk_below (blk_alloc RZ.out _) HB3.out) rfl zeroM)
      · exact below6 (below_then (below_alloc RB.out _) (below_alloc RB.out _).size HB3.out) (by omega) _ _ _ _ _ _

set_option maxHeartbeats 1600000 in
set_option maxRecDepth 100000 in
theorem apart_fit (k : Nat) (sp sq : Int) (Ap Aq : Option Addr) (cp cq : Nat) (lp lq : List S37) (w : World)
    (hp : Kd.C k37 w Ap lp.length lp) (hcp : lp.length ≤ cp) (hq : Kd.C k37 w Aq lq.length lq) (hcq : lq.length ≤ cq) (h : picture_Check.f k sp lp = some 0) (hh : picture_Check.f k sq lq = some 0) (hfit : audit_fit.f sp lp sq lq = some false) :
    Calls Tryz.prog 9 #[.agg #[.int .i64 sp, .slice Ap lp.length cp], .agg #[.int .i64 sq, .slice Aq lq.length cq]] w fun e w' => e = told zeroM 270 ∧ Below w.heap.size w w' := by
  have HP := Aside0.mk hp
  have HQ := Aside0.mk hq
  have HCP := Aside0.mk hcp
  have HCQ := Aside0.mk hcq
  have H := Aside0.mk h
  have H2 := Aside0.mk hh
  have HF := Aside0.mk hfit
  clear hp hq h hh hcp hcq hfit
  go_enter Tryz.func9, Tryz.ntmps9
  go_wp2
  go_loopw [14] (fun v14 wr => ∃ j : Nat, j ≤ 2 ∧ v14 = .int .i64 j ∧ Aside0 (Below w.heap.size w wr) ∧ Aside0 (wr.heap[w.heap.size + 1 + 1]? = some (.cells zeroM.vals 28 (0, 0))) ∧ Aside0 (wr.heap[w.heap.size]? = some (.cells #[.int .i64 sp, .slice Ap lp.length cp] 24 (0, 0))) ∧ Aside0 (wr.heap[w.heap.size + 1]? = some (.cells #[.int .i64 sq, .slice Aq lq.length cq] 24 (0, 0)))) (fun v14 _ => 2 - (intOf v14).toNat)
  case atStart => exact ⟨0, by omega, rfl, ⟨below_alloc (below_alloc (below_alloc (Below.refl _ w) _) _) _⟩, ⟨third _ _ _ _⟩, ⟨first3 _ _ _ _⟩, ⟨second3 _ _ _ _⟩⟩
  case round =>
    obtain ⟨j, hj, rfl, RB, RZ, RP, RQ⟩ := hrel
    have hidx := idx0 (.int .i64 sp) (.slice Ap lp.length cp) (.int .i64 sq) (.slice Aq lq.length cq)
    have hidx1 := idx1 (.int .i64 sp) (.slice Ap lp.length cp) (.int .i64 sq) (.slice Aq lq.length cq)
    rcases (show j = 0 ∨ j = 1 ∨ j = 2 by omega) with rfl | rfl | rfl
    · go_wp2_with fail
      refine (picture_Check.calls k sp Ap cp lp 0 _ (Kd.C_below HP.out (below_alloc RB.out _)) HCP.out H.out).mono ?_
      rintro e w3 ⟨rfl, hb3⟩
      have HB3 := Aside0.mk hb3
      clear hb3
      go_wp2
      go_roundw
      case rel => exact ⟨1, by omega, by go_num, ⟨below_then (below_alloc RB.out _) (below_alloc RB.out _).size HB3.out⟩, ⟨blk_below (blk_alloc RZ.out _) HB3.out⟩, ⟨blk_below (blk_alloc RP.out _) HB3.out⟩, ⟨blk_below (blk_alloc RQ.out _) HB3.out⟩⟩
      case measure => simp [intOf]
    · go_wp2_with fail
      refine (picture_Check.calls k sq Aq cq lq 0 _ (Kd.C_below HQ.out (below_alloc RB.out _)) HCQ.out H2.out).mono ?_
      rintro e w3 ⟨rfl, hb3⟩
      have HB3 := Aside0.mk hb3
      clear hb3
      go_wp2
      go_roundw
      case rel => exact ⟨2, by omega, by go_num, ⟨below_then (below_alloc RB.out _) (below_alloc RB.out _).size HB3.out⟩, ⟨blk_below (blk_alloc RZ.out _) HB3.out⟩, ⟨blk_below (blk_alloc RP.out _) HB3.out⟩, ⟨blk_below (blk_alloc RQ.out _) HB3.out⟩⟩
      case measure => simp [intOf]
    · have p0 := (blk_cell RP.out 0).trans rfl
      have p1 := (blk_cell RP.out 1).trans rfl
      have q0 := (blk_cell RQ.out 0).trans rfl
      have q1 := (blk_cell RQ.out 1).trans rfl
      simp at p0 p1 q0 q1
      go_wp2_with fail
      refine (audit_fit.calls sp Ap cp lp sq Aq cq lq false _ (Kd.C_below HP.out RB.out) HCP.out (Kd.C_below HQ.out RB.out) HCQ.out HF.out).mono ?_
      rintro e w3 ⟨rfl, hb3⟩
      have HB3 := Aside0.mk hb3
      have hz := blk_below RZ.out HB3.out
      have g0 := blk_cell hz 0
      have g1 := blk_cell hz 1
      have g2 := blk_cell hz 2
      have g3 := blk_cell hz 3
      have g4 := blk_cell hz 4
      have g5 := blk_cell hz 5
      have f0 := blk_frozen hz 0
      have f1 := blk_frozen hz 1
      have f2 := blk_frozen hz 2
      have f3 := blk_frozen hz 3
      have f4 := blk_frozen hz 4
      have f5 := blk_frozen hz 5
      simp [zeroM, Mt.vals] at g0 g1 g2 g3 g4 g5
      clear hz hb3 p0 p1 q0 q1
      go_wp2
      refine bodyPost_ret (v := .tuple #[zeroM.agg, .int .i64 270]) ?_ rfl ⟨rfl, ?_⟩
      · exact res14 rfl rfl (set6 (blk_below RZ.out HB3.out) rfl zeroM)
      · exact below6 (below_then RB.out RB.out.size HB3.out) (by omega) _ _ _ _ _ _
end Go.Proofs.YtimghiiihjphiaaGreat.sides
