/- A part of the proof: how far two pictures are apart: the walk. Conditions: what the checks answer. -/
import Derived.Test.YtimghiiihjphiaaGreatSidC
namespace Go.Proofs.YtimghiiihjphiaaGreat.sides
open Go.RowKit Go.Proofs.YtimghiiihjphiaaGreatW.PrintWords Go.Proofs.YtimghiiihjphiaaGreat.PTri
set_option linter.unusedVariables false
set_option linter.unusedSimpArgs false

def zeroM : Mt := ⟨0, 0, 0, 0, 0, 0⟩
def told (t : Mt) (e : Int) : Ending := .returned (.tuple #[t.agg, .int .i64 e])

theorem idx0 (a b c d : Value) (w : World) : (Instr.index 62 (.agg #[a, b, c, d]) (.int .i64 0)).run Tryz.prog w = .ok (.agg #[a, b]) w := by
  have h1 := Tryz.underlying62
  have h2 := Tryz.underlying24
  simp only [Instr.index, Sem.run_bind]
  simp [run_underlying h1, go_sem, h1, h2]
theorem idx1 (a b c d : Value) (w : World) : (Instr.index 62 (.agg #[a, b, c, d]) (.int .i64 1)).run Tryz.prog w = .ok (.agg #[c, d]) w := by
  have h1 := Tryz.underlying62
  have h2 := Tryz.underlying24
  simp only [Instr.index, Sem.run_bind]
  simp [run_underlying h1, go_sem, h1, h2]

theorem third (w : World) (a b c : Obj) : (((w.alloc a).alloc b).alloc c).heap[w.heap.size + 1 + 1]? = some c := by
  have := blk_new ((w.alloc a).alloc b) c
  simpa using this

set_option maxHeartbeats 800000 in
theorem res14 {tmps : Array Value} {R : Nat} {e : Int} {t : Mt} {W : World} (h4 : tmps.getD 4 undef = .pointer (some ⟨R, 0, none⟩)) (h5 : tmps.getD 5 undef = .int .i64 e) (hb : W.heap[R]? = some (.cells t.vals 28 (0, 0))) :
    (results Tryz.f9 tmps).run Tryz.prog W = .ok (.tuple #[t.agg, .int .i64 e]) W := by
  have g0 := blk_cell hb 0
  have g1 := blk_cell hb 1
  have g2 := blk_cell hb 2
  have g3 := blk_cell hb 3
  have g4 := blk_cell hb 4
  have g5 := blk_cell hb 5
  simp [Mt.vals] at g0 g1 g2 g3 g4 g5
  have hu := Tryz.underlying28
  rw [Array.getD_eq_getD_getElem?] at h4 h5
  simp [results, Tryz.results9, h4, h5, go_sem, g0, g1, g2, g3, g4, g5, hu, Mt.agg, Mt.vals]

theorem set6 {W : World} {R : Nat} {cs : Array Value} (hb : W.heap[R]? = some (.cells cs 28 (0, 0))) (h6 : cs.size = 6) (t : Mt) :
    ((((((W.setCell ⟨R, 0, none⟩ (.int .i64 t.u)).setCell ⟨R, 1, none⟩ (.int .i64 t.m)).setCell ⟨R, 2, none⟩ (.int .i64 t.p)).setCell ⟨R, 3, none⟩ (.int .i64 t.x)).setCell ⟨R, 4, none⟩ (.int .i64 t.y)).setCell ⟨R, 5, none⟩ (.int .i64 t.s)).heap[R]? = some (.cells t.vals 28 (0, 0)) := by
  obtain ⟨l⟩ := cs
  match l, h6 with
  | [a, b, c, d, e, f], _ => exact blk_put (blk_put (blk_put (blk_put (blk_put (blk_put hb 0 _ rfl) 1 _ rfl) 2 _ rfl) 3 _ rfl) 4 _ rfl) 5 _ rfl
theorem below6 {w W : World} {R : Nat} (hb : Below w.heap.size w W) (h : w.heap.size ≤ R) (a b c d e f : Value) :
    Below w.heap.size w ((((((W.setCell ⟨R, 0, none⟩ a).setCell ⟨R, 1, none⟩ b).setCell ⟨R, 2, none⟩ c).setCell ⟨R, 3, none⟩ d).setCell ⟨R, 4, none⟩ e).setCell ⟨R, 5, none⟩ f) :=
  below_set (below_set (below_set (below_set (below_set (below_set hb h) h) h) h) h) h

set_option maxHeartbeats 1600000 in
set_option maxRecDepth 100000 in
theorem apart_p (k : Nat) (sp sq ep : Int) (Ap Aq : Option Addr) (cp cq : Nat) (lp lq : List S37) (w : World)
    (hp : Kd.C k37 w Ap lp.length lp) (hcp : lp.length ≤ cp) (hq : Kd.C k37 w Aq lq.length lq) (hcq : lq.length ≤ cq) (h : picture_Check.f k sp lp = some ep) (he : ep ≠ 0) :
    Calls Tryz.prog 9 #[.agg #[.int .i64 sp, .slice Ap lp.length cp], .agg #[.int .i64 sq, .slice Aq lq.length cq]] w fun e w' => e = told zeroM ep ∧ Below w.heap.size w w' := by
  have HP := Aside0.mk hp
  have HQ := Aside0.mk hq
  have HCP := Aside0.mk hcp
  have HCQ := Aside0.mk hcq
  have H := Aside0.mk h
  have he1 : (ep != 0) = true := by simp [he]
  have he2 : (ep == 0) = false := by simp [he]
  clear hp hq h he hcp hcq
  go_enter Tryz.func9, Tryz.ntmps9
  go_wp2
  go_loopw [14] (fun v14 wr => v14 = .int .i64 0 ∧ Aside0 (Below w.heap.size w wr) ∧ Aside0 (wr.heap[w.heap.size + 1 + 1]? = some (.cells zeroM.vals 28 (0, 0)))) (fun _ _ => 0)
  case atStart => exact ⟨rfl, ⟨below_alloc (below_alloc (below_alloc (Below.refl _ w) _) _) _⟩, ⟨third _ _ _ _⟩⟩
  case round =>
    obtain ⟨rfl, RB, RZ⟩ := hrel
    have hidx := idx0 (.int .i64 sp) (.slice Ap lp.length cp) (.int .i64 sq) (.slice Aq lq.length cq)
    go_wp2_with fail
    refine (picture_Check.calls k sp Ap cp lp ep _ (Kd.C_below HP.out (below_alloc RB.out _)) HCP.out H.out).mono ?_
    rintro e w3 ⟨rfl, hb3⟩
    have HB3 := Aside0.mk hb3
    have hz := blk_below (blk_alloc RZ.out _) HB3.out
    have HZ := Aside0.mk hz
    have g0 := blk_cell hz 0
    have g1 := blk_cell hz 1
    have g2 := blk_cell hz 2
    have g3 := blk_cell hz 3
    have g4 := blk_cell hz 4
    have g5 := blk_cell hz 5
    have f0 := blk_frozen hz 0
    have f1 := blk_frozen hz 1
    have f2 := blk_frozen hz 2
    have f3 := blk_frozen hz 3
    have f4 := blk_frozen hz 4
    have f5 := blk_frozen hz 5
    simp [zeroM, Mt.vals] at g0 g1 g2 g3 g4 g5
    clear hz hb3
    go_wp2
    refine bodyPost_ret (v := .tuple #[zeroM.agg, .int .i64 ep]) ?_ rfl ⟨rfl, ?_⟩
    · exact res14 rfl rfl (set6 (blk_below (blk_alloc RZ.out _) HB3.out) rfl zeroM)
    · exact below6 (below_then (below_alloc RB.out _) (below_alloc RB.out _).size HB3.out) (by omega) _ _ _ _ _ _
end Go.Proofs.YtimghiiihjphiaaGreat.sides
