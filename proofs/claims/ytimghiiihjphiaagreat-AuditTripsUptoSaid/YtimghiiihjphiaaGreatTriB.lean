/- A part of the proof: how a space goes to another one: the functions that are told. No condition. -/
import Derived.Test.YtimghiiihjphiaaGreatTriA
import Derived.Test.YtimghiiihjphiaaGreatSidE
import Derived.Laws.EntriesVeiled
namespace Go.Proofs.YtimghiiihjphiaaGreat.trips
open Go.RowKit Go.Proofs.YtimghiiihjphiaaGreatW.PrintWords Go.Proofs.YtimghiiihjphiaaGreat.PTri
set_option linter.unusedVariables false
set_option linter.unusedSimpArgs false

theorem of_any (n : Nat) (w : World) : Calls Tryz.prog 85 #[fnV n] w fun e w' => e = .returned (.func (.func 133) #[] #[.pointer (some ⟨w.heap.size, 0, none⟩)]) ∧ w.alloc (.cells #[fnV n] 85 (0, 0)) = w' := by
  unfold fnV
  go_enter Tryz.func85, Tryz.ntmps85
  go_wp2
  go_ret
  exact ⟨rfl, rfl⟩
theorem each_any (n : Nat) (w : World) : Calls Tryz.prog 88 #[fnV n] w fun e w' => e = .returned (.func (.func 136) #[] #[.pointer (some ⟨w.heap.size, 0, none⟩)]) ∧ w.alloc (.cells #[fnV n] 89 (0, 0)) = w' := by
  unfold fnV
  go_enter Tryz.func88, Tryz.ntmps88
  go_wp2
  go_ret
  exact ⟨rfl, rfl⟩

set_option maxHeartbeats 800000 in
theorem ways1 (w : World) : Calls Tryz.prog 58 #[.int .i64 1] w fun e w' => e = .returned (.agg #[fnV 93, fnV 93]) ∧ Below w.heap.size w w' := by
  go_enter Tryz.func58, Tryz.ntmps58
  go_wp2
  refine bodyPost_ret (results_cell_row rfl _ _ w.heap.size 134 #[fnV 93, fnV 93] (0, 0) _ rfl (blk_new w _) Tryz.underlying134 rfl (by kernel_rfl)) rfl ⟨rfl, ?_⟩
  exact below_alloc (Below.refl _ _) _

/-- two closures in boxes of their own -/
def Pairs (f a b : Nat) (t : Nat) (w : World) (e : Ending) (w' : World) : Prop := ∃ x y : Nat, e = .returned (.agg #[clo f x, clo f y]) ∧ w'.heap[x]? = some (.cells #[fnV a] t (0, 0)) ∧ w'.heap[y]? = some (.cells #[fnV b] t (0, 0)) ∧ Below w.heap.size w w'

set_option maxHeartbeats 800000 in
theorem ways4 (w : World) : Calls Tryz.prog 58 #[.int .i64 4] w (Pairs 133 91 92 85 w) := by
  go_enter Tryz.func58, Tryz.ntmps58
  go_wp2_with fail
  refine (of_any 91 _).mono ?_
  rintro e w1 ⟨rfl, rfl⟩
  go_wp2_with fail
  refine (of_any 92 _).mono ?_
  rintro e w1 ⟨rfl, rfl⟩
  go_wp2
  refine bodyPost_ret (results_cell_row rfl _ _ w.heap.size 134 #[clo 133 (w.heap.size + 1), clo 133 (w.heap.size + 1 + 1)] (0, 0) _ rfl (blk_alloc (blk_alloc (blk_new w _) _) _) Tryz.underlying134 rfl (by kernel_rfl)) rfl ⟨_, _, rfl, ?_, ?_, ?_⟩
  · exact sides.second3 _ _ _ _
  · exact sides.third _ _ _ _
  · exact below_alloc (below_alloc (below_alloc (Below.refl _ _) _) _) _

set_option maxHeartbeats 800000 in
theorem ways3 (w : World) : Calls Tryz.prog 58 #[.int .i64 3] w (Pairs 136 89 90 89 w) := by
  go_enter Tryz.func58, Tryz.ntmps58
  go_wp2_with fail
  refine (each_any 89 _).mono ?_
  rintro e w1 ⟨rfl, rfl⟩
  go_wp2_with fail
  refine (each_any 90 _).mono ?_
  rintro e w1 ⟨rfl, rfl⟩
  go_wp2
  refine bodyPost_ret (results_cell_row rfl _ _ w.heap.size 134 #[clo 136 (w.heap.size + 1), clo 136 (w.heap.size + 1 + 1)] (0, 0) _ rfl (blk_alloc (blk_alloc (blk_new w _) _) _) Tryz.underlying134 rfl (by kernel_rfl)) rfl ⟨_, _, rfl, ?_, ?_, ?_⟩
  · exact sides.second3 _ _ _ _
  · exact sides.third _ _ _ _
  · exact below_alloc (below_alloc (below_alloc (Below.refl _ _) _) _) _

theorem is_any (k : Int) (h0 : 0 ≤ k) (h1 : k ≤ 4) (w : World) : Calls Tryz.prog 57 #[.int .i64 k] w fun e w' => e = .returned (.bool true) ∧ Drawn0 w w' :=
  space_is.calls k true w (by unfold space_is.f; rw [if_pos h0, decide_eq_true h1])

set_option maxHeartbeats 800000 in
theorem same_any (a b c : Int) (w : World) : Calls Tryz.prog 93 #[.agg #[.int .u32 a, .int .u32 b, .int .u32 c]] w fun e w' => e = .returned (.agg #[.int .u32 a, .int .u32 b, .int .u32 c]) ∧ Below w.heap.size w w' := by
  go_enter Tryz.func93, Tryz.ntmps93
  go_wp2
  refine bodyPost_ret (results_cell_row rfl _ _ (w.heap.size + 1) 131 #[.int .u32 a, .int .u32 b, .int .u32 c] (0, 0) _ rfl (heap_alloc2_new w _ _) Tryz.underlying131 rfl (by kernel_rfl)) rfl ⟨rfl, ?_⟩
  exact below_alloc (below_alloc (Below.refl _ _) _) _

/-- one function of three samples -/
def Three (f : Nat) (a b c : Int) (R : Int → Int → Int → Prop) : Prop := ∀ W : World, Calls Tryz.prog f #[.int .u32 a, .int .u32 b, .int .u32 c] W fun e W' => ∃ x y z : Int, e = .returned (.tuple #[.int .u32 x, .int .u32 y, .int .u32 z]) ∧ R x y z ∧ Below W.heap.size W W'

set_option maxHeartbeats 800000 in
set_option maxRecDepth 100000 in
theorem of1_91 (a b c : Int) (R : Int → Int → Int → Prop) (hf : Three 91 a b c R) (g : Nat) (w : World) (hg : w.heap[g]? = some (.cells #[fnV 91] 85 (0, 0))) :
    Calls Tryz.prog 133 #[.agg #[.int .u32 a, .int .u32 b, .int .u32 c], .pointer (some ⟨g, 0, none⟩)] w fun e w' => (∃ x y z : Int, e = .returned (.agg #[.int .u32 x, .int .u32 y, .int .u32 z]) ∧ R x y z) ∧ Below w.heap.size w w' := by
  have HF := Aside0.mk hf
  have BG := Aside0.mk (blk_alloc (blk_alloc hg (.cells #[.int .u32 a, .int .u32 b, .int .u32 c] 131 (0, 0))) (.cells #[.int .u32 0, .int .u32 0, .int .u32 0] 131 (0, 0)))
  have BR := Aside0.mk (heap_alloc2_new w (.cells #[.int .u32 a, .int .u32 b, .int .u32 c] 131 (0, 0)) (.cells #[.int .u32 0, .int .u32 0, .int .u32 0] 131 (0, 0)))
  have HB := Aside0.mk (below_alloc (below_alloc (Below.refl w.heap.size w) (.cells #[.int .u32 a, .int .u32 b, .int .u32 c] 131 (0, 0))) (.cells #[.int .u32 0, .int .u32 0, .int .u32 0] 131 (0, 0)))
  have c0 : ((w.alloc (.cells #[.int .u32 a, .int .u32 b, .int .u32 c] 131 (0, 0))).alloc (.cells #[.int .u32 0, .int .u32 0, .int .u32 0] 131 (0, 0))).cell? ⟨g, 0, none⟩ = some (.func (.func 91) #[] #[]) := (blk_cell BG.out 0).trans rfl
  clear hf hg BG
  go_enter Tryz.func133, Tryz.ntmps133
  go_wp2_with fail
  refine (HF.out _).mono ?_
  rintro e w1 ⟨x, y, z, rfl, hr, hb⟩
  have HR := Aside0.mk hr
  have HB1 := Aside0.mk (below_step HB.out hb)
  have BR1 := Aside0.mk (blk_below BR.out hb)
  have g0 := (blk_cell BR1.out 0).trans rfl
  have g1 := (blk_cell BR1.out 1).trans rfl
  have g2 := (blk_cell BR1.out 2).trans rfl
  have f0 := blk_frozen BR1.out 0
  have f1 := blk_frozen BR1.out 1
  have f2 := blk_frozen BR1.out 2
  simp at g0 g1 g2
  clear hr hb c0 HB BR HF
  go_wp2
  have hp := blk_put (blk_put (blk_put BR1.out 0 (.int .u32 x) rfl) 1 (.int .u32 y) rfl) 2 (.int .u32 z) rfl
  refine bodyPost_ret (results_cell_row rfl _ _ (w.heap.size + 1) 131 #[.int .u32 x, .int .u32 y, .int .u32 z] (0, 0) _ rfl hp Tryz.underlying131 rfl (by kernel_rfl)) rfl ⟨⟨x, y, z, rfl, HR.out⟩, ?_⟩
  exact below_set (below_set (below_set HB1.out (by omega)) (by omega)) (by omega)

set_option maxHeartbeats 800000 in
set_option maxRecDepth 100000 in
theorem of1_92 (a b c : Int) (R : Int → Int → Int → Prop) (hf : Three 92 a b c R) (g : Nat) (w : World) (hg : w.heap[g]? = some (.cells #[fnV 92] 85 (0, 0))) :
    Calls Tryz.prog 133 #[.agg #[.int .u32 a, .int .u32 b, .int .u32 c], .pointer (some ⟨g, 0, none⟩)] w fun e w' => (∃ x y z : Int, e = .returned (.agg #[.int .u32 x, .int .u32 y, .int .u32 z]) ∧ R x y z) ∧ Below w.heap.size w w' := by
  have HF := Aside0.mk hf
  have BG := Aside0.mk (blk_alloc (blk_alloc hg (.cells #[.int .u32 a, .int .u32 b, .int .u32 c] 131 (0, 0))) (.cells #[.int .u32 0, .int .u32 0, .int .u32 0] 131 (0, 0)))
  have BR := Aside0.mk (heap_alloc2_new w (.cells #[.int .u32 a, .int .u32 b, .int .u32 c] 131 (0, 0)) (.cells #[.int .u32 0, .int .u32 0, .int .u32 0] 131 (0, 0)))
  have HB := Aside0.mk (below_alloc (below_alloc (Below.refl w.heap.size w) (.cells #[.int .u32 a, .int .u32 b, .int .u32 c] 131 (0, 0))) (.cells #[.int .u32 0, .int .u32 0, .int .u32 0] 131 (0, 0)))
  have c0 : ((w.alloc (.cells #[.int .u32 a, .int .u32 b, .int .u32 c] 131 (0, 0))).alloc (.cells #[.int .u32 0, .int .u32 0, .int .u32 0] 131 (0, 0))).cell? ⟨g, 0, none⟩ = some (.func (.func 92) #[] #[]) := (blk_cell BG.out 0).trans rfl
  clear hf hg BG
  go_enter Tryz.func133, Tryz.ntmps133
  go_wp2_with fail
  refine (HF.out _).mono ?_
  rintro e w1 ⟨x, y, z, rfl, hr, hb⟩
  have HR := Aside0.mk hr
  have HB1 := Aside0.mk (below_step HB.out hb)
  have BR1 := Aside0.mk (blk_below BR.out hb)
  have g0 := (blk_cell BR1.out 0).trans rfl
  have g1 := (blk_cell BR1.out 1).trans rfl
  have g2 := (blk_cell BR1.out 2).trans rfl
  have f0 := blk_frozen BR1.out 0
  have f1 := blk_frozen BR1.out 1
  have f2 := blk_frozen BR1.out 2
  simp at g0 g1 g2
  clear hr hb c0 HB BR HF
  go_wp2
  have hp := blk_put (blk_put (blk_put BR1.out 0 (.int .u32 x) rfl) 1 (.int .u32 y) rfl) 2 (.int .u32 z) rfl
  refine bodyPost_ret (results_cell_row rfl _ _ (w.heap.size + 1) 131 #[.int .u32 x, .int .u32 y, .int .u32 z] (0, 0) _ rfl hp Tryz.underlying131 rfl (by kernel_rfl)) rfl ⟨⟨x, y, z, rfl, HR.out⟩, ?_⟩
  exact below_set (below_set (below_set HB1.out (by omega)) (by omega)) (by omega)

end Go.Proofs.YtimghiiihjphiaaGreat.trips
