/- A part of the proof: the same done to each of three, by the program's own text. Condition: what is done to one is known. -/
import Derived.Test.YtimghiiihjphiaaGreatTriF
namespace Go.Proofs.YtimghiiihjphiaaGreat.trips
open Go.RowKit Go.Proofs.YtimghiiihjphiaaGreatW.PrintWords Go.Proofs.YtimghiiihjphiaaGreatW.PrintLast Go.Proofs.YtimghiiihjphiaaGreat.PTri
set_option linter.unusedVariables false
set_option linter.unusedSimpArgs false

/-- one function of a sample -/
def One (f : Nat) (a : Int) (R : Int → Prop) : Prop := ∀ W : World, Calls Tryz.prog f #[.int .u32 a] W fun e W' => ∃ x : Int, e = .returned (.int .u32 x) ∧ R x ∧ Below W.heap.size W W'
def eachT : Bool × List (List Nat × List Nat) := (true,
  [([], []), ([], []), ([1], [1]), ([0, 2], [0, 2]), ([], []), ([], []), ([5], [5]), ([4, 6, 3], [4, 6]), ([], []),
    ([], []), ([9], [9]), ([8, 10, 7], [8, 10]), ([3, 7, 11], [3, 7, 11]),
    ([12, 11, 0, 1, 2, 3, 4, 5, 6, 7, 8, 9, 10, 11, 12], [12])])
def eachB : List Nat := [0, 0, 2, 7, 0, 0, 32, 127, 0, 0, 512, 2047, 4095, 8191]
theorem each_tab : rtab .any (opsOf Tryz.f136 1) = eachT := by kernel_rfl
theorem each_bits : waitsOk eachT.2 eachB = true := by kernel_rfl

set_option maxHeartbeats 1600000 in
set_option maxRecDepth 100000 in
theorem each1_90 (a b c : Int) (Ra Rb Rc : Int → Prop) (ha : One 90 a Ra) (hb_ : One 90 b Rb) (hc : One 90 c Rc) (g : Nat) (w : World) (hg : w.heap[g]? = some (.cells #[fnV 90] 89 (0, 0))) :
    Calls Tryz.prog 136 #[.agg #[.int .u32 a, .int .u32 b, .int .u32 c], .pointer (some ⟨g, 0, none⟩)] w fun e w' => (∃ x y z : Int, e = .returned (.agg #[.int .u32 x, .int .u32 y, .int .u32 z]) ∧ Ra x ∧ Rb y ∧ Rc z) ∧ Below w.heap.size w w' := by
  have BG1 := Aside0.mk (blk_drew (blk_alloc (blk_alloc hg (.cells #[.int .u32 a, .int .u32 b, .int .u32 c] 131 (0, 0))) (.cells #[.int .u32 0, .int .u32 0, .int .u32 0] 131 (0, 0))))
  have BK1 := Aside0.mk (blk_drew (blk_alloc (blk_new w (.cells #[.int .u32 a, .int .u32 b, .int .u32 c] 131 (0, 0))) (.cells #[.int .u32 0, .int .u32 0, .int .u32 0] 131 (0, 0))))
  have BR1 := Aside0.mk (blk_drew (heap_alloc2_new w (.cells #[.int .u32 a, .int .u32 b, .int .u32 c] 131 (0, 0)) (.cells #[.int .u32 0, .int .u32 0, .int .u32 0] 131 (0, 0))))
  have HB1 := Aside0.mk (below_drew1 (below_alloc (below_alloc (Below.refl w.heap.size w) (.cells #[.int .u32 a, .int .u32 b, .int .u32 c] 131 (0, 0))) (.cells #[.int .u32 0, .int .u32 0, .int .u32 0] 131 (0, 0))))
  have HA := Aside0.mk ha
  have HBb := Aside0.mk hb_
  have HC := Aside0.mk hc
  clear ha hb_ hc hg
  have GE := Aside0.mk (show w.heap.size ≤ w.heap.size + 1 by omega)
  go_enter Tryz.func136, Tryz.ntmps136
  go_wp2_with fail
  generalize (w.alloc (.cells #[.int .u32 a, .int .u32 b, .int .u32 c] 131 (0, 0))).alloc (.cells #[.int .u32 0, .int .u32 0, .int .u32 0] 131 (0, 0)) = W at BG1 BK1 BR1 HB1 ⊢
  generalize w.heap.size + 1 = r at BR1 GE ⊢
  refine start_ (n := 14) (S := fun w' => w'.cell? ⟨g, 0, none⟩ = some (.func (.func 90) #[] #[]) ∧ w'.cell? ⟨w.heap.size, 0, none⟩ = some (.int .u32 a) ∧ w'.cell? ⟨w.heap.size, 1, none⟩ = some (.int .u32 b) ∧ w'.cell? ⟨w.heap.size, 2, none⟩ = some (.int .u32 c)) (ds := [13]) #[false, false, false, false, false, false, false, false, false, false, false, false, false, false] (by kernel_rfl) rfl rfl ⟨(blk_cell BG1.out 0).trans rfl, (blk_cell BK1.out 0).trans rfl, (blk_cell BK1.out 1).trans rfl, (blk_cell BK1.out 2).trans rfl⟩ (fun hHeld => ?_); refine with_tabW each_tab each_bits (fun HT_ HW_ => ?_)
  generalize W.drew = w4 at BG1 BK1 BR1 HB1 hHeld ⊢
  refine pure_ (i := 1) (N := some 5) (v := ?_) (a' := ?_) #[false, true, false, false, false, false, false, false, false, false, false, false, false, false] rfl rfl (any_of HT_.out (by kernel_rfl)) (fun _ _ _ h => h) (Or.inl ⟨by rfl, ?_⟩) ?_ ?_
  rotate_left
  · intro w'
    go_simp
    with_reducible rfl
  rotate_left
  · simp only [Act.put, List.setIfInBounds_toArray, List.set_cons_zero, List.set_cons_succ, i64_w, i32_w]
    rfl
  refine pure_ (i := 5) (N := some 9) (v := ?_) (a' := ?_) #[false, true, false, false, false, true, false, false, false, false, false, false, false, false] rfl rfl (any_of HT_.out (by kernel_rfl)) (fun _ _ _ h => h) (Or.inl ⟨by rfl, ?_⟩) ?_ ?_
  rotate_left
  · intro w'
    go_simp
    with_reducible rfl
  rotate_left
  · simp only [Act.put, List.setIfInBounds_toArray, List.set_cons_zero, List.set_cons_succ, i64_w, i32_w]
    rfl
  refine pure_ (i := 9) (N := some 13) (v := ?_) (a' := ?_) #[false, true, false, false, false, true, false, false, false, true, false, false, false, false] rfl rfl (any_of HT_.out (by kernel_rfl)) (fun _ _ _ h => h) (Or.inl ⟨by rfl, ?_⟩) ?_ ?_
  rotate_left
  · intro w'
    go_simp
    with_reducible rfl
  rotate_left
  · simp only [Act.put, List.setIfInBounds_toArray, List.set_cons_zero, List.set_cons_succ, i64_w, i32_w]
    rfl
  refine take_ (i := 0) (N := some 4) (v := ?_) (a' := ?_) #[true, true, false, false, false, true, false, false, false, true, false, false, false, false] rfl rfl (take_ofW HT_.out HW_.out (by kernel_rfl)) (fun _ _ _ h => h) (Or.inl ⟨by rfl, ?_⟩) hHeld ?_ ?_
  rotate_left
  · rintro w' ⟨s0, s1, s2, s3⟩
    go_simp
    with_reducible rfl
  rotate_left
  · simp only [Act.put, List.setIfInBounds_toArray, List.set_cons_zero, List.set_cons_succ, i64_w, i32_w]
    rfl
  refine take_ (i := 2) (N := some 6) (v := ?_) (a' := ?_) #[true, true, true, false, false, true, false, false, false, true, false, false, false, false] rfl rfl (take_ofW HT_.out HW_.out (by kernel_rfl)) (fun _ _ _ h => h) (Or.inl ⟨by rfl, ?_⟩) hHeld ?_ ?_
  rotate_left
  · rintro w' ⟨s0, s1, s2, s3⟩
    go_simp
    with_reducible rfl
  rotate_left
  · simp only [Act.put, List.setIfInBounds_toArray, List.set_cons_zero, List.set_cons_succ, i64_w, i32_w]
    rfl
  refine take_ (i := 4) (N := some 8) (v := ?_) (a' := ?_) #[true, true, true, false, true, true, false, false, false, true, false, false, false, false] rfl rfl (take_ofW HT_.out HW_.out (by kernel_rfl)) (fun _ _ _ h => h) (Or.inl ⟨by rfl, ?_⟩) hHeld ?_ ?_
  rotate_left
  · rintro w' ⟨s0, s1, s2, s3⟩
    go_simp
    with_reducible rfl
  rotate_left
  · simp only [Act.put, List.setIfInBounds_toArray, List.set_cons_zero, List.set_cons_succ, i64_w, i32_w]
    rfl
  refine take_ (i := 6) (N := some 10) (v := ?_) (a' := ?_) #[true, true, true, false, true, true, true, false, false, true, false, false, false, false] rfl rfl (take_ofW HT_.out HW_.out (by kernel_rfl)) (fun _ _ _ h => h) (Or.inl ⟨by rfl, ?_⟩) hHeld ?_ ?_
  rotate_left
  · rintro w' ⟨s0, s1, s2, s3⟩
    go_simp
    with_reducible rfl
  rotate_left
  · simp only [Act.put, List.setIfInBounds_toArray, List.set_cons_zero, List.set_cons_succ, i64_w, i32_w]
    rfl
  refine take_ (i := 8) (N := some 12) (v := ?_) (a' := ?_) #[true, true, true, false, true, true, true, false, true, true, false, false, false, false] rfl rfl (take_ofW HT_.out HW_.out (by kernel_rfl)) (fun _ _ _ h => h) (Or.inl ⟨by rfl, ?_⟩) hHeld ?_ ?_
  rotate_left
  · rintro w' ⟨s0, s1, s2, s3⟩
    go_simp
    with_reducible rfl
  rotate_left
  · simp only [Act.put, List.setIfInBounds_toArray, List.set_cons_zero, List.set_cons_succ, i64_w, i32_w]
    rfl
  refine take_ (i := 10) (N := some 14) (v := ?_) (a' := ?_) #[true, true, true, false, true, true, true, false, true, true, true, false, false, false] rfl rfl (take_ofW HT_.out HW_.out (by kernel_rfl)) (fun _ _ _ h => h) (Or.inl ⟨by rfl, ?_⟩) hHeld ?_ ?_
  rotate_left
  · rintro w' ⟨s0, s1, s2, s3⟩
    go_simp
    with_reducible rfl
  rotate_left
  · simp only [Act.put, List.setIfInBounds_toArray, List.set_cons_zero, List.set_cons_succ, i64_w, i32_w]
    rfl
  refine one_ (i := 3) (N := some 7) #[true, true, true, true, true, true, true, false, true, true, true, false, false, false] rfl rfl (one_of HT_.out (by kernel_rfl)) (by decide) (fun K hK => ?_)
  refine vgoes_ (x := 4) (caps := #[]) Tryz.func90 (by kernel_rfl) rfl #[.int .u32 a] (by rfl) rfl rfl (by rfl) (by simp [Act.eval]) ?_
  refine (HA.out w4).mono ?_
  rintro e w5 ⟨x, rfl, hrx, hb⟩
  refine ⟨_, rfl, ?_⟩
  have BG2 := Aside0.mk (blk_below BG1.out hb)
  have BK2 := Aside0.mk (blk_below BK1.out hb)
  have BR2 := Aside0.mk (blk_below BR1.out hb)
  have HB2 := Aside0.mk (below_step HB1.out hb)
  have HRx := Aside0.mk hrx
  clear hrx hb BG1 BK1 BR1 HB1 hHeld
  refine hK.out _ _ ⟨(blk_cell BG2.out 0).trans rfl, (blk_cell BK2.out 0).trans rfl, (blk_cell BK2.out 1).trans rfl, (blk_cell BK2.out 2).trans rfl⟩ (fun hHeld => ?_)
  clear hK K
  refine norm_ (a' := ?_) ?_ ?_
  rotate_left
  · show Act.put _ (some 7) _ = _
    simp only [Act.put, List.setIfInBounds_toArray, List.set_cons_zero, List.set_cons_succ, i64_w, i32_w]
    rfl
  refine one_ (i := 7) (N := some 11) #[true, true, true, true, true, true, true, true, true, true, true, false, false, false] rfl rfl (one_of HT_.out (by kernel_rfl)) (by decide) (fun K hK => ?_)
  refine vgoes_ (x := 8) (caps := #[]) Tryz.func90 (by kernel_rfl) rfl #[.int .u32 b] (by rfl) rfl rfl (by rfl) (by simp [Act.eval]) ?_
  refine (HBb.out w5).mono ?_
  rintro e w6 ⟨y, rfl, hry, hb⟩
  refine ⟨_, rfl, ?_⟩
  have BG3 := Aside0.mk (blk_below BG2.out hb)
  have BK3 := Aside0.mk (blk_below BK2.out hb)
  have BR3 := Aside0.mk (blk_below BR2.out hb)
  have HB3 := Aside0.mk (below_step HB2.out hb)
  have HRy := Aside0.mk hry
  clear hry hb BG2 BK2 BR2 HB2 hHeld
  refine hK.out _ _ ⟨(blk_cell BG3.out 0).trans rfl, (blk_cell BK3.out 0).trans rfl, (blk_cell BK3.out 1).trans rfl, (blk_cell BK3.out 2).trans rfl⟩ (fun hHeld => ?_)
  clear hK K
  refine norm_ (a' := ?_) ?_ ?_
  rotate_left
  · show Act.put _ (some 11) _ = _
    simp only [Act.put, List.setIfInBounds_toArray, List.set_cons_zero, List.set_cons_succ, i64_w, i32_w]
    rfl
  refine one_ (i := 11) (N := some 15) #[true, true, true, true, true, true, true, true, true, true, true, true, false, false] rfl rfl (one_of HT_.out (by kernel_rfl)) (by decide) (fun K hK => ?_)
  refine vgoes_ (x := 12) (caps := #[]) Tryz.func90 (by kernel_rfl) rfl #[.int .u32 c] (by rfl) rfl rfl (by rfl) (by simp [Act.eval]) ?_
  refine (HC.out w6).mono ?_
  rintro e w7 ⟨z, rfl, hrz, hb⟩
  refine ⟨_, rfl, ?_⟩
  have BG4 := Aside0.mk (blk_below BG3.out hb)
  have BK4 := Aside0.mk (blk_below BK3.out hb)
  have BR4 := Aside0.mk (blk_below BR3.out hb)
  have HB4 := Aside0.mk (below_step HB3.out hb)
  have HRz := Aside0.mk hrz
  clear hrz hb BG3 BK3 BR3 HB3 hHeld
  refine hK.out _ _ ⟨(blk_cell BG4.out 0).trans rfl, (blk_cell BK4.out 0).trans rfl, (blk_cell BK4.out 1).trans rfl, (blk_cell BK4.out 2).trans rfl⟩ (fun hHeld => ?_)
  clear hK K
  refine norm_ (a' := ?_) ?_ ?_
  rotate_left
  · show Act.put _ (some 15) _ = _
    simp only [Act.put, List.setIfInBounds_toArray, List.set_cons_zero, List.set_cons_succ, i64_w, i32_w]
    rfl
  refine pure_ (i := 12) (N := some 16) (v := ?_) (a' := ?_) #[true, true, true, true, true, true, true, true, true, true, true, true, true, false] rfl rfl (any_of HT_.out (by kernel_rfl)) (fun _ _ _ h => h) (Or.inl ⟨by rfl, ?_⟩) ?_ ?_
  rotate_left
  · intro w'
    go_simp
    with_reducible rfl
  rotate_left
  · simp only [Act.put, List.setIfInBounds_toArray, List.set_cons_zero, List.set_cons_succ, i64_w, i32_w]
    rfl
  have hcz0 : w7.cell? ⟨r, 0, none⟩ = some (.int .u32 0) := (blk_cell BR4.out 0).trans rfl
  have hcz1 : w7.cell? ⟨r, 1, none⟩ = some (.int .u32 0) := (blk_cell BR4.out 1).trans rfl
  have hcz2 : w7.cell? ⟨r, 2, none⟩ = some (.int .u32 0) := (blk_cell BR4.out 2).trans rfl
  have hfz0 := blk_frozen BR4.out 0
  have hfz1 := blk_frozen BR4.out 1
  have hfz2 := blk_frozen BR4.out 2
  refine last_ (i := 13) (N := none) #[true, true, true, true, true, true, true, true, true, true, true, true, true, true] rfl rfl (one_of HT_.out (by kernel_rfl)) (by decide) (fun K hK => ?_)
  refine skip_ (w1 := ?_) (by rfl) rfl ?_ ?_
  rotate_left
  · go_simp
    rfl
  refine hK.out _ _ ?_
  clear hK K
  refine done_ (done_of HT_.out (by kernel_rfl)) ?_
  try go_wp2
  have hp := blk_put (blk_put (blk_put BR4.out 0 (.int .u32 x) rfl) 1 (.int .u32 y) rfl) 2 (.int .u32 z) rfl
  refine bodyPost_ret (results_cell_row rfl _ _ r 131 #[.int .u32 x, .int .u32 y, .int .u32 z] (0, 0) _ rfl hp Tryz.underlying131 rfl (by kernel_rfl)) rfl ⟨⟨x, y, z, rfl, HRx.out, HRy.out, HRz.out⟩, ?_⟩
  exact below_set (below_set (below_set HB4.out GE.out) GE.out) GE.out

set_option maxHeartbeats 1600000 in
set_option maxRecDepth 100000 in
theorem each1_89 (a b c : Int) (Ra Rb Rc : Int → Prop) (ha : One 89 a Ra) (hb_ : One 89 b Rb) (hc : One 89 c Rc) (g : Nat) (w : World) (hg : w.heap[g]? = some (.cells #[fnV 89] 89 (0, 0))) :
    Calls Tryz.prog 136 #[.agg #[.int .u32 a, .int .u32 b, .int .u32 c], .pointer (some ⟨g, 0, none⟩)] w fun e w' => (∃ x y z : Int, e = .returned (.agg #[.int .u32 x, .int .u32 y, .int .u32 z]) ∧ Ra x ∧ Rb y ∧ Rc z) ∧ Below w.heap.size w w' := by
  have BG1 := Aside0.mk (blk_drew (blk_alloc (blk_alloc hg (.cells #[.int .u32 a, .int .u32 b, .int .u32 c] 131 (0, 0))) (.cells #[.int .u32 0, .int .u32 0, .int .u32 0] 131 (0, 0))))
  have BK1 := Aside0.mk (blk_drew (blk_alloc (blk_new w (.cells #[.int .u32 a, .int .u32 b, .int .u32 c] 131 (0, 0))) (.cells #[.int .u32 0, .int .u32 0, .int .u32 0] 131 (0, 0))))
  have BR1 := Aside0.mk (blk_drew (heap_alloc2_new w (.cells #[.int .u32 a, .int .u32 b, .int .u32 c] 131 (0, 0)) (.cells #[.int .u32 0, .int .u32 0, .int .u32 0] 131 (0, 0))))
  have HB1 := Aside0.mk (below_drew1 (below_alloc (below_alloc (Below.refl w.heap.size w) (.cells #[.int .u32 a, .int .u32 b, .int .u32 c] 131 (0, 0))) (.cells #[.int .u32 0, .int .u32 0, .int .u32 0] 131 (0, 0))))
  have HA := Aside0.mk ha
  have HBb := Aside0.mk hb_
  have HC := Aside0.mk hc
  clear ha hb_ hc hg
  have GE := Aside0.mk (show w.heap.size ≤ w.heap.size + 1 by omega)
  go_enter Tryz.func136, Tryz.ntmps136
  go_wp2_with fail
  generalize (w.alloc (.cells #[.int .u32 a, .int .u32 b, .int .u32 c] 131 (0, 0))).alloc (.cells #[.int .u32 0, .int .u32 0, .int .u32 0] 131 (0, 0)) = W at BG1 BK1 BR1 HB1 ⊢
  generalize w.heap.size + 1 = r at BR1 GE ⊢
  refine start_ (n := 14) (S := fun w' => w'.cell? ⟨g, 0, none⟩ = some (.func (.func 89) #[] #[]) ∧ w'.cell? ⟨w.heap.size, 0, none⟩ = some (.int .u32 a) ∧ w'.cell? ⟨w.heap.size, 1, none⟩ = some (.int .u32 b) ∧ w'.cell? ⟨w.heap.size, 2, none⟩ = some (.int .u32 c)) (ds := [13]) #[false, false, false, false, false, false, false, false, false, false, false, false, false, false] (by kernel_rfl) rfl rfl ⟨(blk_cell BG1.out 0).trans rfl, (blk_cell BK1.out 0).trans rfl, (blk_cell BK1.out 1).trans rfl, (blk_cell BK1.out 2).trans rfl⟩ (fun hHeld => ?_); refine with_tabW each_tab each_bits (fun HT_ HW_ => ?_)
  generalize W.drew = w4 at BG1 BK1 BR1 HB1 hHeld ⊢
  refine pure_ (i := 1) (N := some 5) (v := ?_) (a' := ?_) #[false, true, false, false, false, false, false, false, false, false, false, false, false, false] rfl rfl (any_of HT_.out (by kernel_rfl)) (fun _ _ _ h => h) (Or.inl ⟨by rfl, ?_⟩) ?_ ?_
  rotate_left
  · intro w'
    go_simp
    with_reducible rfl
  rotate_left
  · simp only [Act.put, List.setIfInBounds_toArray, List.set_cons_zero, List.set_cons_succ, i64_w, i32_w]
    rfl
  refine pure_ (i := 5) (N := some 9) (v := ?_) (a' := ?_) #[false, true, false, false, false, true, false, false, false, false, false, false, false, false] rfl rfl (any_of HT_.out (by kernel_rfl)) (fun _ _ _ h => h) (Or.inl ⟨by rfl, ?_⟩) ?_ ?_
  rotate_left
  · intro w'
    go_simp
    with_reducible rfl
  rotate_left
  · simp only [Act.put, List.setIfInBounds_toArray, List.set_cons_zero, List.set_cons_succ, i64_w, i32_w]
    rfl
  refine pure_ (i := 9) (N := some 13) (v := ?_) (a' := ?_) #[false, true, false, false, false, true, false, false, false, true, false, false, false, false] rfl rfl (any_of HT_.out (by kernel_rfl)) (fun _ _ _ h => h) (Or.inl ⟨by rfl, ?_⟩) ?_ ?_
  rotate_left
  · intro w'
    go_simp
    with_reducible rfl
  rotate_left
  · simp only [Act.put, List.setIfInBounds_toArray, List.set_cons_zero, List.set_cons_succ, i64_w, i32_w]
    rfl
  refine take_ (i := 0) (N := some 4) (v := ?_) (a' := ?_) #[true, true, false, false, false, true, false, false, false, true, false, false, false, false] rfl rfl (take_ofW HT_.out HW_.out (by kernel_rfl)) (fun _ _ _ h => h) (Or.inl ⟨by rfl, ?_⟩) hHeld ?_ ?_
  rotate_left
  · rintro w' ⟨s0, s1, s2, s3⟩
    go_simp
    with_reducible rfl
  rotate_left
  · simp only [Act.put, List.setIfInBounds_toArray, List.set_cons_zero, List.set_cons_succ, i64_w, i32_w]
    rfl
  refine take_ (i := 2) (N := some 6) (v := ?_) (a' := ?_) #[true, true, true, false, false, true, false, false, false, true, false, false, false, false] rfl rfl (take_ofW HT_.out HW_.out (by kernel_rfl)) (fun _ _ _ h => h) (Or.inl ⟨by rfl, ?_⟩) hHeld ?_ ?_
  rotate_left
  · rintro w' ⟨s0, s1, s2, s3⟩
    go_simp
    with_reducible rfl
  rotate_left
  · simp only [Act.put, List.setIfInBounds_toArray, List.set_cons_zero, List.set_cons_succ, i64_w, i32_w]
    rfl
  refine take_ (i := 4) (N := some 8) (v := ?_) (a' := ?_) #[true, true, true, false, true, true, false, false, false, true, false, false, false, false] rfl rfl (take_ofW HT_.out HW_.out (by kernel_rfl)) (fun _ _ _ h => h) (Or.inl ⟨by rfl, ?_⟩) hHeld ?_ ?_
  rotate_left
  · rintro w' ⟨s0, s1, s2, s3⟩
    go_simp
    with_reducible rfl
  rotate_left
  · simp only [Act.put, List.setIfInBounds_toArray, List.set_cons_zero, List.set_cons_succ, i64_w, i32_w]
    rfl
  refine take_ (i := 6) (N := some 10) (v := ?_) (a' := ?_) #[true, true, true, false, true, true, true, false, false, true, false, false, false, false] rfl rfl (take_ofW HT_.out HW_.out (by kernel_rfl)) (fun _ _ _ h => h) (Or.inl ⟨by rfl, ?_⟩) hHeld ?_ ?_
  rotate_left
  · rintro w' ⟨s0, s1, s2, s3⟩
    go_simp
    with_reducible rfl
  rotate_left
  · simp only [Act.put, List.setIfInBounds_toArray, List.set_cons_zero, List.set_cons_succ, i64_w, i32_w]
    rfl
  refine take_ (i := 8) (N := some 12) (v := ?_) (a' := ?_) #[true, true, true, false, true, true, true, false, true, true, false, false, false, false] rfl rfl (take_ofW HT_.out HW_.out (by kernel_rfl)) (fun _ _ _ h => h) (Or.inl ⟨by rfl, ?_⟩) hHeld ?_ ?_
  rotate_left
  · rintro w' ⟨s0, s1, s2, s3⟩
    go_simp
    with_reducible rfl
  rotate_left
  · simp only [Act.put, List.setIfInBounds_toArray, List.set_cons_zero, List.set_cons_succ, i64_w, i32_w]
    rfl
  refine take_ (i := 10) (N := some 14) (v := ?_) (a' := ?_) #[true, true, true, false, true, true, true, false, true, true, true, false, false, false] rfl rfl (take_ofW HT_.out HW_.out (by kernel_rfl)) (fun _ _ _ h => h) (Or.inl ⟨by rfl, ?_⟩) hHeld ?_ ?_
  rotate_left
  · rintro w' ⟨s0, s1, s2, s3⟩
    go_simp
    with_reducible rfl
  rotate_left
  · simp only [Act.put, List.setIfInBounds_toArray, List.set_cons_zero, List.set_cons_succ, i64_w, i32_w]
    rfl
  refine one_ (i := 3) (N := some 7) #[true, true, true, true, true, true, true, false, true, true, true, false, false, false] rfl rfl (one_of HT_.out (by kernel_rfl)) (by decide) (fun K hK => ?_)
  refine vgoes_ (x := 4) (caps := #[]) Tryz.func89 (by kernel_rfl) rfl #[.int .u32 a] (by rfl) rfl rfl (by rfl) (by simp [Act.eval]) ?_
  refine (HA.out w4).mono ?_
  rintro e w5 ⟨x, rfl, hrx, hb⟩
  refine ⟨_, rfl, ?_⟩
  have BG2 := Aside0.mk (blk_below BG1.out hb)
  have BK2 := Aside0.mk (blk_below BK1.out hb)
  have BR2 := Aside0.mk (blk_below BR1.out hb)
  have HB2 := Aside0.mk (below_step HB1.out hb)
  have HRx := Aside0.mk hrx
  clear hrx hb BG1 BK1 BR1 HB1 hHeld
  refine hK.out _ _ ⟨(blk_cell BG2.out 0).trans rfl, (blk_cell BK2.out 0).trans rfl, (blk_cell BK2.out 1).trans rfl, (blk_cell BK2.out 2).trans rfl⟩ (fun hHeld => ?_)
  clear hK K
  refine norm_ (a' := ?_) ?_ ?_
  rotate_left
  · show Act.put _ (some 7) _ = _
    simp only [Act.put, List.setIfInBounds_toArray, List.set_cons_zero, List.set_cons_succ, i64_w, i32_w]
    rfl
  refine one_ (i := 7) (N := some 11) #[true, true, true, true, true, true, true, true, true, true, true, false, false, false] rfl rfl (one_of HT_.out (by kernel_rfl)) (by decide) (fun K hK => ?_)
  refine vgoes_ (x := 8) (caps := #[]) Tryz.func89 (by kernel_rfl) rfl #[.int .u32 b] (by rfl) rfl rfl (by rfl) (by simp [Act.eval]) ?_
  refine (HBb.out w5).mono ?_
  rintro e w6 ⟨y, rfl, hry, hb⟩
  refine ⟨_, rfl, ?_⟩
  have BG3 := Aside0.mk (blk_below BG2.out hb)
  have BK3 := Aside0.mk (blk_below BK2.out hb)
  have BR3 := Aside0.mk (blk_below BR2.out hb)
  have HB3 := Aside0.mk (below_step HB2.out hb)
  have HRy := Aside0.mk hry
  clear hry hb BG2 BK2 BR2 HB2 hHeld
  refine hK.out _ _ ⟨(blk_cell BG3.out 0).trans rfl, (blk_cell BK3.out 0).trans rfl, (blk_cell BK3.out 1).trans rfl, (blk_cell BK3.out 2).trans rfl⟩ (fun hHeld => ?_)
  clear hK K
  refine norm_ (a' := ?_) ?_ ?_
  rotate_left
  · show Act.put _ (some 11) _ = _
    simp only [Act.put, List.setIfInBounds_toArray, List.set_cons_zero, List.set_cons_succ, i64_w, i32_w]
    rfl
  refine one_ (i := 11) (N := some 15) #[true, true, true, true, true, true, true, true, true, true, true, true, false, false] rfl rfl (one_of HT_.out (by kernel_rfl)) (by decide) (fun K hK => ?_)
  refine vgoes_ (x := 12) (caps := #[]) Tryz.func89 (by kernel_rfl) rfl #[.int .u32 c] (by rfl) rfl rfl (by rfl) (by simp [Act.eval]) ?_
  refine (HC.out w6).mono ?_
  rintro e w7 ⟨z, rfl, hrz, hb⟩
  refine ⟨_, rfl, ?_⟩
  have BG4 := Aside0.mk (blk_below BG3.out hb)
  have BK4 := Aside0.mk (blk_below BK3.out hb)
  have BR4 := Aside0.mk (blk_below BR3.out hb)
  have HB4 := Aside0.mk (below_step HB3.out hb)
  have HRz := Aside0.mk hrz
  clear hrz hb BG3 BK3 BR3 HB3 hHeld
  refine hK.out _ _ ⟨(blk_cell BG4.out 0).trans rfl, (blk_cell BK4.out 0).trans rfl, (blk_cell BK4.out 1).trans rfl, (blk_cell BK4.out 2).trans rfl⟩ (fun hHeld => ?_)
  clear hK K
  refine norm_ (a' := ?_) ?_ ?_
  rotate_left
  · show Act.put _ (some 15) _ = _
    simp only [Act.put, List.setIfInBounds_toArray, List.set_cons_zero, List.set_cons_succ, i64_w, i32_w]
    rfl
  refine pure_ (i := 12) (N := some 16) (v := ?_) (a' := ?_) #[true, true, true, true, true, true, true, true, true, true, true, true, true, false] rfl rfl (any_of HT_.out (by kernel_rfl)) (fun _ _ _ h => h) (Or.inl ⟨by rfl, ?_⟩) ?_ ?_
  rotate_left
  · intro w'
    go_simp
    with_reducible rfl
  rotate_left
  · simp only [Act.put, List.setIfInBounds_toArray, List.set_cons_zero, List.set_cons_succ, i64_w, i32_w]
    rfl
  have hcz0 : w7.cell? ⟨r, 0, none⟩ = some (.int .u32 0) := (blk_cell BR4.out 0).trans rfl
  have hcz1 : w7.cell? ⟨r, 1, none⟩ = some (.int .u32 0) := (blk_cell BR4.out 1).trans rfl
  have hcz2 : w7.cell? ⟨r, 2, none⟩ = some (.int .u32 0) := (blk_cell BR4.out 2).trans rfl
  have hfz0 := blk_frozen BR4.out 0
  have hfz1 := blk_frozen BR4.out 1
  have hfz2 := blk_frozen BR4.out 2
  refine last_ (i := 13) (N := none) #[true, true, true, true, true, true, true, true, true, true, true, true, true, true] rfl rfl (one_of HT_.out (by kernel_rfl)) (by decide) (fun K hK => ?_)
  refine skip_ (w1 := ?_) (by rfl) rfl ?_ ?_
  rotate_left
  · go_simp
    rfl
  refine hK.out _ _ ?_
  clear hK K
  refine done_ (done_of HT_.out (by kernel_rfl)) ?_
  try go_wp2
  have hp := blk_put (blk_put (blk_put BR4.out 0 (.int .u32 x) rfl) 1 (.int .u32 y) rfl) 2 (.int .u32 z) rfl
  refine bodyPost_ret (results_cell_row rfl _ _ r 131 #[.int .u32 x, .int .u32 y, .int .u32 z] (0, 0) _ rfl hp Tryz.underlying131 rfl (by kernel_rfl)) rfl ⟨⟨x, y, z, rfl, HRx.out, HRy.out, HRz.out⟩, ?_⟩
  exact below_set (below_set (below_set HB4.out GE.out) GE.out) GE.out

end Go.Proofs.YtimghiiihjphiaaGreat.trips
