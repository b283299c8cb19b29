/- A part of the proof: a plane copied, by the program's own text. Condition: the plane has samples, not too many. -/
import Derived.Test.YtimghiiihjphiaaGreatTriA
import Derived.WalkSpells
namespace Go.Proofs.YtimghiiihjphiaaGreat.trips
open Go.RowKit Go.Proofs.YtimghiiihjphiaaGreatW.PrintWords Go.Proofs.YtimghiiihjphiaaGreatW.PrintLast Go.Proofs.YtimghiiihjphiaaGreat.PTri
set_option linter.unusedVariables false
set_option linter.unusedSimpArgs false

theorem own_empty (w : World) : (w.alloc (.cells #[] 38)).ownsRow w.heap.size 38 1 (.slice (some ⟨w.heap.size, 0, none⟩) 0 0) 0 [] :=
  ⟨rfl, Or.inr ⟨w.heap.size, 0, #[], rfl, Nat.le_refl _, blk_new w (.cells #[] 38), Nat.le_refl _, Nat.zero_le _, rfl, rfl⟩⟩
theorem R_empty (w : World) : (Kd.int .u32).R 38 (w.alloc (.cells #[] 38)) w.heap.size (fun _ => True) (.slice (some ⟨w.heap.size, 0, none⟩) 0 0) ([] : List Int) :=
  Kd.R_of_own (xs := ([] : List Int)) (own_empty w) (fun _ _ => trivial)

set_option maxHeartbeats 800000 in
set_option maxRecDepth 100000 in
theorem clone_any (w : World) (A : Option Addr) (cap : Nat) (xs : List Int) (hx : Kd.C (Kd.int .u32) w A xs.length xs) (hc : xs.length ≤ cap) (hp0 : 0 < xs.length) (hn : xs.length ≤ 2000000) :
    Calls Tryz.prog 59 #[.slice A xs.length cap] w fun e w' => ∃ v, e = .returned v ∧ Kd.R (Kd.int .u32) 38 w' w.heap.size (fun _ => True) v xs ∧ Below w.heap.size w w' := by
  obtain ⟨ad, rfl⟩ : ∃ ad, A = some ad := by obtain ⟨ad, h, _⟩ := hx.2.2 hp0; exact ⟨ad, h⟩
  have HX := Aside0.mk hx
  clear hx
  have hnil : ∀ w, (binOp .eql 35 (.slice (some ad) xs.length cap) (.slice none 0 0)).run Tryz.prog w = .ok (.bool false) w := fun w => Lib.run_eql_slice_nil w 35 38 (some ad) xs.length cap 0 0 Tryz.underlying35
  go_enter Tryz.func59, Tryz.ntmps59
  go_wp2_with (at_builtin; refine Kd.R_append_rows (Kd.int .u32) (w0 := w) w.heap.size rfl (.tmp 5) (.tmp 6) 35 38 (.int .u32 0) 4 rfl Tryz.underlying35 info38 rfl (by decide) (by omega) (.slice (some ⟨w.heap.size, 0, none⟩) 0 0) [] xs (some ad) xs.length cap (fun _ => True) (fun _ => False) rfl rfl (R_empty w) (Kd.C_alloc HX.out _) (fun x cs h => h) (fun _ hk => hk.elim) (fun _ _ => trivial) (below_alloc (Below.refl _ _) _) (by simp) (by simp; omega) ?_; intro v w1 ho hb hg hat; have HO := Aside0.mk ho; have HB := Aside0.mk hb; clear ho hb hg hat)
  go_ret
  exact ⟨_, rfl, HO.out, HB.out⟩

def copyT : Bool × List (List Nat × List Nat) := (true, [([], []), ([0], [0]), ([], []), ([2], [2]), ([], []), ([4], [4]), ([5], [5]), ([1, 3, 6], [1, 3, 6]), ([7, 6, 0, 1, 2, 3, 4, 5, 6, 7], [7])])
def copyB : List Nat := [0, 1, 0, 4, 0, 16, 48, 127, 255]
theorem copy_tab : rtab .any (opsOf Tryz.f36 1) = copyT := by kernel_rfl
theorem copy_bits : waitsOk copyT.2 copyB = true := by kernel_rfl

set_option maxHeartbeats 1600000 in
set_option maxRecDepth 100000 in
theorem copy_any (w : World) (a b : Int) (A : Option Addr) (cap : Nat) (xs : List Int) (hx : Kd.C (Kd.int .u32) w A xs.length xs) (hc : xs.length ≤ cap) (hp0 : 0 < xs.length) (hn : xs.length ≤ 2000000) :
    Calls Tryz.prog 36 #[.agg #[.int .i64 a, .int .i64 b, .slice A xs.length cap]] w fun e w' => ∃ v, e = .returned (.agg #[.int .i64 a, .int .i64 b, v]) ∧ Kd.R (Kd.int .u32) 38 w' w.heap.size (fun _ => True) v xs ∧ Below w.heap.size w w' := by
  have HX := Aside0.mk hx
  clear hx
  go_enter Tryz.func36, Tryz.ntmps36
  go_wp2_with fail
  have HB0 := below_alloc (below_alloc (Below.refl w.heap.size w) (.cells #[.int .i64 a, .int .i64 b, .slice A xs.length cap] 37 (0, 0))) (.cells #[.int .i64 0, .int .i64 0, .slice none 0 0] 37 (0, 0))
  have HB := Aside0.mk (below_drew1 HB0)
  have BK1 := Aside0.mk (blk_drew (blk_alloc (blk_new w (.cells #[.int .i64 a, .int .i64 b, .slice A xs.length cap] 37 (0, 0))) (.cells #[.int .i64 0, .int .i64 0, .slice none 0 0] 37 (0, 0))))
  have BK2 := Aside0.mk (blk_drew (blk_new (w.alloc (.cells #[.int .i64 a, .int .i64 b, .slice A xs.length cap] 37 (0, 0))) (.cells #[.int .i64 0, .int .i64 0, .slice none 0 0] 37 (0, 0))))
  have HX1 := Aside0.mk (Kd.C_below HX.out HB.out)
  clear HB0
  rw [show (w.alloc (.cells #[.int .i64 a, .int .i64 b, .slice A xs.length cap] 37 (0, 0))).heap.size = w.heap.size + 1 by simp] at BK2 
  generalize (w.alloc (.cells #[.int .i64 a, .int .i64 b, .slice A xs.length cap] 37 (0, 0))).alloc (.cells #[.int .i64 0, .int .i64 0, .slice none 0 0] 37 (0, 0)) = W at BK1 BK2 HB HX1 ⊢
  have hg12 : w.heap.size ≠ w.heap.size + 1 := by omega
  have GE2 := Aside0.mk (show w.heap.size ≤ w.heap.size + 1 by omega)
  generalize w.heap.size + 1 = g2 at BK2 GE2 ⊢
  clear hg12
  refine start_ (n := 9) (S := fun w' => w'.cell? ⟨w.heap.size, 0, none⟩ = some (.int .i64 a) ∧ w'.cell? ⟨w.heap.size, 1, none⟩ = some (.int .i64 b) ∧ w'.cell? ⟨w.heap.size, 2, none⟩ = some (.slice A xs.length cap)) (ds := [8]) #[false, false, false, false, false, false, false, false, false] (by kernel_rfl) rfl rfl ⟨(blk_cell BK1.out 0).trans rfl, (blk_cell BK1.out 1).trans rfl, (blk_cell BK1.out 2).trans rfl⟩ (fun hHeld => ?_); refine with_tabW copy_tab copy_bits (fun HT_ HW_ => ?_)
  generalize W.drew = w4 at BK1 BK2 HB HX1 hHeld ⊢
  refine pure_ (i := 0) (N := some 3) (v := ?_) (a' := ?_) #[true, false, false, false, false, false, false, false, false] rfl rfl (any_of HT_.out (by kernel_rfl)) (fun _ _ _ h => h) (Or.inl ⟨by rfl, ?_⟩) ?_ ?_
  rotate_left
  · intro w'
    go_simp
    with_reducible rfl
  rotate_left
  · simp only [Act.put, List.setIfInBounds_toArray, List.set_cons_zero, List.set_cons_succ, i64_w, i32_w]
    rfl
  refine pure_ (i := 2) (N := some 5) (v := ?_) (a' := ?_) #[true, false, true, false, false, false, false, false, false] rfl rfl (any_of HT_.out (by kernel_rfl)) (fun _ _ _ h => h) (Or.inl ⟨by rfl, ?_⟩) ?_ ?_
  rotate_left
  · intro w'
    go_simp
    with_reducible rfl
  rotate_left
  · simp only [Act.put, List.setIfInBounds_toArray, List.set_cons_zero, List.set_cons_succ, i64_w, i32_w]
    rfl
  refine pure_ (i := 4) (N := some 7) (v := ?_) (a' := ?_) #[true, false, true, false, true, false, false, false, false] rfl rfl (any_of HT_.out (by kernel_rfl)) (fun _ _ _ h => h) (Or.inl ⟨by rfl, ?_⟩) ?_ ?_
  rotate_left
  · intro w'
    go_simp
    with_reducible rfl
  rotate_left
  · simp only [Act.put, List.setIfInBounds_toArray, List.set_cons_zero, List.set_cons_succ, i64_w, i32_w]
    rfl
  refine take_ (i := 1) (N := some 4) (v := ?_) (a' := ?_) #[true, true, true, false, true, false, false, false, false] rfl rfl (take_ofW HT_.out HW_.out (by kernel_rfl)) (fun _ _ _ h => h) (Or.inl ⟨by rfl, ?_⟩) hHeld ?_ ?_
  rotate_left
  · rintro w' ⟨s0, s1, s2⟩
    go_simp
    with_reducible rfl
  rotate_left
  · simp only [Act.put, List.setIfInBounds_toArray, List.set_cons_zero, List.set_cons_succ, i64_w, i32_w]
    rfl
  refine take_ (i := 3) (N := some 6) (v := ?_) (a' := ?_) #[true, true, true, true, true, false, false, false, false] rfl rfl (take_ofW HT_.out HW_.out (by kernel_rfl)) (fun _ _ _ h => h) (Or.inl ⟨by rfl, ?_⟩) hHeld ?_ ?_
  rotate_left
  · rintro w' ⟨s0, s1, s2⟩
    go_simp
    with_reducible rfl
  rotate_left
  · simp only [Act.put, List.setIfInBounds_toArray, List.set_cons_zero, List.set_cons_succ, i64_w, i32_w]
    rfl
  refine take_ (i := 5) (N := some 8) (v := ?_) (a' := ?_) #[true, true, true, true, true, true, false, false, false] rfl rfl (take_ofW HT_.out HW_.out (by kernel_rfl)) (fun _ _ _ h => h) (Or.inl ⟨by rfl, ?_⟩) hHeld ?_ ?_
  rotate_left
  · rintro w' ⟨s0, s1, s2⟩
    go_simp
    with_reducible rfl
  rotate_left
  · simp only [Act.put, List.setIfInBounds_toArray, List.set_cons_zero, List.set_cons_succ, i64_w, i32_w]
    rfl
  refine one_ (i := 6) (N := some 9) #[true, true, true, true, true, true, true, false, false] rfl rfl (one_of HT_.out (by kernel_rfl)) (by decide) (fun K hK => ?_)
  refine goes_ Tryz.func59 (by kernel_rfl) rfl #[.slice A xs.length cap] (by rfl) rfl rfl (by (try simp only [List.map_toArray, List.map_cons, List.map_nil]); first | done | rfl) ?_
  refine (clone_any w4 A cap xs HX1.out hc hp0 hn).mono ?_
  rintro e w5 ⟨v, rfl, ho, hb⟩
  refine ⟨_, rfl, ?_⟩
  have n0_ := Aside0.mk (blk_below BK1.out hb)
  have n1_ := Aside0.mk (blk_below BK2.out hb)
  have HO := Aside0.mk (Kd.R_lower ho HB.out.size)
  have n2_ := Aside0.mk (below_step HB.out hb)
  have HNE := Aside0.mk (Kd.R_bound ho)
  clear BK1 BK2 HB HX1
  have BK1 := n0_
  have BK2 := n1_
  have HB := n2_
  clear n0_ n1_ n2_ ho hb
  refine hK.out _ _ ⟨(blk_cell BK1.out 0).trans rfl, (blk_cell BK1.out 1).trans rfl, (blk_cell BK1.out 2).trans rfl⟩ (fun hHeld => ?_)
  clear hK K
  refine norm_ (a' := ?_) ?_ ?_
  rotate_left
  · show Act.put _ (some 9) _ = _
    simp only [Act.put, List.setIfInBounds_toArray, List.set_cons_zero, List.set_cons_succ, i64_w, i32_w]
    rfl
  obtain ⟨A', c', rfl⟩ := Kd.R_slice HO.out
  refine pure_ (i := 7) (N := some 10) (v := ?_) (a' := ?_) #[true, true, true, true, true, true, true, true, false] rfl rfl (any_of HT_.out (by kernel_rfl)) (fun _ _ _ h => h) (Or.inl ⟨by rfl, ?_⟩) ?_ ?_
  rotate_left
  · intro w'
    go_simp
    with_reducible rfl
  rotate_left
  · simp only [Act.put, List.setIfInBounds_toArray, List.set_cons_zero, List.set_cons_succ, i64_w, i32_w]
    rfl
  have hcz0 : w5.cell? ⟨g2, 0, none⟩ = some (.int .i64 0) := (blk_cell BK2.out 0).trans rfl
  have hcz1 : w5.cell? ⟨g2, 1, none⟩ = some (.int .i64 0) := (blk_cell BK2.out 1).trans rfl
  have hcz2 : w5.cell? ⟨g2, 2, none⟩ = some (.slice none 0 0) := (blk_cell BK2.out 2).trans rfl
  have hfz0 := blk_frozen BK2.out 0
  have hfz1 := blk_frozen BK2.out 1
  have hfz2 := blk_frozen BK2.out 2
  refine last_ (i := 8) (N := none) #[true, true, true, true, true, true, true, true, true] rfl rfl (one_of HT_.out (by kernel_rfl)) (by decide) (fun K hK => ?_)
  refine skip_ (w1 := ?_) (by rfl) rfl ?_ ?_
  rotate_left
  · go_simp
    rfl
  refine hK.out _ _ ?_
  clear hK K
  refine done_ (done_of HT_.out (by kernel_rfl)) ?_
  try go_wp2
  have hp := blk_put (blk_put (blk_put BK2.out 0 (.int .i64 a) rfl) 1 (.int .i64 b) rfl) 2 (.slice A' xs.length c') rfl
  refine bodyPost_ret (results_cell_row rfl _ _ g2 37 #[.int .i64 a, .int .i64 b, .slice A' xs.length c'] (0, 0) _ rfl hp Tryz.underlying37 rfl (by kernel_rfl)) rfl ?_
  refine ⟨_, rfl, ?_, below_set (below_set (below_set HB.out GE2.out) GE2.out) GE2.out⟩
  have h1 := Kd.R_set HO.out BK2.out (by decide) 0 (.int .i64 a)
  have h2 := Kd.R_set h1 (blk_put BK2.out 0 (.int .i64 a) rfl) (by decide) 1 (.int .i64 b)
  exact Kd.R_set h2 (blk_put (blk_put BK2.out 0 (.int .i64 a) rfl) 1 (.int .i64 b) rfl) (by decide) 2 _

/-- what makes a copy of a plane -/
def Copier (f : Nat) : Prop := ∀ (W : World) (i a b : Int) (A : Option Addr) (cap : Nat) (xs : List Int), Kd.C (Kd.int .u32) W A xs.length xs → xs.length ≤ cap → 0 < xs.length → xs.length ≤ 2000000 →
    Calls Tryz.prog f #[.int .i64 i, .agg #[.int .i64 a, .int .i64 b, .slice A xs.length cap]] W fun e W' => ∃ v, e = .returned (.tuple #[.agg #[.int .i64 a, .int .i64 b, v], .int .i64 0]) ∧ Kd.R (Kd.int .u32) 38 W' W.heap.size (fun _ => True) v xs ∧ Below W.heap.size W W'
end Go.Proofs.YtimghiiihjphiaaGreat.trips
