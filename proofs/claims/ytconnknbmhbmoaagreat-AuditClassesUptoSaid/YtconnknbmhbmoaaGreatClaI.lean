/- A part of the proof: a picture copied. Condition: its planes and their samples are not so many that no memory holds them. -/
import Derived.Test.YtconnknbmhbmoaaGreatClaH
namespace Go.Proofs.YtconnknbmhbmoaaGreat.classes
open Go.RowKit Go.Proofs.YtconnknbmhbmoaaGreatW.PrintWords Go.Proofs.YtconnknbmhbmoaaGreatW.PrintLast Go.Proofs.YtconnknbmhbmoaaGreat.PCla
set_option linter.unusedVariables false
set_option linter.unusedSimpArgs false

theorem info58 : (Tryz.prog.info? 58).map (fun i => (i.zero, i.size, i.bytes)) = some (some (.agg #[(.int .i64 0), (.int .i64 0), (.slice none 0 0)]), 3, 40) := by kernel_rfl
def copyPT : Bool × List (List Nat × List Nat) := (true, [([], []), ([0], [0]), ([], []), ([2], [2]), ([], []), ([3, 4], [3, 4]), ([5], [5]), ([6], [6]), ([7], [7]), ([1, 8, 7], [1, 8]), ([0, 1, 2, 3, 4, 5, 6, 7, 8, 9], []), ([10, 9, 9, 0, 1, 2, 3, 4, 5, 6, 7, 8, 9], [9, 10])])
def copyPB : List Nat := [0, 1, 0, 4, 0, 28, 60, 124, 252, 511, 1023, 2047]
theorem copyP_tab : rtab .any (opsOf Tryz.f7 5) = copyPT := by kernel_rfl
theorem copyP_bits : waitsOk copyPT.2 copyPB = true := by kernel_rfl

theorem take_rd (l : List S58) (k : Nat) (h : k < l.length) : l.take k ++ [rd_T58 l k] = l.take (k + 1) := by
  rw [List.take_add_one]
  simp [rd_T58, List.getD_eq_getElem?_getD, h]

set_option maxHeartbeats 4000000 in
set_option maxRecDepth 100000 in
theorem copyP_any (w : World) (sp : Int) (A : Option Addr) (cap : Nat) (l : List S58) (hr : Kd.C k58 w A l.length l) (hn : l.length ≤ 2000000) (hs : ∀ j : Nat, j < l.length → (rd_T58 l j).f2.length ≤ 2000000) :
    Calls Tryz.prog 7 #[.agg #[.int .i64 sp, .slice A l.length cap]] w fun e w' => ∃ A' c', e = .returned (.agg #[.int .i64 sp, .slice A' l.length c']) ∧ Kd.R k58 58 w' w.heap.size (fun _ => True) (.slice A' l.length c') l ∧ Below w.heap.size w w' := by
  have HX := Aside0.mk hr
  have HS := Aside0.mk hs
  clear hr hs
  go_enter Tryz.func7, Tryz.ntmps7
  go_wp2_with fail
  have HB0 := below_alloc (below_alloc (below_alloc (Below.refl w.heap.size w) (.cells #[.int .i64 sp, .slice A l.length cap] 24 (0, 0))) (.cells #[.int .i64 0, .slice none 0 0] 24 (0, 0))) (.cells #[.int .i64 sp, .slice none 0 0] 24 (0, 0))
  have HB1 := Aside0.mk HB0
  have BK1 := Aside0.mk (blk_alloc (blk_alloc (blk_new w (.cells #[.int .i64 sp, .slice A l.length cap] 24 (0, 0))) (.cells #[.int .i64 0, .slice none 0 0] 24 (0, 0))) (.cells #[.int .i64 sp, .slice none 0 0] 24 (0, 0)))
  have BK2 := Aside0.mk (blk_alloc (blk_new (w.alloc (.cells #[.int .i64 sp, .slice A l.length cap] 24 (0, 0))) (.cells #[.int .i64 0, .slice none 0 0] 24 (0, 0))) (.cells #[.int .i64 sp, .slice none 0 0] 24 (0, 0)))
  have BK3 := Aside0.mk (blk_new ((w.alloc (.cells #[.int .i64 sp, .slice A l.length cap] 24 (0, 0))).alloc (.cells #[.int .i64 0, .slice none 0 0] 24 (0, 0))) (.cells #[.int .i64 sp, .slice none 0 0] 24 (0, 0)))
  clear HB0
  rw [show (w.alloc (.cells #[.int .i64 sp, .slice A l.length cap] 24 (0, 0))).heap.size = w.heap.size + 1 by simp] at BK2
  rw [show ((w.alloc (.cells #[.int .i64 sp, .slice A l.length cap] 24 (0, 0))).alloc (.cells #[.int .i64 0, .slice none 0 0] 24 (0, 0))).heap.size = w.heap.size + 2 by simp] at BK3
  go_loopw [4] (fun v4 wr => ∃ k : Nat, k ≤ l.length ∧ v4 = .int .i64 k ∧ ∃ (Ao : Option Addr) (co : Nat), Aside0 (wr.heap[w.heap.size]? = some (.cells #[.int .i64 sp, .slice A l.length cap] 24 (0, 0))) ∧ Aside0 (wr.heap[w.heap.size + 1]? = some (.cells #[.int .i64 0, .slice none 0 0] 24 (0, 0))) ∧ Aside0 (wr.heap[w.heap.size + 2]? = some (.cells #[.int .i64 sp, .slice Ao k co] 24 (0, 0))) ∧ Aside0 (Kd.R k58 58 wr w.heap.size (fun _ => True) (.slice Ao k co) (l.take k)) ∧ Aside0 (Below w.heap.size w wr)) (fun v4 _ => l.length - (intOf v4).toNat)
  case atStart => exact ⟨0, Nat.zero_le _, rfl, none, 0, BK1, BK2, BK3, ⟨Kd.R_nil _ _ _ _ _⟩, HB1⟩
  case round =>
    clear BK1 BK2 BK3 HB1
    obtain ⟨k, hk, rfl, Ao, co, BK1, BK2, BK3, HO, HB⟩ := hrel
    have GE3 := Aside0.mk (show w.heap.size ≤ w.heap.size + 2 by omega)
    have hg23 : w.heap.size + 1 ≠ w.heap.size + 2 := by omega
    have hg13 : w.heap.size ≠ w.heap.size + 2 := by omega
    have hcz1 : wr.cell? ⟨w.heap.size, 1, none⟩ = some (.slice A l.length cap) := (blk_cell BK1.out 1).trans rfl
    by_cases hlt : k < l.length
    · have b1 : decide ((k : Int) < (l.length : Int)) = true := decide_eq_true (by omega)
      obtain ⟨ad, A2, c2, rfl, hw0, hw1, hw2, hl2, hc2⟩ := at_T58 HX.out k (by omega) (by omega)
      simp only [Int.toNat_natCast] at hw0 hw1 hw2
      have HC2 := Aside0.mk hc2
      have HL2 := Aside0.mk hl2
      have HS2 := Aside0.mk (show (rd_T58 l k).f2.length ≤ 2000000 by have := HS.out k hlt; omega)
      have HT1 := Aside0.mk (take_rd l k hlt)
      have HL1 := Aside0.mk (show (List.take (k + 1) l).length = k + 1 by rw [List.length_take]; omega)
      clear hl2 hc2
      have p1 : (0 : Int) ≤ k := by omega
      have p2 : (k : Int) < (l.length : Int) := by omega
      try go_wp2
      have n0_ := Aside0.mk (blk_drew BK1.out)
      have n1_ := Aside0.mk (blk_drew BK2.out)
      have n2_ := Aside0.mk (blk_drew BK3.out)
      have n3_ := Aside0.mk (below_drew1 HB.out)
      have n4_ := Aside0.mk (Kd.R_drew HO.out)
      clear BK1 BK2 BK3 HB HO hcz1
      have BK1 := n0_
      have BK2 := n1_
      have BK3 := n2_
      have HB := n3_
      have HO := n4_
      clear n0_ n1_ n2_ n3_ n4_
      refine start_ (n := 12) (S := fun w' => w'.cell? ⟨w.heap.size, 0, none⟩ = some (.int .i64 sp) ∧ w'.cell? ⟨w.heap.size, 1, none⟩ = some (.slice (some ad) l.length cap) ∧ w'.cell? ⟨w.heap.size + 2, 1, none⟩ = some (.slice Ao k co) ∧ w'.cell? (ad.add (k * 3)) = some (.int .i64 (rd_T58 l k).f0) ∧ w'.cell? ⟨(ad.add (k * 3)).block, (ad.add (k * 3)).off + 1, none⟩ = some (.int .i64 (rd_T58 l k).f1) ∧ w'.cell? ⟨(ad.add (k * 3)).block, (ad.add (k * 3)).off + 2, none⟩ = some (.slice A2 (rd_T58 l k).f2.length c2)) (ds := [11]) #[false, false, false, false, false, false, false, false, false, false, false, false] (by kernel_rfl) rfl rfl ⟨(blk_cell BK1.out 0).trans rfl, (blk_cell BK1.out 1).trans rfl, (blk_cell BK3.out 1).trans rfl, ((HB.out.cell (World.block_lt_of_cell? w _ hw0)).trans hw0), ((HB.out.cell (World.block_lt_of_cell? w _ hw1)).trans hw1), ((HB.out.cell (World.block_lt_of_cell? w _ hw2)).trans hw2)⟩ (fun hHeld => ?_); refine with_tabW copyP_tab copyP_bits (fun HT_ HW_ => ?_)
      generalize wr.drew = w4 at BK1 BK2 BK3 HB HO hHeld ⊢
      refine pure_ (i := 0) (N := some 15) (v := ?_) (a' := ?_) #[true, false, false, false, false, false, false, false, false, false, false, false] rfl rfl (any_of HT_.out (by kernel_rfl)) (fun _ _ _ h => h) (Or.inl ⟨by rfl, ?_⟩) ?_ ?_
      rotate_left
      · intro w'
        go_simp
        with_reducible rfl
      rotate_left
      · simp only [Act.put, List.setIfInBounds_toArray, List.set_cons_zero, List.set_cons_succ, i64_w, i32_w]
        rfl
      refine pure_ (i := 2) (N := some 17) (v := ?_) (a' := ?_) #[true, false, true, false, false, false, false, false, false, false, false, false] rfl rfl (any_of HT_.out (by kernel_rfl)) (fun _ _ _ h => h) (Or.inl ⟨by rfl, ?_⟩) ?_ ?_
      rotate_left
      · intro w'
        go_simp
        with_reducible rfl
      rotate_left
      · simp only [Act.put, List.setIfInBounds_toArray, List.set_cons_zero, List.set_cons_succ, i64_w, i32_w]
        rfl
      refine pure_ (i := 4) (N := some 19) (v := ?_) (a' := ?_) #[true, false, true, false, true, false, false, false, false, false, false, false] rfl rfl (any_of HT_.out (by kernel_rfl)) (fun _ _ _ h => h) (Or.inl ⟨by rfl, ?_⟩) ?_ ?_
      rotate_left
      · intro w'
        go_simp
        with_reducible rfl
      rotate_left
      · simp only [Act.put, List.setIfInBounds_toArray, List.set_cons_zero, List.set_cons_succ, i64_w, i32_w]
        rfl
      refine take_ (i := 1) (N := some 16) (v := ?_) (a' := ?_) #[true, true, true, false, true, false, false, false, false, false, false, false] rfl rfl (take_ofW HT_.out HW_.out (by kernel_rfl)) (fun _ _ _ h => h) (Or.inl ⟨by rfl, ?_⟩) hHeld ?_ ?_
      rotate_left
      · rintro w' ⟨s0, s1, s2, s3, s4, s5⟩
        go_simp
        with_reducible rfl
      rotate_left
      · simp only [Act.put, List.setIfInBounds_toArray, List.set_cons_zero, List.set_cons_succ, i64_w, i32_w]
        rfl
      refine take_ (i := 3) (N := some 18) (v := ?_) (a' := ?_) #[true, true, true, true, true, false, false, false, false, false, false, false] rfl rfl (take_ofW HT_.out HW_.out (by kernel_rfl)) (fun _ _ _ h => h) (Or.inl ⟨by rfl, ?_⟩) hHeld ?_ ?_
      rotate_left
      · rintro w' ⟨s0, s1, s2, s3, s4, s5⟩
        go_simp
        with_reducible rfl
      rotate_left
      · simp only [Act.put, List.setIfInBounds_toArray, List.set_cons_zero, List.set_cons_succ, i64_w, i32_w]
        rfl
      refine pure_ (i := 5) (N := some 20) (v := ?_) (a' := ?_) #[true, true, true, true, true, true, false, false, false, false, false, false] rfl rfl (any_of HT_.out (by kernel_rfl)) (fun _ _ _ h => h) (Or.inl ⟨by rfl, ?_⟩) ?_ ?_
      rotate_left
      · intro w'
        go_simp
        with_reducible rfl
      rotate_left
      · simp only [Act.put, List.setIfInBounds_toArray, List.set_cons_zero, List.set_cons_succ, i64_w, i32_w]
        rfl
      refine take_ (i := 6) (N := some 21) (v := ?_) (a' := ?_) #[true, true, true, true, true, true, true, false, false, false, false, false] rfl rfl (take_ofW HT_.out HW_.out (by kernel_rfl)) (fun _ _ _ h => h) (Or.inl ⟨by rfl, ?_⟩) hHeld ?_ ?_
      rotate_left
      · rintro w' ⟨s0, s1, s2, s3, s4, s5⟩
        go_simp
        with_reducible rfl
      rotate_left
      · simp only [Act.put, List.setIfInBounds_toArray, List.set_cons_zero, List.set_cons_succ, i64_w, i32_w]
        rfl
      refine one_ (i := 7) (N := some 22) #[true, true, true, true, true, true, true, true, false, false, false, false] rfl rfl (one_of HT_.out (by kernel_rfl)) (by decide) (fun K hK => ?_)
      refine goes_ Tryz.func21 (by kernel_rfl) rfl #[.agg #[.int .i64 (rd_T58 l k).f0, .int .i64 (rd_T58 l k).f1, .slice A2 (rd_T58 l k).f2.length c2]] (by rfl) rfl rfl (by (try simp only [List.map_toArray, List.map_cons, List.map_nil]); first | done | rfl) ?_
      refine (copy_any w4 (rd_T58 l k).f0 (rd_T58 l k).f1 A2 c2 (rd_T58 l k).f2 (Kd.C_below HC2.out HB.out) HL2.out HS2.out).mono ?_
      rintro e w6 ⟨v, rfl, ho, hb⟩
      refine ⟨_, rfl, ?_⟩
      have n0_ := Aside0.mk (blk_below BK1.out hb)
      have n1_ := Aside0.mk (blk_below BK2.out hb)
      have n2_ := Aside0.mk (blk_below BK3.out hb)
      have n3_ := Aside0.mk (below_step HB.out hb)
      have n4_ := Aside0.mk (Kd.R_below HO.out hb)
      have HV := Aside0.mk (Kd.R_lower (Kd.R_newR ho HO.out) HB.out.size)
      clear BK1 BK2 BK3 HB HO
      have BK1 := n0_
      have BK2 := n1_
      have BK3 := n2_
      have HB := n3_
      have HO := n4_
      clear n0_ n1_ n2_ n3_ n4_ ho hb
      refine hK.out _ _ ⟨(blk_cell BK1.out 0).trans rfl, (blk_cell BK1.out 1).trans rfl, (blk_cell BK3.out 1).trans rfl, ((HB.out.cell (World.block_lt_of_cell? w _ hw0)).trans hw0), ((HB.out.cell (World.block_lt_of_cell? w _ hw1)).trans hw1), ((HB.out.cell (World.block_lt_of_cell? w _ hw2)).trans hw2)⟩ (fun hHeld => ?_)
      clear hK K
      refine norm_ (a' := ?_) ?_ ?_
      rotate_left
      · show Act.put _ (some 22) _ = _
        simp only [Act.put, List.setIfInBounds_toArray, List.set_cons_zero, List.set_cons_succ, i64_w, i32_w]
        rfl
      obtain ⟨A', c', rfl⟩ := Kd.R_slice HV.out
      refine one_ (i := 8) (N := some 23) #[true, true, true, true, true, true, true, true, true, false, false, false] rfl rfl (one_of HT_.out (by kernel_rfl)) (by decide) (fun K hK => ?_)
      refine value_ (w1 := ?_) (v := ?_) (by rfl) rfl ?_ ?_
      rotate_left 2
      · go_simp
        constructor
        · rfl
        · rfl
      refine hK.out _ _ ⟨(blk_cell (blk_alloc BK1.out _) 0).trans rfl, (blk_cell (blk_alloc BK1.out _) 1).trans rfl, (blk_cell (blk_alloc BK3.out _) 1).trans rfl, (World.cell?_alloc_lt _ _ _ (World.block_lt_of_cell? _ _ (((HB.out.cell (World.block_lt_of_cell? w _ hw0)).trans hw0)))).trans (((HB.out.cell (World.block_lt_of_cell? w _ hw0)).trans hw0)), (World.cell?_alloc_lt _ _ _ (World.block_lt_of_cell? _ _ (((HB.out.cell (World.block_lt_of_cell? w _ hw1)).trans hw1)))).trans (((HB.out.cell (World.block_lt_of_cell? w _ hw1)).trans hw1)), (World.cell?_alloc_lt _ _ _ (World.block_lt_of_cell? _ _ (((HB.out.cell (World.block_lt_of_cell? w _ hw2)).trans hw2)))).trans (((HB.out.cell (World.block_lt_of_cell? w _ hw2)).trans hw2))⟩ (fun hHeld => ?_)
      clear hK K
      refine norm_ (a' := ?_) ?_ ?_
      rotate_left
      · show Act.put _ (some 23) _ = _
        simp only [Act.put, List.setIfInBounds_toArray, List.set_cons_zero, List.set_cons_succ, i64_w, i32_w]
        rfl
      refine one_ (i := 9) (N := some 24) #[true, true, true, true, true, true, true, true, true, true, false, false] rfl rfl (one_of HT_.out (by kernel_rfl)) (by decide) (fun K hK => ?_)
      refine Kd.R_append_step k58 (w0 := w) w.heap.size (by rfl) (.tmp 16) (.tmp 23) 22 58 (.agg #[.int .i64 0, .int .i64 0, .slice none 0 0]) 40 rfl Tryz.underlying22 info58 rfl (by decide) (by omega) (.slice Ao k co) (l.take k) (rd_T58 l k) [.int .i64 (rd_T58 l k).f0, .int .i64 (rd_T58 l k).f1, .slice A' (rd_T58 l k).f2.length c'] (fun _ => True) (fun q => True ∧ some q ≠ (Value.slice Ao k co).ownBlock) rfl rfl ?aP (fun _ hk => hk) (fun _ _ => trivial) HO.out HB.out HB.out.size ?aL ?_
      (case aP => exact k58_mkM _ _ _ _ HV.out)
      (case aL => rw [List.length_take]; omega)
      intro v1 w7 ho hb hg hat
      have hne1 := Kd.R_ne HO.out BK1.out (by decide)
      have hne2 := Kd.R_ne HO.out BK2.out (by decide)
      have hne3 := Kd.R_ne HO.out BK3.out (by decide)
      have n0_ := Aside0.mk (blk_grown BK1.out hg hne1)
      have n1_ := Aside0.mk (blk_grown BK2.out hg hne2)
      have n2_ := Aside0.mk (blk_grown BK3.out hg hne3)
      have n3_ := Aside0.mk hb
      rw [HT1.out] at ho
      have n4_ := Aside0.mk ho
      clear BK1 BK2 BK3 HB HO HV
      have BK1 := n0_
      have BK2 := n1_
      have BK3 := n2_
      have HB := n3_
      have HO := n4_
      clear n0_ n1_ n2_ n3_ n4_ ho hb hg hat hne1 hne2 hne3
      refine hK.out _ _ ⟨(blk_cell BK1.out 0).trans rfl, (blk_cell BK1.out 1).trans rfl, (blk_cell BK3.out 1).trans rfl, ((HB.out.cell (World.block_lt_of_cell? w _ hw0)).trans hw0), ((HB.out.cell (World.block_lt_of_cell? w _ hw1)).trans hw1), ((HB.out.cell (World.block_lt_of_cell? w _ hw2)).trans hw2)⟩ (fun hHeld => ?_)
      clear hK K
      refine norm_ (a' := ?_) ?_ ?_
      rotate_left
      · show Act.put _ (some 24) _ = _
        simp only [Act.put, List.setIfInBounds_toArray, List.set_cons_zero, List.set_cons_succ, i64_w, i32_w]
        rfl
      refine pure_ (i := 10) (N := some 25) (v := ?_) (a' := ?_) #[true, true, true, true, true, true, true, true, true, true, true, false] rfl rfl (any_of HT_.out (by kernel_rfl)) (fun _ _ _ h => h) (Or.inl ⟨by rfl, ?_⟩) ?_ ?_
      rotate_left
      · intro w'
        go_simp
        with_reducible rfl
      rotate_left
      · simp only [Act.put, List.setIfInBounds_toArray, List.set_cons_zero, List.set_cons_succ, i64_w, i32_w]
        rfl
      obtain ⟨A1, c1, rfl⟩ := Kd.R_slice HO.out
      have hfz1 := blk_frozen BK3.out 1
      have hcz1 : w7.cell? ⟨w.heap.size + 2, 1, none⟩ = some (.slice Ao k co) := (blk_cell BK3.out 1).trans rfl
      refine last_ (i := 11) (N := none) #[true, true, true, true, true, true, true, true, true, true, true, true] rfl rfl (one_of HT_.out (by kernel_rfl)) (by decide) (fun K hK => ?_)
      refine skip_ (w1 := ?_) (by rfl) rfl ?_ ?_
      rotate_left
      · go_simp
        rfl
      refine hK.out _ _ ?_
      clear hK K
      refine done_ (done_of HT_.out (by kernel_rfl)) ?_
      try go_wp2
      go_roundw
      case rel =>
        have hL : min (k + 1) l.length = k + 1 := by omega
        have e2 : w.heap.size + 1 + 1 = w.heap.size + 2 := rfl
        rw [HL1.out] at HO
        rw [hL]
        exact ⟨k + 1, by omega, by go_num, A1, c1, ⟨blk_far BK1.out hg13 _⟩, ⟨blk_far BK2.out hg23 _⟩, ⟨blk_put BK3.out 1 (.slice A1 (k + 1) c1) rfl⟩, ⟨Kd.R_set HO.out BK3.out (by decide) 1 (.slice A1 (k + 1) c1)⟩, ⟨below_set HB.out GE3.out⟩⟩
      case measure => simp [intOf]; omega
    · obtain rfl : k = l.length := by omega
      have hcz3 : wr.cell? ⟨w.heap.size + 2, 0, none⟩ = some (.int .i64 sp) := (blk_cell BK3.out 0).trans rfl
      have hcz4 : wr.cell? ⟨w.heap.size + 2, 1, none⟩ = some (.slice Ao l.length co) := (blk_cell BK3.out 1).trans rfl
      have hcz5 : wr.cell? ⟨w.heap.size + 1, 0, none⟩ = some (.int .i64 0) := (blk_cell BK2.out 0).trans rfl
      have hcz6 : wr.cell? ⟨w.heap.size + 1, 1, none⟩ = some (.slice none 0 0) := (blk_cell BK2.out 1).trans rfl
      have hf5 := blk_frozen BK2.out 0
      have hf6 := blk_frozen BK2.out 1
      have GE2 := Aside0.mk (show w.heap.size ≤ w.heap.size + 1 by omega)
      go_wp2
      have hp := blk_put (blk_put BK2.out 0 (.int .i64 sp) rfl) 1 (.slice Ao l.length co) rfl
      refine bodyPost_ret (results_cell_row rfl _ _ (w.heap.size + 1) 24 #[.int .i64 sp, .slice Ao l.length co] (0, 0) _ rfl hp Tryz.underlying24 rfl (by kernel_rfl)) rfl ?_
      have h0 := HO.out
      rw [List.take_length] at h0
      exact ⟨Ao, co, rfl, Kd.R_set (Kd.R_set h0 BK2.out (by decide) 0 _) (blk_put BK2.out 0 (.int .i64 sp) rfl) (by decide) 1 _, below_set (below_set HB.out GE2.out) GE2.out⟩
end Go.Proofs.YtconnknbmhbmoaaGreat.classes
