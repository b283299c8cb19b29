/- A part of the proof: three planes, place by place, by the program's own text. Condition: what is done to three samples is known. -/
import Derived.Test.YtimghiiihjphiaaGreatTriF
import Derived.BigQuiet
import Derived.WalkSpells
namespace Go.Proofs.YtimghiiihjphiaaGreat.trips
open Go.RowKit Go.Proofs.YtimghiiihjphiaaGreatW.PrintWords Go.Proofs.YtimghiiihjphiaaGreatW.PrintLast Go.Proofs.YtimghiiihjphiaaGreat.PTri
set_option linter.unusedVariables false
set_option linter.unusedSimpArgs false

def triT : Bool × List (List Nat × List Nat) := (true,
  [([], []), ([], []), ([], []), ([], []), ([], []), ([], []), ([], []), ([], []), ([], []), ([7, 8], [7, 8]),
    ([9], [9]), ([], []), ([], []), ([11, 12], [11, 12]), ([13], [13]), ([], []), ([], []), ([15, 16], [15, 16]),
    ([17], [17]), ([6, 10, 14, 18], [6, 10, 14, 18]), ([19], [19]), ([20], [20]), ([20], [20]), ([20], [20]),
    ([0, 1, 0, 1, 6, 7, 8, 9, 10, 11, 12, 13, 14, 15, 16, 17, 18, 19, 20, 21], [0, 1]),
    ([24, 21, 19, 0, 1, 6, 7, 8, 9, 10, 11, 12, 13, 14, 15, 16, 17, 18, 19, 20, 21], [21, 24]),
    ([2, 3, 0, 1, 2, 3, 6, 7, 8, 9, 10, 11, 12, 13, 14, 15, 16, 17, 18, 19, 20, 21, 22, 24, 25], [2, 3]),
    ([26, 22, 25, 0, 1, 2, 3, 6, 7, 8, 9, 10, 11, 12, 13, 14, 15, 16, 17, 18, 19, 20, 21, 22, 24, 25], [22, 26]),
    ([4, 5, 0, 1, 2, 3, 4, 5, 6, 7, 8, 9, 10, 11, 12, 13, 14, 15, 16, 17, 18, 19, 20, 21, 22, 23, 24, 25, 26, 27], [4, 5]),
    ([28, 23, 27, 0, 1, 2, 3, 4, 5, 6, 7, 8, 9, 10, 11, 12, 13, 14, 15, 16, 17, 18, 19, 20, 21, 22, 23, 24, 25, 26, 27], [23, 28])])
def triB : List Nat := [0, 0, 0, 0, 0, 0, 0, 0, 0, 384, 896, 0, 0, 6144, 14336, 0, 0, 98304, 229376, 524224, 1048512, 2097088, 2097088, 2097088, 4194243, 20971459, 58720207, 125829071, 268435455, 536870911]
theorem tri_tab : rtab .any (opsOf Tryz.f37 8) = triT := by kernel_rfl
theorem tri_bits : waitsOk triT.2 triB = true := by kernel_rfl

set_option maxHeartbeats 8000000 in
set_option maxRecDepth 100000 in
theorem triples_any (w : World) (k : Nat) (sp : Int) (A : Option Addr) (cap : Nat) (l : List S37) (n : Nat) (p2 p3 : Nat) (Pre : Nat → Int → Int → Int → Prop) (R : Nat → Int → Int → Int → Int → Int → Int → Prop) (hr : Kd.C k37 w A l.length l) (hcap : l.length ≤ cap) (hck : picture_Check.f k sp l = some 0) (hs : Sized l) (h3 : 3 ≤ l.length) (hn : ∀ k : Nat, k < 3 → (rd_T37 l k).f2.length = n)
    (hpre : ∀ j : Nat, j < n → Pre j (smp l 0 j) (smp l 1 j) (smp l 2 j))
    (hF : ∀ W, Below w.heap.size w W → ∀ (j : Nat) (a b c : Int), Pre j a b c → Calls Tryz.prog 38 #[.int .u32 a, .int .u32 b, .int .u32 c, .pointer (some ⟨p2, 0, none⟩), .pointer (some ⟨p3, 0, none⟩)] W fun e W' => ∃ x y z : Int, e = .returned (.tuple #[.int .u32 x, .int .u32 y, .int .u32 z]) ∧ R j a b c x y z ∧ Below W.heap.size W W') :
    Calls Tryz.prog 37 #[.agg #[.int .i64 sp, .slice A l.length cap], .func (.func 38) #[] #[.pointer (some ⟨p2, 0, none⟩), .pointer (some ⟨p3, 0, none⟩)]] w fun e w' => ∃ A' c' L, e = .returned (.tuple #[.agg #[.int .i64 sp, .slice A' l.length c'], .int .i64 0]) ∧ Kd.S k37 37 w' w.heap.size (fun _ => True) (.slice A' l.length c') L ∧ Stage R l L n ∧ Below w.heap.size w w' := by
  have HX := Aside0.mk hr
  have HS := Aside0.mk hs
  have HF := Aside0.mk hF
  have HK := Aside0.mk hck
  have HN := Aside0.mk hn
  have HP := Aside0.mk hpre
  have hN1 : n ≤ 65536 := by rw [← hn 0 (by omega)]; exact hs.small 0 (by omega)
  have hN0 : 0 < n := by rw [← hn 0 (by omega)]; exact hs.pos 0 (by omega)
  have HFW := hs.few
  clear hr hs hF hck hn hpre
  go_enter Tryz.func37, Tryz.ntmps37
  go_wp2_with fail
  have HB0 := Aside0.mk (below_alloc (below_alloc (Below.refl w.heap.size w) (.cells #[.int .i64 sp, .slice A l.length cap] 24 (0, 0))) (.cells #[.int .i64 0, .slice none 0 0] 24 (0, 0)))
  have BR := Aside0.mk (blk_new (w.alloc (.cells #[.int .i64 sp, .slice A l.length cap] 24 (0, 0))) (.cells #[.int .i64 0, .slice none 0 0] 24 (0, 0)))
  rw [show (w.alloc (.cells #[.int .i64 sp, .slice A l.length cap] 24 (0, 0))).heap.size = w.heap.size + 1 by simp] at BR
  refine (every_60 _ k sp A cap l (Kd.C_below HX.out HB0.out) hcap HK.out HS.out).mono ?_
  rintro e w1 ⟨A', c', rfl, hS, hb⟩
  obtain ⟨G, c2, hform, hbG, _, _⟩ := Kd.S_form hS (by omega)
  simp only [Value.slice.injEq] at hform
  obtain ⟨rfl, _, rfl⟩ := hform
  obtain ⟨g0, k0, hq0, _⟩ := S_plane hS 0 (by omega) (by rw [HN.out 0 (by omega)]; exact hN0)
  obtain ⟨g1, k1, hq1, _⟩ := S_plane hS 1 (by omega) (by rw [HN.out 1 (by omega)]; exact hN0)
  obtain ⟨g2, k2, hq2, _⟩ := S_plane hS 2 (by omega) (by rw [HN.out 2 (by omega)]; exact hN0)
  rw [HN.out 0 (by omega)] at hq0
  rw [HN.out 1 (by omega)] at hq1
  rw [HN.out 2 (by omega)] at hq2
  have HC0 := Aside0.mk hq0
  have HC1 := Aside0.mk hq1
  have HC2 := Aside0.mk hq2
  have HB1 := Aside0.mk (below_step HB0.out hb)
  have BR1 := Aside0.mk (blk_below BR.out hb)
  have HS1 := Aside0.mk (Kd.S_lower hS HB0.out.size)
  clear hb hS hq0 hq1 hq2 HB0 BR
  have BO := Aside0.mk (blk_new w1 (.cells #[.int .i64 sp, .slice (some ⟨G, 0, none⟩) l.length c'] 24 (0, 0)))
  have BR2 := Aside0.mk (blk_alloc BR1.out (.cells #[.int .i64 sp, .slice (some ⟨G, 0, none⟩) l.length c'] 24 (0, 0)))
  have HB2 := Aside0.mk (below_alloc HB1.out (.cells #[.int .i64 sp, .slice (some ⟨G, 0, none⟩) l.length c'] 24 (0, 0)))
  have HS2 := Aside0.mk (Kd.S_alloc HS1.out (.cells #[.int .i64 sp, .slice (some ⟨G, 0, none⟩) l.length c'] 24 (0, 0)))
  have hb3 := below_alloc (Below.refl w1.heap.size w1) (.cells #[.int .i64 sp, .slice (some ⟨G, 0, none⟩) l.length c'] 24 (0, 0))
  have hc0 := (hb3.cell (World.block_lt_of_cell? w1 _ HC0.out)).trans HC0.out
  have hc1 := (hb3.cell (World.block_lt_of_cell? w1 _ HC1.out)).trans HC1.out
  have hc2 := (hb3.cell (World.block_lt_of_cell? w1 _ HC2.out)).trans HC2.out
  have hg1 : (w1.alloc (.cells #[.int .i64 sp, .slice (some ⟨G, 0, none⟩) l.length c'] 24 (0, 0))).cell? ⟨w1.heap.size, 1, none⟩ = some (.slice (some ⟨G, 0, none⟩) l.length c') := (blk_cell BO.out 1).trans rfl
  have q0 : (0 : Int) < (l.length : Int) := by omega
  have q1 : (1 : Int) < (l.length : Int) := by omega
  have q2 : (2 : Int) < (l.length : Int) := by omega
  simp at hc0 hc1 hc2
  clear hb3 HB1 BR1 HS1 HC0 HC1 HC2
  have HG := Aside0.mk (blk_lt BR2.out)
  go_wp2_with (go_quiet (fail))
  have HT0 := Aside0.mk (TS.mk HB2.out BR2.out BO.out HS2.out hc0 hc1 hc2 : TS w w1.heap.size G l.length c' sp g0 k0 g1 k1 g2 k2 n l (w1.alloc (.cells #[.int .i64 sp, .slice (some ⟨G, 0, none⟩) l.length c'] 24 (0, 0))))
  have HT1 := Aside0.mk (HT0.out.step (pw_below_drewN (Below.refl _ _) nq))
  have HL3 := Aside0.mk h3
  have HGE := Aside0.mk (Nat.lt_irrefl 0)
  generalize (w1.alloc (.cells #[.int .i64 sp, .slice (some ⟨G, 0, none⟩) l.length c'] 24 (0, 0))).drewN nq = W1 at HT1 ⊢
  clear HT0 HB2 BR2 BO HS2 hc0 hc1 hc2 hg1 HG hbG HGE
  generalize w1.heap.size = g6 at HT1 ⊢
  go_loopw [38] (fun v38 wr => ∃ i : Nat, i ≤ n ∧ v38 = .int .i64 i ∧ Aside0 (∃ L, TS w g6 G l.length c' sp g0 k0 g1 k1 g2 k2 n L wr ∧ Stage R l L i)) (fun v38 _ => n - (intOf v38).toNat)
  case atStart => exact ⟨0, Nat.zero_le _, rfl, ⟨l, HT1.out, Stage.zero R l⟩⟩
  case round =>
    clear HT1
    obtain ⟨i, hi, rfl, RO⟩ := hrel
    obtain ⟨L, hTS, hSt⟩ := RO.out
    have HST := Aside0.mk hSt
    have RT := Aside0.mk hTS
    clear RO hTS hSt
    by_cases hlt : i < n
    · have b1 : decide ((i : Int) < (n : Int)) = true := decide_eq_true (by omega)
      have p1 : (0 : Int) ≤ i := by omega
      have p2' : (i : Int) < (n : Int) := by omega
      have RT1 := Aside0.mk (RT.out.step (below_drew1 (Below.refl _ _)))
      have ca0 := Aside0.mk (RT1.out.at_ 0 (by omega) RT1.out.c0 i hlt).1
      have ca1 := Aside0.mk (RT1.out.at_ 1 (by omega) RT1.out.c1 i hlt).1
      have ca2 := Aside0.mk (RT1.out.at_ 2 (by omega) RT1.out.c2 i hlt).1
      have HPre : Aside0 (Pre i (smp L 0 i) (smp L 1 i) (smp L 2 i)) := ⟨by rw [HST.out.todo 0 i (Nat.le_refl _), HST.out.todo 1 i (Nat.le_refl _), HST.out.todo 2 i (Nat.le_refl _)]; exact HP.out i hlt⟩
      go_wp2_with fail
      refine start_ (n := 30) (S := fun w' => w'.cell? ⟨g0, i, none⟩ = some (.int .u32 (smp L 0 i)) ∧ w'.cell? ⟨g1, i, none⟩ = some (.int .u32 (smp L 1 i)) ∧ w'.cell? ⟨g2, i, none⟩ = some (.int .u32 (smp L 2 i))) (ds := [25, 27, 29]) #[false, false, false, false, false, false, false, false, false, false, false, false, false, false, false, false, false, false, false, false, false, false, false, false, false, false, false, false, false, false] (by kernel_rfl) rfl rfl ⟨ca0.out, ca1.out, ca2.out⟩ (fun hHeld => ?_); refine with_tabW tri_tab tri_bits (fun HT_ HW_ => ?_)
      generalize wr.drew = wd at RT1 hHeld ⊢
      refine pure_ (i := 0) (N := some 42) (v := ?_) (a' := ?_) #[true, false, false, false, false, false, false, false, false, false, false, false, false, false, false, false, false, false, false, false, false, false, false, false, false, false, false, false, false, false] rfl rfl (any_of HT_.out (by kernel_rfl)) (fun _ _ _ h => h) (Or.inl ⟨by rfl, ?_⟩) ?_ ?_
      rotate_left
      · intro w'
        go_simp
        with_reducible rfl
      rotate_left
      · simp only [Act.put, List.setIfInBounds_toArray, List.set_cons_zero, List.set_cons_succ, i64_w, i32_w]
        rfl
      refine pure_ (i := 1) (N := some 43) (v := ?_) (a' := ?_) #[true, true, false, false, false, false, false, false, false, false, false, false, false, false, false, false, false, false, false, false, false, false, false, false, false, false, false, false, false, false] rfl rfl (any_of HT_.out (by kernel_rfl)) (fun _ _ _ h => h) (Or.inl ⟨by rfl, ?_⟩) ?_ ?_
      rotate_left
      · intro w'
        go_simp
        with_reducible rfl
      rotate_left
      · simp only [Act.put, List.setIfInBounds_toArray, List.set_cons_zero, List.set_cons_succ, i64_w, i32_w]
        rfl
      refine pure_ (i := 2) (N := some 44) (v := ?_) (a' := ?_) #[true, true, true, false, false, false, false, false, false, false, false, false, false, false, false, false, false, false, false, false, false, false, false, false, false, false, false, false, false, false] rfl rfl (any_of HT_.out (by kernel_rfl)) (fun _ _ _ h => h) (Or.inl ⟨by rfl, ?_⟩) ?_ ?_
      rotate_left
      · intro w'
        go_simp
        with_reducible rfl
      rotate_left
      · simp only [Act.put, List.setIfInBounds_toArray, List.set_cons_zero, List.set_cons_succ, i64_w, i32_w]
        rfl
      refine pure_ (i := 3) (N := some 45) (v := ?_) (a' := ?_) #[true, true, true, true, false, false, false, false, false, false, false, false, false, false, false, false, false, false, false, false, false, false, false, false, false, false, false, false, false, false] rfl rfl (any_of HT_.out (by kernel_rfl)) (fun _ _ _ h => h) (Or.inl ⟨by rfl, ?_⟩) ?_ ?_
      rotate_left
      · intro w'
        go_simp
        with_reducible rfl
      rotate_left
      · simp only [Act.put, List.setIfInBounds_toArray, List.set_cons_zero, List.set_cons_succ, i64_w, i32_w]
        rfl
      refine pure_ (i := 4) (N := some 46) (v := ?_) (a' := ?_) #[true, true, true, true, true, false, false, false, false, false, false, false, false, false, false, false, false, false, false, false, false, false, false, false, false, false, false, false, false, false] rfl rfl (any_of HT_.out (by kernel_rfl)) (fun _ _ _ h => h) (Or.inl ⟨by rfl, ?_⟩) ?_ ?_
      rotate_left
      · intro w'
        go_simp
        with_reducible rfl
      rotate_left
      · simp only [Act.put, List.setIfInBounds_toArray, List.set_cons_zero, List.set_cons_succ, i64_w, i32_w]
        rfl
      refine pure_ (i := 5) (N := some 47) (v := ?_) (a' := ?_) #[true, true, true, true, true, true, false, false, false, false, false, false, false, false, false, false, false, false, false, false, false, false, false, false, false, false, false, false, false, false] rfl rfl (any_of HT_.out (by kernel_rfl)) (fun _ _ _ h => h) (Or.inl ⟨by rfl, ?_⟩) ?_ ?_
      rotate_left
      · intro w'
        go_simp
        with_reducible rfl
      rotate_left
      · simp only [Act.put, List.setIfInBounds_toArray, List.set_cons_zero, List.set_cons_succ, i64_w, i32_w]
        rfl
      refine pure_ (i := 6) (N := some 48) (v := ?_) (a' := ?_) #[true, true, true, true, true, true, true, false, false, false, false, false, false, false, false, false, false, false, false, false, false, false, false, false, false, false, false, false, false, false] rfl rfl (any_of HT_.out (by kernel_rfl)) (fun _ _ _ h => h) (Or.inl ⟨by rfl, ?_⟩) ?_ ?_
      rotate_left
      · intro w'
        go_simp
        with_reducible rfl
      rotate_left
      · simp only [Act.put, List.setIfInBounds_toArray, List.set_cons_zero, List.set_cons_succ, i64_w, i32_w]
        rfl
      refine pure_ (i := 7) (N := some 49) (v := ?_) (a' := ?_) #[true, true, true, true, true, true, true, true, false, false, false, false, false, false, false, false, false, false, false, false, false, false, false, false, false, false, false, false, false, false] rfl rfl (any_of HT_.out (by kernel_rfl)) (fun _ _ _ h => h) (Or.inl ⟨by rfl, ?_⟩) ?_ ?_
      rotate_left
      · intro w'
        go_simp
        with_reducible rfl
      rotate_left
      · simp only [Act.put, List.setIfInBounds_toArray, List.set_cons_zero, List.set_cons_succ, i64_w, i32_w]
        rfl
      refine pure_ (i := 8) (N := some 50) (v := ?_) (a' := ?_) #[true, true, true, true, true, true, true, true, true, false, false, false, false, false, false, false, false, false, false, false, false, false, false, false, false, false, false, false, false, false] rfl rfl (any_of HT_.out (by kernel_rfl)) (fun _ _ _ h => h) (Or.inl ⟨by rfl, ?_⟩) ?_ ?_
      rotate_left
      · intro w'
        go_simp
        with_reducible rfl
      rotate_left
      · simp only [Act.put, List.setIfInBounds_toArray, List.set_cons_zero, List.set_cons_succ, i64_w, i32_w]
        rfl
      refine pure_ (i := 9) (N := some 51) (v := ?_) (a' := ?_) #[true, true, true, true, true, true, true, true, true, true, false, false, false, false, false, false, false, false, false, false, false, false, false, false, false, false, false, false, false, false] rfl rfl (any_of HT_.out (by kernel_rfl)) (fun _ _ _ h => h) (Or.inl ⟨by rfl, ?_⟩) ?_ ?_
      rotate_left
      · intro w'
        go_simp
        with_reducible rfl
      rotate_left
      · simp only [Act.put, List.setIfInBounds_toArray, List.set_cons_zero, List.set_cons_succ, i64_w, i32_w]
        rfl
      refine take_ (i := 10) (N := some 52) (v := ?_) (a' := ?_) #[true, true, true, true, true, true, true, true, true, true, true, false, false, false, false, false, false, false, false, false, false, false, false, false, false, false, false, false, false, false] rfl rfl (take_ofW HT_.out HW_.out (by kernel_rfl)) (fun _ _ _ h => h) (Or.inl ⟨by rfl, ?_⟩) hHeld ?_ ?_
      rotate_left
      · rintro w' ⟨s0, s1, s2⟩
        go_simp
        with_reducible rfl
      rotate_left
      · simp only [Act.put, List.setIfInBounds_toArray, List.set_cons_zero, List.set_cons_succ, i64_w, i32_w]
        rfl
      refine pure_ (i := 11) (N := some 53) (v := ?_) (a' := ?_) #[true, true, true, true, true, true, true, true, true, true, true, true, false, false, false, false, false, false, false, false, false, false, false, false, false, false, false, false, false, false] rfl rfl (any_of HT_.out (by kernel_rfl)) (fun _ _ _ h => h) (Or.inl ⟨by rfl, ?_⟩) ?_ ?_
      rotate_left
      · intro w'
        go_simp
        with_reducible rfl
      rotate_left
      · simp only [Act.put, List.setIfInBounds_toArray, List.set_cons_zero, List.set_cons_succ, i64_w, i32_w]
        rfl
      refine pure_ (i := 12) (N := some 54) (v := ?_) (a' := ?_) #[true, true, true, true, true, true, true, true, true, true, true, true, true, false, false, false, false, false, false, false, false, false, false, false, false, false, false, false, false, false] rfl rfl (any_of HT_.out (by kernel_rfl)) (fun _ _ _ h => h) (Or.inl ⟨by rfl, ?_⟩) ?_ ?_
      rotate_left
      · intro w'
        go_simp
        with_reducible rfl
      rotate_left
      · simp only [Act.put, List.setIfInBounds_toArray, List.set_cons_zero, List.set_cons_succ, i64_w, i32_w]
        rfl
      refine pure_ (i := 13) (N := some 55) (v := ?_) (a' := ?_) #[true, true, true, true, true, true, true, true, true, true, true, true, true, true, false, false, false, false, false, false, false, false, false, false, false, false, false, false, false, false] rfl rfl (any_of HT_.out (by kernel_rfl)) (fun _ _ _ h => h) (Or.inl ⟨by rfl, ?_⟩) ?_ ?_
      rotate_left
      · intro w'
        go_simp
        with_reducible rfl
      rotate_left
      · simp only [Act.put, List.setIfInBounds_toArray, List.set_cons_zero, List.set_cons_succ, i64_w, i32_w]
        rfl
      refine take_ (i := 14) (N := some 56) (v := ?_) (a' := ?_) #[true, true, true, true, true, true, true, true, true, true, true, true, true, true, true, false, false, false, false, false, false, false, false, false, false, false, false, false, false, false] rfl rfl (take_ofW HT_.out HW_.out (by kernel_rfl)) (fun _ _ _ h => h) (Or.inl ⟨by rfl, ?_⟩) hHeld ?_ ?_
      rotate_left
      · rintro w' ⟨s0, s1, s2⟩
        go_simp
        with_reducible rfl
      rotate_left
      · simp only [Act.put, List.setIfInBounds_toArray, List.set_cons_zero, List.set_cons_succ, i64_w, i32_w]
        rfl
      refine pure_ (i := 15) (N := some 57) (v := ?_) (a' := ?_) #[true, true, true, true, true, true, true, true, true, true, true, true, true, true, true, true, false, false, false, false, false, false, false, false, false, false, false, false, false, false] rfl rfl (any_of HT_.out (by kernel_rfl)) (fun _ _ _ h => h) (Or.inl ⟨by rfl, ?_⟩) ?_ ?_
      rotate_left
      · intro w'
        go_simp
        with_reducible rfl
      rotate_left
      · simp only [Act.put, List.setIfInBounds_toArray, List.set_cons_zero, List.set_cons_succ, i64_w, i32_w]
        rfl
      refine pure_ (i := 16) (N := some 58) (v := ?_) (a' := ?_) #[true, true, true, true, true, true, true, true, true, true, true, true, true, true, true, true, true, false, false, false, false, false, false, false, false, false, false, false, false, false] rfl rfl (any_of HT_.out (by kernel_rfl)) (fun _ _ _ h => h) (Or.inl ⟨by rfl, ?_⟩) ?_ ?_
      rotate_left
      · intro w'
        go_simp
        with_reducible rfl
      rotate_left
      · simp only [Act.put, List.setIfInBounds_toArray, List.set_cons_zero, List.set_cons_succ, i64_w, i32_w]
        rfl
      refine pure_ (i := 17) (N := some 59) (v := ?_) (a' := ?_) #[true, true, true, true, true, true, true, true, true, true, true, true, true, true, true, true, true, true, false, false, false, false, false, false, false, false, false, false, false, false] rfl rfl (any_of HT_.out (by kernel_rfl)) (fun _ _ _ h => h) (Or.inl ⟨by rfl, ?_⟩) ?_ ?_
      rotate_left
      · intro w'
        go_simp
        with_reducible rfl
      rotate_left
      · simp only [Act.put, List.setIfInBounds_toArray, List.set_cons_zero, List.set_cons_succ, i64_w, i32_w]
        rfl
      refine take_ (i := 18) (N := some 60) (v := ?_) (a' := ?_) #[true, true, true, true, true, true, true, true, true, true, true, true, true, true, true, true, true, true, true, false, false, false, false, false, false, false, false, false, false, false] rfl rfl (take_ofW HT_.out HW_.out (by kernel_rfl)) (fun _ _ _ h => h) (Or.inl ⟨by rfl, ?_⟩) hHeld ?_ ?_
      rotate_left
      · rintro w' ⟨s0, s1, s2⟩
        go_simp
        with_reducible rfl
      rotate_left
      · simp only [Act.put, List.setIfInBounds_toArray, List.set_cons_zero, List.set_cons_succ, i64_w, i32_w]
        rfl
      refine one_ (i := 19) (N := some 61) #[true, true, true, true, true, true, true, true, true, true, true, true, true, true, true, true, true, true, true, true, false, false, false, false, false, false, false, false, false, false] rfl rfl (one_of HT_.out (by kernel_rfl)) (by decide) (fun K hK => ?_)
      refine vgoes_ (x := 48) (caps := #[.pointer (some ⟨p2, 0, none⟩), .pointer (some ⟨p3, 0, none⟩)]) Tryz.func38 (by kernel_rfl) rfl #[.int .u32 (smp L 0 i), .int .u32 (smp L 1 i), .int .u32 (smp L 2 i), .pointer (some ⟨p2, 0, none⟩), .pointer (some ⟨p3, 0, none⟩)] (by rfl) rfl rfl (by rfl) (by simp [Act.eval]) ?_
      refine (HF.out wd RT1.out.below i _ _ _ HPre.out).mono ?_
      rintro e w5 ⟨x, y, z, rfl, hrl, hb⟩
      refine ⟨_, rfl, ?_⟩
      have HRel := Aside0.mk hrl
      have RT5 := Aside0.mk (RT1.out.step hb)
      refine hK.out _ _ ⟨(hb.cell (World.block_lt_of_cell? wd _ hHeld.1)).trans hHeld.1, (hb.cell (World.block_lt_of_cell? wd _ hHeld.2.1)).trans hHeld.2.1, (hb.cell (World.block_lt_of_cell? wd _ hHeld.2.2)).trans hHeld.2.2⟩ (fun hHeld2 => ?_)
      clear hb hHeld hrl RT1
      clear hK K
      refine norm_ (a' := ?_) ?_ ?_
      rotate_left
      · show Act.put _ (some 61) _ = _
        simp only [Act.put, List.setIfInBounds_toArray, List.set_cons_zero, List.set_cons_succ, i64_w, i32_w]
        rfl
      refine pure_ (i := 20) (N := some 41) (v := ?_) (a' := ?_) #[true, true, true, true, true, true, true, true, true, true, true, true, true, true, true, true, true, true, true, true, true, false, false, false, false, false, false, false, false, false] rfl rfl (any_of HT_.out (by kernel_rfl)) (fun _ _ _ h => h) (Or.inl ⟨by rfl, ?_⟩) ?_ ?_
      rotate_left
      · intro w'
        go_simp
        with_reducible rfl
      rotate_left
      · simp only [Act.put, List.setIfInBounds_toArray, List.set_cons_zero, List.set_cons_succ, i64_w, i32_w]
        rfl
      refine pure_ (i := 21) (N := some 62) (v := ?_) (a' := ?_) #[true, true, true, true, true, true, true, true, true, true, true, true, true, true, true, true, true, true, true, true, true, true, false, false, false, false, false, false, false, false] rfl rfl (any_of HT_.out (by kernel_rfl)) (fun _ _ _ h => h) (Or.inl ⟨by rfl, ?_⟩) ?_ ?_
      rotate_left
      · intro w'
        go_simp
        with_reducible rfl
      rotate_left
      · simp only [Act.put, List.setIfInBounds_toArray, List.set_cons_zero, List.set_cons_succ, i64_w, i32_w]
        rfl
      refine pure_ (i := 22) (N := some 63) (v := ?_) (a' := ?_) #[true, true, true, true, true, true, true, true, true, true, true, true, true, true, true, true, true, true, true, true, true, true, true, false, false, false, false, false, false, false] rfl rfl (any_of HT_.out (by kernel_rfl)) (fun _ _ _ h => h) (Or.inl ⟨by rfl, ?_⟩) ?_ ?_
      rotate_left
      · intro w'
        go_simp
        with_reducible rfl
      rotate_left
      · simp only [Act.put, List.setIfInBounds_toArray, List.set_cons_zero, List.set_cons_succ, i64_w, i32_w]
        rfl
      refine pure_ (i := 23) (N := some 64) (v := ?_) (a' := ?_) #[true, true, true, true, true, true, true, true, true, true, true, true, true, true, true, true, true, true, true, true, true, true, true, true, false, false, false, false, false, false] rfl rfl (any_of HT_.out (by kernel_rfl)) (fun _ _ _ h => h) (Or.inl ⟨by rfl, ?_⟩) ?_ ?_
      rotate_left
      · intro w'
        go_simp
        with_reducible rfl
      rotate_left
      · simp only [Act.put, List.setIfInBounds_toArray, List.set_cons_zero, List.set_cons_succ, i64_w, i32_w]
        rfl
      refine pure_ (i := 24) (N := some 65) (v := ?_) (a' := ?_) #[true, true, true, true, true, true, true, true, true, true, true, true, true, true, true, true, true, true, true, true, true, true, true, true, true, false, false, false, false, false] rfl rfl (any_of HT_.out (by kernel_rfl)) (fun _ _ _ h => h) (Or.inl ⟨by rfl, ?_⟩) ?_ ?_
      rotate_left
      · intro w'
        go_simp
        with_reducible rfl
      rotate_left
      · simp only [Act.put, List.setIfInBounds_toArray, List.set_cons_zero, List.set_cons_succ, i64_w, i32_w]
        rfl
      obtain ⟨hgz, hfz⟩ := RT5.out.at_ 0 (by omega) RT5.out.c0 i hlt
      have RT6 := Aside0.mk (RT5.out.put 0 (by omega) RT5.out.c0 i x)
      refine last_ (i := 25) (N := none) #[true, true, true, true, true, true, true, true, true, true, true, true, true, true, true, true, true, true, true, true, true, true, true, true, true, true, false, false, false, false] rfl rfl (one_of HT_.out (by kernel_rfl)) (by decide) (fun K hK => ?_)
      refine skip_ (w1 := ?_) (by rfl) rfl ?_ ?_
      rotate_left
      · go_simp
        rfl
      refine hK.out _ _ ?_
      clear hK K
      clear hgz hfz RT5
      generalize w5.setCell ⟨g0, i, none⟩ (.int .u32 x) = w6 at RT6 ⊢
      refine pure_ (i := 26) (N := some 66) (v := ?_) (a' := ?_) #[true, true, true, true, true, true, true, true, true, true, true, true, true, true, true, true, true, true, true, true, true, true, true, true, true, true, true, false, false, false] rfl rfl (any_of HT_.out (by kernel_rfl)) (fun _ _ _ h => h) (Or.inl ⟨by rfl, ?_⟩) ?_ ?_
      rotate_left
      · intro w'
        go_simp
        with_reducible rfl
      rotate_left
      · simp only [Act.put, List.setIfInBounds_toArray, List.set_cons_zero, List.set_cons_succ, i64_w, i32_w]
        rfl
      obtain ⟨hgz, hfz⟩ := RT6.out.at_ 1 (by omega) RT6.out.c1 i hlt
      have RT7 := Aside0.mk (RT6.out.put 1 (by omega) RT6.out.c1 i y)
      refine last_ (i := 27) (N := none) #[true, true, true, true, true, true, true, true, true, true, true, true, true, true, true, true, true, true, true, true, true, true, true, true, true, true, true, true, false, false] rfl rfl (one_of HT_.out (by kernel_rfl)) (by decide) (fun K hK => ?_)
      refine skip_ (w1 := ?_) (by rfl) rfl ?_ ?_
      rotate_left
      · go_simp
        rfl
      refine hK.out _ _ ?_
      clear hK K
      clear hgz hfz RT6
      generalize w6.setCell ⟨g1, i, none⟩ (.int .u32 y) = w7 at RT7 ⊢
      refine pure_ (i := 28) (N := some 67) (v := ?_) (a' := ?_) #[true, true, true, true, true, true, true, true, true, true, true, true, true, true, true, true, true, true, true, true, true, true, true, true, true, true, true, true, true, false] rfl rfl (any_of HT_.out (by kernel_rfl)) (fun _ _ _ h => h) (Or.inl ⟨by rfl, ?_⟩) ?_ ?_
      rotate_left
      · intro w'
        go_simp
        with_reducible rfl
      rotate_left
      · simp only [Act.put, List.setIfInBounds_toArray, List.set_cons_zero, List.set_cons_succ, i64_w, i32_w]
        rfl
      obtain ⟨hgz, hfz⟩ := RT7.out.at_ 2 (by omega) RT7.out.c2 i hlt
      have RT8 := Aside0.mk (RT7.out.put 2 (by omega) RT7.out.c2 i z)
      refine last_ (i := 29) (N := none) #[true, true, true, true, true, true, true, true, true, true, true, true, true, true, true, true, true, true, true, true, true, true, true, true, true, true, true, true, true, true] rfl rfl (one_of HT_.out (by kernel_rfl)) (by decide) (fun K hK => ?_)
      refine skip_ (w1 := ?_) (by rfl) rfl ?_ ?_
      rotate_left
      · go_simp
        rfl
      refine hK.out _ _ ?_
      clear hK K
      clear hgz hfz RT7
      generalize w7.setCell ⟨g2, i, none⟩ (.int .u32 z) = w8 at RT8 ⊢
      refine done_ (done_of HT_.out (by kernel_rfl)) ?_
      have HSt := Aside0.mk (HST.out.next HL3.out HN.out hlt (by have h_ := HRel.out; rw [HST.out.todo 0 i (Nat.le_refl _), HST.out.todo 1 i (Nat.le_refl _), HST.out.todo 2 i (Nat.le_refl _)] at h_; exact h_))
      try go_wp2
      go_roundw
      case rel => exact ⟨i + 1, by omega, by go_num, ⟨_, RT8.out, HSt.out⟩⟩
      case measure => simp [intOf]; omega
    · obtain rfl : i = n := by omega
      have hg0 := (blk_cell RT.out.out 0).trans rfl
      have hg1 := (blk_cell RT.out.out 1).trans rfl
      have hr0 := (blk_cell RT.out.res 0).trans rfl
      have hr1 := (blk_cell RT.out.res 1).trans rfl
      have hf0 := blk_frozen RT.out.res 0
      have hf1 := blk_frozen RT.out.res 1
      simp at hg0 hg1 hr0 hr1
      go_wp2
      have hp := blk_put (blk_put RT.out.res 0 (.int .i64 sp) rfl) 1 (.slice (some ⟨G, 0, none⟩) l.length c') rfl
      have hs1 := Kd.S_set RT.out.row RT.out.res (by decide) 0 (.int .i64 sp)
      have hs2 := Kd.S_set hs1 (blk_put RT.out.res 0 (.int .i64 sp) rfl) (by decide) 1 (.slice (some ⟨G, 0, none⟩) l.length c')
      try simp only [Exit.inBlock, Exit.then]
      refine bodyPost_ret (results_cell_tmp rfl _ _ (w.heap.size + 1) 24 #[.int .i64 sp, .slice (some ⟨G, 0, none⟩) l.length c'] (0, 0) _ _ rfl rfl hp Tryz.underlying24 (by kernel_rfl)) rfl ⟨_, c', L, rfl, hs2, HST.out, ?_⟩
      exact below_set (below_set RT.out.below (by omega)) (by omega)
end Go.Proofs.YtimghiiihjphiaaGreat.trips
