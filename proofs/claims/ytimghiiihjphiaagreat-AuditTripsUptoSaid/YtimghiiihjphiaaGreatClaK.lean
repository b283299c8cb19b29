/- A part of the proof: the classes of a picture's samples, counted. Condition: the check of the picture is known. -/
import Derived.Test.YtimghiiihjphiaaGreatClaG
import Derived.Test.YtimghiiihjphiaaGreatClaA
namespace Go.Proofs.YtimghiiihjphiaaGreat.classes
open Go.RowKit Go.Proofs.YtimghiiihjphiaaGreatW.PrintWords Go.Proofs.YtimghiiihjphiaaGreat.PTri
set_option linter.unusedVariables false
set_option linter.unusedSimpArgs false

/-- one sample more -/
def cstep (xs : List Int) (s : Int) : List Int :=
  if s = 2147483648 then (xs.set (cls s - 1).toNat (wrap64 (rd xs (cls s - 1) + 1))).set 5 (wrap64 (rd (xs.set (cls s - 1).toNat (wrap64 (rd xs (cls s - 1) + 1))) 5 + 1))
  else xs.set (cls s - 1).toNat (wrap64 (rd xs (cls s - 1) + 1))
def crow (xs l : List Int) : Nat → List Int
  | 0 => xs
  | n + 1 => cstep (crow xs l n) (rd l n)
def call (l : List S37) : Nat → List Int
  | 0 => List.replicate 6 0
  | n + 1 => crow (call l n) (rd_T37 l n).f2 (rd_T37 l n).f2.length
theorem cstep_length (xs : List Int) (s : Int) : (cstep xs s).length = xs.length := by unfold cstep; split <;> simp
theorem crow_length (xs l : List Int) : ∀ n, (crow xs l n).length = xs.length
  | 0 => rfl
  | n + 1 => by rw [crow, cstep_length, crow_length xs l n]
theorem call_length (l : List S37) : ∀ n, (call l n).length = 6
  | 0 => rfl
  | n + 1 => by rw [call, crow_length, call_length l n]
theorem cls_in (s : Int) : ∃ n : Nat, n < 5 ∧ cls s = n + 1 := by
  unfold cls clsOf
  split
  · split
    · exact ⟨4, by decide, by decide⟩
    · exact ⟨3, by decide, by decide⟩
  · split
    · split
      · exact ⟨1, by decide, by decide⟩
      · exact ⟨0, by decide, by decide⟩
    · exact ⟨2, by decide, by decide⟩

theorem classes_bad (w : World) (sp : Int) (A : Option Addr) (cap : Nat) (l : List S37) (er : Int) (hr : Kd.C k37 w A l.length l) (hcap : l.length ≤ cap) (k : Nat) (hck : picture_Check.f k sp l = some er) (he : er ≠ 0) :
    Calls Tryz.prog 7 #[.agg #[.int .i64 sp, .slice A l.length cap]] w fun e w' => e = .returned (.tuple #[.slice none 0 0, .int .i64 er]) ∧ Below w.heap.size w w' := by
  have b0 : (er != 0) = true := by simpa using he
  have HC := Aside0.mk (picture_Check.calls k sp A cap l er _ (Kd.C_alloc hr (.cells #[.int .i64 sp, .slice A l.length cap] 24 (0, 0))) hcap hck)
  clear hr he
  go_enter Tryz.func7, Tryz.ntmps7
  go_wp2_with fail
  refine HC.out.mono ?_
  rintro e w1 ⟨rfl, hb⟩
  have HB := Aside0.mk (below_step (below_alloc (Below.refl w.heap.size w) (.cells #[.int .i64 sp, .slice A l.length cap] 24 (0, 0))) hb)
  clear hb HC
  go_wp2
  go_ret2
  exact ⟨rfl, HB.out⟩

/-- the block of counts -/
def CB (W : World) (g : Nat) (xs : List Int) : Prop := W.heap[g]? = some (.cells (nums .i64 xs).toArray 57 (0, 0))
theorem CB.cell {W : World} {g : Nat} {xs : List Int} (h : CB W g xs) (n : Nat) (hn : n < xs.length) : W.cell? ⟨g, n, none⟩ = some (.int .i64 (rd xs n)) := by
  rw [blk_cell h n]
  simp [nums, rd, hn]
theorem CB.put {W : World} {g : Nat} {xs : List Int} (h : CB W g xs) (n : Nat) (x : Int) : CB (W.setCell ⟨g, n, none⟩ (.int .i64 x)) g (xs.set n x) :=
  blk_put h n _ (by simp [nums, List.map_set])

set_option maxHeartbeats 4000000 in
set_option maxRecDepth 100000 in
theorem classes_good (w : World) (sp : Int) (A : Option Addr) (cap : Nat) (l : List S37) (hr : Kd.C k37 w A l.length l) (hcap : l.length ≤ cap) (k : Nat) (hck : picture_Check.f k sp l = some 0) (hn : l.length ≤ 1000) (hs : ∀ j : Nat, j < l.length → (rd_T37 l j).f2.length ≤ 1000000) :
    Calls Tryz.prog 7 #[.agg #[.int .i64 sp, .slice A l.length cap]] w fun e w' => ∃ A' c', e = .returned (.tuple #[.slice A' (call l l.length).length c', .int .i64 0]) ∧ (call l l.length).length ≤ c' ∧ Kd.C (Kd.int .i64) w' A' (call l l.length).length (call l l.length) ∧ Below w.heap.size w w' := by
  have HC := Aside0.mk (picture_Check.calls k sp A cap l 0 _ (Kd.C_alloc hr (.cells #[.int .i64 sp, .slice A l.length cap] 24 (0, 0))) hcap hck)
  have HX := Aside0.mk hr
  have HS := Aside0.mk hs
  clear hr hck hs
  go_enter Tryz.func7, Tryz.ntmps7
  go_wp2_with fail
  refine HC.out.mono ?_
  rintro e w1 ⟨rfl, hb⟩
  have BK1 := Aside0.mk (blk_below (blk_new w (.cells #[.int .i64 sp, .slice A l.length cap] 24 (0, 0))) hb)
  have HB1 := Aside0.mk (below_step (below_alloc (Below.refl w.heap.size w) (.cells #[.int .i64 sp, .slice A l.length cap] 24 (0, 0))) hb)
  have hcz : (w1.alloc (.cells #[.int .i64 0, .int .i64 0, .int .i64 0, .int .i64 0, .int .i64 0, .int .i64 0] 57 (0, 0))).cell? ⟨w.heap.size, 1, none⟩ = some (.slice A l.length cap) := (blk_cell (blk_alloc BK1.out _) 1).trans rfl
  clear hb HC
  go_wp2
  have GE := Aside0.mk HB1.out.size
  generalize hg : w1.heap.size = g at GE
  go_loopw [18] (fun v18 wr => ∃ i : Nat, i ≤ l.length ∧ v18 = .int .i64 i ∧ Aside0 (CB wr g (call l i)) ∧ Aside0 (Below w.heap.size w wr)) (fun v18 _ => l.length - (intOf v18).toNat)
  case atStart => exact ⟨0, Nat.zero_le _, rfl, ⟨by subst hg; exact blk_new _ _⟩, ⟨below_alloc HB1.out _⟩⟩
  case round =>
    clear BK1 hcz HB1
    obtain ⟨i, hi, rfl, BG, HB⟩ := hrel
    by_cases hlt : i < l.length
    · have b1 : decide ((i : Int) < (l.length : Int)) = true := decide_eq_true (by omega)
      obtain ⟨ad, A2, c2, rfl, hw0, hw1, hw2, hl2, hc2⟩ := at_T37 HX.out i (by omega) (by omega)
      simp only [Int.toNat_natCast] at hw0 hw1 hw2
      replace hw0 := (HB.out.cell (World.block_lt_of_cell? w _ hw0)).trans hw0
      replace hw1 := (HB.out.cell (World.block_lt_of_cell? w _ hw1)).trans hw1
      replace hw2 := (HB.out.cell (World.block_lt_of_cell? w _ hw2)).trans hw2
      have p1 : (0 : Int) ≤ i := by omega
      have p2 : (i : Int) < (l.length : Int) := by omega
      have HC2 := Aside0.mk hc2
      have HS2 := HS.out i hlt
      clear hl2 hc2
      go_wp2
      generalize hL : (rd_T37 l i).f2 = L at *
      have HC3 := Aside0.mk (call_length l i)
      have HCC := Aside0.mk (show crow (call l i) L L.length = call l (i + 1) by rw [call, hL])
      have BG0 := Aside0.mk (show CB (wr.alloc (.cells #[.int .i64 (rd_T37 l i).f0, .int .i64 (rd_T37 l i).f1, .slice A2 L.length c2] 37 (0, 0))) g (crow (call l i) L 0) from blk_alloc BG.out _)
      have HB0 := Aside0.mk (below_alloc HB.out (.cells #[.int .i64 (rd_T37 l i).f0, .int .i64 (rd_T37 l i).f1, .slice A2 L.length c2] 37 (0, 0)))
      clear BG HB hw0 hw1 hw2
      go_loopw [25] (fun v25 wr => ∃ j : Nat, j ≤ L.length ∧ v25 = .int .i64 j ∧ Aside0 (CB wr g (crow (call l i) L j)) ∧ Aside0 (Below w.heap.size w wr)) (fun v25 _ => L.length - (intOf v25).toNat)
      case atStart => exact ⟨0, Nat.zero_le _, rfl, BG0, HB0⟩
      case round =>
        clear BG0 HB0
        obtain ⟨j, hj, rfl, BG, HB⟩ := hrel
        have hxl : (crow (call l i) L j).length = 6 := by rw [crow_length]; exact HC3.out
        by_cases hjl : j < L.length
        · have HN := Aside0.mk (show crow (call l i) L (j + 1) = cstep (crow (call l i) L j) (rd L j) from rfl)
          obtain ⟨ad2, rfl, hx0⟩ := Kd.at_int HC2.out j (by omega) (by omega)
          have hx1 := (HB.out.cell (World.block_lt_of_cell? w _ hx0)).trans hx0
          simp only [Int.toNat_natCast] at hx1
          clear hx0
          have b2 : decide ((j : Int) < (L.length : Int)) = true := decide_eq_true (by omega)
          have p3 : (0 : Int) ≤ j := by omega
          have p4 : (j : Int) < (L.length : Int) := by omega
          go_wp2_with fail
          refine (class_any wr (rd L j)).mono ?_
          rintro e w2 ⟨rfl, hb⟩
          obtain ⟨n, hn5, hcl⟩ := cls_in (rd L j)
          have BG2 := Aside0.mk (show CB w2 g (crow (call l i) L j) from blk_below BG.out hb)
          have HB2 := Aside0.mk (below_step HB.out hb)
          rw [hcl]
          have HCL := Aside0.mk hcl
          clear hcl hb BG HB hx1
          generalize crow (call l i) L j = xs at *
          have hc0 := BG2.out.cell n (by omega)
          have hf0 := blk_frozen BG2.out n
          have i1 : IntKind.i64.wrap ((n : Int) + 1 - 1) = n := by rw [show (n : Int) + 1 - 1 = n by omega]; exact IntWalk.i64_in _ (by omega)
          have i2 : (0 : Int) ≤ n := by omega
          have i3 : (n : Int) < 6 := by omega
          by_cases hq : rd L j = 2147483648
          · have b3 : (rd L j == 2147483648) = true := by simpa using hq
            have BG3 := Aside0.mk (BG2.out.put n (wrap64 (rd xs n + 1)))
            have hc5 := BG3.out.cell 5 (by simp; omega)
            have hf5 := blk_frozen BG3.out 5
            have HN2 := Aside0.mk (show cstep xs (rd L j) = (xs.set n (wrap64 (rd xs n + 1))).set 5 (wrap64 (rd (xs.set n (wrap64 (rd xs n + 1))) 5 + 1)) by
              unfold cstep
              rw [if_pos hq, HCL.out, show ((n : Int) + 1 - 1) = n by omega, Int.toNat_natCast])
            go_wp2
            go_roundw
            case rel => exact ⟨j + 1, by omega, by go_num, ⟨by rw [HN.out, HN2.out]; exact BG3.out.put 5 _⟩, ⟨below_set (below_set HB2.out GE.out) GE.out⟩⟩
            case measure => simp [intOf]; omega
          · have b3 : (rd L j == 2147483648) = false := by simpa using hq
            have HN2 := Aside0.mk (show cstep xs (rd L j) = xs.set n (wrap64 (rd xs n + 1)) by
              unfold cstep
              rw [if_neg hq, HCL.out, show ((n : Int) + 1 - 1) = n by omega, Int.toNat_natCast])
            go_wp2
            go_roundw
            case rel => exact ⟨j + 1, by omega, by go_num, ⟨by rw [HN.out, HN2.out]; exact BG2.out.put n _⟩, ⟨below_set HB2.out GE.out⟩⟩
            case measure => simp [intOf]; omega
        · obtain rfl : j = L.length := by omega
          have b2 : decide ((L.length : Int) < (L.length : Int)) = false := decide_eq_false (by omega)
          rw [HCC.out] at BG
          go_wp2
          go_roundw
          case rel => exact ⟨i + 1, by omega, by go_num, BG, HB⟩
          case measure => simp [intOf]; omega
    · obtain rfl : i = l.length := by omega
      have b1 : decide ((l.length : Int) < (l.length : Int)) = false := decide_eq_false (by omega)
      go_wp2
      go_ret2
      have hlen := call_length l l.length
      refine ⟨some ⟨g, 0, none⟩, 6, by rw [hlen]; rfl, by omega, ?_, HB.out⟩
      refine Kd.C_of_reads (d := (0 : Int)) (h1 := fun _ => rfl) ⟨rfl, by rw [hlen]; omega, fun h0 => ⟨_, rfl, fun j hj => ?_⟩⟩
      have := BG.out.cell j hj
      rw [add_plain, this]
      simp [rd]
end Go.Proofs.YtimghiiihjphiaaGreat.classes
