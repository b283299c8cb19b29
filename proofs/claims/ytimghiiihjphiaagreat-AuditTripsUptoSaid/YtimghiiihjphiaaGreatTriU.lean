/- A part of the proof: the law's own walk. Condition: the samples are of 32 bits; the chapter's examples hold. -/
import Derived.Test.YtimghiiihjphiaaGreatTriT
import Derived.BigQuiet
namespace Go.Proofs.YtimghiiihjphiaaGreat.trips
open Go.RowKit Go.Proofs.YtimghiiihjphiaaGreatW.PrintWords Go.Proofs.YtimghiiihjphiaaGreat.PTri Go.Proofs.YtimghiiihjphiaaGreat.sides
set_option linter.unusedVariables false
set_option linter.unusedSimpArgs false

def KnownB : Prop := ∀ w : World, Calls Tryz.prog 4 #[] w fun e w' => e = .returned (.bool true) ∧ Below w.heap.size w w'

/-- what stands while the law counts -/
structure WF (w : World) (sp : Int) (A : Option Addr) (cap : Nat) (l : List S37) (ad : Addr) (a b c d x y : Int) (bd : Addr) (bl : Nat → Int) (W : World) : Prop where
  below : Below w.heap.size w W
  box : W.heap[w.heap.size]? = some (.cells #[.int .i64 sp, .slice A l.length cap] 24 (0, 0))
  bits : ∀ j : Nat, j < l.length → W.cell? (bd.add j) = some (.int .i64 (bl j))
  cls : W.cell? (ad.add 0) = some (.int .i64 a) ∧ W.cell? (ad.add 1) = some (.int .i64 b) ∧ W.cell? (ad.add 2) = some (.int .i64 c) ∧ W.cell? (ad.add 3) = some (.int .i64 d) ∧ W.cell? (ad.add 4) = some (.int .i64 x) ∧ W.cell? (ad.add 5) = some (.int .i64 y)
theorem WF.drewN {w : World} {sp : Int} {A : Option Addr} {cap : Nat} {l : List S37} {ad : Addr} {a b c d x y : Int} {bd : Addr} {bl : Nat → Int} {W : World} (h : WF w sp A cap l ad a b c d x y bd bl W) (n : Nat) : WF w sp A cap l ad a b c d x y bd bl (W.drewN n) := ⟨pw_below_drewN h.below n, h.box, h.bits, h.cls⟩
/-- so far all but those of the fourth plane are numbers above naught -/
def PosUp (l : List S37) (i j : Nat) : Prop := ∀ k q : Nat, (k < i ∧ q < (rd_T37 l k).f2.length ∨ k = i ∧ q < j) → k ≠ 3 → 0 < smp l k q ∧ smp l k q < 2139095040
theorem PosUp.next {l : List S37} {i j : Nat} (h : PosUp l i j) (hs : i ≠ 3 → 0 < smp l i j ∧ smp l i j < 2139095040) : PosUp l i (j + 1) := by
  intro k q hq h3
  by_cases e : k = i ∧ q = j
  · obtain ⟨rfl, rfl⟩ := e
    exact hs h3
  · exact h k q (by omega) h3
theorem PosUp.row {l : List S37} {i : Nat} (h : PosUp l i (rd_T37 l i).f2.length) : PosUp l (i + 1) 0 := by
  intro k q hq h3
  rcases hq with ⟨h1, h2⟩ | ⟨_, h2⟩
  · by_cases e : k = i
    · subst e; exact h k q (.inr ⟨rfl, h2⟩) h3
    · exact h k q (.inl ⟨by omega, h2⟩) h3
  · omega
set_option maxRecDepth 100000 in
theorem law_dark (hkn : KnownB) (w : World) (sp : Int) (A : Option Addr) (cap : Nat) (l : List S37) (hr : Kd.C k37 w A l.length l) (hcap : l.length ≤ cap) (k : Nat) (hl : halidelaw27_light.f k sp l = some false) :
    Calls Tryz.prog 3 #[.agg #[.int .i64 sp, .slice A l.length cap]] w fun e w' => e = .returned (.bool true) ∧ Below w.heap.size w w' := by
  have HX := Aside0.mk hr
  have HKN := Aside0.mk hkn
  clear hr hkn
  go_enter Tryz.func3, Tryz.ntmps3
  go_wp2_with fail
  refine (HKN.out _).mono ?_
  rintro e w1 ⟨rfl, hb⟩
  have BK1 := Aside0.mk (blk_below (blk_new w (.cells #[.int .i64 sp, .slice A l.length cap] 24 (0, 0))) hb)
  have HB1 := Aside0.mk (below_step (below_alloc (Below.refl w.heap.size w) (.cells #[.int .i64 sp, .slice A l.length cap] 24 (0, 0))) hb)
  clear hb
  have hc0 : w1.cell? ⟨w.heap.size, 0, none⟩ = some (.int .i64 sp) := (blk_cell BK1.out 0).trans rfl
  have hc1 : w1.cell? ⟨w.heap.size, 1, none⟩ = some (.slice A l.length cap) := (blk_cell BK1.out 1).trans rfl
  go_wp2_with fail
  refine (halidelaw27_light.calls k sp A cap l false _ (Kd.C_below HX.out HB1.out) hcap hl).mono ?_
  rintro e w2 ⟨rfl, hb⟩
  have HB2 := Aside0.mk (below_step HB1.out hb)
  clear hb
  go_wp2
  go_ret
  exact ⟨rfl, HB2.out⟩

set_option maxHeartbeats 1600000 in
set_option maxRecDepth 100000 in
theorem law_bad (hkn : KnownB) (w : World) (sp er : Int) (A : Option Addr) (cap : Nat) (l : List S37) (hr : Kd.C k37 w A l.length l) (hcap : l.length ≤ cap) (k : Nat) (hl : halidelaw27_light.f k sp l = some true) (hck : picture_Check.f 20 sp l = some er) (he : er ≠ 0) :
    Calls Tryz.prog 3 #[.agg #[.int .i64 sp, .slice A l.length cap]] w fun e w' => e = .returned (.bool true) ∧ Below w.heap.size w w' := by
  have b0 : (er != 0) = true := by simpa using he
  have HK := Aside0.mk hck
  have HE := Aside0.mk he
  clear hck he
  have HX := Aside0.mk hr
  have HKN := Aside0.mk hkn
  have HL := Aside0.mk hl
  clear hr hkn hl
  go_enter Tryz.func3, Tryz.ntmps3
  go_wp2_with fail
  refine (HKN.out _).mono ?_
  rintro e w1 ⟨rfl, hb⟩
  have BK1 := Aside0.mk (blk_below (blk_new w (.cells #[.int .i64 sp, .slice A l.length cap] 24 (0, 0))) hb)
  have HB1 := Aside0.mk (below_step (below_alloc (Below.refl w.heap.size w) (.cells #[.int .i64 sp, .slice A l.length cap] 24 (0, 0))) hb)
  clear hb
  have hc0 : w1.cell? ⟨w.heap.size, 0, none⟩ = some (.int .i64 sp) := (blk_cell BK1.out 0).trans rfl
  have hc1 : w1.cell? ⟨w.heap.size, 1, none⟩ = some (.slice A l.length cap) := (blk_cell BK1.out 1).trans rfl
  go_wp2_with fail
  refine (halidelaw27_light.calls k sp A cap l true _ (Kd.C_below HX.out HB1.out) hcap HL.out).mono ?_
  rintro e w2 ⟨rfl, hb⟩
  have BK2 := Aside0.mk (blk_below BK1.out hb)
  have HB2 := Aside0.mk (below_step HB1.out hb)
  clear hb hc0 hc1 BK1 HB1 HL HKN
  have hc0 : w2.cell? ⟨w.heap.size, 0, none⟩ = some (.int .i64 sp) := (blk_cell BK2.out 0).trans rfl
  have hc1 : w2.cell? ⟨w.heap.size, 1, none⟩ = some (.slice A l.length cap) := (blk_cell BK2.out 1).trans rfl
  go_wp2_with fail
  refine (trip_bad w2 sp sp er A cap l (Kd.C_below HX.out HB2.out) hcap HK.out HE.out).mono ?_
  rintro e w3 ⟨he, hb⟩
  replace he : e = .returned (.tuple #[.agg #[.int .i64 0, .int .i64 0, .int .i64 0, .int .i64 0, .int .i64 0, .int .i64 0], .int .i64 er]) := he
  subst he
  have HB3 := Aside0.mk (below_alloc (below_step HB2.out hb) (.cells #[.int .i64 0, .int .i64 0, .int .i64 0, .int .i64 0, .int .i64 0, .int .i64 0] 28 (0, 0)))
  clear hb hc0 hc1 BK2 HB2
  go_wp2
  go_ret
  exact ⟨rfl, HB3.out⟩

set_option maxHeartbeats 8000000 in
set_option maxRecDepth 100000 in
theorem law_good (hkn : KnownB) (w : World) (sp : Int) (A : Option Addr) (cap : Nat) (l : List S37) (hr : Kd.C k37 w A l.length l) (hcap : l.length ≤ cap) (k : Nat) (hl : halidelaw27_light.f k sp l = some true) (hf : Fine sp l) (hs : ∀ j : Nat, j < l.length → (rd_T37 l j).f2.length ≤ 2000) :
    Calls Tryz.prog 3 #[.agg #[.int .i64 sp, .slice A l.length cap]] w fun e w' => e = .returned (.bool true) ∧ Below w.heap.size w w' := by
  have HF := Aside0.mk hf
  have HS := Aside0.mk hs
  have hl4 := hf.good.few
  have hl1 := hf.good.pos
  clear hf hs
  have HX := Aside0.mk hr
  have HKN := Aside0.mk hkn
  have HL := Aside0.mk hl
  clear hr hkn hl
  go_enter Tryz.func3, Tryz.ntmps3
  go_wp2_with fail
  refine (HKN.out _).mono ?_
  rintro e w1 ⟨rfl, hb⟩
  have BK1 := Aside0.mk (blk_below (blk_new w (.cells #[.int .i64 sp, .slice A l.length cap] 24 (0, 0))) hb)
  have HB1 := Aside0.mk (below_step (below_alloc (Below.refl w.heap.size w) (.cells #[.int .i64 sp, .slice A l.length cap] 24 (0, 0))) hb)
  clear hb
  have hc0 : w1.cell? ⟨w.heap.size, 0, none⟩ = some (.int .i64 sp) := (blk_cell BK1.out 0).trans rfl
  have hc1 : w1.cell? ⟨w.heap.size, 1, none⟩ = some (.slice A l.length cap) := (blk_cell BK1.out 1).trans rfl
  go_wp2_with fail
  refine (halidelaw27_light.calls k sp A cap l true _ (Kd.C_below HX.out HB1.out) hcap HL.out).mono ?_
  rintro e w2 ⟨rfl, hb⟩
  have BK2 := Aside0.mk (blk_below BK1.out hb)
  have HB2 := Aside0.mk (below_step HB1.out hb)
  clear hb hc0 hc1 BK1 HB1 HL HKN
  have hc0 : w2.cell? ⟨w.heap.size, 0, none⟩ = some (.int .i64 sp) := (blk_cell BK2.out 0).trans rfl
  have hc1 : w2.cell? ⟨w.heap.size, 1, none⟩ = some (.slice A l.length cap) := (blk_cell BK2.out 1).trans rfl
  go_wp2_with fail
  refine (trip_same w2 HF.out A cap (Kd.C_below HX.out HB2.out) hcap).mono ?_
  rintro e w3 ⟨he, hb⟩
  replace he : e = .returned (.tuple #[.agg #[.int .i64 0, .int .i64 0, .int .i64 0, .int .i64 0, .int .i64 0, .int .i64 0], .int .i64 0]) := he
  subst he
  have BK3 := Aside0.mk (blk_alloc (blk_below BK2.out hb) (.cells #[.int .i64 0, .int .i64 0, .int .i64 0, .int .i64 0, .int .i64 0, .int .i64 0] 28 (0, 0)))
  have BZ3 := Aside0.mk (blk_new w3 (.cells #[.int .i64 0, .int .i64 0, .int .i64 0, .int .i64 0, .int .i64 0, .int .i64 0] 28 (0, 0)))
  have HB3 := Aside0.mk (below_alloc (below_step HB2.out hb) (.cells #[.int .i64 0, .int .i64 0, .int .i64 0, .int .i64 0, .int .i64 0, .int .i64 0] 28 (0, 0)))
  clear hb hc0 hc1 BK2 HB2
  have hc0 : (w3.alloc (.cells #[.int .i64 0, .int .i64 0, .int .i64 0, .int .i64 0, .int .i64 0, .int .i64 0] 28 (0, 0))).cell? ⟨w.heap.size, 0, none⟩ = some (.int .i64 sp) := (blk_cell BK3.out 0).trans rfl
  have hc1 : (w3.alloc (.cells #[.int .i64 0, .int .i64 0, .int .i64 0, .int .i64 0, .int .i64 0, .int .i64 0] 28 (0, 0))).cell? ⟨w.heap.size, 1, none⟩ = some (.slice A l.length cap) := (blk_cell BK3.out 1).trans rfl
  go_wp2_with fail
  generalize w3.heap.size = g at BZ3 ⊢
  generalize w3.alloc (.cells #[.int .i64 0, .int .i64 0, .int .i64 0, .int .i64 0, .int .i64 0, .int .i64 0] 28 (0, 0)) = w4 at BK3 BZ3 HB3 hc0 hc1 ⊢
  refine (classes_six w4 HF.out HS.out A cap (Kd.C_below HX.out HB3.out) hcap).mono ?_
  rintro e w5 ⟨ad, ca, a, b, c, d, x, y, rfl, hci, hcl, hb⟩
  have BK5 := Aside0.mk (blk_below BK3.out hb)
  have BZ5 := Aside0.mk (blk_below BZ3.out hb)
  have HB5 := Aside0.mk (below_step HB3.out hb)
  have HCI := Aside0.mk hci
  have HCL := Aside0.mk hcl
  clear hb hc0 hc1 BK3 BZ3 HB3 hci hcl
  have hc0 : w5.cell? ⟨w.heap.size, 0, none⟩ = some (.int .i64 sp) := (blk_cell BK5.out 0).trans rfl
  have hc1 : w5.cell? ⟨w.heap.size, 1, none⟩ = some (.slice A l.length cap) := (blk_cell BK5.out 1).trans rfl
  go_wp2_with fail
  refine (bits_list w5 HF.out HS.out A cap (Kd.C_below HX.out HB5.out) hcap).mono ?_
  rintro e w6 ⟨bd, cb, bl, rfl, hbl, hb⟩
  have BK6 := Aside0.mk (blk_below BK5.out hb)
  have BZ6 := Aside0.mk (blk_below BZ5.out hb)
  have HB6 := Aside0.mk (below_step HB5.out hb)
  have HBL := Aside0.mk hbl
  have HCL6 : Aside0 (w6.cell? (ad.add 0) = some (.int .i64 a) ∧ w6.cell? (ad.add 1) = some (.int .i64 b) ∧ w6.cell? (ad.add 2) = some (.int .i64 c) ∧ w6.cell? (ad.add 3) = some (.int .i64 d) ∧ w6.cell? (ad.add 4) = some (.int .i64 x) ∧ w6.cell? (ad.add 5) = some (.int .i64 y)) := by
    obtain ⟨k0, k1, k2, k3, k4, k5⟩ := HCL.out
    exact ⟨(hb.cell (World.block_lt_of_cell? w5 _ k0)).trans k0, (hb.cell (World.block_lt_of_cell? w5 _ k1)).trans k1, (hb.cell (World.block_lt_of_cell? w5 _ k2)).trans k2, (hb.cell (World.block_lt_of_cell? w5 _ k3)).trans k3, (hb.cell (World.block_lt_of_cell? w5 _ k4)).trans k4, (hb.cell (World.block_lt_of_cell? w5 _ k5)).trans k5⟩
  clear hb hc0 hc1 BK5 BZ5 HB5 hbl HCL
  have hc0 : w6.cell? ⟨w.heap.size, 0, none⟩ = some (.int .i64 sp) := (blk_cell BK6.out 0).trans rfl
  have hc1 : w6.cell? ⟨w.heap.size, 1, none⟩ = some (.slice A l.length cap) := (blk_cell BK6.out 1).trans rfl
  have hz0 : w6.cell? ⟨g, 0, none⟩ = some (.int .i64 0) := (blk_cell BZ6.out 0).trans rfl
  have hz1 : w6.cell? ⟨g, 1, none⟩ = some (.int .i64 0) := (blk_cell BZ6.out 1).trans rfl
  have hz2 : w6.cell? ⟨g, 2, none⟩ = some (.int .i64 0) := (blk_cell BZ6.out 2).trans rfl
  have hz3 : w6.cell? ⟨g, 3, none⟩ = some (.int .i64 0) := (blk_cell BZ6.out 3).trans rfl
  have hz4 : w6.cell? ⟨g, 4, none⟩ = some (.int .i64 0) := (blk_cell BZ6.out 4).trans rfl
  have hz5 : w6.cell? ⟨g, 5, none⟩ = some (.int .i64 0) := (blk_cell BZ6.out 5).trans rfl
  go_wp2
  have HW6 := Aside0.mk (WF.mk HB6.out BK6.out (fun j hj => (HBL.out j hj).1) HCL6.out : WF w sp A cap l ad a b c d x y bd bl w6)
  clear BZ6 HB6 BK6 HCL6 hz0 hz1 hz2 hz3 hz4 hz5 hc0 hc1
  go_loopw [9, 10, 11] (fun v9 v10 v11 wr => ∃ (i : Nat) (ps : Bool), i ≤ l.length ∧ v9 = .int .i64 (classes.tot l i : Nat) ∧ v10 = .bool ps ∧ v11 = .int .i64 i ∧ Aside0 (ps = true → PosUp l i 0) ∧ Aside0 (WF w sp A cap l ad a b c d x y bd bl wr)) (fun _ _ v11 _ => l.length - (intOf v11).toNat)
  case atStart => exact ⟨0, true, Nat.zero_le _, rfl, rfl, rfl, ⟨fun _ k q hq => by omega⟩, HW6⟩
  case round =>
    clear HW6
    obtain ⟨i, ps, hi, rfl, rfl, rfl, HPS, HW⟩ := hrel
    have hc1 : wr.cell? ⟨w.heap.size, 1, none⟩ = some (.slice A l.length cap) := (blk_cell HW.out.box 1).trans rfl
    by_cases hlt : i < l.length
    · have b1 : decide ((i : Int) < (l.length : Int)) = true := decide_eq_true (by omega)
      obtain ⟨pd, A2, c2, rfl, hw0, hw1, hw2, hl2, hc2⟩ := at_T37 HX.out i (by omega) (by omega)
      simp only [Int.toNat_natCast] at hw0 hw1 hw2
      replace hw2 := (HW.out.below.cell (World.block_lt_of_cell? w _ hw2)).trans hw2
      have HC2 := Aside0.mk hc2
      have p1 : (0 : Int) ≤ i := by omega
      have p2 : (i : Int) < (l.length : Int) := by omega
      have hn := HS.out i hlt
      have ht := Aside0.mk (classes.tot_le l 2000 HS.out i hi)
      have ht2 : classes.tot l i ≤ 8000 := by have := ht.out; omega
      have hbi := HW.out.bits i hlt
      have b93 : decide (bl i < ((rd_T37 l i).f2.length : Int)) = false := decide_eq_false (by have := (HBL.out i hlt).2.1; omega)
      have b107 : decide (56 * ((rd_T37 l i).f2.length : Int) < bl i) = false := decide_eq_false (by have := (HBL.out i hlt).2.2; omega)
      clear hl2 hc2 hw0 hw1
      go_wp2_with (go_quiet (fail))
      have HV0 := Aside0.mk (HW.out.drewN nq)
      have HTO := Aside0.mk (show (classes.tot l i : Int) + ((rd_T37 l i).f2.length : Int) = (classes.tot l (i + 1) : Nat) by rw [classes.tot]; push_cast; rfl)
      clear hc1 hw2 hbi b93 b107
      go_loopw [10, 12] (fun v10 v12 wi => ∃ (j : Nat) (qs : Bool), j ≤ (rd_T37 l i).f2.length ∧ v12 = .int .i64 j ∧ v10 = .bool qs ∧ Aside0 (qs = true → PosUp l i j) ∧ Aside0 (WF w sp (some pd) cap l ad a b c d x y bd bl wi)) (fun _ v12 _ => (rd_T37 l i).f2.length - (intOf v12).toNat)
      case atStart => exact ⟨0, ps, Nat.zero_le _, rfl, rfl, HPS, HV0⟩
      case round =>
        clear HV0 HW HPS
        obtain ⟨j, qs, hj, rfl, rfl, HQS, HV⟩ := hrel
        have hc1 : wr.cell? ⟨w.heap.size, 1, none⟩ = some (.slice (some pd) l.length cap) := (blk_cell HV.out.box 1).trans rfl
        obtain ⟨pd2, A3, c3, hpd, hw0, hw1, hw2, hl2, hc2⟩ := at_T37 HX.out i (by omega) (by omega)
        obtain rfl := Option.some.inj hpd
        simp only [Int.toNat_natCast] at hw2
        replace hw2 := (HV.out.below.cell (World.block_lt_of_cell? w _ hw2)).trans hw2
        by_cases hjl : j < (rd_T37 l i).f2.length
        · have b2 : decide ((j : Int) < ((rd_T37 l i).f2.length : Int)) = true := decide_eq_true (by omega)
          obtain ⟨sd, hsd, hx0⟩ := Kd.at_int hc2 j (by omega) (by omega)
          subst hsd
          replace hx0 := (HV.out.below.cell (World.block_lt_of_cell? w _ hx0)).trans hx0
          simp only [Int.toNat_natCast] at hx0
          have p3 : (0 : Int) ≤ j := by omega
          have p4 : (j : Int) < ((rd_T37 l i).f2.length : Int) := by omega
          have hsm : rd (rd_T37 l i).f2 j = smp l i j := rfl
          rw [hsm] at hx0
          clear hw0 hw1 hl2 hc2 hsm
          cases qs with
          | false =>
              go_wp2
              go_roundw
              case rel => exact ⟨j + 1, false, by omega, by go_num, rfl, ⟨fun h => by cases h⟩, by first | exact ⟨HV.out.drewN _⟩ | exact HV⟩
              case measure => simp [intOf]; omega
          | true =>
            by_cases hi3 : i = 3
            · have b3 : ((i : Int) == 3) = true := by simp; omega
              have HI3 := Aside0.mk hi3
              clear hi3
              go_wp2
              go_roundw
              case rel => exact ⟨j + 1, true, by omega, by go_num, rfl, ⟨fun _ => (HQS.out rfl).next fun h => absurd HI3.out h⟩, by first | exact ⟨HV.out.drewN _⟩ | exact HV⟩
              case measure => simp [intOf]; omega
            · have b3 : ((i : Int) == 3) = false := by simp; omega
              by_cases h0 : 0 < smp l i j
              · have b4 : decide (0 < smp l i j) = true := decide_eq_true h0
                by_cases h1 : smp l i j < 2139095040
                · have b5 : decide (smp l i j < 2139095040) = true := decide_eq_true h1
                  go_wp2
                  go_roundw
                  case rel => exact ⟨j + 1, true, by omega, by go_num, rfl, ⟨fun _ => (HQS.out rfl).next fun _ => ⟨h0, h1⟩⟩, by first | exact ⟨HV.out.drewN _⟩ | exact HV⟩
                  case measure => simp [intOf]; omega
                · have b5 : decide (smp l i j < 2139095040) = false := decide_eq_false h1
                  go_wp2
                  go_roundw
                  case rel => exact ⟨j + 1, false, by omega, by go_num, rfl, ⟨fun h => by cases h⟩, by first | exact ⟨HV.out.drewN _⟩ | exact HV⟩
                  case measure => simp [intOf]; omega
              · have b4 : decide (0 < smp l i j) = false := decide_eq_false h0
                go_wp2
                go_roundw
                case rel => exact ⟨j + 1, false, by omega, by go_num, rfl, ⟨fun h => by cases h⟩, by first | exact ⟨HV.out.drewN _⟩ | exact HV⟩
                case measure => simp [intOf]; omega
        · obtain rfl : j = (rd_T37 l i).f2.length := by omega
          clear hw0 hw1 hl2 hc2
          go_wp2
          go_roundw
          case rel => exact ⟨i + 1, qs, by omega, by rw [HTO.out], rfl, by go_num, ⟨fun h => (HQS.out h).row⟩, by first | exact ⟨HV.out.drewN _⟩ | exact HV⟩
          case measure => simp [intOf]; omega
    · obtain rfl : i = l.length := by omega
      obtain ⟨ha0, hb0, hcc0, hd0, hy0, hyx, hsum⟩ := HCI.out
      have htot := classes.tot_le l 2000 HS.out l.length (Nat.le_refl _)
      have htt : (classes.tot l l.length : Int) ≤ 8000 := by omega
      have hne : (a + b + c + d + x != (classes.tot l l.length : Int)) = false := by rw [hsum]; simp
      have ha1 : a ≤ 8000 := by omega
      have hb1 : b ≤ 8000 := by omega
      have hcc1 : c ≤ 8000 := by omega
      have hd1 : d ≤ 8000 := by omega
      have hx0 : 0 ≤ x := by omega
      have hx1 : x ≤ 8000 := by omega
      have hgt : decide (x < y) = false := decide_eq_false (by omega)
      have hlt0 : decide (y < 0) = false := decide_eq_false (by omega)
      obtain ⟨k0, k1, k2, k3, k4, k5⟩ := HW.out.cls
      replace k0 : wr.cell? ad = some (.int .i64 a) := k0
      replace k1 : wr.cell? ⟨ad.block, ad.off + 1, none⟩ = some (.int .i64 b) := k1
      replace k2 : wr.cell? ⟨ad.block, ad.off + 2, none⟩ = some (.int .i64 c) := k2
      replace k3 : wr.cell? ⟨ad.block, ad.off + 3, none⟩ = some (.int .i64 d) := k3
      replace k4 : wr.cell? ⟨ad.block, ad.off + 4, none⟩ = some (.int .i64 x) := k4
      replace k5 : wr.cell? ⟨ad.block, ad.off + 5, none⟩ = some (.int .i64 y) := k5
      have HSUM := Aside0.mk hsum
      have HTOT := Aside0.mk htot
      clear hsum htot htt hyx
      have hc0 : wr.cell? ⟨w.heap.size, 0, none⟩ = some (.int .i64 sp) := (blk_cell HW.out.box 0).trans rfl
      by_cases hsp : sp = 1
      · subst hsp
        go_wp2_with (go_quiet (fail))
        refine (trip_14 _ HF.out A cap (Kd.C_below HX.out (HW.out.drewN nq).below) hcap).mono ?_
        rintro e w7 ⟨he, hb⟩
        replace he : e = .returned (.tuple #[.agg #[.int .i64 0, .int .i64 0, .int .i64 0, .int .i64 0, .int .i64 0, .int .i64 0], .int .i64 0]) := he
        subst he
        have HB7 := Aside0.mk (below_alloc (below_step (HW.out.drewN nq).below hb) (.cells #[.int .i64 0, .int .i64 0, .int .i64 0, .int .i64 0, .int .i64 0, .int .i64 0] 28 (0, 0)))
        have BK7 := Aside0.mk (blk_alloc (blk_below (HW.out.drewN nq).box hb) (.cells #[.int .i64 0, .int .i64 0, .int .i64 0, .int .i64 0, .int .i64 0, .int .i64 0] 28 (0, 0)))
        have BZ7 := Aside0.mk (blk_new w7 (.cells #[.int .i64 0, .int .i64 0, .int .i64 0, .int .i64 0, .int .i64 0, .int .i64 0] 28 (0, 0)))
        clear hb hc0 hc1 k0 k1 k2 k3 k4 k5 HW
        have hc0 : (w7.alloc (.cells #[.int .i64 0, .int .i64 0, .int .i64 0, .int .i64 0, .int .i64 0, .int .i64 0] 28 (0, 0))).cell? ⟨w.heap.size, 0, none⟩ = some (.int .i64 1) := (blk_cell BK7.out 0).trans rfl
        have hc1 : (w7.alloc (.cells #[.int .i64 0, .int .i64 0, .int .i64 0, .int .i64 0, .int .i64 0, .int .i64 0] 28 (0, 0))).cell? ⟨w.heap.size, 1, none⟩ = some (.slice A l.length cap) := (blk_cell BK7.out 1).trans rfl
        go_wp2_with fail
        generalize w7.heap.size = g7 at BZ7 ⊢
        generalize w7.alloc (.cells #[.int .i64 0, .int .i64 0, .int .i64 0, .int .i64 0, .int .i64 0, .int .i64 0] 28 (0, 0)) = w8 at HB7 BK7 BZ7 hc0 hc1 ⊢
        refine (trip_13 w8 HF.out A cap (Kd.C_below HX.out HB7.out) hcap).mono ?_
        rintro e w9 ⟨t, he, htm, hb⟩
        replace he : e = .returned (.tuple #[.agg #[.int .i64 t.u, .int .i64 t.m, .int .i64 t.p, .int .i64 t.x, .int .i64 t.y, .int .i64 t.s], .int .i64 0]) := he
        subst he
        have HTM := Aside0.mk htm
        have HB9 := Aside0.mk (below_alloc (below_step HB7.out hb) (.cells #[.int .i64 t.u, .int .i64 t.m, .int .i64 t.p, .int .i64 t.x, .int .i64 t.y, .int .i64 t.s] 28 (0, 0)))
        have BZ9 := Aside0.mk (blk_alloc (blk_below BZ7.out hb) (.cells #[.int .i64 t.u, .int .i64 t.m, .int .i64 t.p, .int .i64 t.x, .int .i64 t.y, .int .i64 t.s] 28 (0, 0)))
        have BT9 := Aside0.mk (blk_new w9 (.cells #[.int .i64 t.u, .int .i64 t.m, .int .i64 t.p, .int .i64 t.x, .int .i64 t.y, .int .i64 t.s] 28 (0, 0)))
        clear hb htm hc0 hc1 HB7 BK7 BZ7
        have hz0 : (w9.alloc (.cells #[.int .i64 t.u, .int .i64 t.m, .int .i64 t.p, .int .i64 t.x, .int .i64 t.y, .int .i64 t.s] 28 (0, 0))).cell? ⟨g7, 0, none⟩ = some (.int .i64 0) := (blk_cell BZ9.out 0).trans rfl
        have hz1 : (w9.alloc (.cells #[.int .i64 t.u, .int .i64 t.m, .int .i64 t.p, .int .i64 t.x, .int .i64 t.y, .int .i64 t.s] 28 (0, 0))).cell? ⟨g7, 1, none⟩ = some (.int .i64 0) := (blk_cell BZ9.out 1).trans rfl
        have hz2 : (w9.alloc (.cells #[.int .i64 t.u, .int .i64 t.m, .int .i64 t.p, .int .i64 t.x, .int .i64 t.y, .int .i64 t.s] 28 (0, 0))).cell? ⟨g7, 2, none⟩ = some (.int .i64 0) := (blk_cell BZ9.out 2).trans rfl
        have hz3 : (w9.alloc (.cells #[.int .i64 t.u, .int .i64 t.m, .int .i64 t.p, .int .i64 t.x, .int .i64 t.y, .int .i64 t.s] 28 (0, 0))).cell? ⟨g7, 3, none⟩ = some (.int .i64 0) := (blk_cell BZ9.out 3).trans rfl
        have hz4 : (w9.alloc (.cells #[.int .i64 t.u, .int .i64 t.m, .int .i64 t.p, .int .i64 t.x, .int .i64 t.y, .int .i64 t.s] 28 (0, 0))).cell? ⟨g7, 4, none⟩ = some (.int .i64 0) := (blk_cell BZ9.out 4).trans rfl
        have hz5 : (w9.alloc (.cells #[.int .i64 t.u, .int .i64 t.m, .int .i64 t.p, .int .i64 t.x, .int .i64 t.y, .int .i64 t.s] 28 (0, 0))).cell? ⟨g7, 5, none⟩ = some (.int .i64 0) := (blk_cell BZ9.out 5).trans rfl
        have ht1 : (w9.alloc (.cells #[.int .i64 t.u, .int .i64 t.m, .int .i64 t.p, .int .i64 t.x, .int .i64 t.y, .int .i64 t.s] 28 (0, 0))).cell? ⟨w9.heap.size, 1, none⟩ = some (.int .i64 t.m) := (blk_cell BT9.out 1).trans rfl
        cases ps with
        | false =>
          go_wp2
          go_ret
          exact ⟨rfl, HB9.out⟩
        | true =>
          have bm : decide (t.m ≤ 32) = true := decide_eq_true (HTM.out fun k j hk h3 hj => HPS.out rfl k j (.inl ⟨hk, hj⟩) h3)
          go_wp2
          go_ret
          exact ⟨rfl, HB9.out⟩
      · have bsp : (sp != 1) = true := by simpa using hsp
        clear hsp
        go_wp2_with (go_quiet (fail))
        go_ret
        exact ⟨rfl, by first | exact (HW.out.drewN _).below | exact HW.out.below⟩
end Go.Proofs.YtimghiiihjphiaaGreat.trips
