/- A part of the proof: the law's own walk. Condition: what the two sides answer is known, and it is the same. -/
import Derived.Test.YtconnknbmhbmoaaGreatClaI
import Derived.Test.YtconnknbmhbmoaaGreatAuditRun
namespace Go.Proofs.YtconnknbmhbmoaaGreat.classes
open Go.RowKit Go.Proofs.YtconnknbmhbmoaaGreatW.PrintWords Go.Proofs.YtconnknbmhbmoaaGreat.PCla
set_option linter.unusedVariables false
set_option linter.unusedSimpArgs false

theorem known_b (w : World) : Calls Tryz.prog 5 #[] w fun e w' => e = .returned (.bool true) ∧ Below w.heap.size w w' := by
  refine Calls.mono (Go.Ab.closed_true auditRun.mixed auditRun.primsOK (Go.Ab.okR_yes auditRun.ran) Tryz.func5 (by kernel_rfl) (by kernel_rfl) w) ?_
  rintro e w' ⟨he, h1, h2, h3, h4, h5, h6⟩
  exact ⟨he, ⟨h3, h4, h5, h2, h1⟩⟩

theorem law_dark (w : World) (sp : Int) (A : Option Addr) (cap : Nat) (l : List S58) (hr : Kd.C k58 w A l.length l) (hcap : l.length ≤ cap) (k : Nat) (hl : halidelaw27_light.f k sp l = some false) :
    Calls Tryz.prog 3 #[.agg #[.int .i64 sp, .slice A l.length cap]] w fun e w' => e = .returned (.bool true) ∧ Below w.heap.size w w' := by
  have HX := Aside0.mk hr
  clear hr
  go_enter Tryz.func3, Tryz.ntmps3
  go_wp2_with fail
  refine (known_b _).mono ?_
  rintro e w1 ⟨rfl, hb⟩
  have BK1 := Aside0.mk (blk_below (blk_new w (.cells #[.int .i64 sp, .slice A l.length cap] 24 (0, 0))) hb)
  have HB1 := Aside0.mk (below_step (below_alloc (Below.refl w.heap.size w) (.cells #[.int .i64 sp, .slice A l.length cap] 24 (0, 0))) hb)
  clear hb
  have hc0 : w1.cell? ⟨w.heap.size, 0, none⟩ = some (.int .i64 sp) := (blk_cell BK1.out 0).trans rfl
  have hc1 : w1.cell? ⟨w.heap.size, 1, none⟩ = some (.slice A l.length cap) := (blk_cell BK1.out 1).trans rfl
  go_wp2_with fail
  refine (halidelaw27_light.calls k sp A cap l false _ (Kd.C_below HX.out HB1.out) hcap hl).mono ?_
  rintro e w2 ⟨rfl, hb⟩
  have HB2 := Aside0.mk (below_step HB1.out hb)
  clear hb
  go_wp2
  go_ret
  exact ⟨rfl, HB2.out⟩

set_option maxHeartbeats 4000000 in
set_option maxRecDepth 100000 in
theorem law_light (w : World) (sp : Int) (A : Option Addr) (cap : Nat) (l : List S58) (hr : Kd.C k58 w A l.length l) (hcap : l.length ≤ cap) (hn : l.length ≤ 2000000) (hs : ∀ j : Nat, j < l.length → (rd_T58 l j).f2.length ≤ 2000000) (k : Nat) (hl : halidelaw27_light.f k sp l = some true)
    (cl bl : List Int) (er : Int)
    (h8 : ∀ (w : World) (A : Option Addr) (c : Nat), Kd.C k58 w A l.length l → l.length ≤ c → Calls Tryz.prog 8 #[.agg #[.int .i64 sp, .slice A l.length c]] w fun e w' => ∃ A' c', e = .returned (.tuple #[.slice A' cl.length c', .int .i64 er]) ∧ cl.length ≤ c' ∧ Kd.C (Kd.int .i64) w' A' cl.length cl ∧ Below w.heap.size w w')
    (h10 : ∀ (w : World) (A : Option Addr) (c : Nat), Kd.C k58 w A l.length l → l.length ≤ c → Calls Tryz.prog 10 #[.agg #[.int .i64 sp, .slice A l.length c]] w fun e w' => ∃ A' c', e = .returned (.tuple #[.slice A' bl.length c', .int .i64 er]) ∧ bl.length ≤ c' ∧ Kd.C (Kd.int .i64) w' A' bl.length bl ∧ Below w.heap.size w w')
    (h9 : halideref27_Classes.f k sp l = some (cl, er)) (h11 : halideref27_Bits.f k sp l = some (bl, er))
    (i1 : halidehelp_Ints.f k cl cl = some true) (i2 : halidehelp_Ints.f k bl bl = some true) (hp : halidehelp_Picture.f k sp l sp l = some true) :
    Calls Tryz.prog 3 #[.agg #[.int .i64 sp, .slice A l.length cap]] w fun e w' => e = .returned (.bool true) ∧ Below w.heap.size w w' := by
  have HX := Aside0.mk hr
  have HS := Aside0.mk hs
  have H8 := Aside0.mk h8
  have H10 := Aside0.mk h10
  have H9 := Aside0.mk h9
  have H11 := Aside0.mk h11
  have I1 := Aside0.mk i1
  have I2 := Aside0.mk i2
  have HP := Aside0.mk hp
  have HL := Aside0.mk hl
  clear hr hs h8 h10 h9 h11 i1 i2 hp hl
  go_enter Tryz.func3, Tryz.ntmps3
  go_wp2_with fail
  refine (known_b _).mono ?_
  rintro e w1 ⟨rfl, hb⟩
  have BK1 := Aside0.mk (blk_below (blk_new w (.cells #[.int .i64 sp, .slice A l.length cap] 24 (0, 0))) hb)
  have HB1 := Aside0.mk (below_step (below_alloc (Below.refl w.heap.size w) (.cells #[.int .i64 sp, .slice A l.length cap] 24 (0, 0))) hb)
  clear hb
  have hc0 : w1.cell? ⟨w.heap.size, 0, none⟩ = some (.int .i64 sp) := (blk_cell BK1.out 0).trans rfl
  have hc1 : w1.cell? ⟨w.heap.size, 1, none⟩ = some (.slice A l.length cap) := (blk_cell BK1.out 1).trans rfl
  go_wp2_with fail
  refine (halidelaw27_light.calls k sp A cap l true _ (Kd.C_below HX.out HB1.out) hcap HL.out).mono ?_
  rintro e w2 ⟨rfl, hb⟩
  have BK2 := Aside0.mk (blk_below BK1.out hb)
  have HB2 := Aside0.mk (below_step HB1.out hb)
  clear hb hc0 hc1 BK1 HB1 HL
  have hc0 : w2.cell? ⟨w.heap.size, 0, none⟩ = some (.int .i64 sp) := (blk_cell BK2.out 0).trans rfl
  have hc1 : w2.cell? ⟨w.heap.size, 1, none⟩ = some (.slice A l.length cap) := (blk_cell BK2.out 1).trans rfl
  go_wp2_with fail
  refine (copyP_any w2 sp A cap l (Kd.C_below HX.out HB2.out) hn HS.out).mono ?_
  rintro e w3 ⟨A', c', rfl, ho, hb⟩
  obtain ⟨_, hc', hC'⟩ := Kd.R_reads' ho
  have BK3 := Aside0.mk (blk_alloc (blk_below BK2.out hb) (.cells #[.int .i64 sp, .slice A' l.length c'] 24 (0, 0)))
  have BC3 := Aside0.mk (blk_new w3 (.cells #[.int .i64 sp, .slice A' l.length c'] 24 (0, 0)))
  have HB3 := Aside0.mk (below_alloc (below_step HB2.out hb) (.cells #[.int .i64 sp, .slice A' l.length c'] 24 (0, 0)))
  have HC3 := Aside0.mk (Kd.C_alloc hC' (.cells #[.int .i64 sp, .slice A' l.length c'] 24 (0, 0)))
  clear hb hc0 hc1 ho hC' BK2 HB2 HS
  go_wp2_with fail
  generalize w3.heap.size = g at BC3 ⊢
  generalize w3.alloc (.cells #[.int .i64 sp, .slice A' l.length c'] 24 (0, 0)) = w4 at BK3 BC3 HB3 HC3 ⊢
  refine (H8.out w4 A' c' HC3.out hc').mono ?_
  rintro e w5 ⟨A1, c1, rfl, hl1, hC1, hb⟩
  have BK5 := Aside0.mk (blk_below BK3.out hb)
  have BC5 := Aside0.mk (blk_below BC3.out hb)
  have HB5 := Aside0.mk (below_step HB3.out hb)
  have HC5 := Aside0.mk (Kd.C_below HC3.out hb)
  have Q1 := Aside0.mk hC1
  clear hb hC1 BK3 BC3 HB3 HC3 H8
  have hc0 : w5.cell? ⟨w.heap.size, 0, none⟩ = some (.int .i64 sp) := (blk_cell BK5.out 0).trans rfl
  have hc1 : w5.cell? ⟨w.heap.size, 1, none⟩ = some (.slice A l.length cap) := (blk_cell BK5.out 1).trans rfl
  go_wp2_with fail
  refine (halideref27_Classes.calls k sp A cap l cl er w5 (Kd.C_below HX.out HB5.out) hcap H9.out).mono ?_
  rintro e w6 ⟨v2, rfl, ho, hb⟩
  obtain ⟨A2, c2, rfl, hl2, hC2⟩ := Kd.R_reads ho
  have BK6 := Aside0.mk (blk_below BK5.out hb)
  have BC6 := Aside0.mk (blk_below BC5.out hb)
  have HB6 := Aside0.mk (below_step HB5.out hb)
  have HC6 := Aside0.mk (Kd.C_below HC5.out hb)
  have Q1b := Aside0.mk (Kd.C_below Q1.out hb)
  have Q2 := Aside0.mk hC2
  clear hb hC2 ho BK5 BC5 HB5 HC5 Q1 hc0 hc1 H9
  have hc0 : w6.cell? ⟨g, 0, none⟩ = some (.int .i64 sp) := (blk_cell BC6.out 0).trans rfl
  have hc1 : w6.cell? ⟨g, 1, none⟩ = some (.slice A' l.length c') := (blk_cell BC6.out 1).trans rfl
  go_wp2_with fail
  refine (H10.out w6 A' c' HC6.out hc').mono ?_
  rintro e w7 ⟨A3, c3, rfl, hl3, hC3, hb⟩
  have BK7 := Aside0.mk (blk_below BK6.out hb)
  have BC7 := Aside0.mk (blk_below BC6.out hb)
  have HB7 := Aside0.mk (below_step HB6.out hb)
  have HC7 := Aside0.mk (Kd.C_below HC6.out hb)
  have Q1c := Aside0.mk (Kd.C_below Q1b.out hb)
  have Q2c := Aside0.mk (Kd.C_below Q2.out hb)
  have Q3 := Aside0.mk hC3
  clear hb hC3 BK6 BC6 HB6 HC6 Q1b Q2 hc0 hc1 H10
  have hc0 : w7.cell? ⟨w.heap.size, 0, none⟩ = some (.int .i64 sp) := (blk_cell BK7.out 0).trans rfl
  have hc1 : w7.cell? ⟨w.heap.size, 1, none⟩ = some (.slice A l.length cap) := (blk_cell BK7.out 1).trans rfl
  go_wp2_with fail
  refine (halideref27_Bits.calls k sp A cap l bl er w7 (Kd.C_below HX.out HB7.out) hcap H11.out).mono ?_
  rintro e w8 ⟨v4, rfl, ho, hb⟩
  obtain ⟨A4, c4, rfl, hl4, hC4⟩ := Kd.R_reads ho
  have BK8 := Aside0.mk (blk_below BK7.out hb)
  have BC8 := Aside0.mk (blk_below BC7.out hb)
  have HB8 := Aside0.mk (below_step HB7.out hb)
  have HC8 := Aside0.mk (Kd.C_below HC7.out hb)
  have Q1d := Aside0.mk (Kd.C_below Q1c.out hb)
  have Q2d := Aside0.mk (Kd.C_below Q2c.out hb)
  have Q3d := Aside0.mk (Kd.C_below Q3.out hb)
  have Q4d := Aside0.mk hC4
  clear hb hC4 ho BK7 BC7 HB7 HC7 Q1c Q2c Q3 hc0 hc1 H11
  go_wp2_with fail
  refine (halidehelp_Ints.calls k A1 c1 cl A2 c2 cl true w8 Q1d.out hl1 Q2d.out hl2 I1.out).mono ?_
  rintro e w9 ⟨rfl, n1, rfl⟩
  have BK9 := Aside0.mk (blk_drewN BK8.out n1)
  have BC9 := Aside0.mk (blk_drewN BC8.out n1)
  have HB9 := Aside0.mk (pw_below_drewN HB8.out n1)
  have HC9 := Aside0.mk (Kd.C_drewN HC8.out n1)
  have Q3e := Aside0.mk (Kd.C_drewN Q3d.out n1)
  have Q4e := Aside0.mk (Kd.C_drewN Q4d.out n1)
  clear BK8 BC8 HB8 HC8 Q1d Q2d Q3d Q4d I1
  generalize w8.drewN n1 = w9 at *
  go_wp2_with fail
  refine (halidehelp_Ints.calls k A3 c3 bl A4 c4 bl true w9 Q3e.out hl3 Q4e.out hl4 I2.out).mono ?_
  rintro e w10 ⟨rfl, n2, rfl⟩
  have BK10 := Aside0.mk (blk_drewN BK9.out n2)
  have BC10 := Aside0.mk (blk_drewN BC9.out n2)
  have HB10 := Aside0.mk (pw_below_drewN HB9.out n2)
  have HC10 := Aside0.mk (Kd.C_drewN HC9.out n2)
  clear BK9 BC9 HB9 HC9 Q3e Q4e I2
  generalize w9.drewN n2 = w10 at *
  have hc0 : w10.cell? ⟨w.heap.size, 0, none⟩ = some (.int .i64 sp) := (blk_cell BK10.out 0).trans rfl
  have hc1 : w10.cell? ⟨w.heap.size, 1, none⟩ = some (.slice A l.length cap) := (blk_cell BK10.out 1).trans rfl
  have hc2 : w10.cell? ⟨g, 0, none⟩ = some (.int .i64 sp) := (blk_cell BC10.out 0).trans rfl
  have hc3 : w10.cell? ⟨g, 1, none⟩ = some (.slice A' l.length c') := (blk_cell BC10.out 1).trans rfl
  go_wp2_with fail
  refine (halidehelp_Picture.calls k sp A' c' l sp A cap l true w10 HC10.out hc' (Kd.C_below HX.out HB10.out) hcap HP.out).mono ?_
  rintro e w11 ⟨rfl, hb⟩
  have HB11 := Aside0.mk (below_step HB10.out hb)
  clear hb
  go_wp2
  go_ret
  exact ⟨rfl, HB11.out⟩
end Go.Proofs.YtconnknbmhbmoaaGreat.classes
