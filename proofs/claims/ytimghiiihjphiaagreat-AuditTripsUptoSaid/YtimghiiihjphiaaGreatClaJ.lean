/- A part of the proof: the bits of a picture's planes. Condition: the check of the picture is known, the rests too. -/
import Derived.Test.YtimghiiihjphiaaGreatClaF
import Derived.Test.YtimghiiihjphiaaGreatPTrix
namespace Go.Proofs.YtimghiiihjphiaaGreat.classes
open Go.RowKit Go.Proofs.YtimghiiihjphiaaGreatW.PrintWords Go.Proofs.YtimghiiihjphiaaGreat.PTri
set_option linter.unusedVariables false
set_option linter.unusedSimpArgs false

/-- the bits of the first so many -/
def bitsOf (rs : Nat → List Int) (n : Nat) : List Int := (List.range n).map fun j => (stS (rs j) (rs j).length).2.2
theorem bitsOf_length (rs : Nat → List Int) (n : Nat) : (bitsOf rs n).length = n := by simp [bitsOf]
theorem bitsOf_succ (rs : Nat → List Int) (n : Nat) : bitsOf rs (n + 1) = bitsOf rs n ++ [(stS (rs n) (rs n).length).2.2] := by simp [bitsOf, List.range_succ]

theorem info3 : (Tryz.prog.info? 3).map (fun i => (i.zero, i.size, i.bytes)) = some (some (.int .i64 0), 1, 8) := by kernel_rfl
theorem bits_bad (w : World) (sp : Int) (A : Option Addr) (cap : Nat) (l : List S37) (er : Int) (hr : Kd.C k37 w A l.length l) (hcap : l.length ≤ cap) (k : Nat) (hck : picture_Check.f k sp l = some er) (he : er ≠ 0) :
    Calls Tryz.prog 8 #[.agg #[.int .i64 sp, .slice A l.length cap]] w fun e w' => e = .returned (.tuple #[.slice none 0 0, .int .i64 er]) ∧ Below w.heap.size w w' := by
  have b0 : (er != 0) = true := by simpa using he
  have HC := Aside0.mk (picture_Check.calls k sp A cap l er _ (Kd.C_alloc hr (.cells #[.int .i64 sp, .slice A l.length cap] 24 (0, 0))) hcap hck)
  clear hr he
  go_enter Tryz.func8, Tryz.ntmps8
  go_wp2_with fail
  refine HC.out.mono ?_
  rintro e w1 ⟨rfl, hb⟩
  have HB := Aside0.mk (below_step (below_alloc (Below.refl w.heap.size w) (.cells #[.int .i64 sp, .slice A l.length cap] 24 (0, 0))) hb)
  clear hb HC
  go_wp2
  go_ret2
  exact ⟨rfl, HB.out⟩

set_option maxHeartbeats 4000000 in
set_option maxRecDepth 100000 in
theorem bits_good (w : World) (sp : Int) (A : Option Addr) (cap : Nat) (l : List S37) (rs : Nat → List Int) (hr : Kd.C k37 w A l.length l) (hcap : l.length ≤ cap) (k : Nat) (hck : picture_Check.f k sp l = some 0) (hn : l.length ≤ 1000)
    (hrs : ∀ j : Nat, j < l.length → codec_Rests.f k (rd_T37 l j).f0 (rd_T37 l j).f1 (rd_T37 l j).f2 = some (rs j, 0) ∧ (rs j).length ≤ 2000) :
    Calls Tryz.prog 8 #[.agg #[.int .i64 sp, .slice A l.length cap]] w fun e w' => ∃ v, e = .returned (.tuple #[v, .int .i64 0]) ∧ Kd.R (Kd.int .i64) 3 w' w.heap.size (fun _ => True) v (bitsOf rs l.length) ∧ Below w.heap.size w w' := by
  have HC := Aside0.mk (picture_Check.calls k sp A cap l 0 _ (Kd.C_alloc hr (.cells #[.int .i64 sp, .slice A l.length cap] 24 (0, 0))) hcap hck)
  have HX := Aside0.mk hr
  have HS := Aside0.mk hrs
  clear hr hck hrs
  go_enter Tryz.func8, Tryz.ntmps8
  go_wp2_with fail
  refine HC.out.mono ?_
  rintro e w1 ⟨rfl, hb⟩
  have BK1 := Aside0.mk (blk_below (blk_new w (.cells #[.int .i64 sp, .slice A l.length cap] 24 (0, 0))) hb)
  have HB1 := Aside0.mk (below_step (below_alloc (Below.refl w.heap.size w) (.cells #[.int .i64 sp, .slice A l.length cap] 24 (0, 0))) hb)
  have hcz : w1.cell? ⟨w.heap.size, 1, none⟩ = some (.slice A l.length cap) := (blk_cell BK1.out 1).trans rfl
  clear hb HC
  go_wp2
  go_loopw [5, 20] (fun v5 v20 wr => ∃ k : Nat, k ≤ l.length ∧ v20 = .int .i64 k ∧ Aside0 (Kd.R (Kd.int .i64) 3 wr w.heap.size (fun _ => True) v5 (bitsOf rs k)) ∧ Aside0 (Below w.heap.size w wr)) (fun _ v20 _ => l.length - (intOf v20).toNat)
  case atStart => exact ⟨0, Nat.zero_le _, rfl, ⟨Kd.R_nil _ _ _ _ _⟩, HB1⟩
  case round =>
    clear BK1 hcz HB1
    obtain ⟨i, hi, rfl, HO, HB⟩ := hrel
    by_cases hlt : i < l.length
    · have b1 : decide ((i : Int) < (l.length : Int)) = true := decide_eq_true (by omega)
      obtain ⟨ad, A2, c2, rfl, hw0, hw1, hw2, hl2, hc2⟩ := at_T37 HX.out i (by omega) (by omega)
      simp only [Int.toNat_natCast] at hw0 hw1 hw2
      replace hw0 := (HB.out.cell (World.block_lt_of_cell? w _ hw0)).trans hw0
      replace hw1 := (HB.out.cell (World.block_lt_of_cell? w _ hw1)).trans hw1
      replace hw2 := (HB.out.cell (World.block_lt_of_cell? w _ hw2)).trans hw2
      have p1 : (0 : Int) ≤ i := by omega
      have p2 : (i : Int) < (l.length : Int) := by omega
      have HQ := Aside0.mk (codec_Rests.calls k _ _ A2 c2 _ _ _ (wr.alloc (.cells #[.int .i64 (rd_T37 l i).f0, .int .i64 (rd_T37 l i).f1, .slice A2 (rd_T37 l i).f2.length c2] 37 (0, 0))) (Kd.C_alloc (Kd.C_below hc2 HB.out) _) hl2 (HS.out i hlt).1)
      have hrl := (HS.out i hlt).2
      clear hl2 hc2
      go_wp2_with fail
      refine HQ.out.mono ?_
      rintro e w2 ⟨v0, rfl, ho, hb⟩
      have hb2 := below_step (below_alloc (Below.refl wr.heap.size wr) (.cells #[.int .i64 (rd_T37 l i).f0, .int .i64 (rd_T37 l i).f1, .slice A2 (rd_T37 l i).f2.length c2] 37 (0, 0))) hb
      obtain ⟨Ar, cr, rfl, hcr, hCr⟩ := Kd.R_reads ho
      have HO2 := Aside0.mk (Kd.R_below HO.out hb2)
      have HB2 := Aside0.mk (below_step HB.out hb2)
      have HP := Aside0.mk (cost_any w2 Ar cr (rs i) hCr hrl)
      clear ho hb hb2 HO HB HQ hCr hw0 hw1 hw2
      go_wp2_with fail
      refine HP.out.mono ?_
      rintro e w3 ⟨rfl, hb⟩
      have HO3 := Aside0.mk (Kd.R_below HO2.out hb)
      have HB3 := Aside0.mk (below_step HB2.out hb)
      clear hb HP HO2 HB2
      go_wp2_with ((with_reducible refine gate_builtin (b := .append) (xs := #[.tmp 34, .tmp 36]) rfl ?_); at_builtin; refine Kd.R_append (Kd.int .i64) (w0 := w) w.heap.size rfl (.tmp 34) (.tmp 36) 32 3 (.int .i64 0) 8 rfl Tryz.underlying32 info3 rfl (by decide) (by omega) u5 (bitsOf rs i) (stS (rs i) (rs i).length).2.2 [.int .i64 (stS (rs i) (rs i).length).2.2] (fun _ => True) (fun _ => False) rfl rfl rfl (fun _ hk => hk.elim) (fun _ _ => trivial) HO3.out HB3.out HB3.out.size (by rw [bitsOf_length]; omega) ?_; intro v1 w4 ho hb hg hat; have HO4 := Aside0.mk ho; have HB4 := Aside0.mk hb; clear ho hb hg hat HO3 HB3)
      go_roundw
      case rel => exact ⟨i + 1, by omega, by go_num, ⟨by rw [bitsOf_succ]; exact HO4.out⟩, HB4⟩
      case measure => simp [intOf]; omega
    · obtain rfl : i = l.length := by omega
      go_wp2
      go_ret2
      exact ⟨_, rfl, HO.out, HB.out⟩
end Go.Proofs.YtimghiiihjphiaaGreat.classes
