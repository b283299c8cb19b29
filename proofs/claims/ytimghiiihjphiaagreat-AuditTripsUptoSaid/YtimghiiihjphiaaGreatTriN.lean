/- A part of the proof: there and back, measured, by the program's own text. Condition: what the two conversions do is known. -/
import Derived.Test.YtimghiiihjphiaaGreatTriM
import Derived.Test.YtimghiiihjphiaaGreatTriK
namespace Go.Proofs.YtimghiiihjphiaaGreat.trips
open Go.RowKit Go.Proofs.YtimghiiihjphiaaGreatW.PrintWords Go.Proofs.YtimghiiihjphiaaGreat.PTri Go.Proofs.YtimghiiihjphiaaGreat.sides
set_option linter.unusedVariables false
set_option linter.unusedSimpArgs false

def ConvP (p q : Int) (l : List S37) (K : List S37 → Prop) : Prop := ∀ (w : World) (A : Option Addr) (cap : Nat), Kd.C k37 w A l.length l → l.length ≤ cap →
  Calls Tryz.prog 17 #[.agg #[.int .i64 p, .slice A l.length cap], .int .i64 q] w fun e w' => ∃ A' c' L, e = .returned (.tuple #[.agg #[.int .i64 q, .slice A' L.length c'], .int .i64 0]) ∧ L.length ≤ c' ∧ Kd.C k37 w' A' L.length L ∧ K L ∧ Below w.heap.size w w'

set_option maxHeartbeats 4000000 in
set_option maxRecDepth 100000 in
theorem trip_any (w : World) (p q : Int) (A : Option Addr) (cap : Nat) (l : List S37) (K1 K2 : List S37 → Prop) (hr : Kd.C k37 w A l.length l) (hcap : l.length ≤ cap) (hck : picture_Check.f 20 p l = some 0) (up : UL l)
    (h1 : ConvP p q l K1) (h2 : ∀ L, K1 L → ConvP q p L K2) (h3 : ∀ L, K2 L → UL L) :
    Calls Tryz.prog 6 #[.agg #[.int .i64 p, .slice A l.length cap], .int .i64 q] w fun e w' => ∃ L, K2 L ∧ e = told (apartR p l p L).1 (apartR p l p L).2 ∧ Below w.heap.size w w' := by
  have HX := Aside0.mk hr
  have HK := Aside0.mk hck
  have H1 := Aside0.mk h1
  have H2 := Aside0.mk h2
  have H3 := Aside0.mk h3
  have HU := Aside0.mk up
  clear hr hck h1 h2 h3 up
  have HB0 := Aside0.mk (below_alloc (below_alloc (Below.refl w.heap.size w) (.cells #[.int .i64 p, .slice A l.length cap] 24 (0, 0))) (.cells zeroM.vals 28 (0, 0)))
  have BP := Aside0.mk (blk_alloc (blk_new w (.cells #[.int .i64 p, .slice A l.length cap] 24 (0, 0))) (.cells zeroM.vals 28 (0, 0)))
  have BR := Aside0.mk (heap_alloc2_new w (.cells #[.int .i64 p, .slice A l.length cap] 24 (0, 0)) (.cells zeroM.vals 28 (0, 0)))
  go_enter Tryz.func6, Tryz.ntmps6
  go_wp2_with fail
  generalize HW0 : (w.alloc (.cells #[.int .i64 p, .slice A l.length cap] 24 (0, 0))).alloc (.cells zeroM.vals 28 (0, 0)) = W0 at HB0 BP BR
  replace HW0 : (w.alloc (.cells #[.int .i64 p, .slice A l.length cap] 24 (0, 0))).alloc (.cells #[.int .i64 0, .int .i64 0, .int .i64 0, .int .i64 0, .int .i64 0, .int .i64 0] 28 (0, 0)) = W0 := HW0
  rw [HW0]
  clear HW0
  refine (picture_Check.calls 20 p A cap l 0 W0 (Kd.C_below HX.out HB0.out) hcap HK.out).mono ?_
  rintro e w1 ⟨rfl, hb⟩
  have HB1 := Aside0.mk (below_step HB0.out hb)
  have BP1 := Aside0.mk (blk_below BP.out hb)
  have BR1 := Aside0.mk (blk_below BR.out hb)
  clear hb HB0 BP BR
  have c0 : w1.cell? ⟨w.heap.size, 0, none⟩ = some (.int .i64 p) := (blk_cell BP1.out 0).trans rfl
  have c1 : w1.cell? ⟨w.heap.size, 1, none⟩ = some (.slice A l.length cap) := (blk_cell BP1.out 1).trans rfl
  go_wp2_with fail
  refine (H1.out w1 A cap (Kd.C_below HX.out HB1.out) hcap).mono ?_
  rintro e w2 ⟨A1, k1, L1, rfl, hle, hC, hK, hb⟩
  have HB2 := Aside0.mk (below_step HB1.out hb)
  have BP2 := Aside0.mk (blk_below BP1.out hb)
  have BR2 := Aside0.mk (blk_below BR1.out hb)
  have HC2 := Aside0.mk hC
  have HK1 := Aside0.mk hK
  have HL1 := Aside0.mk hle
  clear hb HB1 BP1 BR1 hC hK hle c0 c1
  have c0 : (w2.alloc (.cells #[.int .i64 q, .slice A1 L1.length k1] 24 (0, 0))).cell? ⟨w.heap.size, 0, none⟩ = some (.int .i64 p) := (blk_cell (blk_alloc BP2.out (.cells #[.int .i64 q, .slice A1 L1.length k1] 24 (0, 0))) 0).trans rfl
  have HB3 := Aside0.mk (below_alloc HB2.out (.cells #[.int .i64 q, .slice A1 L1.length k1] 24 (0, 0)))
  have BP3 := Aside0.mk (blk_alloc BP2.out (.cells #[.int .i64 q, .slice A1 L1.length k1] 24 (0, 0)))
  have BR3 := Aside0.mk (blk_alloc BR2.out (.cells #[.int .i64 q, .slice A1 L1.length k1] 24 (0, 0)))
  have HC3 := Aside0.mk (Kd.C_alloc HC2.out (.cells #[.int .i64 q, .slice A1 L1.length k1] 24 (0, 0)))
  clear HB2 BP2 BR2 HC2
  go_wp2_with fail
  generalize w2.alloc (.cells #[.int .i64 q, .slice A1 L1.length k1] 24 (0, 0)) = W2 at c0 HB3 BP3 BR3 HC3 ⊢
  refine (H2.out L1 HK1.out W2 A1 k1 HC3.out HL1.out).mono ?_
  rintro e w3 ⟨A2, k2, L2, rfl, hle, hC, hK, hb⟩
  have HB4 := Aside0.mk (below_alloc (below_step HB3.out hb) (.cells #[.int .i64 p, .slice A2 L2.length k2] 24 (0, 0)))
  have BP4 := Aside0.mk (blk_alloc (blk_below BP3.out hb) (.cells #[.int .i64 p, .slice A2 L2.length k2] 24 (0, 0)))
  have BR4 := Aside0.mk (blk_alloc (blk_below BR3.out hb) (.cells #[.int .i64 p, .slice A2 L2.length k2] 24 (0, 0)))
  have HC4 := Aside0.mk (Kd.C_alloc hC (.cells #[.int .i64 p, .slice A2 L2.length k2] 24 (0, 0)))
  have HK2 := Aside0.mk hK
  have HL2 := Aside0.mk hle
  clear hb HB3 BP3 BR3 hC hK hle c0
  have c0 : (w3.alloc (.cells #[.int .i64 p, .slice A2 L2.length k2] 24 (0, 0))).cell? ⟨w.heap.size, 0, none⟩ = some (.int .i64 p) := (blk_cell BP4.out 0).trans rfl
  have c1 : (w3.alloc (.cells #[.int .i64 p, .slice A2 L2.length k2] 24 (0, 0))).cell? ⟨w.heap.size, 1, none⟩ = some (.slice A l.length cap) := (blk_cell BP4.out 1).trans rfl
  go_wp2_with fail
  generalize w3.alloc (.cells #[.int .i64 p, .slice A2 L2.length k2] 24 (0, 0)) = W3 at c0 c1 HB4 BP4 BR4 HC4 ⊢
  refine (apart_any p p A A2 cap k2 l L2 W3 (Kd.C_below HX.out HB4.out) hcap HC4.out HL2.out HU.out (H3.out L2 HK2.out)).mono ?_
  rintro e w4 ⟨he, hb⟩
  obtain ⟨t, ht⟩ : ∃ t, t = (apartR p l p L2).1 := ⟨_, rfl⟩
  obtain ⟨r, hr⟩ : ∃ r, r = (apartR p l p L2).2 := ⟨_, rfl⟩
  rw [← ht, ← hr] at he
  replace he : e = .returned (.tuple #[.agg #[.int .i64 t.u, .int .i64 t.m, .int .i64 t.p, .int .i64 t.x, .int .i64 t.y, .int .i64 t.s], .int .i64 r]) := he
  subst he
  have HT := Aside0.mk ht
  have HR := Aside0.mk hr
  have HB5 := Aside0.mk (below_step HB4.out hb)
  have BR5 := Aside0.mk (blk_below BR4.out hb)
  have hz := BR5.out
  have g0 := blk_cell hz 0
  have g1 := blk_cell hz 1
  have g2 := blk_cell hz 2
  have g3 := blk_cell hz 3
  have g4 := blk_cell hz 4
  have g5 := blk_cell hz 5
  have f0 := blk_frozen hz 0
  have f1 := blk_frozen hz 1
  have f2 := blk_frozen hz 2
  have f3 := blk_frozen hz 3
  have f4 := blk_frozen hz 4
  have f5 := blk_frozen hz 5
  simp [zeroM, Mt.vals] at g0 g1 g2 g3 g4 g5
  clear hz hb ht hr c0 c1 HB4 BP4 BR4 HC4
  go_wp2
  try simp only [Exit.inBlock, Exit.then]
  refine bodyPost_ret (results_cell_tmp rfl _ _ (w.heap.size + 1) 28 t.vals (0, 0) _ (.int .i64 r) rfl rfl (set6 BR5.out rfl t) Tryz.underlying28 (by kernel_rfl)) rfl ⟨L2, HK2.out, ?_, below6 HB5.out (by omega) _ _ _ _ _ _⟩
  rw [← HT.out, ← HR.out]
  rfl
end Go.Proofs.YtimghiiihjphiaaGreat.trips
