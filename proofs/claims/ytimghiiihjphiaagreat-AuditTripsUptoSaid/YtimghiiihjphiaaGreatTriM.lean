/- A part of the proof: a picture brought to another space, by the program's own text. Condition: what is done to three samples is known. -/
import Derived.Test.YtimghiiihjphiaaGreatTriL
import Derived.Test.YtimghiiihjphiaaGreatTriG
namespace Go.Proofs.YtimghiiihjphiaaGreat.trips
open Go.RowKit Go.Proofs.YtimghiiihjphiaaGreatW.PrintWords Go.Proofs.YtimghiiihjphiaaGreat.PTri
set_option linter.unusedVariables false
set_option linter.unusedSimpArgs false

/-- what three samples become, told by a relation -/
def Conv (p q a b c : Int) (R : Int → Int → Int → Prop) : Prop := ∀ V : World, Calls Tryz.prog 33 #[.int .i64 p, .int .i64 q, .int .u32 a, .int .u32 b, .int .u32 c] V fun e V' => ∃ x y z : Int, e = .returned (.tuple #[.int .u32 x, .int .u32 y, .int .u32 z, .int .i64 0]) ∧ R x y z ∧ Below V.heap.size V V'

set_option maxHeartbeats 800000 in
theorem conv38 (p q a b c : Int) (R : Int → Int → Int → Prop) (hc : Conv p q a b c R) (p2 p3 : Nat) (A : Option Addr) (n cap : Nat) (w : World) (h2 : w.heap[p2]? = some (.cells #[.int .i64 p, .slice A n cap] 24 (0, 0))) (h3 : w.heap[p3]? = some (.cells #[.int .i64 q] 3 (0, 0))) :
    Calls Tryz.prog 38 #[.int .u32 a, .int .u32 b, .int .u32 c, .pointer (some ⟨p2, 0, none⟩), .pointer (some ⟨p3, 0, none⟩)] w fun e w' => ∃ x y z : Int, e = .returned (.tuple #[.int .u32 x, .int .u32 y, .int .u32 z]) ∧ R x y z ∧ Below w.heap.size w w' := by
  have HC := Aside0.mk hc
  have c2 : w.cell? ⟨p2, 0, none⟩ = some (.int .i64 p) := (blk_cell h2 0).trans rfl
  have c3 : w.cell? ⟨p3, 0, none⟩ = some (.int .i64 q) := (blk_cell h3 0).trans rfl
  clear hc h2 h3
  go_enter Tryz.func38, Tryz.ntmps38
  go_wp2_with fail
  refine (HC.out _).mono ?_
  rintro e w1 ⟨x, y, z, rfl, hr, hb⟩
  have HR := Aside0.mk hr
  have HB := Aside0.mk hb
  clear hr hb HC
  go_wp2
  go_ret3
  exact ⟨x, y, z, rfl, HR.out, HB.out⟩

set_option maxHeartbeats 1600000 in
set_option maxRecDepth 100000 in
theorem convert_same0 (w : World) (k : Nat) (A : Option Addr) (cap : Nat) (l : List S37) (hr : Kd.C k37 w A l.length l) (hcap : l.length ≤ cap) (hck : picture_Check.f k 0 l = some 0) (hs : Sized l) :
    Calls Tryz.prog 17 #[.agg #[.int .i64 0, .slice A l.length cap], .int .i64 0] w fun e w' => ∃ A' c', e = .returned (.tuple #[.agg #[.int .i64 0, .slice A' l.length c'], .int .i64 0]) ∧ l.length ≤ c' ∧ Kd.C k37 w' A' l.length l ∧ Below w.heap.size w w' := by
  have HX := Aside0.mk hr
  have HS := Aside0.mk hs
  have HK := Aside0.mk hck
  clear hr hs hck
  have HB0 := Aside0.mk (below_alloc (below_alloc (below_alloc (Below.refl w.heap.size w) (.cells #[.int .i64 0, .slice A l.length cap] 24 (0, 0))) (.cells #[.int .i64 0] 3 (0, 0))) (.cells #[.int .i64 0, .slice none 0 0] 24 (0, 0)))
  have BP := Aside0.mk (blk_alloc (blk_alloc (blk_new w (.cells #[.int .i64 0, .slice A l.length cap] 24 (0, 0))) (.cells #[.int .i64 0] 3 (0, 0))) (.cells #[.int .i64 0, .slice none 0 0] 24 (0, 0)))
  have BQ := Aside0.mk (blk_alloc (heap_alloc2_new w (.cells #[.int .i64 0, .slice A l.length cap] 24 (0, 0)) (.cells #[.int .i64 0] 3 (0, 0))) (.cells #[.int .i64 0, .slice none 0 0] 24 (0, 0)))
  have BR := Aside0.mk (sides.third w (.cells #[.int .i64 0, .slice A l.length cap] 24 (0, 0)) (.cells #[.int .i64 0] 3 (0, 0)) (.cells #[.int .i64 0, .slice none 0 0] 24 (0, 0)))
  go_enter Tryz.func17, Tryz.ntmps17
  go_wp2_with fail
  generalize ((w.alloc (.cells #[.int .i64 0, .slice A l.length cap] 24 (0, 0))).alloc (.cells #[.int .i64 0] 3 (0, 0))).alloc (.cells #[.int .i64 0, .slice none 0 0] 24 (0, 0)) = W0 at HB0 BP BQ BR ⊢
  refine (picture_Check.calls k 0 A cap l 0 W0 (Kd.C_below HX.out HB0.out) hcap HK.out).mono ?_
  rintro e w1 ⟨rfl, hb⟩
  have HB1 := Aside0.mk (below_step HB0.out hb)
  have BP1 := Aside0.mk (blk_below BP.out hb)
  have BQ1 := Aside0.mk (blk_below BQ.out hb)
  have BR1 := Aside0.mk (blk_below BR.out hb)
  clear hb HB0 BP BQ BR
  have h0 : w1.cell? ⟨w.heap.size, 0, none⟩ = some (.int .i64 0) := (blk_cell BP1.out 0).trans rfl
  have h3 : w1.cell? ⟨w.heap.size + 1, 0, none⟩ = some (.int .i64 0) := (blk_cell BQ1.out 0).trans rfl
  go_wp2_with fail
  refine (conv_same0 0 0 0 w1).mono ?_
  rintro e w2 ⟨rfl, hb⟩
  have HB2 := Aside0.mk (below_step HB1.out hb)
  have BP2 := Aside0.mk (blk_below BP1.out hb)
  have BQ2 := Aside0.mk (blk_below BQ1.out hb)
  have BR2 := Aside0.mk (blk_below BR1.out hb)
  clear hb HB1 BP1 BQ1 BR1 h0 h3
  have h0 : w2.cell? ⟨w.heap.size, 0, none⟩ = some (.int .i64 0) := (blk_cell BP2.out 0).trans rfl
  have h1 : w2.cell? ⟨w.heap.size, 1, none⟩ = some (.slice A l.length cap) := (blk_cell BP2.out 1).trans rfl
  have h3 : w2.cell? ⟨w.heap.size + 1, 0, none⟩ = some (.int .i64 0) := (blk_cell BQ2.out 0).trans rfl
  go_wp2_with fail
  refine (every_35 w2 k 0 A cap l (Kd.C_below HX.out HB2.out) hcap HK.out HS.out).mono ?_
  rintro e w3 ⟨A', c', rfl, hS, hb⟩
  have HB3 := Aside0.mk (below_step HB2.out hb)
  have BR3 := Aside0.mk (blk_below BR2.out hb)
  have HS3 := Aside0.mk hS
  clear hb hS HB2 BP2 BQ2 BR2 h0 h1 h3
  have hr0 := (blk_cell BR3.out 0).trans rfl
  have hr1 := (blk_cell BR3.out 1).trans rfl
  have hf0 := blk_frozen BR3.out 0
  have hf1 := blk_frozen BR3.out 1
  simp at hr0 hr1
  go_wp2
  have hp := blk_put (blk_put BR3.out 0 (.int .i64 0) rfl) 1 (.slice A' l.length c') rfl
  have hs1 := Kd.S_set HS3.out BR3.out (by decide) 0 (.int .i64 0)
  have hs2 := Kd.S_set hs1 (blk_put BR3.out 0 (.int .i64 0) rfl) (by decide) 1 (.slice A' l.length c')
  obtain ⟨_, hle, hC⟩ := Kd.S_reads' hs2
  try simp only [Exit.inBlock, Exit.then]
  refine bodyPost_ret (results_cell_tmp rfl _ _ (w.heap.size + 1 + 1) 24 #[.int .i64 0, .slice A' l.length c'] (0, 0) _ _ rfl rfl hp Tryz.underlying24 (by kernel_rfl)) rfl ⟨_, c', rfl, hle, hC, ?_⟩
  exact below_set (below_set HB3.out (by omega)) (by omega)

set_option maxHeartbeats 1600000 in
set_option maxRecDepth 100000 in
theorem convert_same1 (w : World) (k : Nat) (A : Option Addr) (cap : Nat) (l : List S37) (hr : Kd.C k37 w A l.length l) (hcap : l.length ≤ cap) (hck : picture_Check.f k 1 l = some 0) (hs : Sized l) :
    Calls Tryz.prog 17 #[.agg #[.int .i64 1, .slice A l.length cap], .int .i64 1] w fun e w' => ∃ A' c', e = .returned (.tuple #[.agg #[.int .i64 1, .slice A' l.length c'], .int .i64 0]) ∧ l.length ≤ c' ∧ Kd.C k37 w' A' l.length l ∧ Below w.heap.size w w' := by
  have HX := Aside0.mk hr
  have HS := Aside0.mk hs
  have HK := Aside0.mk hck
  clear hr hs hck
  have HB0 := Aside0.mk (below_alloc (below_alloc (below_alloc (Below.refl w.heap.size w) (.cells #[.int .i64 1, .slice A l.length cap] 24 (0, 0))) (.cells #[.int .i64 1] 3 (0, 0))) (.cells #[.int .i64 0, .slice none 0 0] 24 (0, 0)))
  have BP := Aside0.mk (blk_alloc (blk_alloc (blk_new w (.cells #[.int .i64 1, .slice A l.length cap] 24 (0, 0))) (.cells #[.int .i64 1] 3 (0, 0))) (.cells #[.int .i64 0, .slice none 0 0] 24 (0, 0)))
  have BQ := Aside0.mk (blk_alloc (heap_alloc2_new w (.cells #[.int .i64 1, .slice A l.length cap] 24 (0, 0)) (.cells #[.int .i64 1] 3 (0, 0))) (.cells #[.int .i64 0, .slice none 0 0] 24 (0, 0)))
  have BR := Aside0.mk (sides.third w (.cells #[.int .i64 1, .slice A l.length cap] 24 (0, 0)) (.cells #[.int .i64 1] 3 (0, 0)) (.cells #[.int .i64 0, .slice none 0 0] 24 (0, 0)))
  go_enter Tryz.func17, Tryz.ntmps17
  go_wp2_with fail
  generalize ((w.alloc (.cells #[.int .i64 1, .slice A l.length cap] 24 (0, 0))).alloc (.cells #[.int .i64 1] 3 (0, 0))).alloc (.cells #[.int .i64 0, .slice none 0 0] 24 (0, 0)) = W0 at HB0 BP BQ BR ⊢
  refine (picture_Check.calls k 1 A cap l 0 W0 (Kd.C_below HX.out HB0.out) hcap HK.out).mono ?_
  rintro e w1 ⟨rfl, hb⟩
  have HB1 := Aside0.mk (below_step HB0.out hb)
  have BP1 := Aside0.mk (blk_below BP.out hb)
  have BQ1 := Aside0.mk (blk_below BQ.out hb)
  have BR1 := Aside0.mk (blk_below BR.out hb)
  clear hb HB0 BP BQ BR
  have h0 : w1.cell? ⟨w.heap.size, 0, none⟩ = some (.int .i64 1) := (blk_cell BP1.out 0).trans rfl
  have h3 : w1.cell? ⟨w.heap.size + 1, 0, none⟩ = some (.int .i64 1) := (blk_cell BQ1.out 0).trans rfl
  go_wp2_with fail
  refine (conv_same1 0 0 0 w1).mono ?_
  rintro e w2 ⟨rfl, hb⟩
  have HB2 := Aside0.mk (below_step HB1.out hb)
  have BP2 := Aside0.mk (blk_below BP1.out hb)
  have BQ2 := Aside0.mk (blk_below BQ1.out hb)
  have BR2 := Aside0.mk (blk_below BR1.out hb)
  clear hb HB1 BP1 BQ1 BR1 h0 h3
  have h0 : w2.cell? ⟨w.heap.size, 0, none⟩ = some (.int .i64 1) := (blk_cell BP2.out 0).trans rfl
  have h1 : w2.cell? ⟨w.heap.size, 1, none⟩ = some (.slice A l.length cap) := (blk_cell BP2.out 1).trans rfl
  have h3 : w2.cell? ⟨w.heap.size + 1, 0, none⟩ = some (.int .i64 1) := (blk_cell BQ2.out 0).trans rfl
  go_wp2_with fail
  refine (every_35 w2 k 1 A cap l (Kd.C_below HX.out HB2.out) hcap HK.out HS.out).mono ?_
  rintro e w3 ⟨A', c', rfl, hS, hb⟩
  have HB3 := Aside0.mk (below_step HB2.out hb)
  have BR3 := Aside0.mk (blk_below BR2.out hb)
  have HS3 := Aside0.mk hS
  clear hb hS HB2 BP2 BQ2 BR2 h0 h1 h3
  have hr0 := (blk_cell BR3.out 0).trans rfl
  have hr1 := (blk_cell BR3.out 1).trans rfl
  have hf0 := blk_frozen BR3.out 0
  have hf1 := blk_frozen BR3.out 1
  simp at hr0 hr1
  go_wp2
  have hp := blk_put (blk_put BR3.out 0 (.int .i64 1) rfl) 1 (.slice A' l.length c') rfl
  have hs1 := Kd.S_set HS3.out BR3.out (by decide) 0 (.int .i64 1)
  have hs2 := Kd.S_set hs1 (blk_put BR3.out 0 (.int .i64 1) rfl) (by decide) 1 (.slice A' l.length c')
  obtain ⟨_, hle, hC⟩ := Kd.S_reads' hs2
  try simp only [Exit.inBlock, Exit.then]
  refine bodyPost_ret (results_cell_tmp rfl _ _ (w.heap.size + 1 + 1) 24 #[.int .i64 1, .slice A' l.length c'] (0, 0) _ _ rfl rfl hp Tryz.underlying24 (by kernel_rfl)) rfl ⟨_, c', rfl, hle, hC, ?_⟩
  exact below_set (below_set HB3.out (by omega)) (by omega)

set_option maxHeartbeats 1600000 in
set_option maxRecDepth 100000 in
theorem convert_same2 (w : World) (k : Nat) (A : Option Addr) (cap : Nat) (l : List S37) (hr : Kd.C k37 w A l.length l) (hcap : l.length ≤ cap) (hck : picture_Check.f k 2 l = some 0) (hs : Sized l) :
    Calls Tryz.prog 17 #[.agg #[.int .i64 2, .slice A l.length cap], .int .i64 2] w fun e w' => ∃ A' c', e = .returned (.tuple #[.agg #[.int .i64 2, .slice A' l.length c'], .int .i64 0]) ∧ l.length ≤ c' ∧ Kd.C k37 w' A' l.length l ∧ Below w.heap.size w w' := by
  have HX := Aside0.mk hr
  have HS := Aside0.mk hs
  have HK := Aside0.mk hck
  clear hr hs hck
  have HB0 := Aside0.mk (below_alloc (below_alloc (below_alloc (Below.refl w.heap.size w) (.cells #[.int .i64 2, .slice A l.length cap] 24 (0, 0))) (.cells #[.int .i64 2] 3 (0, 0))) (.cells #[.int .i64 0, .slice none 0 0] 24 (0, 0)))
  have BP := Aside0.mk (blk_alloc (blk_alloc (blk_new w (.cells #[.int .i64 2, .slice A l.length cap] 24 (0, 0))) (.cells #[.int .i64 2] 3 (0, 0))) (.cells #[.int .i64 0, .slice none 0 0] 24 (0, 0)))
  have BQ := Aside0.mk (blk_alloc (heap_alloc2_new w (.cells #[.int .i64 2, .slice A l.length cap] 24 (0, 0)) (.cells #[.int .i64 2] 3 (0, 0))) (.cells #[.int .i64 0, .slice none 0 0] 24 (0, 0)))
  have BR := Aside0.mk (sides.third w (.cells #[.int .i64 2, .slice A l.length cap] 24 (0, 0)) (.cells #[.int .i64 2] 3 (0, 0)) (.cells #[.int .i64 0, .slice none 0 0] 24 (0, 0)))
  go_enter Tryz.func17, Tryz.ntmps17
  go_wp2_with fail
  generalize ((w.alloc (.cells #[.int .i64 2, .slice A l.length cap] 24 (0, 0))).alloc (.cells #[.int .i64 2] 3 (0, 0))).alloc (.cells #[.int .i64 0, .slice none 0 0] 24 (0, 0)) = W0 at HB0 BP BQ BR ⊢
  refine (picture_Check.calls k 2 A cap l 0 W0 (Kd.C_below HX.out HB0.out) hcap HK.out).mono ?_
  rintro e w1 ⟨rfl, hb⟩
  have HB1 := Aside0.mk (below_step HB0.out hb)
  have BP1 := Aside0.mk (blk_below BP.out hb)
  have BQ1 := Aside0.mk (blk_below BQ.out hb)
  have BR1 := Aside0.mk (blk_below BR.out hb)
  clear hb HB0 BP BQ BR
  have h0 : w1.cell? ⟨w.heap.size, 0, none⟩ = some (.int .i64 2) := (blk_cell BP1.out 0).trans rfl
  have h3 : w1.cell? ⟨w.heap.size + 1, 0, none⟩ = some (.int .i64 2) := (blk_cell BQ1.out 0).trans rfl
  go_wp2_with fail
  refine (conv_same2 0 0 0 w1).mono ?_
  rintro e w2 ⟨rfl, hb⟩
  have HB2 := Aside0.mk (below_step HB1.out hb)
  have BP2 := Aside0.mk (blk_below BP1.out hb)
  have BQ2 := Aside0.mk (blk_below BQ1.out hb)
  have BR2 := Aside0.mk (blk_below BR1.out hb)
  clear hb HB1 BP1 BQ1 BR1 h0 h3
  have h0 : w2.cell? ⟨w.heap.size, 0, none⟩ = some (.int .i64 2) := (blk_cell BP2.out 0).trans rfl
  have h1 : w2.cell? ⟨w.heap.size, 1, none⟩ = some (.slice A l.length cap) := (blk_cell BP2.out 1).trans rfl
  have h3 : w2.cell? ⟨w.heap.size + 1, 0, none⟩ = some (.int .i64 2) := (blk_cell BQ2.out 0).trans rfl
  go_wp2_with fail
  refine (every_35 w2 k 2 A cap l (Kd.C_below HX.out HB2.out) hcap HK.out HS.out).mono ?_
  rintro e w3 ⟨A', c', rfl, hS, hb⟩
  have HB3 := Aside0.mk (below_step HB2.out hb)
  have BR3 := Aside0.mk (blk_below BR2.out hb)
  have HS3 := Aside0.mk hS
  clear hb hS HB2 BP2 BQ2 BR2 h0 h1 h3
  have hr0 := (blk_cell BR3.out 0).trans rfl
  have hr1 := (blk_cell BR3.out 1).trans rfl
  have hf0 := blk_frozen BR3.out 0
  have hf1 := blk_frozen BR3.out 1
  simp at hr0 hr1
  go_wp2
  have hp := blk_put (blk_put BR3.out 0 (.int .i64 2) rfl) 1 (.slice A' l.length c') rfl
  have hs1 := Kd.S_set HS3.out BR3.out (by decide) 0 (.int .i64 2)
  have hs2 := Kd.S_set hs1 (blk_put BR3.out 0 (.int .i64 2) rfl) (by decide) 1 (.slice A' l.length c')
  obtain ⟨_, hle, hC⟩ := Kd.S_reads' hs2
  try simp only [Exit.inBlock, Exit.then]
  refine bodyPost_ret (results_cell_tmp rfl _ _ (w.heap.size + 1 + 1) 24 #[.int .i64 2, .slice A' l.length c'] (0, 0) _ _ rfl rfl hp Tryz.underlying24 (by kernel_rfl)) rfl ⟨_, c', rfl, hle, hC, ?_⟩
  exact below_set (below_set HB3.out (by omega)) (by omega)

set_option maxHeartbeats 1600000 in
set_option maxRecDepth 100000 in
theorem convert_same3 (w : World) (k : Nat) (A : Option Addr) (cap : Nat) (l : List S37) (hr : Kd.C k37 w A l.length l) (hcap : l.length ≤ cap) (hck : picture_Check.f k 3 l = some 0) (hs : Sized l) :
    Calls Tryz.prog 17 #[.agg #[.int .i64 3, .slice A l.length cap], .int .i64 3] w fun e w' => ∃ A' c', e = .returned (.tuple #[.agg #[.int .i64 3, .slice A' l.length c'], .int .i64 0]) ∧ l.length ≤ c' ∧ Kd.C k37 w' A' l.length l ∧ Below w.heap.size w w' := by
  have HX := Aside0.mk hr
  have HS := Aside0.mk hs
  have HK := Aside0.mk hck
  clear hr hs hck
  have HB0 := Aside0.mk (below_alloc (below_alloc (below_alloc (Below.refl w.heap.size w) (.cells #[.int .i64 3, .slice A l.length cap] 24 (0, 0))) (.cells #[.int .i64 3] 3 (0, 0))) (.cells #[.int .i64 0, .slice none 0 0] 24 (0, 0)))
  have BP := Aside0.mk (blk_alloc (blk_alloc (blk_new w (.cells #[.int .i64 3, .slice A l.length cap] 24 (0, 0))) (.cells #[.int .i64 3] 3 (0, 0))) (.cells #[.int .i64 0, .slice none 0 0] 24 (0, 0)))
  have BQ := Aside0.mk (blk_alloc (heap_alloc2_new w (.cells #[.int .i64 3, .slice A l.length cap] 24 (0, 0)) (.cells #[.int .i64 3] 3 (0, 0))) (.cells #[.int .i64 0, .slice none 0 0] 24 (0, 0)))
  have BR := Aside0.mk (sides.third w (.cells #[.int .i64 3, .slice A l.length cap] 24 (0, 0)) (.cells #[.int .i64 3] 3 (0, 0)) (.cells #[.int .i64 0, .slice none 0 0] 24 (0, 0)))
  go_enter Tryz.func17, Tryz.ntmps17
  go_wp2_with fail
  generalize ((w.alloc (.cells #[.int .i64 3, .slice A l.length cap] 24 (0, 0))).alloc (.cells #[.int .i64 3] 3 (0, 0))).alloc (.cells #[.int .i64 0, .slice none 0 0] 24 (0, 0)) = W0 at HB0 BP BQ BR ⊢
  refine (picture_Check.calls k 3 A cap l 0 W0 (Kd.C_below HX.out HB0.out) hcap HK.out).mono ?_
  rintro e w1 ⟨rfl, hb⟩
  have HB1 := Aside0.mk (below_step HB0.out hb)
  have BP1 := Aside0.mk (blk_below BP.out hb)
  have BQ1 := Aside0.mk (blk_below BQ.out hb)
  have BR1 := Aside0.mk (blk_below BR.out hb)
  clear hb HB0 BP BQ BR
  have h0 : w1.cell? ⟨w.heap.size, 0, none⟩ = some (.int .i64 3) := (blk_cell BP1.out 0).trans rfl
  have h3 : w1.cell? ⟨w.heap.size + 1, 0, none⟩ = some (.int .i64 3) := (blk_cell BQ1.out 0).trans rfl
  go_wp2_with fail
  refine (conv_same3 0 0 0 w1).mono ?_
  rintro e w2 ⟨rfl, hb⟩
  have HB2 := Aside0.mk (below_step HB1.out hb)
  have BP2 := Aside0.mk (blk_below BP1.out hb)
  have BQ2 := Aside0.mk (blk_below BQ1.out hb)
  have BR2 := Aside0.mk (blk_below BR1.out hb)
  clear hb HB1 BP1 BQ1 BR1 h0 h3
  have h0 : w2.cell? ⟨w.heap.size, 0, none⟩ = some (.int .i64 3) := (blk_cell BP2.out 0).trans rfl
  have h1 : w2.cell? ⟨w.heap.size, 1, none⟩ = some (.slice A l.length cap) := (blk_cell BP2.out 1).trans rfl
  have h3 : w2.cell? ⟨w.heap.size + 1, 0, none⟩ = some (.int .i64 3) := (blk_cell BQ2.out 0).trans rfl
  go_wp2_with fail
  refine (every_35 w2 k 3 A cap l (Kd.C_below HX.out HB2.out) hcap HK.out HS.out).mono ?_
  rintro e w3 ⟨A', c', rfl, hS, hb⟩
  have HB3 := Aside0.mk (below_step HB2.out hb)
  have BR3 := Aside0.mk (blk_below BR2.out hb)
  have HS3 := Aside0.mk hS
  clear hb hS HB2 BP2 BQ2 BR2 h0 h1 h3
  have hr0 := (blk_cell BR3.out 0).trans rfl
  have hr1 := (blk_cell BR3.out 1).trans rfl
  have hf0 := blk_frozen BR3.out 0
  have hf1 := blk_frozen BR3.out 1
  simp at hr0 hr1
  go_wp2
  have hp := blk_put (blk_put BR3.out 0 (.int .i64 3) rfl) 1 (.slice A' l.length c') rfl
  have hs1 := Kd.S_set HS3.out BR3.out (by decide) 0 (.int .i64 3)
  have hs2 := Kd.S_set hs1 (blk_put BR3.out 0 (.int .i64 3) rfl) (by decide) 1 (.slice A' l.length c')
  obtain ⟨_, hle, hC⟩ := Kd.S_reads' hs2
  try simp only [Exit.inBlock, Exit.then]
  refine bodyPost_ret (results_cell_tmp rfl _ _ (w.heap.size + 1 + 1) 24 #[.int .i64 3, .slice A' l.length c'] (0, 0) _ _ rfl rfl hp Tryz.underlying24 (by kernel_rfl)) rfl ⟨_, c', rfl, hle, hC, ?_⟩
  exact below_set (below_set HB3.out (by omega)) (by omega)

set_option maxHeartbeats 1600000 in
set_option maxRecDepth 100000 in
theorem convert_same4 (w : World) (k : Nat) (A : Option Addr) (cap : Nat) (l : List S37) (hr : Kd.C k37 w A l.length l) (hcap : l.length ≤ cap) (hck : picture_Check.f k 4 l = some 0) (hs : Sized l) :
    Calls Tryz.prog 17 #[.agg #[.int .i64 4, .slice A l.length cap], .int .i64 4] w fun e w' => ∃ A' c', e = .returned (.tuple #[.agg #[.int .i64 4, .slice A' l.length c'], .int .i64 0]) ∧ l.length ≤ c' ∧ Kd.C k37 w' A' l.length l ∧ Below w.heap.size w w' := by
  have HX := Aside0.mk hr
  have HS := Aside0.mk hs
  have HK := Aside0.mk hck
  clear hr hs hck
  have HB0 := Aside0.mk (below_alloc (below_alloc (below_alloc (Below.refl w.heap.size w) (.cells #[.int .i64 4, .slice A l.length cap] 24 (0, 0))) (.cells #[.int .i64 4] 3 (0, 0))) (.cells #[.int .i64 0, .slice none 0 0] 24 (0, 0)))
  have BP := Aside0.mk (blk_alloc (blk_alloc (blk_new w (.cells #[.int .i64 4, .slice A l.length cap] 24 (0, 0))) (.cells #[.int .i64 4] 3 (0, 0))) (.cells #[.int .i64 0, .slice none 0 0] 24 (0, 0)))
  have BQ := Aside0.mk (blk_alloc (heap_alloc2_new w (.cells #[.int .i64 4, .slice A l.length cap] 24 (0, 0)) (.cells #[.int .i64 4] 3 (0, 0))) (.cells #[.int .i64 0, .slice none 0 0] 24 (0, 0)))
  have BR := Aside0.mk (sides.third w (.cells #[.int .i64 4, .slice A l.length cap] 24 (0, 0)) (.cells #[.int .i64 4] 3 (0, 0)) (.cells #[.int .i64 0, .slice none 0 0] 24 (0, 0)))
  go_enter Tryz.func17, Tryz.ntmps17
  go_wp2_with fail
  generalize ((w.alloc (.cells #[.int .i64 4, .slice A l.length cap] 24 (0, 0))).alloc (.cells #[.int .i64 4] 3 (0, 0))).alloc (.cells #[.int .i64 0, .slice none 0 0] 24 (0, 0)) = W0 at HB0 BP BQ BR ⊢
  refine (picture_Check.calls k 4 A cap l 0 W0 (Kd.C_below HX.out HB0.out) hcap HK.out).mono ?_
  rintro e w1 ⟨rfl, hb⟩
  have HB1 := Aside0.mk (below_step HB0.out hb)
  have BP1 := Aside0.mk (blk_below BP.out hb)
  have BQ1 := Aside0.mk (blk_below BQ.out hb)
  have BR1 := Aside0.mk (blk_below BR.out hb)
  clear hb HB0 BP BQ BR
  have h0 : w1.cell? ⟨w.heap.size, 0, none⟩ = some (.int .i64 4) := (blk_cell BP1.out 0).trans rfl
  have h3 : w1.cell? ⟨w.heap.size + 1, 0, none⟩ = some (.int .i64 4) := (blk_cell BQ1.out 0).trans rfl
  go_wp2_with fail
  refine (conv_same4 0 0 0 w1).mono ?_
  rintro e w2 ⟨rfl, hb⟩
  have HB2 := Aside0.mk (below_step HB1.out hb)
  have BP2 := Aside0.mk (blk_below BP1.out hb)
  have BQ2 := Aside0.mk (blk_below BQ1.out hb)
  have BR2 := Aside0.mk (blk_below BR1.out hb)
  clear hb HB1 BP1 BQ1 BR1 h0 h3
  have h0 : w2.cell? ⟨w.heap.size, 0, none⟩ = some (.int .i64 4) := (blk_cell BP2.out 0).trans rfl
  have h1 : w2.cell? ⟨w.heap.size, 1, none⟩ = some (.slice A l.length cap) := (blk_cell BP2.out 1).trans rfl
  have h3 : w2.cell? ⟨w.heap.size + 1, 0, none⟩ = some (.int .i64 4) := (blk_cell BQ2.out 0).trans rfl
  go_wp2_with fail
  refine (every_35 w2 k 4 A cap l (Kd.C_below HX.out HB2.out) hcap HK.out HS.out).mono ?_
  rintro e w3 ⟨A', c', rfl, hS, hb⟩
  have HB3 := Aside0.mk (below_step HB2.out hb)
  have BR3 := Aside0.mk (blk_below BR2.out hb)
  have HS3 := Aside0.mk hS
  clear hb hS HB2 BP2 BQ2 BR2 h0 h1 h3
  have hr0 := (blk_cell BR3.out 0).trans rfl
  have hr1 := (blk_cell BR3.out 1).trans rfl
  have hf0 := blk_frozen BR3.out 0
  have hf1 := blk_frozen BR3.out 1
  simp at hr0 hr1
  go_wp2
  have hp := blk_put (blk_put BR3.out 0 (.int .i64 4) rfl) 1 (.slice A' l.length c') rfl
  have hs1 := Kd.S_set HS3.out BR3.out (by decide) 0 (.int .i64 4)
  have hs2 := Kd.S_set hs1 (blk_put BR3.out 0 (.int .i64 4) rfl) (by decide) 1 (.slice A' l.length c')
  obtain ⟨_, hle, hC⟩ := Kd.S_reads' hs2
  try simp only [Exit.inBlock, Exit.then]
  refine bodyPost_ret (results_cell_tmp rfl _ _ (w.heap.size + 1 + 1) 24 #[.int .i64 4, .slice A' l.length c'] (0, 0) _ _ rfl rfl hp Tryz.underlying24 (by kernel_rfl)) rfl ⟨_, c', rfl, hle, hC, ?_⟩
  exact below_set (below_set HB3.out (by omega)) (by omega)

set_option maxHeartbeats 1600000 in
set_option maxRecDepth 100000 in
theorem convert_14 (w : World) (k : Nat) (A : Option Addr) (cap : Nat) (l : List S37) (n : Nat) (Pre : Nat → Int → Int → Int → Prop) (R : Nat → Int → Int → Int → Int → Int → Int → Prop) (hr : Kd.C k37 w A l.length l) (hcap : l.length ≤ cap) (hck : picture_Check.f k 1 l = some 0) (hs : Sized l) (h3 : 3 ≤ l.length) (hn : ∀ k : Nat, k < 3 → (rd_T37 l k).f2.length = n)
    (hpre : ∀ j : Nat, j < n → Pre j (smp l 0 j) (smp l 1 j) (smp l 2 j)) (hz : Conv 1 4 0 0 0 (fun _ _ _ => True)) (hF : ∀ (j : Nat) (a b c : Int), Pre j a b c → Conv 1 4 a b c (R j a b c)) :
    Calls Tryz.prog 17 #[.agg #[.int .i64 1, .slice A l.length cap], .int .i64 4] w fun e w' => ∃ A' c' L, e = .returned (.tuple #[.agg #[.int .i64 4, .slice A' l.length c'], .int .i64 0]) ∧ l.length ≤ c' ∧ Kd.C k37 w' A' L.length L ∧ Stage R l L n ∧ Below w.heap.size w w' := by
  have HX := Aside0.mk hr
  have HS := Aside0.mk hs
  have HK := Aside0.mk hck
  have HN := Aside0.mk hn
  have HP := Aside0.mk hpre
  have HZ := Aside0.mk hz
  have HF := Aside0.mk hF
  have H3 := Aside0.mk h3
  clear hr hs hck hn hpre hz hF h3
  have HB0 := Aside0.mk (below_alloc (below_alloc (below_alloc (Below.refl w.heap.size w) (.cells #[.int .i64 1, .slice A l.length cap] 24 (0, 0))) (.cells #[.int .i64 4] 3 (0, 0))) (.cells #[.int .i64 0, .slice none 0 0] 24 (0, 0)))
  have BP := Aside0.mk (blk_alloc (blk_alloc (blk_new w (.cells #[.int .i64 1, .slice A l.length cap] 24 (0, 0))) (.cells #[.int .i64 4] 3 (0, 0))) (.cells #[.int .i64 0, .slice none 0 0] 24 (0, 0)))
  have BQ := Aside0.mk (blk_alloc (heap_alloc2_new w (.cells #[.int .i64 1, .slice A l.length cap] 24 (0, 0)) (.cells #[.int .i64 4] 3 (0, 0))) (.cells #[.int .i64 0, .slice none 0 0] 24 (0, 0)))
  have BR := Aside0.mk (sides.third w (.cells #[.int .i64 1, .slice A l.length cap] 24 (0, 0)) (.cells #[.int .i64 4] 3 (0, 0)) (.cells #[.int .i64 0, .slice none 0 0] 24 (0, 0)))
  go_enter Tryz.func17, Tryz.ntmps17
  go_wp2_with fail
  generalize ((w.alloc (.cells #[.int .i64 1, .slice A l.length cap] 24 (0, 0))).alloc (.cells #[.int .i64 4] 3 (0, 0))).alloc (.cells #[.int .i64 0, .slice none 0 0] 24 (0, 0)) = W0 at HB0 BP BQ BR ⊢
  refine (picture_Check.calls k 1 A cap l 0 W0 (Kd.C_below HX.out HB0.out) hcap HK.out).mono ?_
  rintro e w1 ⟨rfl, hb⟩
  have HB1 := Aside0.mk (below_step HB0.out hb)
  have BP1 := Aside0.mk (blk_below BP.out hb)
  have BQ1 := Aside0.mk (blk_below BQ.out hb)
  have BR1 := Aside0.mk (blk_below BR.out hb)
  clear hb HB0 BP BQ BR
  have h0 : w1.cell? ⟨w.heap.size, 0, none⟩ = some (.int .i64 1) := (blk_cell BP1.out 0).trans rfl
  have h3 : w1.cell? ⟨w.heap.size + 1, 0, none⟩ = some (.int .i64 4) := (blk_cell BQ1.out 0).trans rfl
  go_wp2_with fail
  refine (HZ.out w1).mono ?_
  rintro e w2 ⟨z0, z1, z2, rfl, _, hb⟩
  have HB2 := Aside0.mk (below_step HB1.out hb)
  have BP2 := Aside0.mk (blk_below BP1.out hb)
  have BQ2 := Aside0.mk (blk_below BQ1.out hb)
  have BR2 := Aside0.mk (blk_below BR1.out hb)
  clear hb HB1 BP1 BQ1 BR1 h0 h3
  have h0 : w2.cell? ⟨w.heap.size, 0, none⟩ = some (.int .i64 1) := (blk_cell BP2.out 0).trans rfl
  have h1 : w2.cell? ⟨w.heap.size, 1, none⟩ = some (.slice A l.length cap) := (blk_cell BP2.out 1).trans rfl
  have h3 : w2.cell? ⟨w.heap.size + 1, 0, none⟩ = some (.int .i64 4) := (blk_cell BQ2.out 0).trans rfl
  go_wp2_with fail
  refine (triples_any w2 k 1 A cap l n w.heap.size (w.heap.size + 1) Pre R (Kd.C_below HX.out HB2.out) hcap HK.out HS.out H3.out HN.out HP.out (fun V hV j a b c hp => conv38 1 4 a b c _ (HF.out j a b c hp) _ _ A l.length cap V (blk_below BP2.out hV) (blk_below BQ2.out hV))).mono ?_
  rintro e w3 ⟨A', c', L, rfl, hC, hSt, hb⟩
  have HB3 := Aside0.mk (below_step HB2.out hb)
  have BR3 := Aside0.mk (blk_below BR2.out hb)
  have BQ3 := Aside0.mk (blk_below BQ2.out hb)
  have HC3 := Aside0.mk hC
  have HST := Aside0.mk hSt
  clear hb hC hSt HB2 BP2 BQ2 BR2 h0 h1 h3
  have h3 : (w3.alloc (.cells #[.int .i64 1, .slice A' l.length c'] 24 (0, 0))).cell? ⟨w.heap.size + 1, 0, none⟩ = some (.int .i64 4) := (blk_cell (blk_alloc BQ3.out (.cells #[.int .i64 1, .slice A' l.length c'] 24 (0, 0))) 0).trans rfl
  have BR4 := Aside0.mk (blk_alloc BR3.out (.cells #[.int .i64 4, .slice A' l.length c'] 24 (0, 0)))
  have hr0 : (w3.alloc (.cells #[.int .i64 4, .slice A' l.length c'] 24 (0, 0))).cell? ⟨w.heap.size + 1 + 1, 0, none⟩ = some (.int .i64 0) := (blk_cell BR4.out 0).trans rfl
  have hr1 : (w3.alloc (.cells #[.int .i64 4, .slice A' l.length c'] 24 (0, 0))).cell? ⟨w.heap.size + 1 + 1, 1, none⟩ = some (.slice none 0 0) := (blk_cell BR4.out 1).trans rfl
  have hf0 := blk_frozen BR4.out 0
  have hf1 := blk_frozen BR4.out 1
  have HB4 := Aside0.mk (below_alloc HB3.out (.cells #[.int .i64 4, .slice A' l.length c'] 24 (0, 0)))
  have HC4 := Aside0.mk (Kd.S_alloc HC3.out (.cells #[.int .i64 4, .slice A' l.length c'] 24 (0, 0)))
  go_wp2
  have hp := blk_put (blk_put BR4.out 0 (.int .i64 4) rfl) 1 (.slice A' l.length c') rfl
  try simp only [Exit.inBlock, Exit.then]
  refine bodyPost_ret (results_cell_tmp rfl _ _ (w.heap.size + 1 + 1) 24 #[.int .i64 4, .slice A' l.length c'] (0, 0) _ _ rfl rfl hp Tryz.underlying24 (by kernel_rfl)) rfl ⟨A', c', L, rfl, ?_, ?_, HST.out, ?_⟩
  · exact (Kd.S_reads' HC4.out).2.1
  · have hs1 := Kd.S_set HC4.out BR4.out (by decide) 0 (.int .i64 4)
    exact (Kd.S_reads' (Kd.S_set hs1 (blk_put BR4.out 0 (.int .i64 4) rfl) (by decide) 1 (.slice A' l.length c'))).2.2
  · exact below_set (below_set HB4.out (by omega)) (by omega)

set_option maxHeartbeats 1600000 in
set_option maxRecDepth 100000 in
theorem convert_41 (w : World) (k : Nat) (A : Option Addr) (cap : Nat) (l : List S37) (n : Nat) (Pre : Nat → Int → Int → Int → Prop) (R : Nat → Int → Int → Int → Int → Int → Int → Prop) (hr : Kd.C k37 w A l.length l) (hcap : l.length ≤ cap) (hck : picture_Check.f k 4 l = some 0) (hs : Sized l) (h3 : 3 ≤ l.length) (hn : ∀ k : Nat, k < 3 → (rd_T37 l k).f2.length = n)
    (hpre : ∀ j : Nat, j < n → Pre j (smp l 0 j) (smp l 1 j) (smp l 2 j)) (hz : Conv 4 1 0 0 0 (fun _ _ _ => True)) (hF : ∀ (j : Nat) (a b c : Int), Pre j a b c → Conv 4 1 a b c (R j a b c)) :
    Calls Tryz.prog 17 #[.agg #[.int .i64 4, .slice A l.length cap], .int .i64 1] w fun e w' => ∃ A' c' L, e = .returned (.tuple #[.agg #[.int .i64 1, .slice A' l.length c'], .int .i64 0]) ∧ l.length ≤ c' ∧ Kd.C k37 w' A' L.length L ∧ Stage R l L n ∧ Below w.heap.size w w' := by
  have HX := Aside0.mk hr
  have HS := Aside0.mk hs
  have HK := Aside0.mk hck
  have HN := Aside0.mk hn
  have HP := Aside0.mk hpre
  have HZ := Aside0.mk hz
  have HF := Aside0.mk hF
  have H3 := Aside0.mk h3
  clear hr hs hck hn hpre hz hF h3
  have HB0 := Aside0.mk (below_alloc (below_alloc (below_alloc (Below.refl w.heap.size w) (.cells #[.int .i64 4, .slice A l.length cap] 24 (0, 0))) (.cells #[.int .i64 1] 3 (0, 0))) (.cells #[.int .i64 0, .slice none 0 0] 24 (0, 0)))
  have BP := Aside0.mk (blk_alloc (blk_alloc (blk_new w (.cells #[.int .i64 4, .slice A l.length cap] 24 (0, 0))) (.cells #[.int .i64 1] 3 (0, 0))) (.cells #[.int .i64 0, .slice none 0 0] 24 (0, 0)))
  have BQ := Aside0.mk (blk_alloc (heap_alloc2_new w (.cells #[.int .i64 4, .slice A l.length cap] 24 (0, 0)) (.cells #[.int .i64 1] 3 (0, 0))) (.cells #[.int .i64 0, .slice none 0 0] 24 (0, 0)))
  have BR := Aside0.mk (sides.third w (.cells #[.int .i64 4, .slice A l.length cap] 24 (0, 0)) (.cells #[.int .i64 1] 3 (0, 0)) (.cells #[.int .i64 0, .slice none 0 0] 24 (0, 0)))
  go_enter Tryz.func17, Tryz.ntmps17
  go_wp2_with fail
  generalize ((w.alloc (.cells #[.int .i64 4, .slice A l.length cap] 24 (0, 0))).alloc (.cells #[.int .i64 1] 3 (0, 0))).alloc (.cells #[.int .i64 0, .slice none 0 0] 24 (0, 0)) = W0 at HB0 BP BQ BR ⊢
  refine (picture_Check.calls k 4 A cap l 0 W0 (Kd.C_below HX.out HB0.out) hcap HK.out).mono ?_
  rintro e w1 ⟨rfl, hb⟩
  have HB1 := Aside0.mk (below_step HB0.out hb)
  have BP1 := Aside0.mk (blk_below BP.out hb)
  have BQ1 := Aside0.mk (blk_below BQ.out hb)
  have BR1 := Aside0.mk (blk_below BR.out hb)
  clear hb HB0 BP BQ BR
  have h0 : w1.cell? ⟨w.heap.size, 0, none⟩ = some (.int .i64 4) := (blk_cell BP1.out 0).trans rfl
  have h3 : w1.cell? ⟨w.heap.size + 1, 0, none⟩ = some (.int .i64 1) := (blk_cell BQ1.out 0).trans rfl
  go_wp2_with fail
  refine (HZ.out w1).mono ?_
  rintro e w2 ⟨z0, z1, z2, rfl, _, hb⟩
  have HB2 := Aside0.mk (below_step HB1.out hb)
  have BP2 := Aside0.mk (blk_below BP1.out hb)
  have BQ2 := Aside0.mk (blk_below BQ1.out hb)
  have BR2 := Aside0.mk (blk_below BR1.out hb)
  clear hb HB1 BP1 BQ1 BR1 h0 h3
  have h0 : w2.cell? ⟨w.heap.size, 0, none⟩ = some (.int .i64 4) := (blk_cell BP2.out 0).trans rfl
  have h1 : w2.cell? ⟨w.heap.size, 1, none⟩ = some (.slice A l.length cap) := (blk_cell BP2.out 1).trans rfl
  have h3 : w2.cell? ⟨w.heap.size + 1, 0, none⟩ = some (.int .i64 1) := (blk_cell BQ2.out 0).trans rfl
  go_wp2_with fail
  refine (triples_any w2 k 4 A cap l n w.heap.size (w.heap.size + 1) Pre R (Kd.C_below HX.out HB2.out) hcap HK.out HS.out H3.out HN.out HP.out (fun V hV j a b c hp => conv38 4 1 a b c _ (HF.out j a b c hp) _ _ A l.length cap V (blk_below BP2.out hV) (blk_below BQ2.out hV))).mono ?_
  rintro e w3 ⟨A', c', L, rfl, hC, hSt, hb⟩
  have HB3 := Aside0.mk (below_step HB2.out hb)
  have BR3 := Aside0.mk (blk_below BR2.out hb)
  have BQ3 := Aside0.mk (blk_below BQ2.out hb)
  have HC3 := Aside0.mk hC
  have HST := Aside0.mk hSt
  clear hb hC hSt HB2 BP2 BQ2 BR2 h0 h1 h3
  have h3 : (w3.alloc (.cells #[.int .i64 4, .slice A' l.length c'] 24 (0, 0))).cell? ⟨w.heap.size + 1, 0, none⟩ = some (.int .i64 1) := (blk_cell (blk_alloc BQ3.out (.cells #[.int .i64 4, .slice A' l.length c'] 24 (0, 0))) 0).trans rfl
  have BR4 := Aside0.mk (blk_alloc BR3.out (.cells #[.int .i64 1, .slice A' l.length c'] 24 (0, 0)))
  have hr0 : (w3.alloc (.cells #[.int .i64 1, .slice A' l.length c'] 24 (0, 0))).cell? ⟨w.heap.size + 1 + 1, 0, none⟩ = some (.int .i64 0) := (blk_cell BR4.out 0).trans rfl
  have hr1 : (w3.alloc (.cells #[.int .i64 1, .slice A' l.length c'] 24 (0, 0))).cell? ⟨w.heap.size + 1 + 1, 1, none⟩ = some (.slice none 0 0) := (blk_cell BR4.out 1).trans rfl
  have hf0 := blk_frozen BR4.out 0
  have hf1 := blk_frozen BR4.out 1
  have HB4 := Aside0.mk (below_alloc HB3.out (.cells #[.int .i64 1, .slice A' l.length c'] 24 (0, 0)))
  have HC4 := Aside0.mk (Kd.S_alloc HC3.out (.cells #[.int .i64 1, .slice A' l.length c'] 24 (0, 0)))
  go_wp2
  have hp := blk_put (blk_put BR4.out 0 (.int .i64 1) rfl) 1 (.slice A' l.length c') rfl
  try simp only [Exit.inBlock, Exit.then]
  refine bodyPost_ret (results_cell_tmp rfl _ _ (w.heap.size + 1 + 1) 24 #[.int .i64 1, .slice A' l.length c'] (0, 0) _ _ rfl rfl hp Tryz.underlying24 (by kernel_rfl)) rfl ⟨A', c', L, rfl, ?_, ?_, HST.out, ?_⟩
  · exact (Kd.S_reads' HC4.out).2.1
  · have hs1 := Kd.S_set HC4.out BR4.out (by decide) 0 (.int .i64 1)
    exact (Kd.S_reads' (Kd.S_set hs1 (blk_put BR4.out 0 (.int .i64 1) rfl) (by decide) 1 (.slice A' l.length c'))).2.2
  · exact below_set (below_set HB4.out (by omega)) (by omega)

set_option maxHeartbeats 1600000 in
set_option maxRecDepth 100000 in
theorem convert_13 (w : World) (k : Nat) (A : Option Addr) (cap : Nat) (l : List S37) (n : Nat) (Pre : Nat → Int → Int → Int → Prop) (R : Nat → Int → Int → Int → Int → Int → Int → Prop) (hr : Kd.C k37 w A l.length l) (hcap : l.length ≤ cap) (hck : picture_Check.f k 1 l = some 0) (hs : Sized l) (h3 : 3 ≤ l.length) (hn : ∀ k : Nat, k < 3 → (rd_T37 l k).f2.length = n)
    (hpre : ∀ j : Nat, j < n → Pre j (smp l 0 j) (smp l 1 j) (smp l 2 j)) (hz : Conv 1 3 0 0 0 (fun _ _ _ => True)) (hF : ∀ (j : Nat) (a b c : Int), Pre j a b c → Conv 1 3 a b c (R j a b c)) :
    Calls Tryz.prog 17 #[.agg #[.int .i64 1, .slice A l.length cap], .int .i64 3] w fun e w' => ∃ A' c' L, e = .returned (.tuple #[.agg #[.int .i64 3, .slice A' l.length c'], .int .i64 0]) ∧ l.length ≤ c' ∧ Kd.C k37 w' A' L.length L ∧ Stage R l L n ∧ Below w.heap.size w w' := by
  have HX := Aside0.mk hr
  have HS := Aside0.mk hs
  have HK := Aside0.mk hck
  have HN := Aside0.mk hn
  have HP := Aside0.mk hpre
  have HZ := Aside0.mk hz
  have HF := Aside0.mk hF
  have H3 := Aside0.mk h3
  clear hr hs hck hn hpre hz hF h3
  have HB0 := Aside0.mk (below_alloc (below_alloc (below_alloc (Below.refl w.heap.size w) (.cells #[.int .i64 1, .slice A l.length cap] 24 (0, 0))) (.cells #[.int .i64 3] 3 (0, 0))) (.cells #[.int .i64 0, .slice none 0 0] 24 (0, 0)))
  have BP := Aside0.mk (blk_alloc (blk_alloc (blk_new w (.cells #[.int .i64 1, .slice A l.length cap] 24 (0, 0))) (.cells #[.int .i64 3] 3 (0, 0))) (.cells #[.int .i64 0, .slice none 0 0] 24 (0, 0)))
  have BQ := Aside0.mk (blk_alloc (heap_alloc2_new w (.cells #[.int .i64 1, .slice A l.length cap] 24 (0, 0)) (.cells #[.int .i64 3] 3 (0, 0))) (.cells #[.int .i64 0, .slice none 0 0] 24 (0, 0)))
  have BR := Aside0.mk (sides.third w (.cells #[.int .i64 1, .slice A l.length cap] 24 (0, 0)) (.cells #[.int .i64 3] 3 (0, 0)) (.cells #[.int .i64 0, .slice none 0 0] 24 (0, 0)))
  go_enter Tryz.func17, Tryz.ntmps17
  go_wp2_with fail
  generalize ((w.alloc (.cells #[.int .i64 1, .slice A l.length cap] 24 (0, 0))).alloc (.cells #[.int .i64 3] 3 (0, 0))).alloc (.cells #[.int .i64 0, .slice none 0 0] 24 (0, 0)) = W0 at HB0 BP BQ BR ⊢
  refine (picture_Check.calls k 1 A cap l 0 W0 (Kd.C_below HX.out HB0.out) hcap HK.out).mono ?_
  rintro e w1 ⟨rfl, hb⟩
  have HB1 := Aside0.mk (below_step HB0.out hb)
  have BP1 := Aside0.mk (blk_below BP.out hb)
  have BQ1 := Aside0.mk (blk_below BQ.out hb)
  have BR1 := Aside0.mk (blk_below BR.out hb)
  clear hb HB0 BP BQ BR
  have h0 : w1.cell? ⟨w.heap.size, 0, none⟩ = some (.int .i64 1) := (blk_cell BP1.out 0).trans rfl
  have h3 : w1.cell? ⟨w.heap.size + 1, 0, none⟩ = some (.int .i64 3) := (blk_cell BQ1.out 0).trans rfl
  go_wp2_with fail
  refine (HZ.out w1).mono ?_
  rintro e w2 ⟨z0, z1, z2, rfl, _, hb⟩
  have HB2 := Aside0.mk (below_step HB1.out hb)
  have BP2 := Aside0.mk (blk_below BP1.out hb)
  have BQ2 := Aside0.mk (blk_below BQ1.out hb)
  have BR2 := Aside0.mk (blk_below BR1.out hb)
  clear hb HB1 BP1 BQ1 BR1 h0 h3
  have h0 : w2.cell? ⟨w.heap.size, 0, none⟩ = some (.int .i64 1) := (blk_cell BP2.out 0).trans rfl
  have h1 : w2.cell? ⟨w.heap.size, 1, none⟩ = some (.slice A l.length cap) := (blk_cell BP2.out 1).trans rfl
  have h3 : w2.cell? ⟨w.heap.size + 1, 0, none⟩ = some (.int .i64 3) := (blk_cell BQ2.out 0).trans rfl
  go_wp2_with fail
  refine (triples_any w2 k 1 A cap l n w.heap.size (w.heap.size + 1) Pre R (Kd.C_below HX.out HB2.out) hcap HK.out HS.out H3.out HN.out HP.out (fun V hV j a b c hp => conv38 1 3 a b c _ (HF.out j a b c hp) _ _ A l.length cap V (blk_below BP2.out hV) (blk_below BQ2.out hV))).mono ?_
  rintro e w3 ⟨A', c', L, rfl, hC, hSt, hb⟩
  have HB3 := Aside0.mk (below_step HB2.out hb)
  have BR3 := Aside0.mk (blk_below BR2.out hb)
  have BQ3 := Aside0.mk (blk_below BQ2.out hb)
  have HC3 := Aside0.mk hC
  have HST := Aside0.mk hSt
  clear hb hC hSt HB2 BP2 BQ2 BR2 h0 h1 h3
  have h3 : (w3.alloc (.cells #[.int .i64 1, .slice A' l.length c'] 24 (0, 0))).cell? ⟨w.heap.size + 1, 0, none⟩ = some (.int .i64 3) := (blk_cell (blk_alloc BQ3.out (.cells #[.int .i64 1, .slice A' l.length c'] 24 (0, 0))) 0).trans rfl
  have BR4 := Aside0.mk (blk_alloc BR3.out (.cells #[.int .i64 3, .slice A' l.length c'] 24 (0, 0)))
  have hr0 : (w3.alloc (.cells #[.int .i64 3, .slice A' l.length c'] 24 (0, 0))).cell? ⟨w.heap.size + 1 + 1, 0, none⟩ = some (.int .i64 0) := (blk_cell BR4.out 0).trans rfl
  have hr1 : (w3.alloc (.cells #[.int .i64 3, .slice A' l.length c'] 24 (0, 0))).cell? ⟨w.heap.size + 1 + 1, 1, none⟩ = some (.slice none 0 0) := (blk_cell BR4.out 1).trans rfl
  have hf0 := blk_frozen BR4.out 0
  have hf1 := blk_frozen BR4.out 1
  have HB4 := Aside0.mk (below_alloc HB3.out (.cells #[.int .i64 3, .slice A' l.length c'] 24 (0, 0)))
  have HC4 := Aside0.mk (Kd.S_alloc HC3.out (.cells #[.int .i64 3, .slice A' l.length c'] 24 (0, 0)))
  go_wp2
  have hp := blk_put (blk_put BR4.out 0 (.int .i64 3) rfl) 1 (.slice A' l.length c') rfl
  try simp only [Exit.inBlock, Exit.then]
  refine bodyPost_ret (results_cell_tmp rfl _ _ (w.heap.size + 1 + 1) 24 #[.int .i64 3, .slice A' l.length c'] (0, 0) _ _ rfl rfl hp Tryz.underlying24 (by kernel_rfl)) rfl ⟨A', c', L, rfl, ?_, ?_, HST.out, ?_⟩
  · exact (Kd.S_reads' HC4.out).2.1
  · have hs1 := Kd.S_set HC4.out BR4.out (by decide) 0 (.int .i64 3)
    exact (Kd.S_reads' (Kd.S_set hs1 (blk_put BR4.out 0 (.int .i64 3) rfl) (by decide) 1 (.slice A' l.length c'))).2.2
  · exact below_set (below_set HB4.out (by omega)) (by omega)

set_option maxHeartbeats 1600000 in
set_option maxRecDepth 100000 in
theorem convert_31 (w : World) (k : Nat) (A : Option Addr) (cap : Nat) (l : List S37) (n : Nat) (Pre : Nat → Int → Int → Int → Prop) (R : Nat → Int → Int → Int → Int → Int → Int → Prop) (hr : Kd.C k37 w A l.length l) (hcap : l.length ≤ cap) (hck : picture_Check.f k 3 l = some 0) (hs : Sized l) (h3 : 3 ≤ l.length) (hn : ∀ k : Nat, k < 3 → (rd_T37 l k).f2.length = n)
    (hpre : ∀ j : Nat, j < n → Pre j (smp l 0 j) (smp l 1 j) (smp l 2 j)) (hz : Conv 3 1 0 0 0 (fun _ _ _ => True)) (hF : ∀ (j : Nat) (a b c : Int), Pre j a b c → Conv 3 1 a b c (R j a b c)) :
    Calls Tryz.prog 17 #[.agg #[.int .i64 3, .slice A l.length cap], .int .i64 1] w fun e w' => ∃ A' c' L, e = .returned (.tuple #[.agg #[.int .i64 1, .slice A' l.length c'], .int .i64 0]) ∧ l.length ≤ c' ∧ Kd.C k37 w' A' L.length L ∧ Stage R l L n ∧ Below w.heap.size w w' := by
  have HX := Aside0.mk hr
  have HS := Aside0.mk hs
  have HK := Aside0.mk hck
  have HN := Aside0.mk hn
  have HP := Aside0.mk hpre
  have HZ := Aside0.mk hz
  have HF := Aside0.mk hF
  have H3 := Aside0.mk h3
  clear hr hs hck hn hpre hz hF h3
  have HB0 := Aside0.mk (below_alloc (below_alloc (below_alloc (Below.refl w.heap.size w) (.cells #[.int .i64 3, .slice A l.length cap] 24 (0, 0))) (.cells #[.int .i64 1] 3 (0, 0))) (.cells #[.int .i64 0, .slice none 0 0] 24 (0, 0)))
  have BP := Aside0.mk (blk_alloc (blk_alloc (blk_new w (.cells #[.int .i64 3, .slice A l.length cap] 24 (0, 0))) (.cells #[.int .i64 1] 3 (0, 0))) (.cells #[.int .i64 0, .slice none 0 0] 24 (0, 0)))
  have BQ := Aside0.mk (blk_alloc (heap_alloc2_new w (.cells #[.int .i64 3, .slice A l.length cap] 24 (0, 0)) (.cells #[.int .i64 1] 3 (0, 0))) (.cells #[.int .i64 0, .slice none 0 0] 24 (0, 0)))
  have BR := Aside0.mk (sides.third w (.cells #[.int .i64 3, .slice A l.length cap] 24 (0, 0)) (.cells #[.int .i64 1] 3 (0, 0)) (.cells #[.int .i64 0, .slice none 0 0] 24 (0, 0)))
  go_enter Tryz.func17, Tryz.ntmps17
  go_wp2_with fail
  generalize ((w.alloc (.cells #[.int .i64 3, .slice A l.length cap] 24 (0, 0))).alloc (.cells #[.int .i64 1] 3 (0, 0))).alloc (.cells #[.int .i64 0, .slice none 0 0] 24 (0, 0)) = W0 at HB0 BP BQ BR ⊢
  refine (picture_Check.calls k 3 A cap l 0 W0 (Kd.C_below HX.out HB0.out) hcap HK.out).mono ?_
  rintro e w1 ⟨rfl, hb⟩
  have HB1 := Aside0.mk (below_step HB0.out hb)
  have BP1 := Aside0.mk (blk_below BP.out hb)
  have BQ1 := Aside0.mk (blk_below BQ.out hb)
  have BR1 := Aside0.mk (blk_below BR.out hb)
  clear hb HB0 BP BQ BR
  have h0 : w1.cell? ⟨w.heap.size, 0, none⟩ = some (.int .i64 3) := (blk_cell BP1.out 0).trans rfl
  have h3 : w1.cell? ⟨w.heap.size + 1, 0, none⟩ = some (.int .i64 1) := (blk_cell BQ1.out 0).trans rfl
  go_wp2_with fail
  refine (HZ.out w1).mono ?_
  rintro e w2 ⟨z0, z1, z2, rfl, _, hb⟩
  have HB2 := Aside0.mk (below_step HB1.out hb)
  have BP2 := Aside0.mk (blk_below BP1.out hb)
  have BQ2 := Aside0.mk (blk_below BQ1.out hb)
  have BR2 := Aside0.mk (blk_below BR1.out hb)
  clear hb HB1 BP1 BQ1 BR1 h0 h3
  have h0 : w2.cell? ⟨w.heap.size, 0, none⟩ = some (.int .i64 3) := (blk_cell BP2.out 0).trans rfl
  have h1 : w2.cell? ⟨w.heap.size, 1, none⟩ = some (.slice A l.length cap) := (blk_cell BP2.out 1).trans rfl
  have h3 : w2.cell? ⟨w.heap.size + 1, 0, none⟩ = some (.int .i64 1) := (blk_cell BQ2.out 0).trans rfl
  go_wp2_with fail
  refine (triples_any w2 k 3 A cap l n w.heap.size (w.heap.size + 1) Pre R (Kd.C_below HX.out HB2.out) hcap HK.out HS.out H3.out HN.out HP.out (fun V hV j a b c hp => conv38 3 1 a b c _ (HF.out j a b c hp) _ _ A l.length cap V (blk_below BP2.out hV) (blk_below BQ2.out hV))).mono ?_
  rintro e w3 ⟨A', c', L, rfl, hC, hSt, hb⟩
  have HB3 := Aside0.mk (below_step HB2.out hb)
  have BR3 := Aside0.mk (blk_below BR2.out hb)
  have BQ3 := Aside0.mk (blk_below BQ2.out hb)
  have HC3 := Aside0.mk hC
  have HST := Aside0.mk hSt
  clear hb hC hSt HB2 BP2 BQ2 BR2 h0 h1 h3
  have h3 : (w3.alloc (.cells #[.int .i64 3, .slice A' l.length c'] 24 (0, 0))).cell? ⟨w.heap.size + 1, 0, none⟩ = some (.int .i64 1) := (blk_cell (blk_alloc BQ3.out (.cells #[.int .i64 3, .slice A' l.length c'] 24 (0, 0))) 0).trans rfl
  have BR4 := Aside0.mk (blk_alloc BR3.out (.cells #[.int .i64 1, .slice A' l.length c'] 24 (0, 0)))
  have hr0 : (w3.alloc (.cells #[.int .i64 1, .slice A' l.length c'] 24 (0, 0))).cell? ⟨w.heap.size + 1 + 1, 0, none⟩ = some (.int .i64 0) := (blk_cell BR4.out 0).trans rfl
  have hr1 : (w3.alloc (.cells #[.int .i64 1, .slice A' l.length c'] 24 (0, 0))).cell? ⟨w.heap.size + 1 + 1, 1, none⟩ = some (.slice none 0 0) := (blk_cell BR4.out 1).trans rfl
  have hf0 := blk_frozen BR4.out 0
  have hf1 := blk_frozen BR4.out 1
  have HB4 := Aside0.mk (below_alloc HB3.out (.cells #[.int .i64 1, .slice A' l.length c'] 24 (0, 0)))
  have HC4 := Aside0.mk (Kd.S_alloc HC3.out (.cells #[.int .i64 1, .slice A' l.length c'] 24 (0, 0)))
  go_wp2
  have hp := blk_put (blk_put BR4.out 0 (.int .i64 1) rfl) 1 (.slice A' l.length c') rfl
  try simp only [Exit.inBlock, Exit.then]
  refine bodyPost_ret (results_cell_tmp rfl _ _ (w.heap.size + 1 + 1) 24 #[.int .i64 1, .slice A' l.length c'] (0, 0) _ _ rfl rfl hp Tryz.underlying24 (by kernel_rfl)) rfl ⟨A', c', L, rfl, ?_, ?_, HST.out, ?_⟩
  · exact (Kd.S_reads' HC4.out).2.1
  · have hs1 := Kd.S_set HC4.out BR4.out (by decide) 0 (.int .i64 1)
    exact (Kd.S_reads' (Kd.S_set hs1 (blk_put BR4.out 0 (.int .i64 1) rfl) (by decide) 1 (.slice A' l.length c'))).2.2
  · exact below_set (below_set HB4.out (by omega)) (by omega)
end Go.Proofs.YtimghiiihjphiaaGreat.trips
