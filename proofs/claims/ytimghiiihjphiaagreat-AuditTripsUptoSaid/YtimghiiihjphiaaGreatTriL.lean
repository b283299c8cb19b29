/- A part of the proof: three samples brought to another space, by the program's own text. Condition: what the space's own functions do is known. -/
import Derived.Test.YtimghiiihjphiaaGreatTriH
import Derived.Test.YtimghiiihjphiaaGreatTriJ
import Derived.BigQuiet
namespace Go.Proofs.YtimghiiihjphiaaGreat.trips
open Go.RowKit Go.Proofs.YtimghiiihjphiaaGreatW.PrintWords Go.Proofs.YtimghiiihjphiaaGreat.PTri
set_option linter.unusedVariables false
set_option linter.unusedSimpArgs false

theorem results_tmp4 {fn : Func} {t u v x : Tmp} (h : fn.results = #[.tmp t, .tmp u, .tmp v, .tmp x]) (tmps : Array Value) (P : Program) (w : World) :
    (results fn tmps).run P w = .ok (.tuple #[tmps.getD t undef, tmps.getD u undef, tmps.getD v undef, tmps.getD x undef]) w := by
  simp [results, h]
theorem field134_1 (u v : Value) (w : World) : (Instr.field 134 (.agg #[u, v]) 1).run Tryz.prog w = .ok v w := by
  have h := Tryz.underlying134
  have h2 := Tryz.underlying132
  simp [Instr.field, part, Sem.run_bind, run_underlying h, isAgg, run_underlying h2, asAgg]
theorem field134_0 (u v : Value) (w : World) : (Instr.field 134 (.agg #[u, v]) 0).run Tryz.prog w = .ok u w := by
  have h := Tryz.underlying134
  have h2 := Tryz.underlying132
  simp [Instr.field, part, Sem.run_bind, run_underlying h, isAgg, run_underlying h2, asAgg]
theorem ways1x (w : World) : Calls Tryz.prog 58 #[.int .i64 1] w fun e w' => e = .returned (.agg #[.func (.func 93) #[] #[], .func (.func 93) #[] #[]]) ∧ Below w.heap.size w w' := ways1 w
theorem ways4x (w : World) : Calls Tryz.prog 58 #[.int .i64 4] w fun e w' => ∃ x y : Nat, e = .returned (.agg #[.func (.func 133) #[] #[.pointer (some ⟨x, 0, none⟩)], .func (.func 133) #[] #[.pointer (some ⟨y, 0, none⟩)]]) ∧ w'.heap[x]? = some (.cells #[fnV 91] 85 (0, 0)) ∧ w'.heap[y]? = some (.cells #[fnV 92] 85 (0, 0)) ∧ Below w.heap.size w w' := ways4 w
theorem ways3x (w : World) : Calls Tryz.prog 58 #[.int .i64 3] w fun e w' => ∃ x y : Nat, e = .returned (.agg #[.func (.func 136) #[] #[.pointer (some ⟨x, 0, none⟩)], .func (.func 136) #[] #[.pointer (some ⟨y, 0, none⟩)]]) ∧ w'.heap[x]? = some (.cells #[fnV 89] 89 (0, 0)) ∧ w'.heap[y]? = some (.cells #[fnV 90] 89 (0, 0)) ∧ Below w.heap.size w w' := ways3 w

set_option maxHeartbeats 1600000 in
set_option maxRecDepth 100000 in
theorem conv_same0 (a b c : Int) (w : World) :
    Calls Tryz.prog 33 #[.int .i64 0, .int .i64 0, .int .u32 a, .int .u32 b, .int .u32 c] w fun e w' => e = .returned (.tuple #[.int .u32 a, .int .u32 b, .int .u32 c, .int .i64 0]) ∧ Below w.heap.size w w' := by
  have HB0 := Aside0.mk (Below.refl w.heap.size w)
  go_enter Tryz.func33, Tryz.ntmps33
  go_wp2_with fail
  refine (is_any 0 (by omega) (by omega) _).mono ?_
  rintro e w1 ⟨rfl, hd⟩
  have HB1 := Aside0.mk (below_step HB0.out hd.below)
  clear hd HB0
  go_wp2_with fail
  refine (is_any 0 (by omega) (by omega) _).mono ?_
  rintro e w2 ⟨rfl, hd⟩
  have HB2 := Aside0.mk (below_step HB1.out hd.below)
  clear hd HB1
  go_wp2
  try simp only [Exit.inBlock, Exit.then]
  refine bodyPost_ret (results_tmp4 rfl _ _ _) rfl ⟨rfl, HB2.out⟩


set_option maxHeartbeats 1600000 in
set_option maxRecDepth 100000 in
theorem conv_same1 (a b c : Int) (w : World) :
    Calls Tryz.prog 33 #[.int .i64 1, .int .i64 1, .int .u32 a, .int .u32 b, .int .u32 c] w fun e w' => e = .returned (.tuple #[.int .u32 a, .int .u32 b, .int .u32 c, .int .i64 0]) ∧ Below w.heap.size w w' := by
  have HB0 := Aside0.mk (Below.refl w.heap.size w)
  go_enter Tryz.func33, Tryz.ntmps33
  go_wp2_with fail
  refine (is_any 1 (by omega) (by omega) _).mono ?_
  rintro e w1 ⟨rfl, hd⟩
  have HB1 := Aside0.mk (below_step HB0.out hd.below)
  clear hd HB0
  go_wp2_with fail
  refine (is_any 1 (by omega) (by omega) _).mono ?_
  rintro e w2 ⟨rfl, hd⟩
  have HB2 := Aside0.mk (below_step HB1.out hd.below)
  clear hd HB1
  go_wp2
  try simp only [Exit.inBlock, Exit.then]
  refine bodyPost_ret (results_tmp4 rfl _ _ _) rfl ⟨rfl, HB2.out⟩


set_option maxHeartbeats 1600000 in
set_option maxRecDepth 100000 in
theorem conv_same2 (a b c : Int) (w : World) :
    Calls Tryz.prog 33 #[.int .i64 2, .int .i64 2, .int .u32 a, .int .u32 b, .int .u32 c] w fun e w' => e = .returned (.tuple #[.int .u32 a, .int .u32 b, .int .u32 c, .int .i64 0]) ∧ Below w.heap.size w w' := by
  have HB0 := Aside0.mk (Below.refl w.heap.size w)
  go_enter Tryz.func33, Tryz.ntmps33
  go_wp2_with fail
  refine (is_any 2 (by omega) (by omega) _).mono ?_
  rintro e w1 ⟨rfl, hd⟩
  have HB1 := Aside0.mk (below_step HB0.out hd.below)
  clear hd HB0
  go_wp2_with fail
  refine (is_any 2 (by omega) (by omega) _).mono ?_
  rintro e w2 ⟨rfl, hd⟩
  have HB2 := Aside0.mk (below_step HB1.out hd.below)
  clear hd HB1
  go_wp2
  try simp only [Exit.inBlock, Exit.then]
  refine bodyPost_ret (results_tmp4 rfl _ _ _) rfl ⟨rfl, HB2.out⟩


set_option maxHeartbeats 1600000 in
set_option maxRecDepth 100000 in
theorem conv_same3 (a b c : Int) (w : World) :
    Calls Tryz.prog 33 #[.int .i64 3, .int .i64 3, .int .u32 a, .int .u32 b, .int .u32 c] w fun e w' => e = .returned (.tuple #[.int .u32 a, .int .u32 b, .int .u32 c, .int .i64 0]) ∧ Below w.heap.size w w' := by
  have HB0 := Aside0.mk (Below.refl w.heap.size w)
  go_enter Tryz.func33, Tryz.ntmps33
  go_wp2_with fail
  refine (is_any 3 (by omega) (by omega) _).mono ?_
  rintro e w1 ⟨rfl, hd⟩
  have HB1 := Aside0.mk (below_step HB0.out hd.below)
  clear hd HB0
  go_wp2_with fail
  refine (is_any 3 (by omega) (by omega) _).mono ?_
  rintro e w2 ⟨rfl, hd⟩
  have HB2 := Aside0.mk (below_step HB1.out hd.below)
  clear hd HB1
  go_wp2
  try simp only [Exit.inBlock, Exit.then]
  refine bodyPost_ret (results_tmp4 rfl _ _ _) rfl ⟨rfl, HB2.out⟩


set_option maxHeartbeats 1600000 in
set_option maxRecDepth 100000 in
theorem conv_same4 (a b c : Int) (w : World) :
    Calls Tryz.prog 33 #[.int .i64 4, .int .i64 4, .int .u32 a, .int .u32 b, .int .u32 c] w fun e w' => e = .returned (.tuple #[.int .u32 a, .int .u32 b, .int .u32 c, .int .i64 0]) ∧ Below w.heap.size w w' := by
  have HB0 := Aside0.mk (Below.refl w.heap.size w)
  go_enter Tryz.func33, Tryz.ntmps33
  go_wp2_with fail
  refine (is_any 4 (by omega) (by omega) _).mono ?_
  rintro e w1 ⟨rfl, hd⟩
  have HB1 := Aside0.mk (below_step HB0.out hd.below)
  clear hd HB0
  go_wp2_with fail
  refine (is_any 4 (by omega) (by omega) _).mono ?_
  rintro e w2 ⟨rfl, hd⟩
  have HB2 := Aside0.mk (below_step HB1.out hd.below)
  clear hd HB1
  go_wp2
  try simp only [Exit.inBlock, Exit.then]
  refine bodyPost_ret (results_tmp4 rfl _ _ _) rfl ⟨rfl, HB2.out⟩

set_option maxHeartbeats 1600000 in
set_option maxRecDepth 100000 in
theorem conv_14 (a b c : Int) (R : Int → Int → Int → Prop) (hf : Three 92 a b c R) (w : World) :
    Calls Tryz.prog 33 #[.int .i64 1, .int .i64 4, .int .u32 a, .int .u32 b, .int .u32 c] w fun e w' => ∃ x y z : Int, e = .returned (.tuple #[.int .u32 x, .int .u32 y, .int .u32 z, .int .i64 0]) ∧ R x y z ∧ Below w.heap.size w w' := by
  have HB0 := Aside0.mk (Below.refl w.heap.size w)
  have HF := Aside0.mk hf
  clear hf
  have hf0 := field134_0
  have hf1 := field134_1
  go_enter Tryz.func33, Tryz.ntmps33
  go_wp2_with fail
  refine (is_any 1 (by omega) (by omega) _).mono ?_
  rintro e w1 ⟨rfl, hd⟩
  have HB1 := Aside0.mk (below_step HB0.out hd.below)
  clear hd HB0
  go_wp2_with fail
  refine (is_any 4 (by omega) (by omega) _).mono ?_
  rintro e w2 ⟨rfl, hd⟩
  have HB2 := Aside0.mk (below_step HB1.out hd.below)
  clear hd HB1
  go_wp2_with fail
  refine (ways4x _).mono ?_
  rintro e w3 ⟨px, py, rfl, hx, hy, hb⟩
  have HX := Aside0.mk hx
  have HY := Aside0.mk hy
  have HB3 := Aside0.mk (below_step HB2.out hb)
  clear hb hx hy HB2
  go_wp2_with fail
  refine (ways1x _).mono ?_
  rintro e w4 ⟨rfl, hb⟩
  have HB4 := Aside0.mk (below_step HB3.out hb)
  have HY4 := Aside0.mk (blk_below HY.out hb)
  clear hb HB3 HX HY
  go_wp2_with fail
  refine (same_any a b c _).mono ?_
  rintro e w5 ⟨rfl, hb⟩
  have HB5 := Aside0.mk (below_step HB4.out hb)
  have HY5 := Aside0.mk (blk_below HY4.out hb)
  clear hb HB4 HY4
  go_wp2_with fail
  refine (of1_92 a b c R HF.out py _ HY5.out).mono ?_
  rintro e w6 ⟨⟨x, y, z, rfl, hr⟩, hb⟩
  have HR := Aside0.mk hr
  have HB6 := Aside0.mk (below_step HB5.out hb)
  clear hb hr HB5 HY5
  go_wp2_with (go_quiet (fail))
  try simp only [Exit.inBlock, Exit.then]
  refine bodyPost_ret (results_tmp4 rfl _ _ _) rfl ⟨x, y, z, rfl, HR.out, ?_⟩
  first | exact pw_below_drewN (below_alloc HB6.out _) _ | exact below_alloc HB6.out _ | exact below_drew1 (below_alloc HB6.out _)

set_option maxHeartbeats 1600000 in
set_option maxRecDepth 100000 in
theorem conv_41 (a b c : Int) (R : Int → Int → Int → Prop) (hf : Three 91 a b c R) (w : World) :
    Calls Tryz.prog 33 #[.int .i64 4, .int .i64 1, .int .u32 a, .int .u32 b, .int .u32 c] w fun e w' => ∃ x y z : Int, e = .returned (.tuple #[.int .u32 x, .int .u32 y, .int .u32 z, .int .i64 0]) ∧ R x y z ∧ Below w.heap.size w w' := by
  have HB0 := Aside0.mk (Below.refl w.heap.size w)
  have HF := Aside0.mk hf
  clear hf
  have hf0 := field134_0
  have hf1 := field134_1
  go_enter Tryz.func33, Tryz.ntmps33
  go_wp2_with fail
  refine (is_any 4 (by omega) (by omega) _).mono ?_
  rintro e w1 ⟨rfl, hd⟩
  have HB1 := Aside0.mk (below_step HB0.out hd.below)
  clear hd HB0
  go_wp2_with fail
  refine (is_any 1 (by omega) (by omega) _).mono ?_
  rintro e w2 ⟨rfl, hd⟩
  have HB2 := Aside0.mk (below_step HB1.out hd.below)
  clear hd HB1
  go_wp2_with fail
  refine (ways1x _).mono ?_
  rintro e w3 ⟨rfl, hb⟩
  have HB3 := Aside0.mk (below_step HB2.out hb)
  clear hb HB2
  go_wp2_with fail
  refine (ways4x _).mono ?_
  rintro e w4 ⟨px, py, rfl, hx, hy, hb⟩
  have HX := Aside0.mk hx
  have HY := Aside0.mk hy
  have HB4 := Aside0.mk (below_step HB3.out hb)
  clear hb hx hy HB3
  go_wp2_with fail
  refine (of1_91 a b c R HF.out px _ HX.out).mono ?_
  rintro e w5 ⟨⟨x, y, z, rfl, hr⟩, hb⟩
  have HR := Aside0.mk hr
  have HB5 := Aside0.mk (below_step HB4.out hb)
  clear hb hr HB4 HX HY
  go_wp2_with fail
  refine (same_any x y z _).mono ?_
  rintro e w6 ⟨rfl, hb⟩
  have HB6 := Aside0.mk (below_step HB5.out hb)
  clear hb HB5
  go_wp2_with (go_quiet (fail))
  try simp only [Exit.inBlock, Exit.then]
  refine bodyPost_ret (results_tmp4 rfl _ _ _) rfl ⟨x, y, z, rfl, HR.out, ?_⟩
  first | exact pw_below_drewN (below_alloc HB6.out _) _ | exact below_alloc HB6.out _ | exact below_drew1 (below_alloc HB6.out _)

set_option maxHeartbeats 1600000 in
set_option maxRecDepth 100000 in
theorem conv_13 (a b c : Int) (Ra Rb Rc : Int → Prop) (ha : One 90 a Ra) (hb : One 90 b Rb) (hc : One 90 c Rc) (w : World) :
    Calls Tryz.prog 33 #[.int .i64 1, .int .i64 3, .int .u32 a, .int .u32 b, .int .u32 c] w fun e w' => ∃ x y z : Int, e = .returned (.tuple #[.int .u32 x, .int .u32 y, .int .u32 z, .int .i64 0]) ∧ (Ra x ∧ Rb y ∧ Rc z) ∧ Below w.heap.size w w' := by
  have HB0 := Aside0.mk (Below.refl w.heap.size w)
  have HA := Aside0.mk ha
  have HBb := Aside0.mk hb
  have HC := Aside0.mk hc
  clear ha hb hc
  have hf0 := field134_0
  have hf1 := field134_1
  go_enter Tryz.func33, Tryz.ntmps33
  go_wp2_with fail
  refine (is_any 1 (by omega) (by omega) _).mono ?_
  rintro e w1 ⟨rfl, hd⟩
  have HB1 := Aside0.mk (below_step HB0.out hd.below)
  clear hd HB0
  go_wp2_with fail
  refine (is_any 3 (by omega) (by omega) _).mono ?_
  rintro e w2 ⟨rfl, hd⟩
  have HB2 := Aside0.mk (below_step HB1.out hd.below)
  clear hd HB1
  go_wp2_with fail
  refine (ways3x _).mono ?_
  rintro e w3 ⟨px, py, rfl, hx, hy, hb⟩
  have HX := Aside0.mk hx
  have HY := Aside0.mk hy
  have HB3 := Aside0.mk (below_step HB2.out hb)
  clear hb hx hy HB2
  go_wp2_with fail
  refine (ways1x _).mono ?_
  rintro e w4 ⟨rfl, hb⟩
  have HB4 := Aside0.mk (below_step HB3.out hb)
  have HY4 := Aside0.mk (blk_below HY.out hb)
  clear hb HB3 HX HY
  go_wp2_with fail
  refine (same_any a b c _).mono ?_
  rintro e w5 ⟨rfl, hb⟩
  have HB5 := Aside0.mk (below_step HB4.out hb)
  have HY5 := Aside0.mk (blk_below HY4.out hb)
  clear hb HB4 HY4
  go_wp2_with fail
  refine (each1_90 a b c Ra Rb Rc HA.out HBb.out HC.out py _ HY5.out).mono ?_
  rintro e w6 ⟨⟨x, y, z, rfl, hr⟩, hb⟩
  have HR := Aside0.mk hr
  have HB6 := Aside0.mk (below_step HB5.out hb)
  clear hb hr HB5 HY5
  go_wp2_with (go_quiet (fail))
  try simp only [Exit.inBlock, Exit.then]
  refine bodyPost_ret (results_tmp4 rfl _ _ _) rfl ⟨x, y, z, rfl, HR.out, ?_⟩
  first | exact pw_below_drewN (below_alloc HB6.out _) _ | exact below_alloc HB6.out _ | exact below_drew1 (below_alloc HB6.out _)

set_option maxHeartbeats 1600000 in
set_option maxRecDepth 100000 in
theorem conv_31 (a b c : Int) (Ra Rb Rc : Int → Prop) (ha : One 89 a Ra) (hb : One 89 b Rb) (hc : One 89 c Rc) (w : World) :
    Calls Tryz.prog 33 #[.int .i64 3, .int .i64 1, .int .u32 a, .int .u32 b, .int .u32 c] w fun e w' => ∃ x y z : Int, e = .returned (.tuple #[.int .u32 x, .int .u32 y, .int .u32 z, .int .i64 0]) ∧ (Ra x ∧ Rb y ∧ Rc z) ∧ Below w.heap.size w w' := by
  have HB0 := Aside0.mk (Below.refl w.heap.size w)
  have HA := Aside0.mk ha
  have HBb := Aside0.mk hb
  have HC := Aside0.mk hc
  clear ha hb hc
  have hf0 := field134_0
  have hf1 := field134_1
  go_enter Tryz.func33, Tryz.ntmps33
  go_wp2_with fail
  refine (is_any 3 (by omega) (by omega) _).mono ?_
  rintro e w1 ⟨rfl, hd⟩
  have HB1 := Aside0.mk (below_step HB0.out hd.below)
  clear hd HB0
  go_wp2_with fail
  refine (is_any 1 (by omega) (by omega) _).mono ?_
  rintro e w2 ⟨rfl, hd⟩
  have HB2 := Aside0.mk (below_step HB1.out hd.below)
  clear hd HB1
  go_wp2_with fail
  refine (ways1x _).mono ?_
  rintro e w3 ⟨rfl, hb⟩
  have HB3 := Aside0.mk (below_step HB2.out hb)
  clear hb HB2
  go_wp2_with fail
  refine (ways3x _).mono ?_
  rintro e w4 ⟨px, py, rfl, hx, hy, hb⟩
  have HX := Aside0.mk hx
  have HY := Aside0.mk hy
  have HB4 := Aside0.mk (below_step HB3.out hb)
  clear hb hx hy HB3
  go_wp2_with fail
  refine (each1_89 a b c Ra Rb Rc HA.out HBb.out HC.out px _ HX.out).mono ?_
  rintro e w5 ⟨⟨x, y, z, rfl, hr⟩, hb⟩
  have HR := Aside0.mk hr
  have HB5 := Aside0.mk (below_step HB4.out hb)
  clear hb hr HB4 HX HY
  go_wp2_with fail
  refine (same_any x y z _).mono ?_
  rintro e w6 ⟨rfl, hb⟩
  have HB6 := Aside0.mk (below_step HB5.out hb)
  clear hb HB5
  go_wp2_with (go_quiet (fail))
  try simp only [Exit.inBlock, Exit.then]
  refine bodyPost_ret (results_tmp4 rfl _ _ _) rfl ⟨x, y, z, rfl, HR.out, ?_⟩
  first | exact pw_below_drewN (below_alloc HB6.out _) _ | exact below_alloc HB6.out _ | exact below_drew1 (below_alloc HB6.out _)

end Go.Proofs.YtimghiiihjphiaaGreat.trips
