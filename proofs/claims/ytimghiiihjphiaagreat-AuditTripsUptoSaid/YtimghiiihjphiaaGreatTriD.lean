/- A part of the proof: a picture copied, plane by plane, by the program's own text. Condition: the check of the picture is known. -/
import Derived.Test.YtimghiiihjphiaaGreatTriC
namespace Go.Proofs.YtimghiiihjphiaaGreat.trips
open Go.RowKit Go.Proofs.YtimghiiihjphiaaGreatW.PrintWords Go.Proofs.YtimghiiihjphiaaGreat.PTri
set_option linter.unusedVariables false
set_option linter.unusedSimpArgs false

theorem results_cell_tmp {P : Program} {fn : Func} {p q : Tmp} {ty : TypeId} (h : fn.results = #[.cell p ty, .tmp q]) (tmps : Array Value) (w : World) (g : Nat) (t : TypeId) (cs : Array Value) (fr : Nat × Nat) (fs : _) (v : Value)
    (hp : tmps.getD p undef = .pointer (some ⟨g, 0, none⟩)) (hq : tmps.getD q undef = v) (hg : w.heap[g]? = some (.cells cs t fr))
    (hu : P.underlying ty = some (.struct fs)) (hi : (P.info? ty).map (·.size) = some cs.size) :
    (results fn tmps).run P w = .ok (.tuple #[.agg cs, v]) w := by
  have hp' : tmps[p]?.getD undef = .pointer (some ⟨g, 0, none⟩) := by simpa using hp
  have hq' : tmps[q]?.getD undef = v := by simpa using hq
  have hl : (loadVar ty ⟨g, 0, none⟩).run P w = .ok (.agg cs) w := run_loadVar_row w g t ty cs fr _ hg hu rfl hi
  simp [results, h, hp', hq', asAddr, hl]

set_option maxHeartbeats 800000 in
theorem copier35 : Copier 35 := by
  intro W i a b A cap xs hx hc hp hn
  have HX := Aside0.mk hx
  clear hx
  go_enter Tryz.func35, Tryz.ntmps35
  go_wp2_with fail
  have HB := Aside0.mk (below_alloc (below_alloc (Below.refl W.heap.size W) (.cells #[.int .i64 a, .int .i64 b, .slice A xs.length cap] 37 (0, 0))) (.cells #[.int .i64 0, .int .i64 0, .slice none 0 0] 37 (0, 0)))
  have BK := Aside0.mk (blk_new (W.alloc (.cells #[.int .i64 a, .int .i64 b, .slice A xs.length cap] 37 (0, 0))) (.cells #[.int .i64 0, .int .i64 0, .slice none 0 0] 37 (0, 0)))
  rw [show (W.alloc (.cells #[.int .i64 a, .int .i64 b, .slice A xs.length cap] 37 (0, 0))).heap.size = W.heap.size + 1 by simp] at BK
  refine (copy_any _ a b A cap xs (Kd.C_below HX.out HB.out) hc hp hn).mono ?_
  rintro e w1 ⟨v, rfl, ho, hb⟩
  obtain ⟨A', c', rfl⟩ := Kd.R_slice ho
  have HO := Aside0.mk (Kd.R_lower ho HB.out.size)
  have HB1 := Aside0.mk (below_step HB.out hb)
  have BK1 := Aside0.mk (blk_below BK.out hb)
  have h0 := (blk_cell BK1.out 0).trans rfl
  have h1 := (blk_cell BK1.out 1).trans rfl
  have h2 := (blk_cell BK1.out 2).trans rfl
  have f0 := blk_frozen BK1.out 0
  have f1 := blk_frozen BK1.out 1
  have f2 := blk_frozen BK1.out 2
  simp at h0 h1 h2
  clear ho hb HB BK
  go_wp2
  have hp := blk_put (blk_put (blk_put BK1.out 0 (.int .i64 a) rfl) 1 (.int .i64 b) rfl) 2 (.slice A' xs.length c') rfl
  have g1 := Kd.R_set HO.out BK1.out (by decide) 0 (.int .i64 a)
  have g2 := Kd.R_set g1 (blk_put BK1.out 0 (.int .i64 a) rfl) (by decide) 1 (.int .i64 b)
  refine bodyPost_ret (results_cell_tmp rfl _ _ (W.heap.size + 1) 37 #[.int .i64 a, .int .i64 b, .slice A' xs.length c'] (0, 0) _ _ rfl rfl hp Tryz.underlying37 (by kernel_rfl)) rfl ⟨_, rfl, ?_, ?_⟩
  · exact Kd.R_set g2 (blk_put (blk_put BK1.out 0 (.int .i64 a) rfl) 1 (.int .i64 b) rfl) (by decide) 2 _
  · exact below_set (below_set (below_set HB1.out (by omega)) (by omega)) (by omega)

set_option maxHeartbeats 800000 in
theorem copier60 : Copier 60 := by
  intro W i a b A cap xs hx hc hp hn
  have HX := Aside0.mk hx
  clear hx
  go_enter Tryz.func60, Tryz.ntmps60
  go_wp2_with fail
  have HB := Aside0.mk (below_alloc (below_alloc (Below.refl W.heap.size W) (.cells #[.int .i64 a, .int .i64 b, .slice A xs.length cap] 37 (0, 0))) (.cells #[.int .i64 0, .int .i64 0, .slice none 0 0] 37 (0, 0)))
  have BK := Aside0.mk (blk_new (W.alloc (.cells #[.int .i64 a, .int .i64 b, .slice A xs.length cap] 37 (0, 0))) (.cells #[.int .i64 0, .int .i64 0, .slice none 0 0] 37 (0, 0)))
  rw [show (W.alloc (.cells #[.int .i64 a, .int .i64 b, .slice A xs.length cap] 37 (0, 0))).heap.size = W.heap.size + 1 by simp] at BK
  refine (copy_any _ a b A cap xs (Kd.C_below HX.out HB.out) hc hp hn).mono ?_
  rintro e w1 ⟨v, rfl, ho, hb⟩
  obtain ⟨A', c', rfl⟩ := Kd.R_slice ho
  have HO := Aside0.mk (Kd.R_lower ho HB.out.size)
  have HB1 := Aside0.mk (below_step HB.out hb)
  have BK1 := Aside0.mk (blk_below BK.out hb)
  have h0 := (blk_cell BK1.out 0).trans rfl
  have h1 := (blk_cell BK1.out 1).trans rfl
  have h2 := (blk_cell BK1.out 2).trans rfl
  have f0 := blk_frozen BK1.out 0
  have f1 := blk_frozen BK1.out 1
  have f2 := blk_frozen BK1.out 2
  simp at h0 h1 h2
  clear ho hb HB BK
  go_wp2
  have hp := blk_put (blk_put (blk_put BK1.out 0 (.int .i64 a) rfl) 1 (.int .i64 b) rfl) 2 (.slice A' xs.length c') rfl
  have g1 := Kd.R_set HO.out BK1.out (by decide) 0 (.int .i64 a)
  have g2 := Kd.R_set g1 (blk_put BK1.out 0 (.int .i64 a) rfl) (by decide) 1 (.int .i64 b)
  refine bodyPost_ret (results_cell_tmp rfl _ _ (W.heap.size + 1) 37 #[.int .i64 a, .int .i64 b, .slice A' xs.length c'] (0, 0) _ _ rfl rfl hp Tryz.underlying37 (by kernel_rfl)) rfl ⟨_, rfl, ?_, ?_⟩
  · exact Kd.R_set g2 (blk_put (blk_put BK1.out 0 (.int .i64 a) rfl) 1 (.int .i64 b) rfl) (by decide) 2 _
  · exact below_set (below_set (below_set HB1.out (by omega)) (by omega)) (by omega)

theorem info37 : (Tryz.prog.info? 37).map (fun i => (i.zero, i.size, i.bytes)) = some (some (.agg #[(.int .i64 0), (.int .i64 0), (.slice none 0 0)]), 3, 40) := by kernel_rfl
theorem take_rd (l : List S37) (k : Nat) (h : k < l.length) : l.take k ++ [rd_T37 l k] = l.take (k + 1) := by
  rw [List.take_add_one]
  simp [rd_T37, List.getD_eq_getElem?_getD, h]

/-- the planes, not too few, not too many, and their samples -/
structure Sized (l : List S37) : Prop where
  few : l.length ≤ 4
  pos : ∀ j : Nat, j < l.length → 0 < (rd_T37 l j).f2.length
  small : ∀ j : Nat, j < l.length → (rd_T37 l j).f2.length ≤ 65536


set_option maxHeartbeats 4000000 in
set_option maxRecDepth 100000 in
theorem every_35 (w : World) (k : Nat) (sp : Int) (A : Option Addr) (cap : Nat) (l : List S37) (hr : Kd.C k37 w A l.length l) (hcap : l.length ≤ cap) (hck : picture_Check.f k sp l = some 0) (hs : Sized l) :
    Calls Tryz.prog 34 #[.agg #[.int .i64 sp, .slice A l.length cap], fnV 35] w fun e w' => ∃ A' c', e = .returned (.tuple #[.agg #[.int .i64 sp, .slice A' l.length c'], .int .i64 0]) ∧ Kd.S k37 37 w' w.heap.size (fun _ => True) (.slice A' l.length c') l ∧ Below w.heap.size w w' := by
  have HX := Aside0.mk hr
  have HS := Aside0.mk hs
  have HFW := hs.few
  have HK := Aside0.mk hck
  clear hr hs hck
  unfold fnV
  go_enter Tryz.func34, Tryz.ntmps34
  go_wp2_with fail
  have HB0 := Aside0.mk (below_alloc (below_alloc (Below.refl w.heap.size w) (.cells #[.int .i64 sp, .slice A l.length cap] 24 (0, 0))) (.cells #[.int .i64 0, .slice none 0 0] 24 (0, 0)))
  have BP := Aside0.mk (blk_alloc (blk_new w (.cells #[.int .i64 sp, .slice A l.length cap] 24 (0, 0))) (.cells #[.int .i64 0, .slice none 0 0] 24 (0, 0)))
  have BR := Aside0.mk (blk_new (w.alloc (.cells #[.int .i64 sp, .slice A l.length cap] 24 (0, 0))) (.cells #[.int .i64 0, .slice none 0 0] 24 (0, 0)))
  rw [show (w.alloc (.cells #[.int .i64 sp, .slice A l.length cap] 24 (0, 0))).heap.size = w.heap.size + 1 by simp] at BR
  refine (picture_Check.calls k sp A cap l 0 _ (Kd.C_below HX.out HB0.out) hcap HK.out).mono ?_
  rintro e w1 ⟨rfl, hb⟩
  have HB1 := Aside0.mk (below_step HB0.out hb)
  have BP1 := Aside0.mk (blk_below BP.out hb)
  have BR1 := Aside0.mk (blk_below BR.out hb)
  clear hb HB0 BP BR
  have h0 : w1.cell? ⟨w.heap.size, 0, none⟩ = some (.int .i64 sp) := (blk_cell BP1.out 0).trans rfl
  have h1 : (w1.alloc (.cells #[.int .i64 sp, .slice none 0 0] 24 (0, 0))).cell? ⟨w.heap.size, 1, none⟩ = some (.slice A l.length cap) := (blk_cell (blk_alloc BP1.out (.cells #[.int .i64 sp, .slice none 0 0] 24 (0, 0))) 1).trans rfl
  go_wp2
  have HG := Aside0.mk (blk_lt BR1.out : w.heap.size + 1 < w1.heap.size)
  have BR2 := Aside0.mk (blk_alloc BR1.out (.cells #[.int .i64 sp, .slice none 0 0] 24 (0, 0)))
  have BO := Aside0.mk (blk_new w1 (.cells #[.int .i64 sp, .slice none 0 0] 24 (0, 0)))
  have HB2 := Aside0.mk (below_alloc HB1.out (.cells #[.int .i64 sp, .slice none 0 0] 24 (0, 0)))
  have HGE := Aside0.mk HB1.out.size
  generalize w1.heap.size = g at *
  generalize w1.alloc (.cells #[.int .i64 sp, .slice none 0 0] 24 (0, 0)) = W at *
  clear BP1 BR1 h0 h1 HB1
  go_loopw [24] (fun v24 wr => ∃ i : Nat, i ≤ l.length ∧ v24 = .int .i64 i ∧ Aside0 (Below w.heap.size w wr) ∧ Aside0 (wr.heap[w.heap.size + 1]? = some (.cells #[.int .i64 0, .slice none 0 0] 24 (0, 0))) ∧ Aside0 (∃ A' c', wr.heap[g]? = some (.cells #[.int .i64 sp, .slice A' i c'] 24 (0, 0)) ∧ Kd.S k37 37 wr w.heap.size (fun _ => True) (.slice A' i c') (l.take i))) (fun v24 _ => l.length - (intOf v24).toNat)
  case atStart => exact ⟨0, Nat.zero_le _, rfl, HB2, BR2, ⟨none, 0, BO.out, by rw [List.take_zero]; exact Kd.S_nil _ _ _ _ _⟩⟩
  case round =>
    obtain ⟨i, hi, rfl, RB, RR, RO⟩ := hrel
    clear HB2 BR2 BO
    by_cases hlt : i < l.length
    · have b1 : decide ((i : Int) < (l.length : Int)) = true := decide_eq_true (by omega)
      obtain ⟨ad, A2, c2, rfl, hw0, hw1, hw2, hl2, hc2⟩ := at_T37 HX.out i (by omega) (by omega)
      simp only [Int.toNat_natCast] at hw0 hw1 hw2
      replace hw0 := (RB.out.cell (World.block_lt_of_cell? w _ hw0)).trans hw0
      replace hw1 := (RB.out.cell (World.block_lt_of_cell? w _ hw1)).trans hw1
      replace hw2 := (RB.out.cell (World.block_lt_of_cell? w _ hw2)).trans hw2
      have p1 : (0 : Int) ≤ i := by omega
      have p2 : (i : Int) < (l.length : Int) := by omega
      have HP := Aside0.mk (copier35 (wr.alloc (.cells #[.int .i64 (rd_T37 l i).f0, .int .i64 (rd_T37 l i).f1, .slice A2 (rd_T37 l i).f2.length c2] 37 (0, 0))) i (rd_T37 l i).f0 (rd_T37 l i).f1 A2 c2 (rd_T37 l i).f2 (Kd.C_alloc (Kd.C_below hc2 RB.out) _) hl2 (HS.out.pos i hlt) (Nat.le_trans (HS.out.small i hlt) (by omega)))
      have HT := Aside0.mk (take_rd l i hlt)
      clear hl2 hc2
      have RB1 := Aside0.mk (below_alloc RB.out (.cells #[.int .i64 (rd_T37 l i).f0, .int .i64 (rd_T37 l i).f1, .slice A2 (rd_T37 l i).f2.length c2] 37 (0, 0)))
      have RR1 := Aside0.mk (blk_alloc RR.out (.cells #[.int .i64 (rd_T37 l i).f0, .int .i64 (rd_T37 l i).f1, .slice A2 (rd_T37 l i).f2.length c2] 37 (0, 0)))
      obtain ⟨A', c', hO, hS⟩ := RO.out
      have RO1 := Aside0.mk (blk_alloc hO (.cells #[.int .i64 (rd_T37 l i).f0, .int .i64 (rd_T37 l i).f1, .slice A2 (rd_T37 l i).f2.length c2] 37 (0, 0)))
      have RS1 := Aside0.mk (Kd.S_alloc hS (.cells #[.int .i64 (rd_T37 l i).f0, .int .i64 (rd_T37 l i).f1, .slice A2 (rd_T37 l i).f2.length c2] 37 (0, 0)))
      clear RO hO hS
      go_wp2_with fail
      generalize wr.alloc (.cells #[.int .i64 (rd_T37 l i).f0, .int .i64 (rd_T37 l i).f1, .slice A2 (rd_T37 l i).f2.length c2] 37 (0, 0)) = wa at HP RB1 RR1 RO1 RS1 ⊢
      refine HP.out.mono ?_
      rintro e w2 ⟨v, rfl, ho, hb⟩
      obtain ⟨Av, cv, rfl⟩ := Kd.R_slice ho
      have HV := Aside0.mk (Kd.R_lower (Kd.R_mono (ok' := fun k => wa.heap.size ≤ k) (Kd.R_bound ho) (fun k hk => hk.2.1)) RB1.out.size)
      have RS2 := Aside0.mk (Kd.S_mono (ok' := fun k => True ∧ ¬ wa.heap.size ≤ k) (Kd.S_old RS1.out hb) (fun k hk => ⟨trivial, Nat.not_le_of_lt hk.2⟩))
      have HOW := Aside0.mk (Kd.S_lt RS1.out)
      have RB2 := Aside0.mk (below_step RB1.out hb)
      have RR2 := Aside0.mk (blk_below RR1.out hb)
      have RO2 := Aside0.mk (blk_below RO1.out hb)
      have GA := Aside0.mk (hb.size : wa.heap.size ≤ w2.heap.size)
      clear ho hb HP RB RR RB1 RR1 RO1 RS1 hw0 hw1 hw2
      have HV3 := Aside0.mk (Kd.R_below HV.out (below_alloc (Below.refl w2.heap.size w2) (.cells #[.int .i64 (rd_T37 l i).f0, .int .i64 (rd_T37 l i).f1, .slice Av (rd_T37 l i).f2.length cv] 37 (0, 0))))
      have RS3 := Aside0.mk (Kd.S_alloc RS2.out (.cells #[.int .i64 (rd_T37 l i).f0, .int .i64 (rd_T37 l i).f1, .slice Av (rd_T37 l i).f2.length cv] 37 (0, 0)))
      have RB3 := Aside0.mk (below_alloc RB2.out (.cells #[.int .i64 (rd_T37 l i).f0, .int .i64 (rd_T37 l i).f1, .slice Av (rd_T37 l i).f2.length cv] 37 (0, 0)))
      have RR3 := Aside0.mk (blk_alloc RR2.out (.cells #[.int .i64 (rd_T37 l i).f0, .int .i64 (rd_T37 l i).f1, .slice Av (rd_T37 l i).f2.length cv] 37 (0, 0)))
      have RO3 := Aside0.mk (blk_alloc RO2.out (.cells #[.int .i64 (rd_T37 l i).f0, .int .i64 (rd_T37 l i).f1, .slice Av (rd_T37 l i).f2.length cv] 37 (0, 0)))
      have hg1 : (w2.alloc (.cells #[.int .i64 (rd_T37 l i).f0, .int .i64 (rd_T37 l i).f1, .slice Av (rd_T37 l i).f2.length cv] 37 (0, 0))).cell? ⟨g, 1, none⟩ = some (.slice A' i c') := (blk_cell RO3.out 1).trans rfl
      have hok2 : ∀ k : Nat, wa.heap.size ≤ k → (fun _ : Nat => True) k ∧ some k ≠ (Value.slice A' i c').ownBlock := fun k hk => ⟨trivial, fun e => Nat.lt_irrefl _ (Nat.lt_of_lt_of_le (HOW.out k e.symm) hk)⟩
      have hl1 : (l.take (i + 1)).length = i + 1 := by rw [List.length_take]; omega
      have hlen : ((l.take i).length + 1) * 40 ≤ 140737488355328 := by rw [List.length_take]; omega
      clear HV RS2 RB2 RR2 RO2
      have hsz := Aside0.mk (show w2.heap.size + 1 = (w2.alloc (.cells #[.int .i64 (rd_T37 l i).f0, .int .i64 (rd_T37 l i).f1, .slice Av (rd_T37 l i).f2.length cv] 37 (0, 0))).heap.size by simp)
      go_wp2_with (at_builtin; refine Kd.S_append k37 (w0 := w) w.heap.size rfl (.tmp 41) (.tmp 43) 22 37 (.agg #[.int .i64 0, .int .i64 0, .slice none 0 0]) 40 rfl Tryz.underlying22 info37 rfl (by decide) (by omega) (.slice A' i c') (l.take i) (rd_T37 l i) [.int .i64 (rd_T37 l i).f0, .int .i64 (rd_T37 l i).f1, .slice Av (rd_T37 l i).f2.length cv] (fun _ => True) (fun k => wa.heap.size ≤ k) rfl (congrArg (fun n => Value.slice (some ⟨n, 0, none⟩) 1 1) hsz.out) (k37_mkM _ _ _ _ HV3.out) hok2 (fun _ _ => trivial) RS3.out RB3.out RB3.out.size hlen ?_; rw [HT.out]; intro v1 w4 ho hb hg hat; obtain ⟨A4, c4, rfl⟩ := Kd.S_slice ho; rw [hl1] at ho; have RO4 := Aside0.mk ((hg.block g (blk_lt RO3.out) (Kd.S_ne RS3.out RO3.out (by decide))).trans RO3.out); have RR4 := Aside0.mk ((hg.block _ (blk_lt RR3.out) (Kd.S_ne RS3.out RR3.out (by decide))).trans RR3.out); have RS4 := Aside0.mk ho; have RB4 := Aside0.mk hb; have hgc := (blk_cell RO4.out 1).trans rfl; have hgf := blk_frozen RO4.out 1; rw [hl1]; clear ho hb hg hat RO3 RR3 RS3 RB3 HV3)
      go_roundw
      case rel => exact ⟨i + 1, by omega, by go_num, ⟨below_set RB4.out HGE.out⟩, ⟨(Below.heap_setCell w4 ⟨g, 1, none⟩ _ _ (by have := HG.out; show w.heap.size + 1 ≠ g; omega)).trans RR4.out⟩, ⟨A4, c4, blk_put RO4.out 1 (.slice A4 (i + 1) c4) rfl, Kd.S_set RS4.out RO4.out (by decide) 1 _⟩⟩
      case measure => simp [intOf]; omega
    · obtain rfl : i = l.length := by omega
      obtain ⟨A', c', hO, hS⟩ := RO.out
      rw [List.take_length] at hS
      have HS4 := Aside0.mk hS
      have HO4 := Aside0.mk hO
      have hg0 := (blk_cell hO 0).trans rfl
      have hg1 := (blk_cell hO 1).trans rfl
      have hr0 := (blk_cell RR.out 0).trans rfl
      have hr1 := (blk_cell RR.out 1).trans rfl
      have hf0 := blk_frozen RR.out 0
      have hf1 := blk_frozen RR.out 1
      simp at hg0 hg1 hr0 hr1
      clear hO hS RO
      go_wp2
      have hp := blk_put (blk_put RR.out 0 (.int .i64 sp) rfl) 1 (.slice A' l.length c') rfl
      have hs1 := Kd.S_set HS4.out RR.out (by decide) 0 (.int .i64 sp)
      have hs2 := Kd.S_set hs1 (blk_put RR.out 0 (.int .i64 sp) rfl) (by decide) 1 (.slice A' l.length c')
      try simp only [Exit.inBlock, Exit.then]
      refine bodyPost_ret (results_cell_tmp rfl _ _ (w.heap.size + 1) 24 #[.int .i64 sp, .slice A' l.length c'] (0, 0) _ _ rfl rfl hp Tryz.underlying24 (by kernel_rfl)) rfl ⟨A', c', rfl, hs2, ?_⟩
      exact below_set (below_set RB.out (by omega)) (by omega)

set_option maxHeartbeats 4000000 in
set_option maxRecDepth 100000 in
theorem every_60 (w : World) (k : Nat) (sp : Int) (A : Option Addr) (cap : Nat) (l : List S37) (hr : Kd.C k37 w A l.length l) (hcap : l.length ≤ cap) (hck : picture_Check.f k sp l = some 0) (hs : Sized l) :
    Calls Tryz.prog 34 #[.agg #[.int .i64 sp, .slice A l.length cap], fnV 60] w fun e w' => ∃ A' c', e = .returned (.tuple #[.agg #[.int .i64 sp, .slice A' l.length c'], .int .i64 0]) ∧ Kd.S k37 37 w' w.heap.size (fun _ => True) (.slice A' l.length c') l ∧ Below w.heap.size w w' := by
  have HX := Aside0.mk hr
  have HS := Aside0.mk hs
  have HFW := hs.few
  have HK := Aside0.mk hck
  clear hr hs hck
  unfold fnV
  go_enter Tryz.func34, Tryz.ntmps34
  go_wp2_with fail
  have HB0 := Aside0.mk (below_alloc (below_alloc (Below.refl w.heap.size w) (.cells #[.int .i64 sp, .slice A l.length cap] 24 (0, 0))) (.cells #[.int .i64 0, .slice none 0 0] 24 (0, 0)))
  have BP := Aside0.mk (blk_alloc (blk_new w (.cells #[.int .i64 sp, .slice A l.length cap] 24 (0, 0))) (.cells #[.int .i64 0, .slice none 0 0] 24 (0, 0)))
  have BR := Aside0.mk (blk_new (w.alloc (.cells #[.int .i64 sp, .slice A l.length cap] 24 (0, 0))) (.cells #[.int .i64 0, .slice none 0 0] 24 (0, 0)))
  rw [show (w.alloc (.cells #[.int .i64 sp, .slice A l.length cap] 24 (0, 0))).heap.size = w.heap.size + 1 by simp] at BR
  refine (picture_Check.calls k sp A cap l 0 _ (Kd.C_below HX.out HB0.out) hcap HK.out).mono ?_
  rintro e w1 ⟨rfl, hb⟩
  have HB1 := Aside0.mk (below_step HB0.out hb)
  have BP1 := Aside0.mk (blk_below BP.out hb)
  have BR1 := Aside0.mk (blk_below BR.out hb)
  clear hb HB0 BP BR
  have h0 : w1.cell? ⟨w.heap.size, 0, none⟩ = some (.int .i64 sp) := (blk_cell BP1.out 0).trans rfl
  have h1 : (w1.alloc (.cells #[.int .i64 sp, .slice none 0 0] 24 (0, 0))).cell? ⟨w.heap.size, 1, none⟩ = some (.slice A l.length cap) := (blk_cell (blk_alloc BP1.out (.cells #[.int .i64 sp, .slice none 0 0] 24 (0, 0))) 1).trans rfl
  go_wp2
  have HG := Aside0.mk (blk_lt BR1.out : w.heap.size + 1 < w1.heap.size)
  have BR2 := Aside0.mk (blk_alloc BR1.out (.cells #[.int .i64 sp, .slice none 0 0] 24 (0, 0)))
  have BO := Aside0.mk (blk_new w1 (.cells #[.int .i64 sp, .slice none 0 0] 24 (0, 0)))
  have HB2 := Aside0.mk (below_alloc HB1.out (.cells #[.int .i64 sp, .slice none 0 0] 24 (0, 0)))
  have HGE := Aside0.mk HB1.out.size
  generalize w1.heap.size = g at *
  generalize w1.alloc (.cells #[.int .i64 sp, .slice none 0 0] 24 (0, 0)) = W at *
  clear BP1 BR1 h0 h1 HB1
  go_loopw [24] (fun v24 wr => ∃ i : Nat, i ≤ l.length ∧ v24 = .int .i64 i ∧ Aside0 (Below w.heap.size w wr) ∧ Aside0 (wr.heap[w.heap.size + 1]? = some (.cells #[.int .i64 0, .slice none 0 0] 24 (0, 0))) ∧ Aside0 (∃ A' c', wr.heap[g]? = some (.cells #[.int .i64 sp, .slice A' i c'] 24 (0, 0)) ∧ Kd.S k37 37 wr w.heap.size (fun _ => True) (.slice A' i c') (l.take i))) (fun v24 _ => l.length - (intOf v24).toNat)
  case atStart => exact ⟨0, Nat.zero_le _, rfl, HB2, BR2, ⟨none, 0, BO.out, by rw [List.take_zero]; exact Kd.S_nil _ _ _ _ _⟩⟩
  case round =>
    obtain ⟨i, hi, rfl, RB, RR, RO⟩ := hrel
    clear HB2 BR2 BO
    by_cases hlt : i < l.length
    · have b1 : decide ((i : Int) < (l.length : Int)) = true := decide_eq_true (by omega)
      obtain ⟨ad, A2, c2, rfl, hw0, hw1, hw2, hl2, hc2⟩ := at_T37 HX.out i (by omega) (by omega)
      simp only [Int.toNat_natCast] at hw0 hw1 hw2
      replace hw0 := (RB.out.cell (World.block_lt_of_cell? w _ hw0)).trans hw0
      replace hw1 := (RB.out.cell (World.block_lt_of_cell? w _ hw1)).trans hw1
      replace hw2 := (RB.out.cell (World.block_lt_of_cell? w _ hw2)).trans hw2
      have p1 : (0 : Int) ≤ i := by omega
      have p2 : (i : Int) < (l.length : Int) := by omega
      have HP := Aside0.mk (copier60 (wr.alloc (.cells #[.int .i64 (rd_T37 l i).f0, .int .i64 (rd_T37 l i).f1, .slice A2 (rd_T37 l i).f2.length c2] 37 (0, 0))) i (rd_T37 l i).f0 (rd_T37 l i).f1 A2 c2 (rd_T37 l i).f2 (Kd.C_alloc (Kd.C_below hc2 RB.out) _) hl2 (HS.out.pos i hlt) (Nat.le_trans (HS.out.small i hlt) (by omega)))
      have HT := Aside0.mk (take_rd l i hlt)
      clear hl2 hc2
      have RB1 := Aside0.mk (below_alloc RB.out (.cells #[.int .i64 (rd_T37 l i).f0, .int .i64 (rd_T37 l i).f1, .slice A2 (rd_T37 l i).f2.length c2] 37 (0, 0)))
      have RR1 := Aside0.mk (blk_alloc RR.out (.cells #[.int .i64 (rd_T37 l i).f0, .int .i64 (rd_T37 l i).f1, .slice A2 (rd_T37 l i).f2.length c2] 37 (0, 0)))
      obtain ⟨A', c', hO, hS⟩ := RO.out
      have RO1 := Aside0.mk (blk_alloc hO (.cells #[.int .i64 (rd_T37 l i).f0, .int .i64 (rd_T37 l i).f1, .slice A2 (rd_T37 l i).f2.length c2] 37 (0, 0)))
      have RS1 := Aside0.mk (Kd.S_alloc hS (.cells #[.int .i64 (rd_T37 l i).f0, .int .i64 (rd_T37 l i).f1, .slice A2 (rd_T37 l i).f2.length c2] 37 (0, 0)))
      clear RO hO hS
      go_wp2_with fail
      generalize wr.alloc (.cells #[.int .i64 (rd_T37 l i).f0, .int .i64 (rd_T37 l i).f1, .slice A2 (rd_T37 l i).f2.length c2] 37 (0, 0)) = wa at HP RB1 RR1 RO1 RS1 ⊢
      refine HP.out.mono ?_
      rintro e w2 ⟨v, rfl, ho, hb⟩
      obtain ⟨Av, cv, rfl⟩ := Kd.R_slice ho
      have HV := Aside0.mk (Kd.R_lower (Kd.R_mono (ok' := fun k => wa.heap.size ≤ k) (Kd.R_bound ho) (fun k hk => hk.2.1)) RB1.out.size)
      have RS2 := Aside0.mk (Kd.S_mono (ok' := fun k => True ∧ ¬ wa.heap.size ≤ k) (Kd.S_old RS1.out hb) (fun k hk => ⟨trivial, Nat.not_le_of_lt hk.2⟩))
      have HOW := Aside0.mk (Kd.S_lt RS1.out)
      have RB2 := Aside0.mk (below_step RB1.out hb)
      have RR2 := Aside0.mk (blk_below RR1.out hb)
      have RO2 := Aside0.mk (blk_below RO1.out hb)
      have GA := Aside0.mk (hb.size : wa.heap.size ≤ w2.heap.size)
      clear ho hb HP RB RR RB1 RR1 RO1 RS1 hw0 hw1 hw2
      have HV3 := Aside0.mk (Kd.R_below HV.out (below_alloc (Below.refl w2.heap.size w2) (.cells #[.int .i64 (rd_T37 l i).f0, .int .i64 (rd_T37 l i).f1, .slice Av (rd_T37 l i).f2.length cv] 37 (0, 0))))
      have RS3 := Aside0.mk (Kd.S_alloc RS2.out (.cells #[.int .i64 (rd_T37 l i).f0, .int .i64 (rd_T37 l i).f1, .slice Av (rd_T37 l i).f2.length cv] 37 (0, 0)))
      have RB3 := Aside0.mk (below_alloc RB2.out (.cells #[.int .i64 (rd_T37 l i).f0, .int .i64 (rd_T37 l i).f1, .slice Av (rd_T37 l i).f2.length cv] 37 (0, 0)))
      have RR3 := Aside0.mk (blk_alloc RR2.out (.cells #[.int .i64 (rd_T37 l i).f0, .int .i64 (rd_T37 l i).f1, .slice Av (rd_T37 l i).f2.length cv] 37 (0, 0)))
      have RO3 := Aside0.mk (blk_alloc RO2.out (.cells #[.int .i64 (rd_T37 l i).f0, .int .i64 (rd_T37 l i).f1, .slice Av (rd_T37 l i).f2.length cv] 37 (0, 0)))
      have hg1 : (w2.alloc (.cells #[.int .i64 (rd_T37 l i).f0, .int .i64 (rd_T37 l i).f1, .slice Av (rd_T37 l i).f2.length cv] 37 (0, 0))).cell? ⟨g, 1, none⟩ = some (.slice A' i c') := (blk_cell RO3.out 1).trans rfl
      have hok2 : ∀ k : Nat, wa.heap.size ≤ k → (fun _ : Nat => True) k ∧ some k ≠ (Value.slice A' i c').ownBlock := fun k hk => ⟨trivial, fun e => Nat.lt_irrefl _ (Nat.lt_of_lt_of_le (HOW.out k e.symm) hk)⟩
      have hl1 : (l.take (i + 1)).length = i + 1 := by rw [List.length_take]; omega
      have hlen : ((l.take i).length + 1) * 40 ≤ 140737488355328 := by rw [List.length_take]; omega
      clear HV RS2 RB2 RR2 RO2
      have hsz := Aside0.mk (show w2.heap.size + 1 = (w2.alloc (.cells #[.int .i64 (rd_T37 l i).f0, .int .i64 (rd_T37 l i).f1, .slice Av (rd_T37 l i).f2.length cv] 37 (0, 0))).heap.size by simp)
      go_wp2_with (at_builtin; refine Kd.S_append k37 (w0 := w) w.heap.size rfl (.tmp 41) (.tmp 43) 22 37 (.agg #[.int .i64 0, .int .i64 0, .slice none 0 0]) 40 rfl Tryz.underlying22 info37 rfl (by decide) (by omega) (.slice A' i c') (l.take i) (rd_T37 l i) [.int .i64 (rd_T37 l i).f0, .int .i64 (rd_T37 l i).f1, .slice Av (rd_T37 l i).f2.length cv] (fun _ => True) (fun k => wa.heap.size ≤ k) rfl (congrArg (fun n => Value.slice (some ⟨n, 0, none⟩) 1 1) hsz.out) (k37_mkM _ _ _ _ HV3.out) hok2 (fun _ _ => trivial) RS3.out RB3.out RB3.out.size hlen ?_; rw [HT.out]; intro v1 w4 ho hb hg hat; obtain ⟨A4, c4, rfl⟩ := Kd.S_slice ho; rw [hl1] at ho; have RO4 := Aside0.mk ((hg.block g (blk_lt RO3.out) (Kd.S_ne RS3.out RO3.out (by decide))).trans RO3.out); have RR4 := Aside0.mk ((hg.block _ (blk_lt RR3.out) (Kd.S_ne RS3.out RR3.out (by decide))).trans RR3.out); have RS4 := Aside0.mk ho; have RB4 := Aside0.mk hb; have hgc := (blk_cell RO4.out 1).trans rfl; have hgf := blk_frozen RO4.out 1; rw [hl1]; clear ho hb hg hat RO3 RR3 RS3 RB3 HV3)
      go_roundw
      case rel => exact ⟨i + 1, by omega, by go_num, ⟨below_set RB4.out HGE.out⟩, ⟨(Below.heap_setCell w4 ⟨g, 1, none⟩ _ _ (by have := HG.out; show w.heap.size + 1 ≠ g; omega)).trans RR4.out⟩, ⟨A4, c4, blk_put RO4.out 1 (.slice A4 (i + 1) c4) rfl, Kd.S_set RS4.out RO4.out (by decide) 1 _⟩⟩
      case measure => simp [intOf]; omega
    · obtain rfl : i = l.length := by omega
      obtain ⟨A', c', hO, hS⟩ := RO.out
      rw [List.take_length] at hS
      have HS4 := Aside0.mk hS
      have HO4 := Aside0.mk hO
      have hg0 := (blk_cell hO 0).trans rfl
      have hg1 := (blk_cell hO 1).trans rfl
      have hr0 := (blk_cell RR.out 0).trans rfl
      have hr1 := (blk_cell RR.out 1).trans rfl
      have hf0 := blk_frozen RR.out 0
      have hf1 := blk_frozen RR.out 1
      simp at hg0 hg1 hr0 hr1
      clear hO hS RO
      go_wp2
      have hp := blk_put (blk_put RR.out 0 (.int .i64 sp) rfl) 1 (.slice A' l.length c') rfl
      have hs1 := Kd.S_set HS4.out RR.out (by decide) 0 (.int .i64 sp)
      have hs2 := Kd.S_set hs1 (blk_put RR.out 0 (.int .i64 sp) rfl) (by decide) 1 (.slice A' l.length c')
      try simp only [Exit.inBlock, Exit.then]
      refine bodyPost_ret (results_cell_tmp rfl _ _ (w.heap.size + 1) 24 #[.int .i64 sp, .slice A' l.length c'] (0, 0) _ _ rfl rfl hp Tryz.underlying24 (by kernel_rfl)) rfl ⟨A', c', rfl, hs2, ?_⟩
      exact below_set (below_set RB.out (by omega)) (by omega)

end Go.Proofs.YtimghiiihjphiaaGreat.trips
