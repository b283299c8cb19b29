/- A part of the proof: the writer of bits: one bit. Condition: the writer lies in a block of its own, and so do its bytes. -/
import Derived.Test.YtimghiiihjphiaaGreatPTrix
import Derived.Test.YtimghiiihjphiaaGreatTriX
import Derived.Test.YtimghiiihjphiaaGreatProg
import Derived.RegionTactic
import Derived.ChangeAlike
import Derived.BigRegion
import Derived.LoopTactic
import Derived.IntWalk
import Derived.Lib.SmallJoins
namespace Go.Proofs.YtimghiiihjphiaaGreat.classes
open Go.RowKit Go.Proofs.YtimghiiihjphiaaGreatW.PrintWords
set_option linter.unusedVariables false
set_option linter.unusedSimpArgs false

set_option maxHeartbeats 800000 in
set_option maxRecDepth 100000 in
theorem bit_b (W : World) (G g m cap : Nat) (sum cnt bits x y : Int) (hG : W.heap[G]? = some (.cells #[.int .u64 sum, .int .u64 cnt, .slice (some ⟨g, 0, none⟩) (m + 1) cap, .int .i64 bits] 99 (0, 0)))
    (hy : W.cell? ⟨g, m, none⟩ = some (.int .u8 y)) (hfy : W.frozen? ⟨g, m, none⟩ = false) (hcap : m ≤ 100000000) (hb0 : 0 ≤ bits) (hb1 : bits ≤ 100000000) (hb8 : bits % 8 ≠ 0) (hne : G ≠ g) :
    Calls Tryz.prog 98 #[.pointer (some ⟨G, 0, none⟩), .int .u32 x] W fun e W' => e = .returned undef ∧ ∃ z, W' = ((W.setCell ⟨g, m, none⟩ (.int .u8 z)).setCell ⟨G, 3, none⟩ (.int .i64 (bits + 1))).drew := by
  have c0 := blk_cell hG 0
  have c1 := blk_cell hG 1
  have c2 := blk_cell hG 2
  have c3 := blk_cell hG 3
  have f0 := blk_frozen hG 0
  have f1 := blk_frozen hG 1
  have f2 := blk_frozen hG 2
  have f3 := blk_frozen hG 3
  simp at c0 c1 c2 c3
  have e8 : ((bits.tmod 8) == 0) = false := by rw [Int.tmod_eq_emod_of_nonneg hb0]; simpa using hb8
  have e8' : ((bits % 8) == 0) = false := by simpa using hb8
  have HG := Aside0.mk hG
  clear hG hb8
  go_enter Tryz.func98, Tryz.ntmps98
  go_wp2
  have i1 : IntKind.i64.wrap ((m : Int) + 1 - 1) = m := by rw [show (m : Int) + 1 - 1 = m by omega]; exact IntWalk.i64_in _ (by omega)
  have i2 : (0 : Int) ≤ m := by omega
  have i3 : (m : Int) < m + 1 := by omega
  have i4 : 0 ≤ 7 - bits % 8 := by omega
  have i5 : bits % 8 ≤ 7 := by omega
  have i6 : 0 ≤ bits % 8 := by omega
  go_region
  clear i1 i2 i3 i4 i5 i6 e8 e8'
  generalize Go.bits BinOp.or IntKind.u8 y (Go.bits BinOp.and IntKind.u32 x 1 % 256 * 2 ^ (7 - bits % 8).toNat % 256) = z
  go_wp2
  go_end0
  exact ⟨rfl, z, rfl⟩

theorem info5 : (Tryz.prog.info? 5).map (fun i => (i.zero, i.size, i.bytes)) = some (some (.int .u8 0), 1, 1) := by kernel_rfl

theorem nums_set (k : IntKind) (xs : List Int) (i : Nat) (x : Int) : (nums k xs).set i (.int k x) = nums k (xs.set i x) := by simp [nums, List.map_set]

set_option maxHeartbeats 1600000 in
set_option maxRecDepth 100000 in
theorem bit_a (w W : World) (G n : Nat) (v : Value) (xs : List Int) (sum cnt bits x : Int) (hG : W.heap[G]? = some (.cells #[.int .u64 sum, .int .u64 cnt, v, .int .i64 bits] 99 (0, 0)))
    (ho : W.ownsRow w.heap.size 5 1 v n (nums .u8 xs)) (hB : Below w.heap.size w W) (hGw : w.heap.size ≤ G) (hcap : n ≤ 100000000) (hb0 : 0 ≤ bits) (hb1 : bits ≤ 100000000) (hb8 : bits % 8 = 0) :
    Calls Tryz.prog 98 #[.pointer (some ⟨G, 0, none⟩), .int .u32 x] W fun e W' => e = .returned undef ∧ ∃ (v' : Value) (xs' : List Int), W'.heap[G]? = some (.cells #[.int .u64 sum, .int .u64 cnt, v', .int .i64 (bits + 1)] 99 (0, 0)) ∧ W'.ownsRow w.heap.size 5 1 v' (n + 1) (nums .u8 xs') ∧ Below w.heap.size w W' := by
  obtain ⟨i0, hi, hz0, hz1, hz2⟩ := info_parts info5
  have c0 := blk_cell hG 0
  have c1 := blk_cell hG 1
  have c2 := blk_cell hG 2
  have c3 := blk_cell hG 3
  have f0 := blk_frozen hG 0
  have f1 := blk_frozen hG 1
  have f2 := blk_frozen hG 2
  have f3 := blk_frozen hG 3
  simp at c0 c1 c2 c3
  have e8' : ((bits % 8) == 0) = true := by simpa using hb8
  have HG := Aside0.mk hG
  have HO := Aside0.mk ho
  have HB := Aside0.mk hB
  have hbase := hB.size
  clear hB
  have hGlt := blk_lt hG
  clear hG hb8 ho
  go_enter Tryz.func98, Tryz.ntmps98
  go_wp2_with (at_builtin; (refine wpList_append_own _ rfl _ _ 97 rfl w.heap.size 5 i0 (.int .u8 0) 1 1 Tryz.underlying97 hi hz0 hz1 hz2 rfl (by decide) _ _ _ rfl (HO.out.alloc _) ⟨W.heap.size, 0, none⟩ 1 1 [.int .u8 0] rfl rfl ?c1 ?c2 ?c3 ?c4 ?c5 ?_))
  case c1 =>
    intro j u hj
    match j, hj with
    | 0, hj =>
      simp at hj; subst hj
      simp [Addr.add]
  case c2 => intro u hu; simp at hu; subst hu; rfl
  case c3 => unfold maxLen; omega
  case c4 => omega
  case c5 => simp; omega
  intro v1 w1 ho1 hg1 hne1
  obtain ⟨g, cap, rfl⟩ := Joins.ownsRow_form ho1 (by omega)
  clear hne1
  have hxl : xs.length = n := by have := HO.out.1; simpa [nums] using this
  have hvG : some G ≠ v.ownBlock := by
    intro e
    obtain ⟨cells, hc⟩ := own_typed HO.out G e.symm
    rw [HG.out] at hc
    injection hc with hc; injection hc with _ hc; exact absurd hc (by decide)
  have hG1 := blk_grown (blk_alloc HG.out (.cells #[.int .u8 0] 5)) hg1 hvG
  obtain ⟨cells, hgc⟩ := own_typed ho1 g rfl
  have hgG : G ≠ g := blk_ne hG1 hgc (by decide)
  have hy : w1.cell? ⟨g, n, none⟩ = some (.int .u8 0) := by
    have := ho1.cells (g := g) rfl n (.int .u8 0) (by simp [nums, hxl])
    rwa [add_plain] at this
  have hfy := blk_frozen hgc n
  have HG1 := Aside0.mk hG1
  have HO1 := Aside0.mk ho1
  have HGR := Aside0.mk hg1
  clear c0 c1 c2 c3 f0 f1 f2 f3
  have c0 := blk_cell hG1 0
  have c1 := blk_cell hG1 1
  have c2 := blk_cell hG1 2
  have c3 := blk_cell hG1 3
  have f0 := blk_frozen hG1 0
  have f1 := blk_frozen hG1 1
  have f2 := blk_frozen hG1 2
  have f3 := blk_frozen hG1 3
  simp at c0 c1 c2 c3
  clear hG1 ho1 hg1 hgc hi hz0 hz1 hz2 hxl hvG
  go_wp2
  have i1 : IntKind.i64.wrap ((n : Int) + 1 - 1) = n := by rw [show (n : Int) + 1 - 1 = n by omega]; exact IntWalk.i64_in _ (by omega)
  have i2 : (0 : Int) ≤ n := by omega
  have i3 : (n : Int) < n + 1 := by omega
  have i4 : 0 ≤ 7 - bits % 8 := by omega
  have i5 : bits % 8 ≤ 7 := by omega
  have i6 : 0 ≤ bits % 8 := by omega
  go_region
  clear i1 i2 i3 i4 i5 i6 e8'
  generalize Go.bits BinOp.or IntKind.u8 0 (Go.bits BinOp.and IntKind.u32 x 1 % 256 * 2 ^ (7 - bits % 8).toNat % 256) = z
  go_wp2
  go_end0
  have hgw : w.heap.size ≤ g := own_base HO1.out g rfl
  have hB1 : Below w.heap.size w w1 := (below_alloc HB.out _).grown HGR.out (by simp; omega) (fun k hk => own_base HO.out k hk)
  have hst := (own_setCell HO1.out (p := ⟨G, 2, none⟩) (fun e => hgG (by injection e)) (.slice (some ⟨g, 0, none⟩) (n + 1) cap)).stored n (.int .u8 z)
  rw [show nums .u8 xs ++ [Value.int .u8 0] = nums .u8 (xs ++ [0]) by simp [nums], nums_set] at hst
  refine ⟨rfl, _, _, ?_, own_setCell hst.1 (p := ⟨G, 3, none⟩) (fun e => hgG (by injection e)) _, ?_⟩
  · exact blk_put (blk_far (blk_put HG1.out 2 _ rfl) hgG _) 3 _ rfl
  · exact below_drew (below_set (below_set (below_set hB1 hGw) hgw) hGw)

/-- the writer, so many bits laid -/
structure WR (w : World) (G : Nat) (sum cnt bits : Int) (W : World) : Prop where
  below : Below w.heap.size w W
  own : w.heap.size ≤ G
  row : ∃ (v : Value) (xs : List Int) (n : Nat), W.heap[G]? = some (.cells #[.int .u64 sum, .int .u64 cnt, v, .int .i64 bits] 99 (0, 0)) ∧ W.ownsRow w.heap.size 5 1 v n (nums .u8 xs) ∧ (n : Int) = (bits + 7) / 8

theorem bit_any (w W : World) (G : Nat) (sum cnt bits x : Int) (h : WR w G sum cnt bits W) (hb0 : 0 ≤ bits) (hb1 : bits ≤ 50000000) :
    Calls Tryz.prog 98 #[.pointer (some ⟨G, 0, none⟩), .int .u32 x] W fun e W' => e = .returned undef ∧ WR w G sum cnt (bits + 1) W' := by
  obtain ⟨hB, hGw, v, xs, n, hG, ho, hn⟩ := h
  by_cases c : bits % 8 = 0
  · refine (bit_a w W G n v xs sum cnt bits x hG ho hB hGw (by omega) hb0 (by omega) c).mono ?_
    rintro e W' ⟨he, v', xs', h1, h2, h3⟩
    exact ⟨he, h3, hGw, v', xs', n + 1, h1, h2, by push_cast; omega⟩
  · obtain ⟨g, cap, rfl⟩ := Joins.ownsRow_form ho (by omega)
    obtain ⟨m, rfl⟩ : ∃ m, n = m + 1 := ⟨n - 1, by omega⟩
    obtain ⟨cells, hgc⟩ := own_typed ho g rfl
    have hgG : G ≠ g := blk_ne hG hgc (by decide)
    have hgw : w.heap.size ≤ g := own_base ho g rfl
    have hxl : xs.length = m + 1 := by have := ho.1; simpa [nums] using this
    have hy : W.cell? ⟨g, m, none⟩ = some (.int .u8 (xs[m]'(by omega))) := by
      have := ho.cells (g := g) rfl m (.int .u8 (xs[m]'(by omega))) (by simp [nums, List.getElem?_eq_getElem (show m < xs.length by omega)])
      rwa [add_plain] at this
    refine (bit_b W G g m cap sum cnt bits x _ hG hy (blk_frozen hgc m) (by omega) hb0 (by omega) c hgG).mono ?_
    rintro e W' ⟨he, z, rfl⟩
    have hst := ho.stored m (.int .u8 z)
    rw [nums_set] at hst
    refine ⟨he, below_drew (below_set (below_set hB hgw) hGw), hGw, _, _, m + 1, ?_, own_setCell hst.1 (p := ⟨G, 3, none⟩) (fun e => hgG (by injection e)) _, by omega⟩
    exact blk_put (blk_far hG hgG _) 3 _ rfl
end Go.Proofs.YtimghiiihjphiaaGreat.classes
