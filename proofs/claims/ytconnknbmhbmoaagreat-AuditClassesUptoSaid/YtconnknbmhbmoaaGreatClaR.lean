/- A part of the proof: a picture that comes in, opened: its space, its planes, their samples, and how many they are. No condition. -/
import Derived.Test.YtconnknbmhbmoaaGreatRows
import Derived.Test.YtconnknbmhbmoaaGreatClaQ
import Derived.Deep.Slices
import Derived.Deep.Fields
import Derived.ChangeSame
import Derived.ChangeSlices
import Derived.Lib.SmallJoins
import Derived.OpenShut
namespace Go.Proofs.YtconnknbmhbmoaaGreat.classes
open Go.ChangeShapes Go.WideShapes Go.ChangeAt Go.RowKit Go.Deep Go.Proofs.YtconnknbmhbmoaaGreatW.PrintWords Go.Proofs.YtconnknbmhbmoaaGreat.PCla
set_option linter.unusedVariables false

theorem cells24 : Tryz.prog.cellsOf 24 = 2 := by kernel_rfl
theorem cells58 : Tryz.prog.cellsOf 58 = 3 := by kernel_rfl
theorem cells3 : Tryz.prog.cellsOf 3 = 1 := by kernel_rfl
theorem cells46 : Tryz.prog.cellsOf 46 = 1 := by kernel_rfl
theorem cells42 : Tryz.prog.cellsOf 42 = 1 := by kernel_rfl
theorem one24 : oneCellFields Tryz.prog #[{ name := "Space", type := 3, offset := 0, embedded := false, tag := "", pkgPath := "", byteOffset := 0 }, { name := "Planes", type := 22, offset := 1, embedded := false, tag := "", pkgPath := "", byteOffset := 8 }] = true := by kernel_rfl

section
variable {H : Type}
theorem bulk_pos (d : DataW H) : 1 ≤ Rows.uptoBulk d := by
  cases d with
  | lit x => cases x <;> simp [Rows.uptoBulk]
  | _ => simp [Rows.uptoBulk]
theorem bulk_len : ∀ l : List (DataW H), l.length ≤ Rows.uptoBulkAll l
  | [] => Nat.zero_le _
  | d :: l => by
    have h1 := bulk_len l
    have h2 := bulk_pos d
    simp only [Rows.uptoBulkAll, List.length_cons]
    omega
theorem bulk_mem {d : DataW H} : ∀ {l : List (DataW H)}, d ∈ l → Rows.uptoBulk d ≤ Rows.uptoBulkAll l
  | [], h => by simp at h
  | x :: l, h => by
    simp only [Rows.uptoBulkAll]
    rcases List.mem_cons.1 h with rfl | h
    · omega
    · have := bulk_mem h; omega
end

section
variable {H : Type} {enc : TypeId × Value → H} {W : World} {base : Nat} {spare : Nat → Bool} {held : Bool}

/-- a list of things, each of which is so -/
theorem choose_list {α : Type} (z : α) (Q : Nat → α → Prop) : ∀ n, (∀ i, i < n → ∃ x, Q i x) → ∃ l : List α, l.length = n ∧ ∀ i, i < n → ∃ x, l[i]? = some x ∧ Q i x
  | 0, _ => ⟨[], rfl, fun i h => by omega⟩
  | n + 1, h => by
    obtain ⟨l, hl, hq⟩ := choose_list z Q n fun i hi => h i (by omega)
    obtain ⟨x, hx⟩ := h n (by omega)
    refine ⟨l ++ [x], by simp [hl], fun i hi => ?_⟩
    by_cases e : i < n
    · obtain ⟨y, hy, hQ⟩ := hq i e
      exact ⟨y, by rw [List.getElem?_append_left (by omega)]; exact hy, hQ⟩
    · obtain rfl : i = n := by omega
      exact ⟨x, by simp [← hl], hx⟩

theorem u32_of {n : Int} (h : (Lit.int .u32 n).wf = true) : U32 n := by
  simp [Lit.wf, IntKind.min, IntKind.max, IntKind.signed, IntKind.bits] at h
  exact h

/-- a list of samples -/
theorem open_samples {fuel : Nat} {v : Value} {x : DataW H × List MemPlace} (h : DataW.trod enc Tryz.prog W base spare held fuel 46 [v] = some x) :
    ∃ (A : Option Addr) (c : Nat) (l : List Int), v = .slice A l.length c ∧ l.length ≤ c ∧ (Kd.int .u32).C W A l.length l ∧ AllU l ∧ l.length ≤ Rows.uptoBulk x.1 := by
  rcases open_ints Tryz.underlying46 Tryz.underlying42 cells42 h with ⟨hcs, _⟩ | ⟨a, len, cap, zs, hcs, _, hl, hm, hz, hxx, hcell, hwz⟩
  · obtain rfl := (List.cons.inj hcs).1
    exact ⟨none, 0, [], rfl, Nat.le_refl _, Kd.C_nil _ _, fun x hx => by simp at hx, Nat.zero_le _⟩
  · obtain rfl := (List.cons.inj hcs).1
    have hlz : len ≤ zs.length := by rw [hz]; split <;> omega
    have hln : (zs.take len).length = len := by simp; omega
    refine ⟨some a, cap, zs.take len, by rw [hln], by rw [hln]; exact hl, ?_, fun x hx => u32_of (hwz x (List.mem_of_mem_take hx)), ?_⟩
    rotate_left
    · have h1 := bulk_len (lits (H := H) .u32 (zs.take len))
      rw [hxx]
      simp only [Rows.uptoBulk]
      simp only [lits, List.length_map] at h1 ⊢
      omega
    rw [hln]
    refine Kd.C_of_reads (d := (0 : Int)) (h1 := fun _ => rfl) ⟨hln, by unfold maxLen at hm; omega, fun h0 => ⟨a, rfl, fun j hj => ?_⟩⟩
    rw [hcell j (by omega)]
    simp only [List.getD_eq_getElem?_getD, List.getElem?_take, if_pos hj]

set_option maxRecDepth 100000 in
theorem open_picture {r : Reach} {b0 : Nat} {v : Value} {d : DataW H} {p : List MemPlace} (hv : Value.okWide Tryz.prog W r b0 24 v) (h : DataW.Trod enc Tryz.prog W base spare held 24 v d p) :
    ∃ (sp : Int) (A : Option Addr) (c : Nat) (l : List S58), v = .agg #[.int .i64 sp, .slice A l.length c] ∧ l.length ≤ c ∧ Kd.C k58 W A l.length l ∧ UL l ∧ l.length ≤ Rows.uptoBulk d ∧ ∀ j : Nat, j < l.length → (rd_T58 l j).f2.length ≤ Rows.uptoBulk d := by
  obtain ⟨v0, v1, y0, y1, n, rfl, rfl, _, h0, h1⟩ := Joins.open_agg2 Tryz.underlying24 one24 cells24 hv h
  obtain ⟨sp, hs, _, _⟩ := DataW.trod_int Tryz.underlying3 h0
  obtain rfl := (List.cons.inj hs).1
  rcases open_slice Tryz.underlying22 h1 with ⟨hcs, _⟩ | ⟨a, len, cap, m, n', D, Pl, hcs, hb, hl, hm, hmm, hx, hi⟩
  · obtain rfl := (List.cons.inj hcs).1
    exact ⟨sp, none, 0, [], rfl, Nat.le_refl _, Kd.C_nil _ _, fun j hj => by simp at hj, Nat.zero_le _, fun j hj => by simp at hj⟩
  · obtain rfl := (List.cons.inj hcs).1
    have hlm : len ≤ m := by rw [hmm]; split <;> omega
    have hel : ∀ i, i < len → ∃ x : S58, (∃ cs, cs.length = 3 ∧ k58.K W x cs ∧ ∀ j u, cs[j]? = some u → W.cell? (a.add (i * 3 + j)) = some u) ∧ AllU x.f2 ∧ x.f2.length ≤ Rows.uptoBulk (D i) := by
      intro i hil
      obtain ⟨cs, hc, ht⟩ := hi i (by omega)
      rw [cells58] at hc
      obtain ⟨ys, n2, hn, hy, hcl, hyl, hf⟩ := DataW.trod_struct Tryz.underlying58 ht
      obtain ⟨_, hcl', hat⟩ := World.cells?_some hc
      match cs, hcl' with
      | [c0, c1, c2], _ =>
        have f0 := hf 0 _ rfl
        have f1 := hf 1 _ rfl
        have f2 := hf 2 _ rfl
        match ys, hyl with
        | [z0, z1, z2], _ =>
          simp [cells3, cells46] at f0 f1 f2
          obtain ⟨wd, e0, _, _⟩ := DataW.trod_int Tryz.underlying3 f0
          obtain ⟨hg, e1, _, _⟩ := DataW.trod_int Tryz.underlying3 f1
          obtain ⟨A2, cc, l2, rfl, hlc, hC2, hU2, hB2⟩ := open_samples f2
          obtain rfl := (List.cons.inj e0).1
          obtain rfl := (List.cons.inj e1).1
          refine ⟨⟨wd, hg, l2⟩, ⟨[.int .i64 wd, .int .i64 hg, .slice A2 l2.length cc], rfl, k58_mk W ⟨wd, hg, l2⟩ hlc hC2, fun j u hu => ?_⟩, hU2, by
            have e : D i = .agg ([z0, z1, z2].map (·.1)) := congrArg Prod.fst hy
            rw [e]
            have h3 := bulk_mem (show z2.1 ∈ [z0, z1, z2].map (·.1) by simp)
            simp only [Rows.uptoBulk]
            exact Nat.le_trans hB2 (Nat.le_trans h3 (Nat.le_succ _))⟩
          have hj : j < 3 := by
            have := (List.getElem?_eq_some_iff.1 hu).1
            simpa using this
          rw [← Go.Deep.add_add, hat j hj]
          exact hu
    obtain ⟨l, hln, hq⟩ := choose_list (⟨0, 0, []⟩ : S58) (fun i x => (∃ cs, cs.length = 3 ∧ k58.K W x cs ∧ ∀ j u, cs[j]? = some u → W.cell? (a.add (i * 3 + j)) = some u) ∧ AllU x.f2 ∧ x.f2.length ≤ Rows.uptoBulk (D i)) len hel
    refine ⟨sp, some a, cap, l, by rw [hln], by omega, ⟨rfl, by unfold maxLen at hm; omega, fun h0 => ⟨a, rfl, fun j x hx => ?_⟩⟩, fun j hj => ?_, ?_, fun j hj => ?_⟩
    · have hj : j < len := by have := (List.getElem?_eq_some_iff.1 hx).1; omega
      obtain ⟨x', hx', ⟨cs, h1, h2, h3⟩, _, _⟩ := hq j hj
      rw [hx] at hx'
      obtain rfl := Option.some.inj hx'
      exact ⟨cs, h1, h2, h3⟩
    · obtain ⟨x', hx', _, hU, _⟩ := hq j (by omega)
      have : rd_T58 l j = x' := by unfold rd_T58; rw [Int.toNat_natCast, List.getD_eq_getElem?_getD, hx']; rfl
      rw [this]
      exact hU
    · have h2 := bulk_len ((List.range len).map D)
      rw [List.length_map, List.length_range] at h2
      rw [hx]
      simp only [Rows.uptoBulk, Rows.uptoBulkAll]
      omega
    · obtain ⟨x', hx', _, _, hB⟩ := hq j (by omega)
      have e : rd_T58 l j = x' := by unfold rd_T58; rw [Int.toNat_natCast, List.getD_eq_getElem?_getD, hx']; rfl
      have h2 := bulk_mem (show D j ∈ (List.range len).map D from List.mem_map.2 ⟨j, List.mem_range.2 (by omega), rfl⟩)
      rw [e, hx]
      simp only [Rows.uptoBulk, Rows.uptoBulkAll]
      omega
end
end Go.Proofs.YtconnknbmhbmoaaGreat.classes
