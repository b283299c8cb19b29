/- A part of the proof: a picture that comes in, opened: its space, its planes, their samples. No condition. -/
import Derived.Test.YtimghiiihjphiaaGreatTriS
import Derived.Deep.Slices
import Derived.Deep.Fields
import Derived.ChangeSame
import Derived.ChangeSlices
import Derived.Lib.SmallJoins
import Derived.OpenShut
namespace Go.Proofs.YtimghiiihjphiaaGreat.sides
open Go.ChangeShapes Go.WideShapes Go.ChangeAt Go.RowKit Go.Deep Go.Proofs.YtimghiiihjphiaaGreatW.PrintWords Go.Proofs.YtimghiiihjphiaaGreat.PTri
set_option linter.unusedVariables false

theorem cells24 : Tryz.prog.cellsOf 24 = 2 := by kernel_rfl
theorem cells37 : Tryz.prog.cellsOf 37 = 3 := by kernel_rfl
theorem cells3 : Tryz.prog.cellsOf 3 = 1 := by kernel_rfl
theorem cells35 : Tryz.prog.cellsOf 35 = 1 := by kernel_rfl
theorem cells38 : Tryz.prog.cellsOf 38 = 1 := by kernel_rfl
theorem one24 : oneCellFields Tryz.prog #[{ name := "Space", type := 3, offset := 0, embedded := false, tag := "", pkgPath := "", byteOffset := 0 }, { name := "Planes", type := 22, offset := 1, embedded := false, tag := "", pkgPath := "", byteOffset := 8 }] = true := by kernel_rfl

section
variable {H : Type} {enc : TypeId × Value → H} {W : World} {base : Nat} {spare : Nat → Bool} {held : Bool}

/-- a list of things, each of which is so -/
theorem choose_list {α : Type} (z : α) (Q : Nat → α → Prop) : ∀ n, (∀ i, i < n → ∃ x, Q i x) → ∃ l : List α, l.length = n ∧ ∀ i, i < n → ∃ x, l[i]? = some x ∧ Q i x
  | 0, _ => ⟨[], rfl, fun i h => by omega⟩
  | n + 1, h => by
    obtain ⟨l, hl, hq⟩ := choose_list z Q n fun i hi => h i (by omega)
    obtain ⟨x, hx⟩ := h n (by omega)
    refine ⟨l ++ [x], by simp [hl], fun i hi => ?_⟩
    by_cases e : i < n
    · obtain ⟨y, hy, hQ⟩ := hq i e
      exact ⟨y, by rw [List.getElem?_append_left (by omega)]; exact hy, hQ⟩
    · obtain rfl : i = n := by omega
      exact ⟨x, by simp [← hl], hx⟩

theorem u32_of {n : Int} (h : (Lit.int .u32 n).wf = true) : U32 n := by
  simp [Lit.wf, IntKind.min, IntKind.max, IntKind.signed, IntKind.bits] at h
  exact h

/-- a list of samples -/
theorem open_samples {fuel : Nat} {v : Value} {x : DataW H × List MemPlace} (h : DataW.trod enc Tryz.prog W base spare held fuel 35 [v] = some x) :
    ∃ (A : Option Addr) (c : Nat) (l : List Int), v = .slice A l.length c ∧ l.length ≤ c ∧ (Kd.int .u32).C W A l.length l ∧ AllU l := by
  rcases open_ints Tryz.underlying35 Tryz.underlying38 cells38 h with ⟨hcs, _⟩ | ⟨a, len, cap, zs, hcs, _, hl, hm, hz, _, hcell, hwz⟩
  · obtain rfl := (List.cons.inj hcs).1
    exact ⟨none, 0, [], rfl, Nat.le_refl _, Kd.C_nil _ _, fun x hx => by simp at hx⟩
  · obtain rfl := (List.cons.inj hcs).1
    have hlz : len ≤ zs.length := by rw [hz]; split <;> omega
    have hln : (zs.take len).length = len := by simp; omega
    refine ⟨some a, cap, zs.take len, by rw [hln], by rw [hln]; exact hl, ?_, fun x hx => u32_of (hwz x (List.mem_of_mem_take hx))⟩
    rw [hln]
    refine Kd.C_of_reads (d := (0 : Int)) (h1 := fun _ => rfl) ⟨hln, by unfold maxLen at hm; omega, fun h0 => ⟨a, rfl, fun j hj => ?_⟩⟩
    rw [hcell j (by omega)]
    simp only [List.getD_eq_getElem?_getD, List.getElem?_take, if_pos hj]

set_option maxRecDepth 100000 in
theorem open_picture {r : Reach} {b0 : Nat} {v : Value} {d : DataW H} {p : List MemPlace} (hv : Value.okWide Tryz.prog W r b0 24 v) (h : DataW.Trod enc Tryz.prog W base spare held 24 v d p) :
    ∃ (sp : Int) (A : Option Addr) (c : Nat) (l : List S37), v = .agg #[.int .i64 sp, .slice A l.length c] ∧ l.length ≤ c ∧ Kd.C k37 W A l.length l ∧ UL l := by
  obtain ⟨v0, v1, y0, y1, n, rfl, _, _, h0, h1⟩ := Joins.open_agg2 Tryz.underlying24 one24 cells24 hv h
  obtain ⟨sp, hs, _, _⟩ := DataW.trod_int Tryz.underlying3 h0
  obtain rfl := (List.cons.inj hs).1
  rcases open_slice Tryz.underlying22 h1 with ⟨hcs, _⟩ | ⟨a, len, cap, m, n', D, Pl, hcs, hb, hl, hm, hmm, hx, hi⟩
  · obtain rfl := (List.cons.inj hcs).1
    exact ⟨sp, none, 0, [], rfl, Nat.le_refl _, Kd.C_nil _ _, fun j hj => by simp at hj⟩
  · obtain rfl := (List.cons.inj hcs).1
    have hlm : len ≤ m := by rw [hmm]; split <;> omega
    have hel : ∀ i, i < len → ∃ x : S37, (∃ cs, cs.length = 3 ∧ k37.K W x cs ∧ ∀ j u, cs[j]? = some u → W.cell? (a.add (i * 3 + j)) = some u) ∧ AllU x.f2 := by
      intro i hil
      obtain ⟨cs, hc, ht⟩ := hi i (by omega)
      rw [cells37] at hc
      obtain ⟨ys, n2, hn, hy, hcl, hyl, hf⟩ := DataW.trod_struct Tryz.underlying37 ht
      obtain ⟨_, hcl', hat⟩ := World.cells?_some hc
      match cs, hcl' with
      | [c0, c1, c2], _ =>
        have f0 := hf 0 _ rfl
        have f1 := hf 1 _ rfl
        have f2 := hf 2 _ rfl
        match ys, hyl with
        | [z0, z1, z2], _ =>
          simp [cells3, cells35] at f0 f1 f2
          obtain ⟨wd, e0, _, _⟩ := DataW.trod_int Tryz.underlying3 f0
          obtain ⟨hg, e1, _, _⟩ := DataW.trod_int Tryz.underlying3 f1
          obtain ⟨A2, cc, l2, rfl, hlc, hC2, hU2⟩ := open_samples f2
          obtain rfl := (List.cons.inj e0).1
          obtain rfl := (List.cons.inj e1).1
          refine ⟨⟨wd, hg, l2⟩, ⟨[.int .i64 wd, .int .i64 hg, .slice A2 l2.length cc], rfl, k37_mk W ⟨wd, hg, l2⟩ hlc hC2, fun j u hu => ?_⟩, hU2⟩
          have hj : j < 3 := by
            have := (List.getElem?_eq_some_iff.1 hu).1
            simpa using this
          rw [← Go.Deep.add_add, hat j hj]
          exact hu
    obtain ⟨l, hln, hq⟩ := choose_list (⟨0, 0, []⟩ : S37) (fun i x => (∃ cs, cs.length = 3 ∧ k37.K W x cs ∧ ∀ j u, cs[j]? = some u → W.cell? (a.add (i * 3 + j)) = some u) ∧ AllU x.f2) len hel
    refine ⟨sp, some a, cap, l, by rw [hln], by omega, ⟨rfl, by unfold maxLen at hm; omega, fun h0 => ⟨a, rfl, fun j x hx => ?_⟩⟩, fun j hj => ?_⟩
    · have hj : j < len := by have := (List.getElem?_eq_some_iff.1 hx).1; omega
      obtain ⟨x', hx', ⟨cs, h1, h2, h3⟩, _⟩ := hq j hj
      rw [hx] at hx'
      obtain rfl := Option.some.inj hx'
      exact ⟨cs, h1, h2, h3⟩
    · obtain ⟨x', hx', _, hU⟩ := hq j (by omega)
      have : rd_T37 l j = x' := by unfold rd_T37; rw [Int.toNat_natCast, List.getD_eq_getElem?_getD, hx']; rfl
      rw [this]
      exact hU
end
end Go.Proofs.YtimghiiihjphiaaGreat.sides
