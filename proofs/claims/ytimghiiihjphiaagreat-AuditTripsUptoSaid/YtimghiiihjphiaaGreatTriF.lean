/- A part of the proof: what stands while three planes are changed place by place. No condition. -/
import Derived.Test.YtimghiiihjphiaaGreatTriE
namespace Go.Proofs.YtimghiiihjphiaaGreat.trips
open Go.RowKit Go.Proofs.YtimghiiihjphiaaGreatW.PrintWords Go.Proofs.YtimghiiihjphiaaGreatW.PrintLast Go.Proofs.YtimghiiihjphiaaGreat.PTri
set_option linter.unusedVariables false
set_option linter.unusedSimpArgs false

section
variable {P : Program} {ops : Array Oper} {Q : Exit → Act → World → Prop}
/-- A call of a function value that is known, with what it holds. -/
theorem vgoes_ {oi : Oper} {N : Option Tmp} {a : Act} {w : World} {K : Act → World → Prop} {f : FuncId} {fn : Func} {os : Array Operand} {ts : Array TypeId} {x : Tmp} {caps : Array Value} (hf : P.funcs[f]? = some fn) (hname : (fn.name == "runtime.NumGoroutine") = false) (hb : fn.body.isSome = true) (args : Array Value)
    (hw : Region.wanted oi (yielded ops a.tmps) = true) (hN : oi.dst = N) (hop : oi.op = .call { callee := .value (.tmp x), args := os, argTypes := ts }) (hv : a.eval (.tmp x) = .func (.func f) #[] caps) (hargs : os.map a.eval ++ caps = args)
    (h : Calls P f args w fun e w' => ∃ v, e = .returned v ∧ K (a.put N v) w') : if Region.wanted oi (yielded ops a.tmps) = true then Oper.wp P oi a w K Q else K (a.put N undef) w := by
  refine call_ f args hw hN ?_ h
  have he := enters_ hf hname hb args w
  unfold execOp
  simp [hop, resolve, Deferred.ofValue, invoke, hv, hargs, he]
end

theorem ne_of_tags {W : World} {a b t t' : Nat} {c c' : Array Value} (h : W.heap[a]? = some (.cells c t (0, 0))) (h' : W.heap[b]? = some (.cells c' t' (0, 0))) (ht : t ≠ t') : a ≠ b := by
  intro e
  subst e
  rw [h] at h'
  simp only [Option.some.injEq, Obj.cells.injEq] at h'
  exact ht h'.2.1

structure TS (w : World) (g6 G n cap : Nat) (sp : Int) (g0 k0 g1 k1 g2 k2 m : Nat) (L : List S37) (W : World) : Prop where
  below : Below w.heap.size w W
  res : W.heap[w.heap.size + 1]? = some (.cells #[.int .i64 0, .slice none 0 0] 24 (0, 0))
  out : W.heap[g6]? = some (.cells #[.int .i64 sp, .slice (some ⟨G, 0, none⟩) n cap] 24 (0, 0))
  row : Kd.S k37 37 W w.heap.size (fun _ => True) (.slice (some ⟨G, 0, none⟩) n cap) L
  c0 : W.cell? ⟨G, 2, none⟩ = some (.slice (some ⟨g0, 0, none⟩) m k0)
  c1 : W.cell? ⟨G, 5, none⟩ = some (.slice (some ⟨g1, 0, none⟩) m k1)
  c2 : W.cell? ⟨G, 8, none⟩ = some (.slice (some ⟨g2, 0, none⟩) m k2)

variable {w : World} {g6 G n cap : Nat} {sp : Int} {g0 k0 g1 k1 g2 k2 m : Nat} {L : List S37} {W W' : World}

theorem TS.step (h : TS w g6 G n cap sp g0 k0 g1 k1 g2 k2 m L W) (hb : Below W.heap.size W W') : TS w g6 G n cap sp g0 k0 g1 k1 g2 k2 m L W' where
  below := below_step h.below hb
  res := blk_below h.res hb
  out := blk_below h.out hb
  row := Kd.S_below h.row hb
  c0 := (hb.cell (World.block_lt_of_cell? W _ h.c0)).trans h.c0
  c1 := (hb.cell (World.block_lt_of_cell? W _ h.c1)).trans h.c1
  c2 := (hb.cell (World.block_lt_of_cell? W _ h.c2)).trans h.c2
theorem TS.at_ (h : TS w g6 G n cap sp g0 k0 g1 k1 g2 k2 m L W) (k : Nat) (hk : k < n) {g q : Nat} (hc : W.cell? ⟨G, k * 3 + 2, none⟩ = some (.slice (some ⟨g, 0, none⟩) m q)) (j : Nat) (hj : j < m) : W.cell? ⟨g, j, none⟩ = some (.int .u32 (smp L k j)) ∧ W.frozen? ⟨g, j, none⟩ = false :=
  (S_store h.row k hk hc).2.2.2.2.1 j hj
theorem TS.put (h : TS w g6 G n cap sp g0 k0 g1 k1 g2 k2 m L W) (k : Nat) (hk : k < n) {g q : Nat} (hc : W.cell? ⟨G, k * 3 + 2, none⟩ = some (.slice (some ⟨g, 0, none⟩) m q)) (j : Nat) (x : Int) : TS w g6 G n cap sp g0 k0 g1 k1 g2 k2 m (setP L k j x) (W.setCell ⟨g, j, none⟩ (.int .u32 x)) := by
  obtain ⟨hm, hne, hbase, ⟨cells, hcl⟩, _, hS⟩ := S_store h.row k hk hc
  exact {
    below := below_set h.below hbase
    res := (Below.heap_setCell W ⟨g, j, none⟩ _ _ (ne_of_tags h.res hcl (by decide))).trans h.res
    out := (Below.heap_setCell W ⟨g, j, none⟩ _ _ (ne_of_tags h.out hcl (by decide))).trans h.out
    row := hS j x
    c0 := (cell_far (by exact hne) _).trans h.c0
    c1 := (cell_far (by exact hne) _).trans h.c1
    c2 := (cell_far (by exact hne) _).trans h.c2 }
end Go.Proofs.YtimghiiihjphiaaGreat.trips
