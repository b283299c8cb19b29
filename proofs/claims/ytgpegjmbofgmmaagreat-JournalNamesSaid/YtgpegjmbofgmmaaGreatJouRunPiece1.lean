/- A call, done by the kernel: what it is asked and what it answers. No condition. -/
import Derived.Test.YtgpegjmbofgmmaaGreatJouRunPiece0
import Derived.KernelRfl
namespace Go.Proofs.YtgpegjmbofgmmaaGreat.jouRun
open Go.Ab
def e1 : Tent :=
    ⟨[.slice (some ⟨217, 0, none⟩) 2 2, .int .i64 (.ofNat 2), .int .i64 (.ofNat 9), .int .i64 (.ofNat 1)], 218, [(213, .cells [.int .u32 (.ofNat 0), .int .u32 (.ofNat 0), .int .u32
    (.ofNat 0), .int .u32 (.ofNat 0), .int .u32 (.ofNat 0), .int .u32 (.ofNat 0), .int .u32 (.ofNat 0), .int .u32 (.ofNat 0), .int .u32 (.ofNat 0), .int .u32 (.ofNat 0), .int .u32
    (.ofNat 0), .int .u32 (.ofNat 0), .int .u32 (.ofNat 0), .int .u32 (.ofNat 0), .int .u32 (.ofNat 0), .int .u32 (.ofNat 0)] none), (214, .cells [.int .i64 (.ofNat 4), .int .i64
    (.ofNat 4), .slice (some ⟨213, 0, none⟩) 16 16] none), (215, .cells [.int .i64 (.ofNat 0)] none), (216, .cells [.int .i64 (.ofNat 2), .int .i64 (.ofNat 1), .int .i64 (.ofNat 2)]
    none), (217, .cells [.int .i64 (.ofNat 1), .slice none 0 0, .slice none 0 0, .slice none 0 0, .int .i64 (.ofNat 0), .slice (some ⟨214, 0, none⟩) 1 1, .int .i64 (.ofNat 12), .slice
    (some ⟨215, 0, none⟩) 1 1, .slice (some ⟨216, 0, none⟩) 3 3, .slice none 0 0, .int .i64 (.ofNat 0), .slice none 0 0] none)], .tuple ⟨[.pointer (some ⟨968, 0, none⟩), .int .i64
    (.ofNat 0)]⟩, 969, [(213, .cells [.int .u32 (.ofNat 0), .int .u32 (.ofNat 0), .int .u32 (.ofNat 0), .int .u32 (.ofNat 0), .int .u32 (.ofNat 0), .int .u32 (.ofNat 0), .int .u32
    (.ofNat 0), .int .u32 (.ofNat 0), .int .u32 (.ofNat 0), .int .u32 (.ofNat 0), .int .u32 (.ofNat 0), .int .u32 (.ofNat 0), .int .u32 (.ofNat 0), .int .u32 (.ofNat 0), .int .u32
    (.ofNat 0), .int .u32 (.ofNat 0)] none), (214, .cells [.int .i64 (.ofNat 4), .int .i64 (.ofNat 4), .slice (some ⟨213, 0, none⟩) 16 16] none), (215, .cells [.int .i64 (.ofNat 0)]
    none), (216, .cells [.int .i64 (.ofNat 2), .int .i64 (.ofNat 1), .int .i64 (.ofNat 2)] none), (217, .cells [.int .i64 (.ofNat 1), .slice none 0 0, .slice none 0 0, .slice none 0 0,
    .int .i64 (.ofNat 0), .slice (some ⟨214, 0, none⟩) 1 1, .int .i64 (.ofNat 12), .slice (some ⟨215, 0, none⟩) 1 1, .slice (some ⟨216, 0, none⟩) 3 3, .slice none 0 0, .int .i64
    (.ofNat 0), .slice none 0 0] none), (218, .cells [.slice (some ⟨529, 0, (some 11)⟩) 2 2] none), (231, .cells [.int .u32 (.ofNat 0), .int .u32 (.ofNat 0), .int .u32 (.ofNat 0), .int
    .u32 (.ofNat 0), .int .u32 (.ofNat 0), .int .u32 (.ofNat 0), .int .u32 (.ofNat 0), .int .u32 (.ofNat 0), .int .u32 (.ofNat 0), .int .u32 (.ofNat 0), .int .u32 (.ofNat 0), .int .u32
    (.ofNat 0), .int .u32 (.ofNat 0), .int .u32 (.ofNat 0), .int .u32 (.ofNat 0), .int .u32 (.ofNat 0)] (some 1)), (233, .cells [.int .i64 (.ofNat 4), .int .i64 (.ofNat 4), .slice
    (some ⟨231, 0, (some 1)⟩) 16 16] (some 3)), (258, .cells [.int .i64 (.ofNat 0)] (some 1)), (260, .cells [.int .i64 (.ofNat 2), .int .i64 (.ofNat 1), .int .i64 (.ofNat 2)] (some
    1)), (269, .cells [.slice (some ⟨260, 0, (some 1)⟩) 3 3] none), (270, .cells [.int .i64 (.ofNat 2)] none), (271, .cells [.int .i64 (.ofNat 4)] none), (272, .cells [.int .i64
    (.ofNat 1)] none), (273, .cells [.int .i64 (.ofNat 1)] none), (274, .cells [.int .i64 (.ofNat 2)] none), (275, .cells [.int .i64 (.ofNat 4)] none), (276, .cells [.int .i64 (.ofNat
    1)] none), (277, .cells [.int .i64 (.ofNat 1)] none), (529, .cells [.int .i64 (.ofNat 1), .slice none 0 0, .slice none 0 0, .slice none 0 0, .int .i64 (.ofNat 0), .slice (some
    ⟨233, 0, (some 3)⟩) 1 1, .iface 385 (.agg ⟨[.int .i64 (.ofNat 0), .slice (some ⟨233, 0, (some 3)⟩) 1 1]⟩), .int .i64 (.ofNat 4), .int .i64 (.ofNat 4), .int .i64 (.ofNat 0), .int
    .i64 (.ofNat 1), .int .i64 (.ofNat 12), .slice (some ⟨258, 0, (some 1)⟩) 1 1, .slice (some ⟨260, 0, (some 1)⟩) 3 3, .slice none 0 0, .int .i64 (.ofNat 0), .slice none 0 0, .iface
    502 (.agg ⟨[.func (.func 389) ⟨[]⟩ ⟨[.pointer (some ⟨269, 0, none⟩)]⟩, .func (.func 503) ⟨[]⟩ ⟨[.pointer (some ⟨272, 0, none⟩), .pointer (some ⟨273, 0, none⟩), .pointer (some ⟨270,
    0, none⟩), .pointer (some ⟨271, 0, none⟩)]⟩, .func (.func 503) ⟨[]⟩ ⟨[.pointer (some ⟨276, 0, none⟩), .pointer (some ⟨277, 0, none⟩), .pointer (some ⟨274, 0, none⟩), .pointer (some
    ⟨275, 0, none⟩)]⟩]⟩), .int .i64 (.ofNat 4), .int .i64 (.ofNat 4), .int .i64 (.ofNat 0), .int .i64 (.ofNat 1)] (some 11)), (530, .map []), (531, .cells [.int .i64 (.ofNat 9), .int
    .i64 (.ofNat 0), .map (some 530)] none), (532, .cells [.pointer (some ⟨218, 0, none⟩), .pointer (some ⟨531, 0, none⟩), .int .i64 (.ofNat 2), .int .i64 (.ofNat 1), .slice none 0 0,
    .slice none 0 0] none), (967, .cells [.int .u8 (.ofNat 0), .int .u8 (.ofNat 0), .int .u8 (.ofNat 0), .int .u8 (.ofNat 171), .int .u8 (.ofNat 0), .int .u8 (.ofNat 72), .int .u8
    (.ofNat 76), .int .u8 (.ofNat 74), .int .u8 (.ofNat 49), .int .u8 (.ofNat 0), .int .u8 (.ofNat 0), .int .u8 (.ofNat 0), .int .u8 (.ofNat 0), .int .u8 (.ofNat 0), .int .u8 (.ofNat
    0), .int .u8 (.ofNat 0), .int .u8 (.ofNat 2), .int .u8 (.ofNat 0), .int .u8 (.ofNat 0), .int .u8 (.ofNat 0), .int .u8 (.ofNat 0), .int .u8 (.ofNat 0), .int .u8 (.ofNat 0), .int .u8
    (.ofNat 0), .int .u8 (.ofNat 9), .int .u8 (.ofNat 0), .int .u8 (.ofNat 0), .int .u8 (.ofNat 0), .int .u8 (.ofNat 0), .int .u8 (.ofNat 0), .int .u8 (.ofNat 0), .int .u8 (.ofNat 0),
    .int .u8 (.ofNat 1), .int .u8 (.ofNat 0), .int .u8 (.ofNat 0), .int .u8 (.ofNat 0), .int .u8 (.ofNat 0), .int .u8 (.ofNat 0), .int .u8 (.ofNat 0), .int .u8 (.ofNat 0), .int .u8
    (.ofNat 2), .int .u8 (.ofNat 0), .int .u8 (.ofNat 0), .int .u8 (.ofNat 0), .int .u8 (.ofNat 0), .int .u8 (.ofNat 0), .int .u8 (.ofNat 0), .int .u8 (.ofNat 0), .int .u8 (.ofNat 1),
    .int .u8 (.ofNat 0), .int .u8 (.ofNat 0), .int .u8 (.ofNat 0), .int .u8 (.ofNat 0), .int .u8 (.ofNat 0), .int .u8 (.ofNat 0), .int .u8 (.ofNat 0), .int .u8 (.ofNat 0), .int .u8
    (.ofNat 0), .int .u8 (.ofNat 0), .int .u8 (.ofNat 0), .int .u8 (.ofNat 0), .int .u8 (.ofNat 0), .int .u8 (.ofNat 0), .int .u8 (.ofNat 0), .int .u8 (.ofNat 0), .int .u8 (.ofNat 0),
    .int .u8 (.ofNat 0), .int .u8 (.ofNat 0), .int .u8 (.ofNat 0), .int .u8 (.ofNat 0), .int .u8 (.ofNat 0), .int .u8 (.ofNat 0), .int .u8 (.ofNat 0), .int .u8 (.ofNat 0), .int .u8
    (.ofNat 0), .int .u8 (.ofNat 0), .int .u8 (.ofNat 0), .int .u8 (.ofNat 0), .int .u8 (.ofNat 0), .int .u8 (.ofNat 0), .int .u8 (.ofNat 30), .int .u8 (.ofNat 72), .int .u8 (.ofNat
    76), .int .u8 (.ofNat 68), .int .u8 (.ofNat 49), .int .u8 (.ofNat 0), .int .u8 (.ofNat 1), .int .u8 (.ofNat 0), .int .u8 (.ofNat 4), .int .u8 (.ofNat 0), .int .u8 (.ofNat 4), .int
    .u8 (.ofNat 4), .int .u8 (.ofNat 0), .int .u8 (.ofNat 0), .int .u8 (.ofNat 0), .int .u8 (.ofNat 0), .int .u8 (.ofNat 6), .int .u8 (.ofNat 166), .int .u8 (.ofNat 253), .int .u8
    (.ofNat 241), .int .u8 (.ofNat 197), .int .u8 (.ofNat 0), .int .u8 (.ofNat 0), .int .u8 (.ofNat 0), .int .u8 (.ofNat 0), .int .u8 (.ofNat 0), .int .u8 (.ofNat 0), .int .u8 (.ofNat
    177), .int .u8 (.ofNat 194), .int .u8 (.ofNat 161), .int .u8 (.ofNat 163), .int .u8 (.ofNat 0), .int .u8 (.ofNat 0), .int .u8 (.ofNat 0), .int .u8 (.ofNat 0), .int .u8 (.ofNat 0),
    .int .u8 (.ofNat 0), .int .u8 (.ofNat 0), .int .u8 (.ofNat 12), .int .u8 (.ofNat 0), .int .u8 (.ofNat 0), .int .u8 (.ofNat 0), .int .u8 (.ofNat 0), .int .u8 (.ofNat 0), .int .u8
    (.ofNat 0), .int .u8 (.ofNat 0), .int .u8 (.ofNat 1), .int .u8 (.ofNat 0), .int .u8 (.ofNat 0), .int .u8 (.ofNat 0), .int .u8 (.ofNat 0), .int .u8 (.ofNat 0), .int .u8 (.ofNat 0),
    .int .u8 (.ofNat 0), .int .u8 (.ofNat 0), .int .u8 (.ofNat 0), .int .u8 (.ofNat 0), .int .u8 (.ofNat 0), .int .u8 (.ofNat 0), .int .u8 (.ofNat 0), .int .u8 (.ofNat 0), .int .u8
    (.ofNat 0), .int .u8 (.ofNat 3), .int .u8 (.ofNat 0), .int .u8 (.ofNat 0), .int .u8 (.ofNat 0), .int .u8 (.ofNat 0), .int .u8 (.ofNat 0), .int .u8 (.ofNat 0), .int .u8 (.ofNat 0),
    .int .u8 (.ofNat 2), .int .u8 (.ofNat 0), .int .u8 (.ofNat 0), .int .u8 (.ofNat 0), .int .u8 (.ofNat 0), .int .u8 (.ofNat 0), .int .u8 (.ofNat 0), .int .u8 (.ofNat 0), .int .u8
    (.ofNat 1), .int .u8 (.ofNat 0), .int .u8 (.ofNat 0), .int .u8 (.ofNat 0), .int .u8 (.ofNat 0), .int .u8 (.ofNat 0), .int .u8 (.ofNat 0), .int .u8 (.ofNat 0), .int .u8 (.ofNat 2),
    .int .u8 (.ofNat 0), .int .u8 (.ofNat 0), .int .u8 (.ofNat 0), .int .u8 (.ofNat 0), .int .u8 (.ofNat 0), .int .u8 (.ofNat 0), .int .u8 (.ofNat 0), .int .u8 (.ofNat 0), .int .u8
    (.ofNat 59), .int .u8 (.ofNat 15), .int .u8 (.ofNat 191), .int .u8 (.ofNat 160)] (some 1)), (968, .cells [.pointer (some ⟨532, 0, none⟩), .slice (some ⟨967, 0, (some 1)⟩) 179 179,
    .int .i64 (.ofNat 179), .bool false] none)]⟩
theorem e1_tabs : ∀ x, x ∈ ([(85, [e0])] : List (Nat × List Tent)) → ∀ e, e ∈ x.2 → TentOK Tryz.prog x.1 e := by
  intro x hx
  simp only [List.mem_cons, List.not_mem_nil, or_false] at hx
  subst hx
  intro e he
  simp only [List.mem_cons, List.not_mem_nil, or_false] at he
  subst he
  exact e0_ok
theorem e1_good : goodE e1 = true := by kernel_rfl
theorem e1_ran : okR (runF (withTabs [(85, [e0])] base) 1000 17 e1.args e1.h0 (pieceK e1)) = true := by kernel_rfl
theorem e1_ok : TentOK Tryz.prog 17 e1 := piece_ok (withTabs_ok _ _ e1_tabs baseOK) e1_good e1_ran
end Go.Proofs.YtgpegjmbofgmmaaGreat.jouRun
