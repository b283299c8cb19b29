/- A call, done by the kernel: what it is asked and what it answers. No condition. -/
import Derived.Test.YtgpegjmbofgmmaaGreatJouRunBase
import Derived.KernelRfl
namespace Go.Proofs.YtgpegjmbofgmmaaGreat.jouRun
open Go.Ab
def e0 : Tent :=
    ⟨[.slice (some ⟨217, 0, none⟩) 2 2], 218, [(213, .cells [.int .u32 (.ofNat 0), .int .u32 (.ofNat 0), .int .u32 (.ofNat 0), .int .u32 (.ofNat 0), .int .u32 (.ofNat 0), .int .u32
    (.ofNat 0), .int .u32 (.ofNat 0), .int .u32 (.ofNat 0), .int .u32 (.ofNat 0), .int .u32 (.ofNat 0), .int .u32 (.ofNat 0), .int .u32 (.ofNat 0), .int .u32 (.ofNat 0), .int .u32
    (.ofNat 0), .int .u32 (.ofNat 0), .int .u32 (.ofNat 0)] none), (214, .cells [.int .i64 (.ofNat 4), .int .i64 (.ofNat 4), .slice (some ⟨213, 0, none⟩) 16 16] none), (215, .cells
    [.int .i64 (.ofNat 0)] none), (216, .cells [.int .i64 (.ofNat 2), .int .i64 (.ofNat 1), .int .i64 (.ofNat 2)] none), (217, .cells [.int .i64 (.ofNat 1), .slice none 0 0, .slice
    none 0 0, .slice none 0 0, .int .i64 (.ofNat 0), .slice (some ⟨214, 0, none⟩) 1 1, .int .i64 (.ofNat 12), .slice (some ⟨215, 0, none⟩) 1 1, .slice (some ⟨216, 0, none⟩) 3 3, .slice
    none 0 0, .int .i64 (.ofNat 0), .slice none 0 0] none)], .tuple ⟨[.pointer (some ⟨218, 0, none⟩), .int .i64 (.ofNat 0)]⟩, 530, [(213, .cells [.int .u32 (.ofNat 0), .int .u32
    (.ofNat 0), .int .u32 (.ofNat 0), .int .u32 (.ofNat 0), .int .u32 (.ofNat 0), .int .u32 (.ofNat 0), .int .u32 (.ofNat 0), .int .u32 (.ofNat 0), .int .u32 (.ofNat 0), .int .u32
    (.ofNat 0), .int .u32 (.ofNat 0), .int .u32 (.ofNat 0), .int .u32 (.ofNat 0), .int .u32 (.ofNat 0), .int .u32 (.ofNat 0), .int .u32 (.ofNat 0)] none), (214, .cells [.int .i64
    (.ofNat 4), .int .i64 (.ofNat 4), .slice (some ⟨213, 0, none⟩) 16 16] none), (215, .cells [.int .i64 (.ofNat 0)] none), (216, .cells [.int .i64 (.ofNat 2), .int .i64 (.ofNat 1),
    .int .i64 (.ofNat 2)] none), (217, .cells [.int .i64 (.ofNat 1), .slice none 0 0, .slice none 0 0, .slice none 0 0, .int .i64 (.ofNat 0), .slice (some ⟨214, 0, none⟩) 1 1, .int
    .i64 (.ofNat 12), .slice (some ⟨215, 0, none⟩) 1 1, .slice (some ⟨216, 0, none⟩) 3 3, .slice none 0 0, .int .i64 (.ofNat 0), .slice none 0 0] none), (218, .cells [.slice (some
    ⟨529, 0, (some 11)⟩) 2 2] none), (231, .cells [.int .u32 (.ofNat 0), .int .u32 (.ofNat 0), .int .u32 (.ofNat 0), .int .u32 (.ofNat 0), .int .u32 (.ofNat 0), .int .u32 (.ofNat 0),
    .int .u32 (.ofNat 0), .int .u32 (.ofNat 0), .int .u32 (.ofNat 0), .int .u32 (.ofNat 0), .int .u32 (.ofNat 0), .int .u32 (.ofNat 0), .int .u32 (.ofNat 0), .int .u32 (.ofNat 0), .int
    .u32 (.ofNat 0), .int .u32 (.ofNat 0)] (some 1)), (233, .cells [.int .i64 (.ofNat 4), .int .i64 (.ofNat 4), .slice (some ⟨231, 0, (some 1)⟩) 16 16] (some 3)), (258, .cells [.int
    .i64 (.ofNat 0)] (some 1)), (260, .cells [.int .i64 (.ofNat 2), .int .i64 (.ofNat 1), .int .i64 (.ofNat 2)] (some 1)), (269, .cells [.slice (some ⟨260, 0, (some 1)⟩) 3 3] none),
    (270, .cells [.int .i64 (.ofNat 2)] none), (271, .cells [.int .i64 (.ofNat 4)] none), (272, .cells [.int .i64 (.ofNat 1)] none), (273, .cells [.int .i64 (.ofNat 1)] none), (274,
    .cells [.int .i64 (.ofNat 2)] none), (275, .cells [.int .i64 (.ofNat 4)] none), (276, .cells [.int .i64 (.ofNat 1)] none), (277, .cells [.int .i64 (.ofNat 1)] none), (529, .cells
    [.int .i64 (.ofNat 1), .slice none 0 0, .slice none 0 0, .slice none 0 0, .int .i64 (.ofNat 0), .slice (some ⟨233, 0, (some 3)⟩) 1 1, .iface 385 (.agg ⟨[.int .i64 (.ofNat 0),
    .slice (some ⟨233, 0, (some 3)⟩) 1 1]⟩), .int .i64 (.ofNat 4), .int .i64 (.ofNat 4), .int .i64 (.ofNat 0), .int .i64 (.ofNat 1), .int .i64 (.ofNat 12), .slice (some ⟨258, 0, (some
    1)⟩) 1 1, .slice (some ⟨260, 0, (some 1)⟩) 3 3, .slice none 0 0, .int .i64 (.ofNat 0), .slice none 0 0, .iface 502 (.agg ⟨[.func (.func 389) ⟨[]⟩ ⟨[.pointer (some ⟨269, 0,
    none⟩)]⟩, .func (.func 503) ⟨[]⟩ ⟨[.pointer (some ⟨272, 0, none⟩), .pointer (some ⟨273, 0, none⟩), .pointer (some ⟨270, 0, none⟩), .pointer (some ⟨271, 0, none⟩)]⟩, .func (.func
    503) ⟨[]⟩ ⟨[.pointer (some ⟨276, 0, none⟩), .pointer (some ⟨277, 0, none⟩), .pointer (some ⟨274, 0, none⟩), .pointer (some ⟨275, 0, none⟩)]⟩]⟩), .int .i64 (.ofNat 4), .int .i64
    (.ofNat 4), .int .i64 (.ofNat 0), .int .i64 (.ofNat 1)] (some 11))]⟩
theorem e0_tabs : ∀ x, x ∈ ([] : List (Nat × List Tent)) → ∀ e, e ∈ x.2 → TentOK Tryz.prog x.1 e := by
  intro x hx
  simp at hx
theorem e0_good : goodE e0 = true := by kernel_rfl
theorem e0_ran : okR (runF (withTabs [] base) 1000 85 e0.args e0.h0 (pieceK e0)) = true := by kernel_rfl
theorem e0_ok : TentOK Tryz.prog 85 e0 := piece_ok (withTabs_ok _ _ e0_tabs baseOK) e0_good e0_ran
end Go.Proofs.YtgpegjmbofgmmaaGreat.jouRun
