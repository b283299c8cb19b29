/- A call, done by the kernel: what it is asked and what it answers. No condition. -/
import Derived.Test.YtgpegjmbofgmmaaGreatJouRunPiece4
import Derived.KernelRfl
namespace Go.Proofs.YtgpegjmbofgmmaaGreat.jouRun
open Go.Ab
def e5 : Tent :=
    ⟨[.slice (some ⟨2469, 0, (some 6)⟩) 2 2], 2470, [(1316, .cells [.int .u32 (.ofNat 0), .int .u32 (.ofNat 0), .int .u32 (.ofNat 0), .int .u32 (.ofNat 0), .int .u32 (.ofNat 0), .int
    .u32 (.ofNat 0), .int .u32 (.ofNat 0), .int .u32 (.ofNat 0), .int .u32 (.ofNat 0), .int .u32 (.ofNat 5), .int .u32 (.ofNat 0), .int .u32 (.ofNat 0), .int .u32 (.ofNat 0), .int .u32
    (.ofNat 0), .int .u32 (.ofNat 0), .int .u32 (.ofNat 0)] (some 1)), (1318, .cells [.int .i64 (.ofNat 4), .int .i64 (.ofNat 4), .slice (some ⟨1316, 0, (some 1)⟩) 16 16] (some 3)),
    (2154, .cells [.int .i64 (.ofNat 0)] (some 1)), (2163, .cells [.int .i64 (.ofNat 2), .int .i64 (.ofNat 0), .int .i64 (.ofNat 3)] (some 1)), (2469, .cells [.int .i64 (.ofNat 1),
    .slice none 0 0, .slice none 0 0, .slice none 0 0, .int .i64 (.ofNat 0), .slice (some ⟨1318, 0, (some 3)⟩) 1 1, .int .i64 (.ofNat 12), .slice (some ⟨2154, 0, (some 1)⟩) 1 1, .slice
    (some ⟨2163, 0, (some 1)⟩) 3 3, .slice none 0 0, .int .i64 (.ofNat 0), .slice none 0 0] (some 6))], .tuple ⟨[.pointer (some ⟨2470, 0, none⟩), .int .i64 (.ofNat 0)]⟩, 2718, [(1316,
    .cells [.int .u32 (.ofNat 0), .int .u32 (.ofNat 0), .int .u32 (.ofNat 0), .int .u32 (.ofNat 0), .int .u32 (.ofNat 0), .int .u32 (.ofNat 0), .int .u32 (.ofNat 0), .int .u32 (.ofNat
    0), .int .u32 (.ofNat 0), .int .u32 (.ofNat 5), .int .u32 (.ofNat 0), .int .u32 (.ofNat 0), .int .u32 (.ofNat 0), .int .u32 (.ofNat 0), .int .u32 (.ofNat 0), .int .u32 (.ofNat 0)]
    (some 1)), (1318, .cells [.int .i64 (.ofNat 4), .int .i64 (.ofNat 4), .slice (some ⟨1316, 0, (some 1)⟩) 16 16] (some 3)), (2154, .cells [.int .i64 (.ofNat 0)] (some 1)), (2163,
    .cells [.int .i64 (.ofNat 2), .int .i64 (.ofNat 0), .int .i64 (.ofNat 3)] (some 1)), (2469, .cells [.int .i64 (.ofNat 1), .slice none 0 0, .slice none 0 0, .slice none 0 0, .int
    .i64 (.ofNat 0), .slice (some ⟨1318, 0, (some 3)⟩) 1 1, .int .i64 (.ofNat 12), .slice (some ⟨2154, 0, (some 1)⟩) 1 1, .slice (some ⟨2163, 0, (some 1)⟩) 3 3, .slice none 0 0, .int
    .i64 (.ofNat 0), .slice none 0 0] (some 6)), (2470, .cells [.slice (some ⟨2717, 0, (some 11)⟩) 2 2] none), (2483, .cells [.int .u32 (.ofNat 0), .int .u32 (.ofNat 0), .int .u32
    (.ofNat 0), .int .u32 (.ofNat 0), .int .u32 (.ofNat 0), .int .u32 (.ofNat 0), .int .u32 (.ofNat 0), .int .u32 (.ofNat 0), .int .u32 (.ofNat 0), .int .u32 (.ofNat 5), .int .u32
    (.ofNat 0), .int .u32 (.ofNat 0), .int .u32 (.ofNat 0), .int .u32 (.ofNat 0), .int .u32 (.ofNat 0), .int .u32 (.ofNat 0)] (some 1)), (2485, .cells [.int .i64 (.ofNat 4), .int .i64
    (.ofNat 4), .slice (some ⟨2483, 0, (some 1)⟩) 16 16] (some 3)), (2510, .cells [.int .i64 (.ofNat 0)] (some 1)), (2512, .cells [.int .i64 (.ofNat 2), .int .i64 (.ofNat 0), .int .i64
    (.ofNat 3)] (some 1)), (2521, .cells [.slice (some ⟨2512, 0, (some 1)⟩) 3 3] none), (2522, .cells [.int .i64 (.ofNat 3)] none), (2523, .cells [.int .i64 (.ofNat 4)] none), (2524,
    .cells [.int .i64 (.ofNat 0)] none), (2525, .cells [.int .i64 (.ofNat 0)] none), (2526, .cells [.int .i64 (.ofNat 3)] none), (2527, .cells [.int .i64 (.ofNat 4)] none), (2528,
    .cells [.int .i64 (.ofNat 0)] none), (2529, .cells [.int .i64 (.ofNat 0)] none), (2717, .cells [.int .i64 (.ofNat 1), .slice none 0 0, .slice none 0 0, .slice none 0 0, .int .i64
    (.ofNat 0), .slice (some ⟨2485, 0, (some 3)⟩) 1 1, .iface 385 (.agg ⟨[.int .i64 (.ofNat 0), .slice (some ⟨2485, 0, (some 3)⟩) 1 1]⟩), .int .i64 (.ofNat 4), .int .i64 (.ofNat 4),
    .int .i64 (.ofNat 0), .int .i64 (.ofNat 1), .int .i64 (.ofNat 12), .slice (some ⟨2510, 0, (some 1)⟩) 1 1, .slice (some ⟨2512, 0, (some 1)⟩) 3 3, .slice none 0 0, .int .i64 (.ofNat
    0), .slice none 0 0, .iface 502 (.agg ⟨[.func (.func 389) ⟨[]⟩ ⟨[.pointer (some ⟨2521, 0, none⟩)]⟩, .func (.func 503) ⟨[]⟩ ⟨[.pointer (some ⟨2524, 0, none⟩), .pointer (some ⟨2525,
    0, none⟩), .pointer (some ⟨2522, 0, none⟩), .pointer (some ⟨2523, 0, none⟩)]⟩, .func (.func 503) ⟨[]⟩ ⟨[.pointer (some ⟨2528, 0, none⟩), .pointer (some ⟨2529, 0, none⟩), .pointer
    (some ⟨2526, 0, none⟩), .pointer (some ⟨2527, 0, none⟩)]⟩]⟩), .int .i64 (.ofNat 4), .int .i64 (.ofNat 4), .int .i64 (.ofNat 0), .int .i64 (.ofNat 1)] (some 11))]⟩
theorem e5_tabs : ∀ x, x ∈ ([] : List (Nat × List Tent)) → ∀ e, e ∈ x.2 → TentOK Tryz.prog x.1 e := by
  intro x hx
  simp at hx
theorem e5_good : goodE e5 = true := by kernel_rfl
theorem e5_ran : okR (runF (withTabs [] base) 1000 85 e5.args e5.h0 (pieceK e5)) = true := by kernel_rfl
theorem e5_ok : TentOK Tryz.prog 85 e5 := piece_ok (withTabs_ok _ _ e5_tabs baseOK) e5_good e5_ran
end Go.Proofs.YtgpegjmbofgmmaaGreat.jouRun
