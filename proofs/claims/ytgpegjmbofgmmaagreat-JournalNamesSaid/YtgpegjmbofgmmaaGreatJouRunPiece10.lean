/- A call, done by the kernel: what it is asked and what it answers. No condition. -/
import Derived.Test.YtgpegjmbofgmmaaGreatJouRunPiece9
import Derived.KernelRfl
namespace Go.Proofs.YtgpegjmbofgmmaaGreat.jouRun
open Go.Ab
def e10 : Tent :=
    ⟨[.slice (some ⟨3394, 0, (some 6)⟩) 2 2], 3831, [(3310, .cells [.int .u32 (.ofNat 0), .int .u32 (.ofNat 0), .int .u32 (.ofNat 0), .int .u32 (.ofNat 0), .int .u32 (.ofNat 0), .int
    .u32 (.ofNat 0), .int .u32 (.ofNat 0), .int .u32 (.ofNat 0), .int .u32 (.ofNat 0), .int .u32 (.ofNat 0), .int .u32 (.ofNat 0), .int .u32 (.ofNat 0), .int .u32 (.ofNat 0), .int .u32
    (.ofNat 0), .int .u32 (.ofNat 0), .int .u32 (.ofNat 0)] none), (3330, .cells [.int .i64 (.ofNat 4), .int .i64 (.ofNat 4), .slice (some ⟨3310, 0, none⟩) 16 16] (some 3)), (3386,
    .cells [.int .i64 (.ofNat 0)] (some 1)), (3392, .cells [.int .i64 (.ofNat 2), .int .i64 (.ofNat 1), .int .i64 (.ofNat 2)] (some 1)), (3394, .cells [.int .i64 (.ofNat 1), .slice
    none 0 0, .slice none 0 0, .slice none 0 0, .int .i64 (.ofNat 0), .slice (some ⟨3330, 0, (some 3)⟩) 1 1, .int .i64 (.ofNat 12), .slice (some ⟨3386, 0, (some 1)⟩) 1 1, .slice (some
    ⟨3392, 0, (some 1)⟩) 3 3, .slice none 0 0, .int .i64 (.ofNat 0), .slice none 0 0] (some 6))], .tuple ⟨[.pointer (some ⟨3831, 0, none⟩), .int .i64 (.ofNat 0)]⟩, 4143, [(3310, .cells
    [.int .u32 (.ofNat 0), .int .u32 (.ofNat 0), .int .u32 (.ofNat 0), .int .u32 (.ofNat 0), .int .u32 (.ofNat 0), .int .u32 (.ofNat 0), .int .u32 (.ofNat 0), .int .u32 (.ofNat 0),
    .int .u32 (.ofNat 0), .int .u32 (.ofNat 0), .int .u32 (.ofNat 0), .int .u32 (.ofNat 0), .int .u32 (.ofNat 0), .int .u32 (.ofNat 0), .int .u32 (.ofNat 0), .int .u32 (.ofNat 0)]
    none), (3330, .cells [.int .i64 (.ofNat 4), .int .i64 (.ofNat 4), .slice (some ⟨3310, 0, none⟩) 16 16] (some 3)), (3386, .cells [.int .i64 (.ofNat 0)] (some 1)), (3392, .cells
    [.int .i64 (.ofNat 2), .int .i64 (.ofNat 1), .int .i64 (.ofNat 2)] (some 1)), (3394, .cells [.int .i64 (.ofNat 1), .slice none 0 0, .slice none 0 0, .slice none 0 0, .int .i64
    (.ofNat 0), .slice (some ⟨3330, 0, (some 3)⟩) 1 1, .int .i64 (.ofNat 12), .slice (some ⟨3386, 0, (some 1)⟩) 1 1, .slice (some ⟨3392, 0, (some 1)⟩) 3 3, .slice none 0 0, .int .i64
    (.ofNat 0), .slice none 0 0] (some 6)), (3831, .cells [.slice (some ⟨4142, 0, (some 11)⟩) 2 2] none), (3844, .cells [.int .u32 (.ofNat 0), .int .u32 (.ofNat 0), .int .u32 (.ofNat
    0), .int .u32 (.ofNat 0), .int .u32 (.ofNat 0), .int .u32 (.ofNat 0), .int .u32 (.ofNat 0), .int .u32 (.ofNat 0), .int .u32 (.ofNat 0), .int .u32 (.ofNat 0), .int .u32 (.ofNat 0),
    .int .u32 (.ofNat 0), .int .u32 (.ofNat 0), .int .u32 (.ofNat 0), .int .u32 (.ofNat 0), .int .u32 (.ofNat 0)] (some 1)), (3846, .cells [.int .i64 (.ofNat 4), .int .i64 (.ofNat 4),
    .slice (some ⟨3844, 0, (some 1)⟩) 16 16] (some 3)), (3871, .cells [.int .i64 (.ofNat 0)] (some 1)), (3873, .cells [.int .i64 (.ofNat 2), .int .i64 (.ofNat 1), .int .i64 (.ofNat 2)]
    (some 1)), (3882, .cells [.slice (some ⟨3873, 0, (some 1)⟩) 3 3] none), (3883, .cells [.int .i64 (.ofNat 2)] none), (3884, .cells [.int .i64 (.ofNat 4)] none), (3885, .cells [.int
    .i64 (.ofNat 1)] none), (3886, .cells [.int .i64 (.ofNat 1)] none), (3887, .cells [.int .i64 (.ofNat 2)] none), (3888, .cells [.int .i64 (.ofNat 4)] none), (3889, .cells [.int .i64
    (.ofNat 1)] none), (3890, .cells [.int .i64 (.ofNat 1)] none), (4142, .cells [.int .i64 (.ofNat 1), .slice none 0 0, .slice none 0 0, .slice none 0 0, .int .i64 (.ofNat 0), .slice
    (some ⟨3846, 0, (some 3)⟩) 1 1, .iface 385 (.agg ⟨[.int .i64 (.ofNat 0), .slice (some ⟨3846, 0, (some 3)⟩) 1 1]⟩), .int .i64 (.ofNat 4), .int .i64 (.ofNat 4), .int .i64 (.ofNat 0),
    .int .i64 (.ofNat 1), .int .i64 (.ofNat 12), .slice (some ⟨3871, 0, (some 1)⟩) 1 1, .slice (some ⟨3873, 0, (some 1)⟩) 3 3, .slice none 0 0, .int .i64 (.ofNat 0), .slice none 0 0,
    .iface 502 (.agg ⟨[.func (.func 389) ⟨[]⟩ ⟨[.pointer (some ⟨3882, 0, none⟩)]⟩, .func (.func 503) ⟨[]⟩ ⟨[.pointer (some ⟨3885, 0, none⟩), .pointer (some ⟨3886, 0, none⟩), .pointer
    (some ⟨3883, 0, none⟩), .pointer (some ⟨3884, 0, none⟩)]⟩, .func (.func 503) ⟨[]⟩ ⟨[.pointer (some ⟨3889, 0, none⟩), .pointer (some ⟨3890, 0, none⟩), .pointer (some ⟨3887, 0,
    none⟩), .pointer (some ⟨3888, 0, none⟩)]⟩]⟩), .int .i64 (.ofNat 4), .int .i64 (.ofNat 4), .int .i64 (.ofNat 0), .int .i64 (.ofNat 1)] (some 11))]⟩
theorem e10_tabs : ∀ x, x ∈ ([] : List (Nat × List Tent)) → ∀ e, e ∈ x.2 → TentOK Tryz.prog x.1 e := by
  intro x hx
  simp at hx
theorem e10_good : goodE e10 = true := by kernel_rfl
theorem e10_ran : okR (runF (withTabs [] base) 1000 85 e10.args e10.h0 (pieceK e10)) = true := by kernel_rfl
theorem e10_ok : TentOK Tryz.prog 85 e10 := piece_ok (withTabs_ok _ _ e10_tabs baseOK) e10_good e10_ran
end Go.Proofs.YtgpegjmbofgmmaaGreat.jouRun
