/- A call, done by the kernel: what it is asked and what it answers. No condition. -/
import Derived.Test.YtgpegjmbofgmmaaGreatJouRunPiece11
import Derived.KernelRfl
namespace Go.Proofs.YtgpegjmbofgmmaaGreat.jouRun
open Go.Ab
def e12 : Tent :=
    ⟨[.slice (some ⟨4979, 0, (some 6)⟩) 2 2], 4980, [(3871, .cells [.int .i64 (.ofNat 0)] (some 1)), (3873, .cells [.int .i64 (.ofNat 2), .int .i64 (.ofNat 1), .int .i64 (.ofNat 2)]
    (some 1)), (4951, .cells [.int .u32 (.ofNat 0), .int .u32 (.ofNat 0), .int .u32 (.ofNat 0), .int .u32 (.ofNat 0), .int .u32 (.ofNat 0), .int .u32 (.ofNat 0), .int .u32 (.ofNat 0),
    .int .u32 (.ofNat 0), .int .u32 (.ofNat 0), .int .u32 (.ofNat 5), .int .u32 (.ofNat 0), .int .u32 (.ofNat 0), .int .u32 (.ofNat 0), .int .u32 (.ofNat 0), .int .u32 (.ofNat 0), .int
    .u32 (.ofNat 0)] none), (4971, .cells [.int .i64 (.ofNat 4), .int .i64 (.ofNat 4), .slice (some ⟨4951, 0, none⟩) 16 16] (some 3)), (4979, .cells [.int .i64 (.ofNat 1), .slice none
    0 0, .slice none 0 0, .slice none 0 0, .int .i64 (.ofNat 0), .slice (some ⟨4971, 0, (some 3)⟩) 1 1, .int .i64 (.ofNat 12), .slice (some ⟨3871, 0, (some 1)⟩) 1 1, .slice (some
    ⟨3873, 0, (some 1)⟩) 3 3, .slice none 0 0, .int .i64 (.ofNat 0), .slice none 0 0] (some 6))], .tuple ⟨[.pointer (some ⟨4980, 0, none⟩), .int .i64 (.ofNat 0)]⟩, 5292, [(3871, .cells
    [.int .i64 (.ofNat 0)] (some 1)), (3873, .cells [.int .i64 (.ofNat 2), .int .i64 (.ofNat 1), .int .i64 (.ofNat 2)] (some 1)), (4951, .cells [.int .u32 (.ofNat 0), .int .u32 (.ofNat
    0), .int .u32 (.ofNat 0), .int .u32 (.ofNat 0), .int .u32 (.ofNat 0), .int .u32 (.ofNat 0), .int .u32 (.ofNat 0), .int .u32 (.ofNat 0), .int .u32 (.ofNat 0), .int .u32 (.ofNat 5),
    .int .u32 (.ofNat 0), .int .u32 (.ofNat 0), .int .u32 (.ofNat 0), .int .u32 (.ofNat 0), .int .u32 (.ofNat 0), .int .u32 (.ofNat 0)] none), (4971, .cells [.int .i64 (.ofNat 4), .int
    .i64 (.ofNat 4), .slice (some ⟨4951, 0, none⟩) 16 16] (some 3)), (4979, .cells [.int .i64 (.ofNat 1), .slice none 0 0, .slice none 0 0, .slice none 0 0, .int .i64 (.ofNat 0),
    .slice (some ⟨4971, 0, (some 3)⟩) 1 1, .int .i64 (.ofNat 12), .slice (some ⟨3871, 0, (some 1)⟩) 1 1, .slice (some ⟨3873, 0, (some 1)⟩) 3 3, .slice none 0 0, .int .i64 (.ofNat 0),
    .slice none 0 0] (some 6)), (4980, .cells [.slice (some ⟨5291, 0, (some 11)⟩) 2 2] none), (4993, .cells [.int .u32 (.ofNat 0), .int .u32 (.ofNat 0), .int .u32 (.ofNat 0), .int .u32
    (.ofNat 0), .int .u32 (.ofNat 0), .int .u32 (.ofNat 0), .int .u32 (.ofNat 0), .int .u32 (.ofNat 0), .int .u32 (.ofNat 0), .int .u32 (.ofNat 5), .int .u32 (.ofNat 0), .int .u32
    (.ofNat 0), .int .u32 (.ofNat 0), .int .u32 (.ofNat 0), .int .u32 (.ofNat 0), .int .u32 (.ofNat 0)] (some 1)), (4995, .cells [.int .i64 (.ofNat 4), .int .i64 (.ofNat 4), .slice
    (some ⟨4993, 0, (some 1)⟩) 16 16] (some 3)), (5020, .cells [.int .i64 (.ofNat 0)] (some 1)), (5022, .cells [.int .i64 (.ofNat 2), .int .i64 (.ofNat 1), .int .i64 (.ofNat 2)] (some
    1)), (5031, .cells [.slice (some ⟨5022, 0, (some 1)⟩) 3 3] none), (5032, .cells [.int .i64 (.ofNat 2)] none), (5033, .cells [.int .i64 (.ofNat 4)] none), (5034, .cells [.int .i64
    (.ofNat 1)] none), (5035, .cells [.int .i64 (.ofNat 1)] none), (5036, .cells [.int .i64 (.ofNat 2)] none), (5037, .cells [.int .i64 (.ofNat 4)] none), (5038, .cells [.int .i64
    (.ofNat 1)] none), (5039, .cells [.int .i64 (.ofNat 1)] none), (5291, .cells [.int .i64 (.ofNat 1), .slice none 0 0, .slice none 0 0, .slice none 0 0, .int .i64 (.ofNat 0), .slice
    (some ⟨4995, 0, (some 3)⟩) 1 1, .iface 385 (.agg ⟨[.int .i64 (.ofNat 0), .slice (some ⟨4995, 0, (some 3)⟩) 1 1]⟩), .int .i64 (.ofNat 4), .int .i64 (.ofNat 4), .int .i64 (.ofNat 0),
    .int .i64 (.ofNat 1), .int .i64 (.ofNat 12), .slice (some ⟨5020, 0, (some 1)⟩) 1 1, .slice (some ⟨5022, 0, (some 1)⟩) 3 3, .slice none 0 0, .int .i64 (.ofNat 0), .slice none 0 0,
    .iface 502 (.agg ⟨[.func (.func 389) ⟨[]⟩ ⟨[.pointer (some ⟨5031, 0, none⟩)]⟩, .func (.func 503) ⟨[]⟩ ⟨[.pointer (some ⟨5034, 0, none⟩), .pointer (some ⟨5035, 0, none⟩), .pointer
    (some ⟨5032, 0, none⟩), .pointer (some ⟨5033, 0, none⟩)]⟩, .func (.func 503) ⟨[]⟩ ⟨[.pointer (some ⟨5038, 0, none⟩), .pointer (some ⟨5039, 0, none⟩), .pointer (some ⟨5036, 0,
    none⟩), .pointer (some ⟨5037, 0, none⟩)]⟩]⟩), .int .i64 (.ofNat 4), .int .i64 (.ofNat 4), .int .i64 (.ofNat 0), .int .i64 (.ofNat 1)] (some 11))]⟩
theorem e12_tabs : ∀ x, x ∈ ([] : List (Nat × List Tent)) → ∀ e, e ∈ x.2 → TentOK Tryz.prog x.1 e := by
  intro x hx
  simp at hx
theorem e12_good : goodE e12 = true := by kernel_rfl
theorem e12_ran : okR (runF (withTabs [] base) 1000 85 e12.args e12.h0 (pieceK e12)) = true := by kernel_rfl
theorem e12_ok : TentOK Tryz.prog 85 e12 := piece_ok (withTabs_ok _ _ e12_tabs baseOK) e12_good e12_ran
end Go.Proofs.YtgpegjmbofgmmaaGreat.jouRun
