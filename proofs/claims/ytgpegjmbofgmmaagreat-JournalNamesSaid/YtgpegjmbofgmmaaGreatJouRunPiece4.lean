/- A call, done by the kernel: what it is asked and what it answers. No condition. -/
import Derived.Test.YtgpegjmbofgmmaaGreatJouRunPiece3
import Derived.KernelRfl
namespace Go.Proofs.YtgpegjmbofgmmaaGreat.jouRun
open Go.Ab
def e4 : Tent :=
    ⟨[.slice (some ⟨2170, 0, (some 6)⟩) 2 2], 2171, [(1316, .cells [.int .u32 (.ofNat 0), .int .u32 (.ofNat 0), .int .u32 (.ofNat 0), .int .u32 (.ofNat 0), .int .u32 (.ofNat 0), .int
    .u32 (.ofNat 0), .int .u32 (.ofNat 0), .int .u32 (.ofNat 0), .int .u32 (.ofNat 0), .int .u32 (.ofNat 5), .int .u32 (.ofNat 0), .int .u32 (.ofNat 0), .int .u32 (.ofNat 0), .int .u32
    (.ofNat 0), .int .u32 (.ofNat 0), .int .u32 (.ofNat 0)] (some 1)), (1318, .cells [.int .i64 (.ofNat 4), .int .i64 (.ofNat 4), .slice (some ⟨1316, 0, (some 1)⟩) 16 16] (some 3)),
    (2154, .cells [.int .i64 (.ofNat 0)] (some 1)), (2163, .cells [.int .i64 (.ofNat 2), .int .i64 (.ofNat 0), .int .i64 (.ofNat 3)] (some 1)), (2170, .cells [.int .i64 (.ofNat 1),
    .slice none 0 0, .slice none 0 0, .slice none 0 0, .int .i64 (.ofNat 0), .slice (some ⟨1318, 0, (some 3)⟩) 1 1, .int .i64 (.ofNat 12), .slice (some ⟨2154, 0, (some 1)⟩) 1 1, .slice
    (some ⟨2163, 0, (some 1)⟩) 3 3, .slice none 0 0, .int .i64 (.ofNat 0), .slice none 0 0] (some 6))], .tuple ⟨[.pointer (some ⟨2171, 0, none⟩), .int .i64 (.ofNat 0)]⟩, 2419, [(1316,
    .cells [.int .u32 (.ofNat 0), .int .u32 (.ofNat 0), .int .u32 (.ofNat 0), .int .u32 (.ofNat 0), .int .u32 (.ofNat 0), .int .u32 (.ofNat 0), .int .u32 (.ofNat 0), .int .u32 (.ofNat
    0), .int .u32 (.ofNat 0), .int .u32 (.ofNat 5), .int .u32 (.ofNat 0), .int .u32 (.ofNat 0), .int .u32 (.ofNat 0), .int .u32 (.ofNat 0), .int .u32 (.ofNat 0), .int .u32 (.ofNat 0)]
    (some 1)), (1318, .cells [.int .i64 (.ofNat 4), .int .i64 (.ofNat 4), .slice (some ⟨1316, 0, (some 1)⟩) 16 16] (some 3)), (2154, .cells [.int .i64 (.ofNat 0)] (some 1)), (2163,
    .cells [.int .i64 (.ofNat 2), .int .i64 (.ofNat 0), .int .i64 (.ofNat 3)] (some 1)), (2170, .cells [.int .i64 (.ofNat 1), .slice none 0 0, .slice none 0 0, .slice none 0 0, .int
    .i64 (.ofNat 0), .slice (some ⟨1318, 0, (some 3)⟩) 1 1, .int .i64 (.ofNat 12), .slice (some ⟨2154, 0, (some 1)⟩) 1 1, .slice (some ⟨2163, 0, (some 1)⟩) 3 3, .slice none 0 0, .int
    .i64 (.ofNat 0), .slice none 0 0] (some 6)), (2171, .cells [.slice (some ⟨2418, 0, (some 11)⟩) 2 2] none), (2184, .cells [.int .u32 (.ofNat 0), .int .u32 (.ofNat 0), .int .u32
    (.ofNat 0), .int .u32 (.ofNat 0), .int .u32 (.ofNat 0), .int .u32 (.ofNat 0), .int .u32 (.ofNat 0), .int .u32 (.ofNat 0), .int .u32 (.ofNat 0), .int .u32 (.ofNat 5), .int .u32
    (.ofNat 0), .int .u32 (.ofNat 0), .int .u32 (.ofNat 0), .int .u32 (.ofNat 0), .int .u32 (.ofNat 0), .int .u32 (.ofNat 0)] (some 1)), (2186, .cells [.int .i64 (.ofNat 4), .int .i64
    (.ofNat 4), .slice (some ⟨2184, 0, (some 1)⟩) 16 16] (some 3)), (2211, .cells [.int .i64 (.ofNat 0)] (some 1)), (2213, .cells [.int .i64 (.ofNat 2), .int .i64 (.ofNat 0), .int .i64
    (.ofNat 3)] (some 1)), (2222, .cells [.slice (some ⟨2213, 0, (some 1)⟩) 3 3] none), (2223, .cells [.int .i64 (.ofNat 3)] none), (2224, .cells [.int .i64 (.ofNat 4)] none), (2225,
    .cells [.int .i64 (.ofNat 0)] none), (2226, .cells [.int .i64 (.ofNat 0)] none), (2227, .cells [.int .i64 (.ofNat 3)] none), (2228, .cells [.int .i64 (.ofNat 4)] none), (2229,
    .cells [.int .i64 (.ofNat 0)] none), (2230, .cells [.int .i64 (.ofNat 0)] none), (2418, .cells [.int .i64 (.ofNat 1), .slice none 0 0, .slice none 0 0, .slice none 0 0, .int .i64
    (.ofNat 0), .slice (some ⟨2186, 0, (some 3)⟩) 1 1, .iface 385 (.agg ⟨[.int .i64 (.ofNat 0), .slice (some ⟨2186, 0, (some 3)⟩) 1 1]⟩), .int .i64 (.ofNat 4), .int .i64 (.ofNat 4),
    .int .i64 (.ofNat 0), .int .i64 (.ofNat 1), .int .i64 (.ofNat 12), .slice (some ⟨2211, 0, (some 1)⟩) 1 1, .slice (some ⟨2213, 0, (some 1)⟩) 3 3, .slice none 0 0, .int .i64 (.ofNat
    0), .slice none 0 0, .iface 502 (.agg ⟨[.func (.func 389) ⟨[]⟩ ⟨[.pointer (some ⟨2222, 0, none⟩)]⟩, .func (.func 503) ⟨[]⟩ ⟨[.pointer (some ⟨2225, 0, none⟩), .pointer (some ⟨2226,
    0, none⟩), .pointer (some ⟨2223, 0, none⟩), .pointer (some ⟨2224, 0, none⟩)]⟩, .func (.func 503) ⟨[]⟩ ⟨[.pointer (some ⟨2229, 0, none⟩), .pointer (some ⟨2230, 0, none⟩), .pointer
    (some ⟨2227, 0, none⟩), .pointer (some ⟨2228, 0, none⟩)]⟩]⟩), .int .i64 (.ofNat 4), .int .i64 (.ofNat 4), .int .i64 (.ofNat 0), .int .i64 (.ofNat 1)] (some 11))]⟩
theorem e4_tabs : ∀ x, x ∈ ([] : List (Nat × List Tent)) → ∀ e, e ∈ x.2 → TentOK Tryz.prog x.1 e := by
  intro x hx
  simp at hx
theorem e4_good : goodE e4 = true := by kernel_rfl
theorem e4_ran : okR (runF (withTabs [] base) 1000 85 e4.args e4.h0 (pieceK e4)) = true := by kernel_rfl
theorem e4_ok : TentOK Tryz.prog 85 e4 := piece_ok (withTabs_ok _ _ e4_tabs baseOK) e4_good e4_ran
end Go.Proofs.YtgpegjmbofgmmaaGreat.jouRun
