/- A call, done by the kernel: what it is asked and what it answers. No condition. -/
import Derived.Test.YtgpegjmbofgmmaaGreatJouRunPiece1
import Derived.KernelRfl
namespace Go.Proofs.YtgpegjmbofgmmaaGreat.jouRun
open Go.Ab
def e2 : Tent :=
    ⟨[.slice (some ⟨1302, 0, (some 6)⟩) 2 2], 1303, [(258, .cells [.int .i64 (.ofNat 0)] (some 1)), (260, .cells [.int .i64 (.ofNat 2), .int .i64 (.ofNat 1), .int .i64 (.ofNat 2)]
    (some 1)), (1274, .cells [.int .u32 (.ofNat 0), .int .u32 (.ofNat 0), .int .u32 (.ofNat 0), .int .u32 (.ofNat 0), .int .u32 (.ofNat 0), .int .u32 (.ofNat 0), .int .u32 (.ofNat 0),
    .int .u32 (.ofNat 0), .int .u32 (.ofNat 0), .int .u32 (.ofNat 5), .int .u32 (.ofNat 0), .int .u32 (.ofNat 0), .int .u32 (.ofNat 0), .int .u32 (.ofNat 0), .int .u32 (.ofNat 0), .int
    .u32 (.ofNat 0)] none), (1294, .cells [.int .i64 (.ofNat 4), .int .i64 (.ofNat 4), .slice (some ⟨1274, 0, none⟩) 16 16] (some 3)), (1302, .cells [.int .i64 (.ofNat 1), .slice none
    0 0, .slice none 0 0, .slice none 0 0, .int .i64 (.ofNat 0), .slice (some ⟨1294, 0, (some 3)⟩) 1 1, .int .i64 (.ofNat 12), .slice (some ⟨258, 0, (some 1)⟩) 1 1, .slice (some ⟨260,
    0, (some 1)⟩) 3 3, .slice none 0 0, .int .i64 (.ofNat 0), .slice none 0 0] (some 6))], .tuple ⟨[.pointer (some ⟨1303, 0, none⟩), .int .i64 (.ofNat 0)]⟩, 1615, [(258, .cells [.int
    .i64 (.ofNat 0)] (some 1)), (260, .cells [.int .i64 (.ofNat 2), .int .i64 (.ofNat 1), .int .i64 (.ofNat 2)] (some 1)), (1274, .cells [.int .u32 (.ofNat 0), .int .u32 (.ofNat 0),
    .int .u32 (.ofNat 0), .int .u32 (.ofNat 0), .int .u32 (.ofNat 0), .int .u32 (.ofNat 0), .int .u32 (.ofNat 0), .int .u32 (.ofNat 0), .int .u32 (.ofNat 0), .int .u32 (.ofNat 5), .int
    .u32 (.ofNat 0), .int .u32 (.ofNat 0), .int .u32 (.ofNat 0), .int .u32 (.ofNat 0), .int .u32 (.ofNat 0), .int .u32 (.ofNat 0)] none), (1294, .cells [.int .i64 (.ofNat 4), .int .i64
    (.ofNat 4), .slice (some ⟨1274, 0, none⟩) 16 16] (some 3)), (1302, .cells [.int .i64 (.ofNat 1), .slice none 0 0, .slice none 0 0, .slice none 0 0, .int .i64 (.ofNat 0), .slice
    (some ⟨1294, 0, (some 3)⟩) 1 1, .int .i64 (.ofNat 12), .slice (some ⟨258, 0, (some 1)⟩) 1 1, .slice (some ⟨260, 0, (some 1)⟩) 3 3, .slice none 0 0, .int .i64 (.ofNat 0), .slice
    none 0 0] (some 6)), (1303, .cells [.slice (some ⟨1614, 0, (some 11)⟩) 2 2] none), (1316, .cells [.int .u32 (.ofNat 0), .int .u32 (.ofNat 0), .int .u32 (.ofNat 0), .int .u32
    (.ofNat 0), .int .u32 (.ofNat 0), .int .u32 (.ofNat 0), .int .u32 (.ofNat 0), .int .u32 (.ofNat 0), .int .u32 (.ofNat 0), .int .u32 (.ofNat 5), .int .u32 (.ofNat 0), .int .u32
    (.ofNat 0), .int .u32 (.ofNat 0), .int .u32 (.ofNat 0), .int .u32 (.ofNat 0), .int .u32 (.ofNat 0)] (some 1)), (1318, .cells [.int .i64 (.ofNat 4), .int .i64 (.ofNat 4), .slice
    (some ⟨1316, 0, (some 1)⟩) 16 16] (some 3)), (1343, .cells [.int .i64 (.ofNat 0)] (some 1)), (1345, .cells [.int .i64 (.ofNat 2), .int .i64 (.ofNat 1), .int .i64 (.ofNat 2)] (some
    1)), (1354, .cells [.slice (some ⟨1345, 0, (some 1)⟩) 3 3] none), (1355, .cells [.int .i64 (.ofNat 2)] none), (1356, .cells [.int .i64 (.ofNat 4)] none), (1357, .cells [.int .i64
    (.ofNat 1)] none), (1358, .cells [.int .i64 (.ofNat 1)] none), (1359, .cells [.int .i64 (.ofNat 2)] none), (1360, .cells [.int .i64 (.ofNat 4)] none), (1361, .cells [.int .i64
    (.ofNat 1)] none), (1362, .cells [.int .i64 (.ofNat 1)] none), (1614, .cells [.int .i64 (.ofNat 1), .slice none 0 0, .slice none 0 0, .slice none 0 0, .int .i64 (.ofNat 0), .slice
    (some ⟨1318, 0, (some 3)⟩) 1 1, .iface 385 (.agg ⟨[.int .i64 (.ofNat 0), .slice (some ⟨1318, 0, (some 3)⟩) 1 1]⟩), .int .i64 (.ofNat 4), .int .i64 (.ofNat 4), .int .i64 (.ofNat 0),
    .int .i64 (.ofNat 1), .int .i64 (.ofNat 12), .slice (some ⟨1343, 0, (some 1)⟩) 1 1, .slice (some ⟨1345, 0, (some 1)⟩) 3 3, .slice none 0 0, .int .i64 (.ofNat 0), .slice none 0 0,
    .iface 502 (.agg ⟨[.func (.func 389) ⟨[]⟩ ⟨[.pointer (some ⟨1354, 0, none⟩)]⟩, .func (.func 503) ⟨[]⟩ ⟨[.pointer (some ⟨1357, 0, none⟩), .pointer (some ⟨1358, 0, none⟩), .pointer
    (some ⟨1355, 0, none⟩), .pointer (some ⟨1356, 0, none⟩)]⟩, .func (.func 503) ⟨[]⟩ ⟨[.pointer (some ⟨1361, 0, none⟩), .pointer (some ⟨1362, 0, none⟩), .pointer (some ⟨1359, 0,
    none⟩), .pointer (some ⟨1360, 0, none⟩)]⟩]⟩), .int .i64 (.ofNat 4), .int .i64 (.ofNat 4), .int .i64 (.ofNat 0), .int .i64 (.ofNat 1)] (some 11))]⟩
theorem e2_tabs : ∀ x, x ∈ ([] : List (Nat × List Tent)) → ∀ e, e ∈ x.2 → TentOK Tryz.prog x.1 e := by
  intro x hx
  simp at hx
theorem e2_good : goodE e2 = true := by kernel_rfl
theorem e2_ran : okR (runF (withTabs [] base) 1000 85 e2.args e2.h0 (pieceK e2)) = true := by kernel_rfl
theorem e2_ok : TentOK Tryz.prog 85 e2 := piece_ok (withTabs_ok _ _ e2_tabs baseOK) e2_good e2_ran
end Go.Proofs.YtgpegjmbofgmmaaGreat.jouRun
