/- A call, done by the kernel: what it is asked and what it answers. No condition. -/
import Derived.Test.YtgpegjmbofgmmaaGreatJouRunPiece6
import Derived.KernelRfl
namespace Go.Proofs.YtgpegjmbofgmmaaGreat.jouRun
open Go.Ab
def e7 : Tent :=
    ⟨[.slice (some ⟨2840, 0, (some 6)⟩) 2 2], 2841, [(2154, .cells [.int .i64 (.ofNat 0)] (some 1)), (2156, .cells [.int .i64 (.ofNat 2), .int .i64 (.ofNat 1), .int .i64 (.ofNat 2)]
    (some 1)), (2483, .cells [.int .u32 (.ofNat 0), .int .u32 (.ofNat 0), .int .u32 (.ofNat 0), .int .u32 (.ofNat 0), .int .u32 (.ofNat 0), .int .u32 (.ofNat 0), .int .u32 (.ofNat 0),
    .int .u32 (.ofNat 0), .int .u32 (.ofNat 0), .int .u32 (.ofNat 5), .int .u32 (.ofNat 0), .int .u32 (.ofNat 0), .int .u32 (.ofNat 0), .int .u32 (.ofNat 0), .int .u32 (.ofNat 0), .int
    .u32 (.ofNat 0)] (some 1)), (2485, .cells [.int .i64 (.ofNat 4), .int .i64 (.ofNat 4), .slice (some ⟨2483, 0, (some 1)⟩) 16 16] (some 3)), (2840, .cells [.int .i64 (.ofNat 1),
    .slice none 0 0, .slice none 0 0, .slice none 0 0, .int .i64 (.ofNat 0), .slice (some ⟨2485, 0, (some 3)⟩) 1 1, .int .i64 (.ofNat 12), .slice (some ⟨2154, 0, (some 1)⟩) 1 1, .slice
    (some ⟨2156, 0, (some 1)⟩) 3 3, .slice none 0 0, .int .i64 (.ofNat 0), .slice none 0 0] (some 6))], .tuple ⟨[.pointer (some ⟨2841, 0, none⟩), .int .i64 (.ofNat 0)]⟩, 3153, [(2154,
    .cells [.int .i64 (.ofNat 0)] (some 1)), (2156, .cells [.int .i64 (.ofNat 2), .int .i64 (.ofNat 1), .int .i64 (.ofNat 2)] (some 1)), (2483, .cells [.int .u32 (.ofNat 0), .int .u32
    (.ofNat 0), .int .u32 (.ofNat 0), .int .u32 (.ofNat 0), .int .u32 (.ofNat 0), .int .u32 (.ofNat 0), .int .u32 (.ofNat 0), .int .u32 (.ofNat 0), .int .u32 (.ofNat 0), .int .u32
    (.ofNat 5), .int .u32 (.ofNat 0), .int .u32 (.ofNat 0), .int .u32 (.ofNat 0), .int .u32 (.ofNat 0), .int .u32 (.ofNat 0), .int .u32 (.ofNat 0)] (some 1)), (2485, .cells [.int .i64
    (.ofNat 4), .int .i64 (.ofNat 4), .slice (some ⟨2483, 0, (some 1)⟩) 16 16] (some 3)), (2840, .cells [.int .i64 (.ofNat 1), .slice none 0 0, .slice none 0 0, .slice none 0 0, .int
    .i64 (.ofNat 0), .slice (some ⟨2485, 0, (some 3)⟩) 1 1, .int .i64 (.ofNat 12), .slice (some ⟨2154, 0, (some 1)⟩) 1 1, .slice (some ⟨2156, 0, (some 1)⟩) 3 3, .slice none 0 0, .int
    .i64 (.ofNat 0), .slice none 0 0] (some 6)), (2841, .cells [.slice (some ⟨3152, 0, (some 11)⟩) 2 2] none), (2854, .cells [.int .u32 (.ofNat 0), .int .u32 (.ofNat 0), .int .u32
    (.ofNat 0), .int .u32 (.ofNat 0), .int .u32 (.ofNat 0), .int .u32 (.ofNat 0), .int .u32 (.ofNat 0), .int .u32 (.ofNat 0), .int .u32 (.ofNat 0), .int .u32 (.ofNat 5), .int .u32
    (.ofNat 0), .int .u32 (.ofNat 0), .int .u32 (.ofNat 0), .int .u32 (.ofNat 0), .int .u32 (.ofNat 0), .int .u32 (.ofNat 0)] (some 1)), (2856, .cells [.int .i64 (.ofNat 4), .int .i64
    (.ofNat 4), .slice (some ⟨2854, 0, (some 1)⟩) 16 16] (some 3)), (2881, .cells [.int .i64 (.ofNat 0)] (some 1)), (2883, .cells [.int .i64 (.ofNat 2), .int .i64 (.ofNat 1), .int .i64
    (.ofNat 2)] (some 1)), (2892, .cells [.slice (some ⟨2883, 0, (some 1)⟩) 3 3] none), (2893, .cells [.int .i64 (.ofNat 2)] none), (2894, .cells [.int .i64 (.ofNat 4)] none), (2895,
    .cells [.int .i64 (.ofNat 1)] none), (2896, .cells [.int .i64 (.ofNat 1)] none), (2897, .cells [.int .i64 (.ofNat 2)] none), (2898, .cells [.int .i64 (.ofNat 4)] none), (2899,
    .cells [.int .i64 (.ofNat 1)] none), (2900, .cells [.int .i64 (.ofNat 1)] none), (3152, .cells [.int .i64 (.ofNat 1), .slice none 0 0, .slice none 0 0, .slice none 0 0, .int .i64
    (.ofNat 0), .slice (some ⟨2856, 0, (some 3)⟩) 1 1, .iface 385 (.agg ⟨[.int .i64 (.ofNat 0), .slice (some ⟨2856, 0, (some 3)⟩) 1 1]⟩), .int .i64 (.ofNat 4), .int .i64 (.ofNat 4),
    .int .i64 (.ofNat 0), .int .i64 (.ofNat 1), .int .i64 (.ofNat 12), .slice (some ⟨2881, 0, (some 1)⟩) 1 1, .slice (some ⟨2883, 0, (some 1)⟩) 3 3, .slice none 0 0, .int .i64 (.ofNat
    0), .slice none 0 0, .iface 502 (.agg ⟨[.func (.func 389) ⟨[]⟩ ⟨[.pointer (some ⟨2892, 0, none⟩)]⟩, .func (.func 503) ⟨[]⟩ ⟨[.pointer (some ⟨2895, 0, none⟩), .pointer (some ⟨2896,
    0, none⟩), .pointer (some ⟨2893, 0, none⟩), .pointer (some ⟨2894, 0, none⟩)]⟩, .func (.func 503) ⟨[]⟩ ⟨[.pointer (some ⟨2899, 0, none⟩), .pointer (some ⟨2900, 0, none⟩), .pointer
    (some ⟨2897, 0, none⟩), .pointer (some ⟨2898, 0, none⟩)]⟩]⟩), .int .i64 (.ofNat 4), .int .i64 (.ofNat 4), .int .i64 (.ofNat 0), .int .i64 (.ofNat 1)] (some 11))]⟩
theorem e7_tabs : ∀ x, x ∈ ([] : List (Nat × List Tent)) → ∀ e, e ∈ x.2 → TentOK Tryz.prog x.1 e := by
  intro x hx
  simp at hx
theorem e7_good : goodE e7 = true := by kernel_rfl
theorem e7_ran : okR (runF (withTabs [] base) 1000 85 e7.args e7.h0 (pieceK e7)) = true := by kernel_rfl
theorem e7_ok : TentOK Tryz.prog 85 e7 := piece_ok (withTabs_ok _ _ e7_tabs baseOK) e7_good e7_ran
end Go.Proofs.YtgpegjmbofgmmaaGreat.jouRun
