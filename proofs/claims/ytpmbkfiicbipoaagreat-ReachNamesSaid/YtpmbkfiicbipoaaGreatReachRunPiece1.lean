/- A call, done by the kernel: what it is asked and what it answers. No condition. -/
import Derived.Test.YtpmbkfiicbipoaaGreatReachRunPiece0
import Derived.KernelRfl
namespace Go.Proofs.YtpmbkfiicbipoaaGreat.reachRun
open Go.Ab
def e1 : Tent :=
    ⟨[.pointer (some ⟨8, 0, none⟩), .int .i64 (.ofNat 1), .int .i64 (.ofNat 0), .slice (some ⟨2094, 0, none⟩) 1 1], 2095, [(8, .cells [.slice (some ⟨2093, 0, (some 11)⟩) 3 3] none),
    (21, .cells [.int .u32 (.ofNat 0), .int .u32 (.ofNat 0), .int .u32 (.ofNat 0), .int .u32 (.ofNat 0), .int .u32 (.ofNat 0), .int .u32 (.ofNat 0), .int .u32 (.ofNat 0), .int .u32
    (.ofNat 0), .int .u32 (.ofNat 0), .int .u32 (.ofNat 0), .int .u32 (.ofNat 0), .int .u32 (.ofNat 0), .int .u32 (.ofNat 0), .int .u32 (.ofNat 0), .int .u32 (.ofNat 0), .int .u32
    (.ofNat 0), .int .u32 (.ofNat 0), .int .u32 (.ofNat 0), .int .u32 (.ofNat 0), .int .u32 (.ofNat 0), .int .u32 (.ofNat 0), .int .u32 (.ofNat 0), .int .u32 (.ofNat 0), .int .u32
    (.ofNat 0), .int .u32 (.ofNat 0), .int .u32 (.ofNat 0), .int .u32 (.ofNat 0), .int .u32 (.ofNat 0), .int .u32 (.ofNat 0), .int .u32 (.ofNat 0), .int .u32 (.ofNat 0), .int .u32
    (.ofNat 0), .int .u32 (.ofNat 0), .int .u32 (.ofNat 0), .int .u32 (.ofNat 0), .int .u32 (.ofNat 0), .int .u32 (.ofNat 0), .int .u32 (.ofNat 0), .int .u32 (.ofNat 0), .int .u32
    (.ofNat 0), .int .u32 (.ofNat 0), .int .u32 (.ofNat 0), .int .u32 (.ofNat 0), .int .u32 (.ofNat 0), .int .u32 (.ofNat 0), .int .u32 (.ofNat 0), .int .u32 (.ofNat 0), .int .u32
    (.ofNat 0), .int .u32 (.ofNat 0), .int .u32 (.ofNat 0), .int .u32 (.ofNat 0), .int .u32 (.ofNat 0), .int .u32 (.ofNat 0), .int .u32 (.ofNat 0), .int .u32 (.ofNat 0), .int .u32
    (.ofNat 0), .int .u32 (.ofNat 0), .int .u32 (.ofNat 0), .int .u32 (.ofNat 0), .int .u32 (.ofNat 0), .int .u32 (.ofNat 0), .int .u32 (.ofNat 0), .int .u32 (.ofNat 0), .int .u32
    (.ofNat 0)] (some 1)), (23, .cells [.int .i64 (.ofNat 8), .int .i64 (.ofNat 8), .slice (some ⟨21, 0, (some 1)⟩) 64 64] (some 3)), (48, .cells [.int .i64 (.ofNat 0)] (some 1)), (50,
    .cells [.int .i64 (.ofNat 2), .int .i64 (.ofNat 1), .int .i64 (.ofNat 2)] (some 1)), (59, .cells [.slice (some ⟨50, 0, (some 1)⟩) 3 3] none), (60, .cells [.int .i64 (.ofNat 2)]
    none), (61, .cells [.int .i64 (.ofNat 8)] none), (62, .cells [.int .i64 (.ofNat 1)] none), (63, .cells [.int .i64 (.ofNat 1)] none), (64, .cells [.int .i64 (.ofNat 2)] none), (65,
    .cells [.int .i64 (.ofNat 8)] none), (66, .cells [.int .i64 (.ofNat 1)] none), (67, .cells [.int .i64 (.ofNat 1)] none), (954, .cells [.int .i64 (.ofNat 1)] (some 1)), (956, .cells
    [.int .i64 (.ofNat 1), .int .i64 (.ofNat 4), .int .i64 (.ofNat 4)] (some 1)), (965, .cells [.slice (some ⟨956, 0, (some 1)⟩) 3 3] none), (966, .cells [.int .i64 (.ofNat 1)] none),
    (967, .cells [.int .i64 (.ofNat 8)] none), (968, .cells [.int .i64 (.ofNat 4)] none), (969, .cells [.int .i64 (.ofNat 1)] none), (970, .cells [.int .i64 (.ofNat 8)] none), (971,
    .cells [.int .i64 (.ofNat 4)] none), (2093, .cells [.int .i64 (.ofNat 1), .slice none 0 0, .slice none 0 0, .slice none 0 0, .int .i64 (.ofNat 0), .slice (some ⟨23, 0, (some 3)⟩) 1
    1, .iface 127 (.agg ⟨[.int .i64 (.ofNat 0), .slice (some ⟨23, 0, (some 3)⟩) 1 1]⟩), .int .i64 (.ofNat 8), .int .i64 (.ofNat 8), .int .i64 (.ofNat 0), .int .i64 (.ofNat 1), .int
    .i64 (.ofNat 12), .slice (some ⟨48, 0, (some 1)⟩) 1 1, .slice (some ⟨50, 0, (some 1)⟩) 3 3, .slice none 0 0, .int .i64 (.ofNat 0), .slice none 0 0, .iface 219 (.agg ⟨[.func (.func
    149) ⟨[]⟩ ⟨[.pointer (some ⟨59, 0, none⟩)]⟩, .func (.func 222) ⟨[]⟩ ⟨[.pointer (some ⟨62, 0, none⟩), .pointer (some ⟨63, 0, none⟩), .pointer (some ⟨60, 0, none⟩), .pointer (some
    ⟨61, 0, none⟩)]⟩, .func (.func 222) ⟨[]⟩ ⟨[.pointer (some ⟨66, 0, none⟩), .pointer (some ⟨67, 0, none⟩), .pointer (some ⟨64, 0, none⟩), .pointer (some ⟨65, 0, none⟩)]⟩]⟩), .int
    .i64 (.ofNat 8), .int .i64 (.ofNat 8), .int .i64 (.ofNat 0), .int .i64 (.ofNat 1), .int .i64 (.ofNat 11), .slice (some ⟨954, 0, (some 1)⟩) 1 1, .slice (some ⟨956, 0, (some 1)⟩) 3
    3, .slice none 0 0, .int .i64 (.ofNat 0), .slice none 0 0, .iface 219 (.agg ⟨[.func (.func 146) ⟨[]⟩ ⟨[.pointer (some ⟨965, 0, none⟩)]⟩, .func (.func 216) ⟨[]⟩ ⟨[.pointer (some
    ⟨966, 0, none⟩), .pointer (some ⟨967, 0, none⟩), .pointer (some ⟨968, 0, none⟩)]⟩, .func (.func 216) ⟨[]⟩ ⟨[.pointer (some ⟨969, 0, none⟩), .pointer (some ⟨970, 0, none⟩), .pointer
    (some ⟨971, 0, none⟩)]⟩]⟩), .int .i64 (.ofNat 4), .int .i64 (.ofNat 4), .int .i64 (.ofNat 0), .int .i64 (.ofNat 1)] (some 11)), (2094, .cells [.int .i64 (.ofNat 0), .int .i64
    (.ofNat 0), .int .i64 (.ofNat 1), .int .i64 (.ofNat 1)] none)], .tuple ⟨[.slice (some ⟨2775, 0, (some 4)⟩) 1 1, .int .i64 (.ofNat 0)]⟩, 2776, [(8, .cells [.slice (some ⟨2093, 0,
    (some 11)⟩) 3 3] none), (21, .cells [.int .u32 (.ofNat 0), .int .u32 (.ofNat 0), .int .u32 (.ofNat 0), .int .u32 (.ofNat 0), .int .u32 (.ofNat 0), .int .u32 (.ofNat 0), .int .u32
    (.ofNat 0), .int .u32 (.ofNat 0), .int .u32 (.ofNat 0), .int .u32 (.ofNat 0), .int .u32 (.ofNat 0), .int .u32 (.ofNat 0), .int .u32 (.ofNat 0), .int .u32 (.ofNat 0), .int .u32
    (.ofNat 0), .int .u32 (.ofNat 0), .int .u32 (.ofNat 0), .int .u32 (.ofNat 0), .int .u32 (.ofNat 0), .int .u32 (.ofNat 0), .int .u32 (.ofNat 0), .int .u32 (.ofNat 0), .int .u32
    (.ofNat 0), .int .u32 (.ofNat 0), .int .u32 (.ofNat 0), .int .u32 (.ofNat 0), .int .u32 (.ofNat 0), .int .u32 (.ofNat 0), .int .u32 (.ofNat 0), .int .u32 (.ofNat 0), .int .u32
    (.ofNat 0), .int .u32 (.ofNat 0), .int .u32 (.ofNat 0), .int .u32 (.ofNat 0), .int .u32 (.ofNat 0), .int .u32 (.ofNat 0), .int .u32 (.ofNat 0), .int .u32 (.ofNat 0), .int .u32
    (.ofNat 0), .int .u32 (.ofNat 0), .int .u32 (.ofNat 0), .int .u32 (.ofNat 0), .int .u32 (.ofNat 0), .int .u32 (.ofNat 0), .int .u32 (.ofNat 0), .int .u32 (.ofNat 0), .int .u32
    (.ofNat 0), .int .u32 (.ofNat 0), .int .u32 (.ofNat 0), .int .u32 (.ofNat 0), .int .u32 (.ofNat 0), .int .u32 (.ofNat 0), .int .u32 (.ofNat 0), .int .u32 (.ofNat 0), .int .u32
    (.ofNat 0), .int .u32 (.ofNat 0), .int .u32 (.ofNat 0), .int .u32 (.ofNat 0), .int .u32 (.ofNat 0), .int .u32 (.ofNat 0), .int .u32 (.ofNat 0), .int .u32 (.ofNat 0), .int .u32
    (.ofNat 0), .int .u32 (.ofNat 0)] (some 1)), (23, .cells [.int .i64 (.ofNat 8), .int .i64 (.ofNat 8), .slice (some ⟨21, 0, (some 1)⟩) 64 64] (some 3)), (48, .cells [.int .i64
    (.ofNat 0)] (some 1)), (50, .cells [.int .i64 (.ofNat 2), .int .i64 (.ofNat 1), .int .i64 (.ofNat 2)] (some 1)), (59, .cells [.slice (some ⟨50, 0, (some 1)⟩) 3 3] none), (60,
    .cells [.int .i64 (.ofNat 2)] none), (61, .cells [.int .i64 (.ofNat 8)] none), (62, .cells [.int .i64 (.ofNat 1)] none), (63, .cells [.int .i64 (.ofNat 1)] none), (64, .cells [.int
    .i64 (.ofNat 2)] none), (65, .cells [.int .i64 (.ofNat 8)] none), (66, .cells [.int .i64 (.ofNat 1)] none), (67, .cells [.int .i64 (.ofNat 1)] none), (954, .cells [.int .i64
    (.ofNat 1)] (some 1)), (956, .cells [.int .i64 (.ofNat 1), .int .i64 (.ofNat 4), .int .i64 (.ofNat 4)] (some 1)), (965, .cells [.slice (some ⟨956, 0, (some 1)⟩) 3 3] none), (966,
    .cells [.int .i64 (.ofNat 1)] none), (967, .cells [.int .i64 (.ofNat 8)] none), (968, .cells [.int .i64 (.ofNat 4)] none), (969, .cells [.int .i64 (.ofNat 1)] none), (970, .cells
    [.int .i64 (.ofNat 8)] none), (971, .cells [.int .i64 (.ofNat 4)] none), (2093, .cells [.int .i64 (.ofNat 1), .slice none 0 0, .slice none 0 0, .slice none 0 0, .int .i64 (.ofNat
    0), .slice (some ⟨23, 0, (some 3)⟩) 1 1, .iface 127 (.agg ⟨[.int .i64 (.ofNat 0), .slice (some ⟨23, 0, (some 3)⟩) 1 1]⟩), .int .i64 (.ofNat 8), .int .i64 (.ofNat 8), .int .i64
    (.ofNat 0), .int .i64 (.ofNat 1), .int .i64 (.ofNat 12), .slice (some ⟨48, 0, (some 1)⟩) 1 1, .slice (some ⟨50, 0, (some 1)⟩) 3 3, .slice none 0 0, .int .i64 (.ofNat 0), .slice
    none 0 0, .iface 219 (.agg ⟨[.func (.func 149) ⟨[]⟩ ⟨[.pointer (some ⟨59, 0, none⟩)]⟩, .func (.func 222) ⟨[]⟩ ⟨[.pointer (some ⟨62, 0, none⟩), .pointer (some ⟨63, 0, none⟩),
    .pointer (some ⟨60, 0, none⟩), .pointer (some ⟨61, 0, none⟩)]⟩, .func (.func 222) ⟨[]⟩ ⟨[.pointer (some ⟨66, 0, none⟩), .pointer (some ⟨67, 0, none⟩), .pointer (some ⟨64, 0,
    none⟩), .pointer (some ⟨65, 0, none⟩)]⟩]⟩), .int .i64 (.ofNat 8), .int .i64 (.ofNat 8), .int .i64 (.ofNat 0), .int .i64 (.ofNat 1), .int .i64 (.ofNat 11), .slice (some ⟨954, 0,
    (some 1)⟩) 1 1, .slice (some ⟨956, 0, (some 1)⟩) 3 3, .slice none 0 0, .int .i64 (.ofNat 0), .slice none 0 0, .iface 219 (.agg ⟨[.func (.func 146) ⟨[]⟩ ⟨[.pointer (some ⟨965, 0,
    none⟩)]⟩, .func (.func 216) ⟨[]⟩ ⟨[.pointer (some ⟨966, 0, none⟩), .pointer (some ⟨967, 0, none⟩), .pointer (some ⟨968, 0, none⟩)]⟩, .func (.func 216) ⟨[]⟩ ⟨[.pointer (some ⟨969,
    0, none⟩), .pointer (some ⟨970, 0, none⟩), .pointer (some ⟨971, 0, none⟩)]⟩]⟩), .int .i64 (.ofNat 4), .int .i64 (.ofNat 4), .int .i64 (.ofNat 0), .int .i64 (.ofNat 1)] (some 11)),
    (2094, .cells [.int .i64 (.ofNat 0), .int .i64 (.ofNat 0), .int .i64 (.ofNat 1), .int .i64 (.ofNat 1)] none), (2775, .cells [.int .i64 (.ofNat 0), .int .i64 (.ofNat 0), .int .i64
    (.ofNat 2), .int .i64 (.ofNat 2)] (some 4))]⟩
theorem e1_tabs : ∀ x, x ∈ ([] : List (Nat × List Tent)) → ∀ e, e ∈ x.2 → TentOK Tryz.prog x.1 e := by
  intro x hx
  simp at hx
theorem e1_good : goodE e1 = true := by kernel_rfl
theorem e1_ran : okR (runF (withTabs [] base) 1000 6 e1.args e1.h0 (pieceK e1)) = true := by kernel_rfl
theorem e1_ok : TentOK Tryz.prog 6 e1 := piece_ok (withTabs_ok _ _ e1_tabs baseOK) e1_good e1_ran
end Go.Proofs.YtpmbkfiicbipoaaGreat.reachRun
