/- A call, done by the kernel: what it is asked and what it answers. No condition. -/
import Derived.Test.YtpmbkfiicbipoaaGreatReachRunPiece4
import Derived.KernelRfl
namespace Go.Proofs.YtpmbkfiicbipoaaGreat.reachRun
open Go.Ab
def e5 : Tent :=
    ⟨[.pointer (some ⟨8, 0, none⟩), .pointer (some ⟨4179, 0, none⟩)], 6265, [(8, .cells [.slice (some ⟨2093, 0, (some 11)⟩) 3 3] none), (21, .cells [.int .u32 (.ofNat 0), .int .u32
    (.ofNat 0), .int .u32 (.ofNat 0), .int .u32 (.ofNat 0), .int .u32 (.ofNat 0), .int .u32 (.ofNat 0), .int .u32 (.ofNat 0), .int .u32 (.ofNat 0), .int .u32 (.ofNat 0), .int .u32
    (.ofNat 0), .int .u32 (.ofNat 0), .int .u32 (.ofNat 0), .int .u32 (.ofNat 0), .int .u32 (.ofNat 0), .int .u32 (.ofNat 0), .int .u32 (.ofNat 0), .int .u32 (.ofNat 0), .int .u32
    (.ofNat 0), .int .u32 (.ofNat 0), .int .u32 (.ofNat 0), .int .u32 (.ofNat 0), .int .u32 (.ofNat 0), .int .u32 (.ofNat 0), .int .u32 (.ofNat 0), .int .u32 (.ofNat 0), .int .u32
    (.ofNat 0), .int .u32 (.ofNat 0), .int .u32 (.ofNat 0), .int .u32 (.ofNat 0), .int .u32 (.ofNat 0), .int .u32 (.ofNat 0), .int .u32 (.ofNat 0), .int .u32 (.ofNat 0), .int .u32
    (.ofNat 0), .int .u32 (.ofNat 0), .int .u32 (.ofNat 0), .int .u32 (.ofNat 0), .int .u32 (.ofNat 0), .int .u32 (.ofNat 0), .int .u32 (.ofNat 0), .int .u32 (.ofNat 0), .int .u32
    (.ofNat 0), .int .u32 (.ofNat 0), .int .u32 (.ofNat 0), .int .u32 (.ofNat 0), .int .u32 (.ofNat 0), .int .u32 (.ofNat 0), .int .u32 (.ofNat 0), .int .u32 (.ofNat 0), .int .u32
    (.ofNat 0), .int .u32 (.ofNat 0), .int .u32 (.ofNat 0), .int .u32 (.ofNat 0), .int .u32 (.ofNat 0), .int .u32 (.ofNat 0), .int .u32 (.ofNat 0), .int .u32 (.ofNat 0), .int .u32
    (.ofNat 0), .int .u32 (.ofNat 0), .int .u32 (.ofNat 0), .int .u32 (.ofNat 0), .int .u32 (.ofNat 0), .int .u32 (.ofNat 0), .int .u32 (.ofNat 0)] (some 1)), (23, .cells [.int .i64
    (.ofNat 8), .int .i64 (.ofNat 8), .slice (some ⟨21, 0, (some 1)⟩) 64 64] (some 3)), (48, .cells [.int .i64 (.ofNat 0)] (some 1)), (50, .cells [.int .i64 (.ofNat 2), .int .i64
    (.ofNat 1), .int .i64 (.ofNat 2)] (some 1)), (59, .cells [.slice (some ⟨50, 0, (some 1)⟩) 3 3] none), (60, .cells [.int .i64 (.ofNat 2)] none), (61, .cells [.int .i64 (.ofNat 8)]
    none), (62, .cells [.int .i64 (.ofNat 1)] none), (63, .cells [.int .i64 (.ofNat 1)] none), (64, .cells [.int .i64 (.ofNat 2)] none), (65, .cells [.int .i64 (.ofNat 8)] none), (66,
    .cells [.int .i64 (.ofNat 1)] none), (67, .cells [.int .i64 (.ofNat 1)] none), (954, .cells [.int .i64 (.ofNat 1)] (some 1)), (956, .cells [.int .i64 (.ofNat 1), .int .i64 (.ofNat
    4), .int .i64 (.ofNat 4)] (some 1)), (965, .cells [.slice (some ⟨956, 0, (some 1)⟩) 3 3] none), (966, .cells [.int .i64 (.ofNat 1)] none), (967, .cells [.int .i64 (.ofNat 8)]
    none), (968, .cells [.int .i64 (.ofNat 4)] none), (969, .cells [.int .i64 (.ofNat 1)] none), (970, .cells [.int .i64 (.ofNat 8)] none), (971, .cells [.int .i64 (.ofNat 4)] none),
    (2093, .cells [.int .i64 (.ofNat 1), .slice none 0 0, .slice none 0 0, .slice none 0 0, .int .i64 (.ofNat 0), .slice (some ⟨23, 0, (some 3)⟩) 1 1, .iface 127 (.agg ⟨[.int .i64
    (.ofNat 0), .slice (some ⟨23, 0, (some 3)⟩) 1 1]⟩), .int .i64 (.ofNat 8), .int .i64 (.ofNat 8), .int .i64 (.ofNat 0), .int .i64 (.ofNat 1), .int .i64 (.ofNat 12), .slice (some ⟨48,
    0, (some 1)⟩) 1 1, .slice (some ⟨50, 0, (some 1)⟩) 3 3, .slice none 0 0, .int .i64 (.ofNat 0), .slice none 0 0, .iface 219 (.agg ⟨[.func (.func 149) ⟨[]⟩ ⟨[.pointer (some ⟨59, 0,
    none⟩)]⟩, .func (.func 222) ⟨[]⟩ ⟨[.pointer (some ⟨62, 0, none⟩), .pointer (some ⟨63, 0, none⟩), .pointer (some ⟨60, 0, none⟩), .pointer (some ⟨61, 0, none⟩)]⟩, .func (.func 222)
    ⟨[]⟩ ⟨[.pointer (some ⟨66, 0, none⟩), .pointer (some ⟨67, 0, none⟩), .pointer (some ⟨64, 0, none⟩), .pointer (some ⟨65, 0, none⟩)]⟩]⟩), .int .i64 (.ofNat 8), .int .i64 (.ofNat 8),
    .int .i64 (.ofNat 0), .int .i64 (.ofNat 1), .int .i64 (.ofNat 11), .slice (some ⟨954, 0, (some 1)⟩) 1 1, .slice (some ⟨956, 0, (some 1)⟩) 3 3, .slice none 0 0, .int .i64 (.ofNat
    0), .slice none 0 0, .iface 219 (.agg ⟨[.func (.func 146) ⟨[]⟩ ⟨[.pointer (some ⟨965, 0, none⟩)]⟩, .func (.func 216) ⟨[]⟩ ⟨[.pointer (some ⟨966, 0, none⟩), .pointer (some ⟨967, 0,
    none⟩), .pointer (some ⟨968, 0, none⟩)]⟩, .func (.func 216) ⟨[]⟩ ⟨[.pointer (some ⟨969, 0, none⟩), .pointer (some ⟨970, 0, none⟩), .pointer (some ⟨971, 0, none⟩)]⟩]⟩), .int .i64
    (.ofNat 4), .int .i64 (.ofNat 4), .int .i64 (.ofNat 0), .int .i64 (.ofNat 1)] (some 11)), (4179, .cells [.slice (some ⟨6264, 0, (some 11)⟩) 3 3] none), (4192, .cells [.int .u32
    (.ofNat 0), .int .u32 (.ofNat 0), .int .u32 (.ofNat 0), .int .u32 (.ofNat 0), .int .u32 (.ofNat 0), .int .u32 (.ofNat 0), .int .u32 (.ofNat 0), .int .u32 (.ofNat 0), .int .u32
    (.ofNat 0), .int .u32 (.ofNat 0), .int .u32 (.ofNat 0), .int .u32 (.ofNat 0), .int .u32 (.ofNat 0), .int .u32 (.ofNat 0), .int .u32 (.ofNat 0), .int .u32 (.ofNat 0), .int .u32
    (.ofNat 0), .int .u32 (.ofNat 0), .int .u32 (.ofNat 0), .int .u32 (.ofNat 0), .int .u32 (.ofNat 0), .int .u32 (.ofNat 0), .int .u32 (.ofNat 0), .int .u32 (.ofNat 0), .int .u32
    (.ofNat 0), .int .u32 (.ofNat 0), .int .u32 (.ofNat 0), .int .u32 (.ofNat 1), .int .u32 (.ofNat 0), .int .u32 (.ofNat 0), .int .u32 (.ofNat 0), .int .u32 (.ofNat 0), .int .u32
    (.ofNat 0), .int .u32 (.ofNat 0), .int .u32 (.ofNat 0), .int .u32 (.ofNat 0), .int .u32 (.ofNat 0), .int .u32 (.ofNat 0), .int .u32 (.ofNat 0), .int .u32 (.ofNat 0), .int .u32
    (.ofNat 0), .int .u32 (.ofNat 0), .int .u32 (.ofNat 0), .int .u32 (.ofNat 0), .int .u32 (.ofNat 0), .int .u32 (.ofNat 0), .int .u32 (.ofNat 0), .int .u32 (.ofNat 0), .int .u32
    (.ofNat 0), .int .u32 (.ofNat 0), .int .u32 (.ofNat 0), .int .u32 (.ofNat 0), .int .u32 (.ofNat 0), .int .u32 (.ofNat 0), .int .u32 (.ofNat 0), .int .u32 (.ofNat 0), .int .u32
    (.ofNat 0), .int .u32 (.ofNat 0), .int .u32 (.ofNat 0), .int .u32 (.ofNat 0), .int .u32 (.ofNat 0), .int .u32 (.ofNat 0), .int .u32 (.ofNat 0), .int .u32 (.ofNat 0)] (some 1)),
    (4194, .cells [.int .i64 (.ofNat 8), .int .i64 (.ofNat 8), .slice (some ⟨4192, 0, (some 1)⟩) 64 64] (some 3)), (4219, .cells [.int .i64 (.ofNat 0)] (some 1)), (4221, .cells [.int
    .i64 (.ofNat 2), .int .i64 (.ofNat 1), .int .i64 (.ofNat 2)] (some 1)), (4230, .cells [.slice (some ⟨4221, 0, (some 1)⟩) 3 3] none), (4231, .cells [.int .i64 (.ofNat 2)] none),
    (4232, .cells [.int .i64 (.ofNat 8)] none), (4233, .cells [.int .i64 (.ofNat 1)] none), (4234, .cells [.int .i64 (.ofNat 1)] none), (4235, .cells [.int .i64 (.ofNat 2)] none),
    (4236, .cells [.int .i64 (.ofNat 8)] none), (4237, .cells [.int .i64 (.ofNat 1)] none), (4238, .cells [.int .i64 (.ofNat 1)] none), (5125, .cells [.int .i64 (.ofNat 1)] (some 1)),
    (5127, .cells [.int .i64 (.ofNat 1), .int .i64 (.ofNat 4), .int .i64 (.ofNat 4)] (some 1)), (5136, .cells [.slice (some ⟨5127, 0, (some 1)⟩) 3 3] none), (5137, .cells [.int .i64
    (.ofNat 1)] none), (5138, .cells [.int .i64 (.ofNat 8)] none), (5139, .cells [.int .i64 (.ofNat 4)] none), (5140, .cells [.int .i64 (.ofNat 1)] none), (5141, .cells [.int .i64
    (.ofNat 8)] none), (5142, .cells [.int .i64 (.ofNat 4)] none), (6264, .cells [.int .i64 (.ofNat 1), .slice none 0 0, .slice none 0 0, .slice none 0 0, .int .i64 (.ofNat 0), .slice
    (some ⟨4194, 0, (some 3)⟩) 1 1, .iface 127 (.agg ⟨[.int .i64 (.ofNat 0), .slice (some ⟨4194, 0, (some 3)⟩) 1 1]⟩), .int .i64 (.ofNat 8), .int .i64 (.ofNat 8), .int .i64 (.ofNat 0),
    .int .i64 (.ofNat 1), .int .i64 (.ofNat 12), .slice (some ⟨4219, 0, (some 1)⟩) 1 1, .slice (some ⟨4221, 0, (some 1)⟩) 3 3, .slice none 0 0, .int .i64 (.ofNat 0), .slice none 0 0,
    .iface 219 (.agg ⟨[.func (.func 149) ⟨[]⟩ ⟨[.pointer (some ⟨4230, 0, none⟩)]⟩, .func (.func 222) ⟨[]⟩ ⟨[.pointer (some ⟨4233, 0, none⟩), .pointer (some ⟨4234, 0, none⟩), .pointer
    (some ⟨4231, 0, none⟩), .pointer (some ⟨4232, 0, none⟩)]⟩, .func (.func 222) ⟨[]⟩ ⟨[.pointer (some ⟨4237, 0, none⟩), .pointer (some ⟨4238, 0, none⟩), .pointer (some ⟨4235, 0,
    none⟩), .pointer (some ⟨4236, 0, none⟩)]⟩]⟩), .int .i64 (.ofNat 8), .int .i64 (.ofNat 8), .int .i64 (.ofNat 0), .int .i64 (.ofNat 1), .int .i64 (.ofNat 11), .slice (some ⟨5125, 0,
    (some 1)⟩) 1 1, .slice (some ⟨5127, 0, (some 1)⟩) 3 3, .slice none 0 0, .int .i64 (.ofNat 0), .slice none 0 0, .iface 219 (.agg ⟨[.func (.func 146) ⟨[]⟩ ⟨[.pointer (some ⟨5136, 0,
    none⟩)]⟩, .func (.func 216) ⟨[]⟩ ⟨[.pointer (some ⟨5137, 0, none⟩), .pointer (some ⟨5138, 0, none⟩), .pointer (some ⟨5139, 0, none⟩)]⟩, .func (.func 216) ⟨[]⟩ ⟨[.pointer (some
    ⟨5140, 0, none⟩), .pointer (some ⟨5141, 0, none⟩), .pointer (some ⟨5142, 0, none⟩)]⟩]⟩), .int .i64 (.ofNat 4), .int .i64 (.ofNat 4), .int .i64 (.ofNat 0), .int .i64 (.ofNat 1)]
    (some 11))], .tuple ⟨[.slice (some ⟨7767, 0, (some 1)⟩) 3 3, .int .i64 (.ofNat 0)]⟩, 7768, [(8, .cells [.slice (some ⟨2093, 0, (some 11)⟩) 3 3] none), (21, .cells [.int .u32
    (.ofNat 0), .int .u32 (.ofNat 0), .int .u32 (.ofNat 0), .int .u32 (.ofNat 0), .int .u32 (.ofNat 0), .int .u32 (.ofNat 0), .int .u32 (.ofNat 0), .int .u32 (.ofNat 0), .int .u32
    (.ofNat 0), .int .u32 (.ofNat 0), .int .u32 (.ofNat 0), .int .u32 (.ofNat 0), .int .u32 (.ofNat 0), .int .u32 (.ofNat 0), .int .u32 (.ofNat 0), .int .u32 (.ofNat 0), .int .u32
    (.ofNat 0), .int .u32 (.ofNat 0), .int .u32 (.ofNat 0), .int .u32 (.ofNat 0), .int .u32 (.ofNat 0), .int .u32 (.ofNat 0), .int .u32 (.ofNat 0), .int .u32 (.ofNat 0), .int .u32
    (.ofNat 0), .int .u32 (.ofNat 0), .int .u32 (.ofNat 0), .int .u32 (.ofNat 0), .int .u32 (.ofNat 0), .int .u32 (.ofNat 0), .int .u32 (.ofNat 0), .int .u32 (.ofNat 0), .int .u32
    (.ofNat 0), .int .u32 (.ofNat 0), .int .u32 (.ofNat 0), .int .u32 (.ofNat 0), .int .u32 (.ofNat 0), .int .u32 (.ofNat 0), .int .u32 (.ofNat 0), .int .u32 (.ofNat 0), .int .u32
    (.ofNat 0), .int .u32 (.ofNat 0), .int .u32 (.ofNat 0), .int .u32 (.ofNat 0), .int .u32 (.ofNat 0), .int .u32 (.ofNat 0), .int .u32 (.ofNat 0), .int .u32 (.ofNat 0), .int .u32
    (.ofNat 0), .int .u32 (.ofNat 0), .int .u32 (.ofNat 0), .int .u32 (.ofNat 0), .int .u32 (.ofNat 0), .int .u32 (.ofNat 0), .int .u32 (.ofNat 0), .int .u32 (.ofNat 0), .int .u32
    (.ofNat 0), .int .u32 (.ofNat 0), .int .u32 (.ofNat 0), .int .u32 (.ofNat 0), .int .u32 (.ofNat 0), .int .u32 (.ofNat 0), .int .u32 (.ofNat 0), .int .u32 (.ofNat 0)] (some 1)),
    (23, .cells [.int .i64 (.ofNat 8), .int .i64 (.ofNat 8), .slice (some ⟨21, 0, (some 1)⟩) 64 64] (some 3)), (48, .cells [.int .i64 (.ofNat 0)] (some 1)), (50, .cells [.int .i64
    (.ofNat 2), .int .i64 (.ofNat 1), .int .i64 (.ofNat 2)] (some 1)), (59, .cells [.slice (some ⟨50, 0, (some 1)⟩) 3 3] none), (60, .cells [.int .i64 (.ofNat 2)] none), (61, .cells
    [.int .i64 (.ofNat 8)] none), (62, .cells [.int .i64 (.ofNat 1)] none), (63, .cells [.int .i64 (.ofNat 1)] none), (64, .cells [.int .i64 (.ofNat 2)] none), (65, .cells [.int .i64
    (.ofNat 8)] none), (66, .cells [.int .i64 (.ofNat 1)] none), (67, .cells [.int .i64 (.ofNat 1)] none), (954, .cells [.int .i64 (.ofNat 1)] (some 1)), (956, .cells [.int .i64
    (.ofNat 1), .int .i64 (.ofNat 4), .int .i64 (.ofNat 4)] (some 1)), (965, .cells [.slice (some ⟨956, 0, (some 1)⟩) 3 3] none), (966, .cells [.int .i64 (.ofNat 1)] none), (967,
    .cells [.int .i64 (.ofNat 8)] none), (968, .cells [.int .i64 (.ofNat 4)] none), (969, .cells [.int .i64 (.ofNat 1)] none), (970, .cells [.int .i64 (.ofNat 8)] none), (971, .cells
    [.int .i64 (.ofNat 4)] none), (2093, .cells [.int .i64 (.ofNat 1), .slice none 0 0, .slice none 0 0, .slice none 0 0, .int .i64 (.ofNat 0), .slice (some ⟨23, 0, (some 3)⟩) 1 1,
    .iface 127 (.agg ⟨[.int .i64 (.ofNat 0), .slice (some ⟨23, 0, (some 3)⟩) 1 1]⟩), .int .i64 (.ofNat 8), .int .i64 (.ofNat 8), .int .i64 (.ofNat 0), .int .i64 (.ofNat 1), .int .i64
    (.ofNat 12), .slice (some ⟨48, 0, (some 1)⟩) 1 1, .slice (some ⟨50, 0, (some 1)⟩) 3 3, .slice none 0 0, .int .i64 (.ofNat 0), .slice none 0 0, .iface 219 (.agg ⟨[.func (.func 149)
    ⟨[]⟩ ⟨[.pointer (some ⟨59, 0, none⟩)]⟩, .func (.func 222) ⟨[]⟩ ⟨[.pointer (some ⟨62, 0, none⟩), .pointer (some ⟨63, 0, none⟩), .pointer (some ⟨60, 0, none⟩), .pointer (some ⟨61, 0,
    none⟩)]⟩, .func (.func 222) ⟨[]⟩ ⟨[.pointer (some ⟨66, 0, none⟩), .pointer (some ⟨67, 0, none⟩), .pointer (some ⟨64, 0, none⟩), .pointer (some ⟨65, 0, none⟩)]⟩]⟩), .int .i64
    (.ofNat 8), .int .i64 (.ofNat 8), .int .i64 (.ofNat 0), .int .i64 (.ofNat 1), .int .i64 (.ofNat 11), .slice (some ⟨954, 0, (some 1)⟩) 1 1, .slice (some ⟨956, 0, (some 1)⟩) 3 3,
    .slice none 0 0, .int .i64 (.ofNat 0), .slice none 0 0, .iface 219 (.agg ⟨[.func (.func 146) ⟨[]⟩ ⟨[.pointer (some ⟨965, 0, none⟩)]⟩, .func (.func 216) ⟨[]⟩ ⟨[.pointer (some ⟨966,
    0, none⟩), .pointer (some ⟨967, 0, none⟩), .pointer (some ⟨968, 0, none⟩)]⟩, .func (.func 216) ⟨[]⟩ ⟨[.pointer (some ⟨969, 0, none⟩), .pointer (some ⟨970, 0, none⟩), .pointer (some
    ⟨971, 0, none⟩)]⟩]⟩), .int .i64 (.ofNat 4), .int .i64 (.ofNat 4), .int .i64 (.ofNat 0), .int .i64 (.ofNat 1)] (some 11)), (4179, .cells [.slice (some ⟨6264, 0, (some 11)⟩) 3 3]
    none), (4192, .cells [.int .u32 (.ofNat 0), .int .u32 (.ofNat 0), .int .u32 (.ofNat 0), .int .u32 (.ofNat 0), .int .u32 (.ofNat 0), .int .u32 (.ofNat 0), .int .u32 (.ofNat 0), .int
    .u32 (.ofNat 0), .int .u32 (.ofNat 0), .int .u32 (.ofNat 0), .int .u32 (.ofNat 0), .int .u32 (.ofNat 0), .int .u32 (.ofNat 0), .int .u32 (.ofNat 0), .int .u32 (.ofNat 0), .int .u32
    (.ofNat 0), .int .u32 (.ofNat 0), .int .u32 (.ofNat 0), .int .u32 (.ofNat 0), .int .u32 (.ofNat 0), .int .u32 (.ofNat 0), .int .u32 (.ofNat 0), .int .u32 (.ofNat 0), .int .u32
    (.ofNat 0), .int .u32 (.ofNat 0), .int .u32 (.ofNat 0), .int .u32 (.ofNat 0), .int .u32 (.ofNat 1), .int .u32 (.ofNat 0), .int .u32 (.ofNat 0), .int .u32 (.ofNat 0), .int .u32
    (.ofNat 0), .int .u32 (.ofNat 0), .int .u32 (.ofNat 0), .int .u32 (.ofNat 0), .int .u32 (.ofNat 0), .int .u32 (.ofNat 0), .int .u32 (.ofNat 0), .int .u32 (.ofNat 0), .int .u32
    (.ofNat 0), .int .u32 (.ofNat 0), .int .u32 (.ofNat 0), .int .u32 (.ofNat 0), .int .u32 (.ofNat 0), .int .u32 (.ofNat 0), .int .u32 (.ofNat 0), .int .u32 (.ofNat 0), .int .u32
    (.ofNat 0), .int .u32 (.ofNat 0), .int .u32 (.ofNat 0), .int .u32 (.ofNat 0), .int .u32 (.ofNat 0), .int .u32 (.ofNat 0), .int .u32 (.ofNat 0), .int .u32 (.ofNat 0), .int .u32
    (.ofNat 0), .int .u32 (.ofNat 0), .int .u32 (.ofNat 0), .int .u32 (.ofNat 0), .int .u32 (.ofNat 0), .int .u32 (.ofNat 0), .int .u32 (.ofNat 0), .int .u32 (.ofNat 0), .int .u32
    (.ofNat 0)] (some 1)), (4194, .cells [.int .i64 (.ofNat 8), .int .i64 (.ofNat 8), .slice (some ⟨4192, 0, (some 1)⟩) 64 64] (some 3)), (4219, .cells [.int .i64 (.ofNat 0)] (some
    1)), (4221, .cells [.int .i64 (.ofNat 2), .int .i64 (.ofNat 1), .int .i64 (.ofNat 2)] (some 1)), (4230, .cells [.slice (some ⟨4221, 0, (some 1)⟩) 3 3] none), (4231, .cells [.int
    .i64 (.ofNat 2)] none), (4232, .cells [.int .i64 (.ofNat 8)] none), (4233, .cells [.int .i64 (.ofNat 1)] none), (4234, .cells [.int .i64 (.ofNat 1)] none), (4235, .cells [.int .i64
    (.ofNat 2)] none), (4236, .cells [.int .i64 (.ofNat 8)] none), (4237, .cells [.int .i64 (.ofNat 1)] none), (4238, .cells [.int .i64 (.ofNat 1)] none), (5125, .cells [.int .i64
    (.ofNat 1)] (some 1)), (5127, .cells [.int .i64 (.ofNat 1), .int .i64 (.ofNat 4), .int .i64 (.ofNat 4)] (some 1)), (5136, .cells [.slice (some ⟨5127, 0, (some 1)⟩) 3 3] none),
    (5137, .cells [.int .i64 (.ofNat 1)] none), (5138, .cells [.int .i64 (.ofNat 8)] none), (5139, .cells [.int .i64 (.ofNat 4)] none), (5140, .cells [.int .i64 (.ofNat 1)] none),
    (5141, .cells [.int .i64 (.ofNat 8)] none), (5142, .cells [.int .i64 (.ofNat 4)] none), (6264, .cells [.int .i64 (.ofNat 1), .slice none 0 0, .slice none 0 0, .slice none 0 0, .int
    .i64 (.ofNat 0), .slice (some ⟨4194, 0, (some 3)⟩) 1 1, .iface 127 (.agg ⟨[.int .i64 (.ofNat 0), .slice (some ⟨4194, 0, (some 3)⟩) 1 1]⟩), .int .i64 (.ofNat 8), .int .i64 (.ofNat
    8), .int .i64 (.ofNat 0), .int .i64 (.ofNat 1), .int .i64 (.ofNat 12), .slice (some ⟨4219, 0, (some 1)⟩) 1 1, .slice (some ⟨4221, 0, (some 1)⟩) 3 3, .slice none 0 0, .int .i64
    (.ofNat 0), .slice none 0 0, .iface 219 (.agg ⟨[.func (.func 149) ⟨[]⟩ ⟨[.pointer (some ⟨4230, 0, none⟩)]⟩, .func (.func 222) ⟨[]⟩ ⟨[.pointer (some ⟨4233, 0, none⟩), .pointer (some
    ⟨4234, 0, none⟩), .pointer (some ⟨4231, 0, none⟩), .pointer (some ⟨4232, 0, none⟩)]⟩, .func (.func 222) ⟨[]⟩ ⟨[.pointer (some ⟨4237, 0, none⟩), .pointer (some ⟨4238, 0, none⟩),
    .pointer (some ⟨4235, 0, none⟩), .pointer (some ⟨4236, 0, none⟩)]⟩]⟩), .int .i64 (.ofNat 8), .int .i64 (.ofNat 8), .int .i64 (.ofNat 0), .int .i64 (.ofNat 1), .int .i64 (.ofNat
    11), .slice (some ⟨5125, 0, (some 1)⟩) 1 1, .slice (some ⟨5127, 0, (some 1)⟩) 3 3, .slice none 0 0, .int .i64 (.ofNat 0), .slice none 0 0, .iface 219 (.agg ⟨[.func (.func 146) ⟨[]⟩
    ⟨[.pointer (some ⟨5136, 0, none⟩)]⟩, .func (.func 216) ⟨[]⟩ ⟨[.pointer (some ⟨5137, 0, none⟩), .pointer (some ⟨5138, 0, none⟩), .pointer (some ⟨5139, 0, none⟩)]⟩, .func (.func 216)
    ⟨[]⟩ ⟨[.pointer (some ⟨5140, 0, none⟩), .pointer (some ⟨5141, 0, none⟩), .pointer (some ⟨5142, 0, none⟩)]⟩]⟩), .int .i64 (.ofNat 4), .int .i64 (.ofNat 4), .int .i64 (.ofNat 0),
    .int .i64 (.ofNat 1)] (some 11)), (6389, .cells [.int .i64 (.ofNat 3), .int .i64 (.ofNat 3), .int .i64 (.ofNat 4), .int .i64 (.ofNat 4)] (some 4)), (7067, .cells [.int .i64 (.ofNat
    2), .int .i64 (.ofNat 2), .int .i64 (.ofNat 5), .int .i64 (.ofNat 5)] (some 4)), (7765, .cells [.int .i64 (.ofNat 1), .int .i64 (.ofNat 1), .int .i64 (.ofNat 3), .int .i64 (.ofNat
    3)] (some 4)), (7767, .cells [.slice (some ⟨6389, 0, (some 4)⟩) 1 1, .slice (some ⟨7067, 0, (some 4)⟩) 1 1, .slice (some ⟨7765, 0, (some 4)⟩) 1 1] (some 1))]⟩
theorem e5_tabs : ∀ x, x ∈ ([] : List (Nat × List Tent)) → ∀ e, e ∈ x.2 → TentOK Tryz.prog x.1 e := by
  intro x hx
  simp at hx
theorem e5_good : goodE e5 = true := by kernel_rfl
theorem e5_ran : okR (runF (withTabs [] base) 1000 9 e5.args e5.h0 (pieceK e5)) = true := by kernel_rfl
theorem e5_ok : TentOK Tryz.prog 9 e5 := piece_ok (withTabs_ok _ _ e5_tabs baseOK) e5_good e5_ran
end Go.Proofs.YtpmbkfiicbipoaaGreat.reachRun
