/- A call, done by the kernel: what it is asked and what it answers. No condition. -/
import Derived.Test.YtgpegjmbofgmmaaGreatJouRunPiece2
import Derived.KernelRfl
namespace Go.Proofs.YtgpegjmbofgmmaaGreat.jouRun
open Go.Ab
def e3 : Tent :=
    ⟨[.pointer (some ⟨968, 0, none⟩), .agg ⟨[.int .i64 (.ofNat 1), .int .i64 (.ofNat 0), .int .i64 (.ofNat 1), .int .i64 (.ofNat 2), .int .i64 (.ofNat 0), .slice (some ⟨970, 0, none⟩)
    1 1, .slice none 0 0, .slice none 0 0, .int .i64 (.ofNat 0), .int .i64 (.ofNat 0), .int .i64 (.ofNat 0), .int .i64 (.ofNat 0)]⟩], 972, [(218, .cells [.slice (some ⟨529, 0, (some
    11)⟩) 2 2] none), (231, .cells [.int .u32 (.ofNat 0), .int .u32 (.ofNat 0), .int .u32 (.ofNat 0), .int .u32 (.ofNat 0), .int .u32 (.ofNat 0), .int .u32 (.ofNat 0), .int .u32
    (.ofNat 0), .int .u32 (.ofNat 0), .int .u32 (.ofNat 0), .int .u32 (.ofNat 0), .int .u32 (.ofNat 0), .int .u32 (.ofNat 0), .int .u32 (.ofNat 0), .int .u32 (.ofNat 0), .int .u32
    (.ofNat 0), .int .u32 (.ofNat 0)] (some 1)), (233, .cells [.int .i64 (.ofNat 4), .int .i64 (.ofNat 4), .slice (some ⟨231, 0, (some 1)⟩) 16 16] (some 3)), (258, .cells [.int .i64
    (.ofNat 0)] (some 1)), (260, .cells [.int .i64 (.ofNat 2), .int .i64 (.ofNat 1), .int .i64 (.ofNat 2)] (some 1)), (269, .cells [.slice (some ⟨260, 0, (some 1)⟩) 3 3] none), (270,
    .cells [.int .i64 (.ofNat 2)] none), (271, .cells [.int .i64 (.ofNat 4)] none), (272, .cells [.int .i64 (.ofNat 1)] none), (273, .cells [.int .i64 (.ofNat 1)] none), (274, .cells
    [.int .i64 (.ofNat 2)] none), (275, .cells [.int .i64 (.ofNat 4)] none), (276, .cells [.int .i64 (.ofNat 1)] none), (277, .cells [.int .i64 (.ofNat 1)] none), (529, .cells [.int
    .i64 (.ofNat 1), .slice none 0 0, .slice none 0 0, .slice none 0 0, .int .i64 (.ofNat 0), .slice (some ⟨233, 0, (some 3)⟩) 1 1, .iface 385 (.agg ⟨[.int .i64 (.ofNat 0), .slice
    (some ⟨233, 0, (some 3)⟩) 1 1]⟩), .int .i64 (.ofNat 4), .int .i64 (.ofNat 4), .int .i64 (.ofNat 0), .int .i64 (.ofNat 1), .int .i64 (.ofNat 12), .slice (some ⟨258, 0, (some 1)⟩) 1
    1, .slice (some ⟨260, 0, (some 1)⟩) 3 3, .slice none 0 0, .int .i64 (.ofNat 0), .slice none 0 0, .iface 502 (.agg ⟨[.func (.func 389) ⟨[]⟩ ⟨[.pointer (some ⟨269, 0, none⟩)]⟩, .func
    (.func 503) ⟨[]⟩ ⟨[.pointer (some ⟨272, 0, none⟩), .pointer (some ⟨273, 0, none⟩), .pointer (some ⟨270, 0, none⟩), .pointer (some ⟨271, 0, none⟩)]⟩, .func (.func 503) ⟨[]⟩
    ⟨[.pointer (some ⟨276, 0, none⟩), .pointer (some ⟨277, 0, none⟩), .pointer (some ⟨274, 0, none⟩), .pointer (some ⟨275, 0, none⟩)]⟩]⟩), .int .i64 (.ofNat 4), .int .i64 (.ofNat 4),
    .int .i64 (.ofNat 0), .int .i64 (.ofNat 1)] (some 11)), (530, .map []), (531, .cells [.int .i64 (.ofNat 9), .int .i64 (.ofNat 0), .map (some 530)] none), (532, .cells [.pointer
    (some ⟨218, 0, none⟩), .pointer (some ⟨531, 0, none⟩), .int .i64 (.ofNat 2), .int .i64 (.ofNat 1), .slice none 0 0, .slice none 0 0] none), (967, .cells [.int .u8 (.ofNat 0), .int
    .u8 (.ofNat 0), .int .u8 (.ofNat 0), .int .u8 (.ofNat 171), .int .u8 (.ofNat 0), .int .u8 (.ofNat 72), .int .u8 (.ofNat 76), .int .u8 (.ofNat 74), .int .u8 (.ofNat 49), .int .u8
    (.ofNat 0), .int .u8 (.ofNat 0), .int .u8 (.ofNat 0), .int .u8 (.ofNat 0), .int .u8 (.ofNat 0), .int .u8 (.ofNat 0), .int .u8 (.ofNat 0), .int .u8 (.ofNat 2), .int .u8 (.ofNat 0),
    .int .u8 (.ofNat 0), .int .u8 (.ofNat 0), .int .u8 (.ofNat 0), .int .u8 (.ofNat 0), .int .u8 (.ofNat 0), .int .u8 (.ofNat 0), .int .u8 (.ofNat 9), .int .u8 (.ofNat 0), .int .u8
    (.ofNat 0), .int .u8 (.ofNat 0), .int .u8 (.ofNat 0), .int .u8 (.ofNat 0), .int .u8 (.ofNat 0), .int .u8 (.ofNat 0), .int .u8 (.ofNat 1), .int .u8 (.ofNat 0), .int .u8 (.ofNat 0),
    .int .u8 (.ofNat 0), .int .u8 (.ofNat 0), .int .u8 (.ofNat 0), .int .u8 (.ofNat 0), .int .u8 (.ofNat 0), .int .u8 (.ofNat 2), .int .u8 (.ofNat 0), .int .u8 (.ofNat 0), .int .u8
    (.ofNat 0), .int .u8 (.ofNat 0), .int .u8 (.ofNat 0), .int .u8 (.ofNat 0), .int .u8 (.ofNat 0), .int .u8 (.ofNat 1), .int .u8 (.ofNat 0), .int .u8 (.ofNat 0), .int .u8 (.ofNat 0),
    .int .u8 (.ofNat 0), .int .u8 (.ofNat 0), .int .u8 (.ofNat 0), .int .u8 (.ofNat 0), .int .u8 (.ofNat 0), .int .u8 (.ofNat 0), .int .u8 (.ofNat 0), .int .u8 (.ofNat 0), .int .u8
    (.ofNat 0), .int .u8 (.ofNat 0), .int .u8 (.ofNat 0), .int .u8 (.ofNat 0), .int .u8 (.ofNat 0), .int .u8 (.ofNat 0), .int .u8 (.ofNat 0), .int .u8 (.ofNat 0), .int .u8 (.ofNat 0),
    .int .u8 (.ofNat 0), .int .u8 (.ofNat 0), .int .u8 (.ofNat 0), .int .u8 (.ofNat 0), .int .u8 (.ofNat 0), .int .u8 (.ofNat 0), .int .u8 (.ofNat 0), .int .u8 (.ofNat 0), .int .u8
    (.ofNat 0), .int .u8 (.ofNat 0), .int .u8 (.ofNat 0), .int .u8 (.ofNat 30), .int .u8 (.ofNat 72), .int .u8 (.ofNat 76), .int .u8 (.ofNat 68), .int .u8 (.ofNat 49), .int .u8 (.ofNat
    0), .int .u8 (.ofNat 1), .int .u8 (.ofNat 0), .int .u8 (.ofNat 4), .int .u8 (.ofNat 0), .int .u8 (.ofNat 4), .int .u8 (.ofNat 4), .int .u8 (.ofNat 0), .int .u8 (.ofNat 0), .int .u8
    (.ofNat 0), .int .u8 (.ofNat 0), .int .u8 (.ofNat 6), .int .u8 (.ofNat 166), .int .u8 (.ofNat 253), .int .u8 (.ofNat 241), .int .u8 (.ofNat 197), .int .u8 (.ofNat 0), .int .u8
    (.ofNat 0), .int .u8 (.ofNat 0), .int .u8 (.ofNat 0), .int .u8 (.ofNat 0), .int .u8 (.ofNat 0), .int .u8 (.ofNat 177), .int .u8 (.ofNat 194), .int .u8 (.ofNat 161), .int .u8
    (.ofNat 163), .int .u8 (.ofNat 0), .int .u8 (.ofNat 0), .int .u8 (.ofNat 0), .int .u8 (.ofNat 0), .int .u8 (.ofNat 0), .int .u8 (.ofNat 0), .int .u8 (.ofNat 0), .int .u8 (.ofNat
    12), .int .u8 (.ofNat 0), .int .u8 (.ofNat 0), .int .u8 (.ofNat 0), .int .u8 (.ofNat 0), .int .u8 (.ofNat 0), .int .u8 (.ofNat 0), .int .u8 (.ofNat 0), .int .u8 (.ofNat 1), .int
    .u8 (.ofNat 0), .int .u8 (.ofNat 0), .int .u8 (.ofNat 0), .int .u8 (.ofNat 0), .int .u8 (.ofNat 0), .int .u8 (.ofNat 0), .int .u8 (.ofNat 0), .int .u8 (.ofNat 0), .int .u8 (.ofNat
    0), .int .u8 (.ofNat 0), .int .u8 (.ofNat 0), .int .u8 (.ofNat 0), .int .u8 (.ofNat 0), .int .u8 (.ofNat 0), .int .u8 (.ofNat 0), .int .u8 (.ofNat 3), .int .u8 (.ofNat 0), .int .u8
    (.ofNat 0), .int .u8 (.ofNat 0), .int .u8 (.ofNat 0), .int .u8 (.ofNat 0), .int .u8 (.ofNat 0), .int .u8 (.ofNat 0), .int .u8 (.ofNat 2), .int .u8 (.ofNat 0), .int .u8 (.ofNat 0),
    .int .u8 (.ofNat 0), .int .u8 (.ofNat 0), .int .u8 (.ofNat 0), .int .u8 (.ofNat 0), .int .u8 (.ofNat 0), .int .u8 (.ofNat 1), .int .u8 (.ofNat 0), .int .u8 (.ofNat 0), .int .u8
    (.ofNat 0), .int .u8 (.ofNat 0), .int .u8 (.ofNat 0), .int .u8 (.ofNat 0), .int .u8 (.ofNat 0), .int .u8 (.ofNat 2), .int .u8 (.ofNat 0), .int .u8 (.ofNat 0), .int .u8 (.ofNat 0),
    .int .u8 (.ofNat 0), .int .u8 (.ofNat 0), .int .u8 (.ofNat 0), .int .u8 (.ofNat 0), .int .u8 (.ofNat 0), .int .u8 (.ofNat 59), .int .u8 (.ofNat 15), .int .u8 (.ofNat 191), .int .u8
    (.ofNat 160)] (some 1)), (968, .cells [.pointer (some ⟨532, 0, none⟩), .slice (some ⟨967, 0, (some 1)⟩) 179 179, .int .i64 (.ofNat 179), .bool false] none), (969, .cells [.int .u32
    (.ofNat 5)] none), (970, .cells [.int .i64 (.ofNat 1), .int .i64 (.ofNat 1), .slice (some ⟨969, 0, none⟩) 1 1] none)], .agg ⟨[.int .i64 (.ofNat 0), .int .i64 (.ofNat 0), .slice
    none 0 0, .slice none 0 0]⟩, 2026, [(218, .cells [.slice (some ⟨529, 0, (some 11)⟩) 2 2] none), (231, .cells [.int .u32 (.ofNat 0), .int .u32 (.ofNat 0), .int .u32 (.ofNat 0), .int
    .u32 (.ofNat 0), .int .u32 (.ofNat 0), .int .u32 (.ofNat 0), .int .u32 (.ofNat 0), .int .u32 (.ofNat 0), .int .u32 (.ofNat 0), .int .u32 (.ofNat 0), .int .u32 (.ofNat 0), .int .u32
    (.ofNat 0), .int .u32 (.ofNat 0), .int .u32 (.ofNat 0), .int .u32 (.ofNat 0), .int .u32 (.ofNat 0)] (some 1)), (233, .cells [.int .i64 (.ofNat 4), .int .i64 (.ofNat 4), .slice
    (some ⟨231, 0, (some 1)⟩) 16 16] (some 3)), (258, .cells [.int .i64 (.ofNat 0)] (some 1)), (260, .cells [.int .i64 (.ofNat 2), .int .i64 (.ofNat 1), .int .i64 (.ofNat 2)] (some
    1)), (269, .cells [.slice (some ⟨260, 0, (some 1)⟩) 3 3] none), (270, .cells [.int .i64 (.ofNat 2)] none), (271, .cells [.int .i64 (.ofNat 4)] none), (272, .cells [.int .i64
    (.ofNat 1)] none), (273, .cells [.int .i64 (.ofNat 1)] none), (274, .cells [.int .i64 (.ofNat 2)] none), (275, .cells [.int .i64 (.ofNat 4)] none), (276, .cells [.int .i64 (.ofNat
    1)] none), (277, .cells [.int .i64 (.ofNat 1)] none), (529, .cells [.int .i64 (.ofNat 1), .slice none 0 0, .slice none 0 0, .slice none 0 0, .int .i64 (.ofNat 0), .slice (some
    ⟨233, 0, (some 3)⟩) 1 1, .iface 385 (.agg ⟨[.int .i64 (.ofNat 0), .slice (some ⟨233, 0, (some 3)⟩) 1 1]⟩), .int .i64 (.ofNat 4), .int .i64 (.ofNat 4), .int .i64 (.ofNat 0), .int
    .i64 (.ofNat 1), .int .i64 (.ofNat 12), .slice (some ⟨258, 0, (some 1)⟩) 1 1, .slice (some ⟨260, 0, (some 1)⟩) 3 3, .slice none 0 0, .int .i64 (.ofNat 0), .slice none 0 0, .iface
    502 (.agg ⟨[.func (.func 389) ⟨[]⟩ ⟨[.pointer (some ⟨269, 0, none⟩)]⟩, .func (.func 503) ⟨[]⟩ ⟨[.pointer (some ⟨272, 0, none⟩), .pointer (some ⟨273, 0, none⟩), .pointer (some ⟨270,
    0, none⟩), .pointer (some ⟨271, 0, none⟩)]⟩, .func (.func 503) ⟨[]⟩ ⟨[.pointer (some ⟨276, 0, none⟩), .pointer (some ⟨277, 0, none⟩), .pointer (some ⟨274, 0, none⟩), .pointer (some
    ⟨275, 0, none⟩)]⟩]⟩), .int .i64 (.ofNat 4), .int .i64 (.ofNat 4), .int .i64 (.ofNat 0), .int .i64 (.ofNat 1)] (some 11)), (530, .map []), (531, .cells [.int .i64 (.ofNat 9), .int
    .i64 (.ofNat 0), .map (some 530)] none), (532, .cells [.pointer (some ⟨1303, 0, none⟩), .pointer (some ⟨531, 0, none⟩), .int .i64 (.ofNat 2), .int .i64 (.ofNat 1), .slice (some
    ⟨2023, 0, (some 1)⟩) 1 1, .slice none 0 0] none), (967, .gone), (968, .cells [.pointer (some ⟨532, 0, none⟩), .slice (some ⟨2025, 0, (some 1)⟩) 245 245, .int .i64 (.ofNat 179),
    .bool false] none), (969, .cells [.int .u32 (.ofNat 5)] none), (970, .cells [.int .i64 (.ofNat 1), .int .i64 (.ofNat 1), .slice (some ⟨969, 0, none⟩) 1 1] none), (1186, .cells
    [.int .u32 (.ofNat 0)] none), (1191, .cells [.int .i64 (.ofNat 1), .int .i64 (.ofNat 1), .slice (some ⟨1186, 0, none⟩) 1 1] (some 3)), (1214, .cells [.int .u32 (.ofNat 5)] none),
    (1219, .cells [.int .i64 (.ofNat 1), .int .i64 (.ofNat 1), .slice (some ⟨1214, 0, none⟩) 1 1] (some 3)), (1303, .cells [.slice (some ⟨1614, 0, (some 11)⟩) 2 2] none), (1316, .cells
    [.int .u32 (.ofNat 0), .int .u32 (.ofNat 0), .int .u32 (.ofNat 0), .int .u32 (.ofNat 0), .int .u32 (.ofNat 0), .int .u32 (.ofNat 0), .int .u32 (.ofNat 0), .int .u32 (.ofNat 0),
    .int .u32 (.ofNat 0), .int .u32 (.ofNat 5), .int .u32 (.ofNat 0), .int .u32 (.ofNat 0), .int .u32 (.ofNat 0), .int .u32 (.ofNat 0), .int .u32 (.ofNat 0), .int .u32 (.ofNat 0)]
    (some 1)), (1318, .cells [.int .i64 (.ofNat 4), .int .i64 (.ofNat 4), .slice (some ⟨1316, 0, (some 1)⟩) 16 16] (some 3)), (1343, .cells [.int .i64 (.ofNat 0)] (some 1)), (1345,
    .cells [.int .i64 (.ofNat 2), .int .i64 (.ofNat 1), .int .i64 (.ofNat 2)] (some 1)), (1354, .cells [.slice (some ⟨1345, 0, (some 1)⟩) 3 3] none), (1355, .cells [.int .i64 (.ofNat
    2)] none), (1356, .cells [.int .i64 (.ofNat 4)] none), (1357, .cells [.int .i64 (.ofNat 1)] none), (1358, .cells [.int .i64 (.ofNat 1)] none), (1359, .cells [.int .i64 (.ofNat 2)]
    none), (1360, .cells [.int .i64 (.ofNat 4)] none), (1361, .cells [.int .i64 (.ofNat 1)] none), (1362, .cells [.int .i64 (.ofNat 1)] none), (1614, .cells [.int .i64 (.ofNat 1),
    .slice none 0 0, .slice none 0 0, .slice none 0 0, .int .i64 (.ofNat 0), .slice (some ⟨1318, 0, (some 3)⟩) 1 1, .iface 385 (.agg ⟨[.int .i64 (.ofNat 0), .slice (some ⟨1318, 0,
    (some 3)⟩) 1 1]⟩), .int .i64 (.ofNat 4), .int .i64 (.ofNat 4), .int .i64 (.ofNat 0), .int .i64 (.ofNat 1), .int .i64 (.ofNat 12), .slice (some ⟨1343, 0, (some 1)⟩) 1 1, .slice
    (some ⟨1345, 0, (some 1)⟩) 3 3, .slice none 0 0, .int .i64 (.ofNat 0), .slice none 0 0, .iface 502 (.agg ⟨[.func (.func 389) ⟨[]⟩ ⟨[.pointer (some ⟨1354, 0, none⟩)]⟩, .func (.func
    503) ⟨[]⟩ ⟨[.pointer (some ⟨1357, 0, none⟩), .pointer (some ⟨1358, 0, none⟩), .pointer (some ⟨1355, 0, none⟩), .pointer (some ⟨1356, 0, none⟩)]⟩, .func (.func 503) ⟨[]⟩ ⟨[.pointer
    (some ⟨1361, 0, none⟩), .pointer (some ⟨1362, 0, none⟩), .pointer (some ⟨1359, 0, none⟩), .pointer (some ⟨1360, 0, none⟩)]⟩]⟩), .int .i64 (.ofNat 4), .int .i64 (.ofNat 4), .int
    .i64 (.ofNat 0), .int .i64 (.ofNat 1)] (some 11)), (2023, .cells [.iface 209 (.agg ⟨[.int .i64 (.ofNat 0), .int .i64 (.ofNat 1), .int .i64 (.ofNat 2), .int .i64 (.ofNat 2), .int
    .i64 (.ofNat 3), .int .i64 (.ofNat 0), .slice (some ⟨1219, 0, (some 3)⟩) 1 1, .int .i64 (.ofNat 0), .slice (some ⟨1191, 0, (some 3)⟩) 1 1]⟩)] (some 1)), (2025, .cells [.int .u8
    (.ofNat 0), .int .u8 (.ofNat 0), .int .u8 (.ofNat 0), .int .u8 (.ofNat 171), .int .u8 (.ofNat 0), .int .u8 (.ofNat 72), .int .u8 (.ofNat 76), .int .u8 (.ofNat 74), .int .u8 (.ofNat
    49), .int .u8 (.ofNat 0), .int .u8 (.ofNat 0), .int .u8 (.ofNat 0), .int .u8 (.ofNat 0), .int .u8 (.ofNat 0), .int .u8 (.ofNat 0), .int .u8 (.ofNat 0), .int .u8 (.ofNat 2), .int
    .u8 (.ofNat 0), .int .u8 (.ofNat 0), .int .u8 (.ofNat 0), .int .u8 (.ofNat 0), .int .u8 (.ofNat 0), .int .u8 (.ofNat 0), .int .u8 (.ofNat 0), .int .u8 (.ofNat 9), .int .u8 (.ofNat
    0), .int .u8 (.ofNat 0), .int .u8 (.ofNat 0), .int .u8 (.ofNat 0), .int .u8 (.ofNat 0), .int .u8 (.ofNat 0), .int .u8 (.ofNat 0), .int .u8 (.ofNat 1), .int .u8 (.ofNat 0), .int .u8
    (.ofNat 0), .int .u8 (.ofNat 0), .int .u8 (.ofNat 0), .int .u8 (.ofNat 0), .int .u8 (.ofNat 0), .int .u8 (.ofNat 0), .int .u8 (.ofNat 2), .int .u8 (.ofNat 0), .int .u8 (.ofNat 0),
    .int .u8 (.ofNat 0), .int .u8 (.ofNat 0), .int .u8 (.ofNat 0), .int .u8 (.ofNat 0), .int .u8 (.ofNat 0), .int .u8 (.ofNat 1), .int .u8 (.ofNat 0), .int .u8 (.ofNat 0), .int .u8
    (.ofNat 0), .int .u8 (.ofNat 0), .int .u8 (.ofNat 0), .int .u8 (.ofNat 0), .int .u8 (.ofNat 0), .int .u8 (.ofNat 0), .int .u8 (.ofNat 0), .int .u8 (.ofNat 0), .int .u8 (.ofNat 0),
    .int .u8 (.ofNat 0), .int .u8 (.ofNat 0), .int .u8 (.ofNat 0), .int .u8 (.ofNat 0), .int .u8 (.ofNat 0), .int .u8 (.ofNat 0), .int .u8 (.ofNat 0), .int .u8 (.ofNat 0), .int .u8
    (.ofNat 0), .int .u8 (.ofNat 0), .int .u8 (.ofNat 0), .int .u8 (.ofNat 0), .int .u8 (.ofNat 0), .int .u8 (.ofNat 0), .int .u8 (.ofNat 0), .int .u8 (.ofNat 0), .int .u8 (.ofNat 0),
    .int .u8 (.ofNat 0), .int .u8 (.ofNat 0), .int .u8 (.ofNat 0), .int .u8 (.ofNat 30), .int .u8 (.ofNat 72), .int .u8 (.ofNat 76), .int .u8 (.ofNat 68), .int .u8 (.ofNat 49), .int
    .u8 (.ofNat 0), .int .u8 (.ofNat 1), .int .u8 (.ofNat 0), .int .u8 (.ofNat 4), .int .u8 (.ofNat 0), .int .u8 (.ofNat 4), .int .u8 (.ofNat 4), .int .u8 (.ofNat 0), .int .u8 (.ofNat
    0), .int .u8 (.ofNat 0), .int .u8 (.ofNat 0), .int .u8 (.ofNat 6), .int .u8 (.ofNat 166), .int .u8 (.ofNat 253), .int .u8 (.ofNat 241), .int .u8 (.ofNat 197), .int .u8 (.ofNat 0),
    .int .u8 (.ofNat 0), .int .u8 (.ofNat 0), .int .u8 (.ofNat 0), .int .u8 (.ofNat 0), .int .u8 (.ofNat 0), .int .u8 (.ofNat 177), .int .u8 (.ofNat 194), .int .u8 (.ofNat 161), .int
    .u8 (.ofNat 163), .int .u8 (.ofNat 0), .int .u8 (.ofNat 0), .int .u8 (.ofNat 0), .int .u8 (.ofNat 0), .int .u8 (.ofNat 0), .int .u8 (.ofNat 0), .int .u8 (.ofNat 0), .int .u8
    (.ofNat 12), .int .u8 (.ofNat 0), .int .u8 (.ofNat 0), .int .u8 (.ofNat 0), .int .u8 (.ofNat 0), .int .u8 (.ofNat 0), .int .u8 (.ofNat 0), .int .u8 (.ofNat 0), .int .u8 (.ofNat 1),
    .int .u8 (.ofNat 0), .int .u8 (.ofNat 0), .int .u8 (.ofNat 0), .int .u8 (.ofNat 0), .int .u8 (.ofNat 0), .int .u8 (.ofNat 0), .int .u8 (.ofNat 0), .int .u8 (.ofNat 0), .int .u8
    (.ofNat 0), .int .u8 (.ofNat 0), .int .u8 (.ofNat 0), .int .u8 (.ofNat 0), .int .u8 (.ofNat 0), .int .u8 (.ofNat 0), .int .u8 (.ofNat 0), .int .u8 (.ofNat 3), .int .u8 (.ofNat 0),
    .int .u8 (.ofNat 0), .int .u8 (.ofNat 0), .int .u8 (.ofNat 0), .int .u8 (.ofNat 0), .int .u8 (.ofNat 0), .int .u8 (.ofNat 0), .int .u8 (.ofNat 2), .int .u8 (.ofNat 0), .int .u8
    (.ofNat 0), .int .u8 (.ofNat 0), .int .u8 (.ofNat 0), .int .u8 (.ofNat 0), .int .u8 (.ofNat 0), .int .u8 (.ofNat 0), .int .u8 (.ofNat 1), .int .u8 (.ofNat 0), .int .u8 (.ofNat 0),
    .int .u8 (.ofNat 0), .int .u8 (.ofNat 0), .int .u8 (.ofNat 0), .int .u8 (.ofNat 0), .int .u8 (.ofNat 0), .int .u8 (.ofNat 2), .int .u8 (.ofNat 0), .int .u8 (.ofNat 0), .int .u8
    (.ofNat 0), .int .u8 (.ofNat 0), .int .u8 (.ofNat 0), .int .u8 (.ofNat 0), .int .u8 (.ofNat 0), .int .u8 (.ofNat 0), .int .u8 (.ofNat 59), .int .u8 (.ofNat 15), .int .u8 (.ofNat
    191), .int .u8 (.ofNat 160), .int .u8 (.ofNat 0), .int .u8 (.ofNat 0), .int .u8 (.ofNat 0), .int .u8 (.ofNat 58), .int .u8 (.ofNat 1), .int .u8 (.ofNat 0), .int .u8 (.ofNat 0),
    .int .u8 (.ofNat 0), .int .u8 (.ofNat 0), .int .u8 (.ofNat 0), .int .u8 (.ofNat 0), .int .u8 (.ofNat 0), .int .u8 (.ofNat 0), .int .u8 (.ofNat 0), .int .u8 (.ofNat 0), .int .u8
    (.ofNat 0), .int .u8 (.ofNat 0), .int .u8 (.ofNat 0), .int .u8 (.ofNat 0), .int .u8 (.ofNat 0), .int .u8 (.ofNat 1), .int .u8 (.ofNat 0), .int .u8 (.ofNat 0), .int .u8 (.ofNat 0),
    .int .u8 (.ofNat 0), .int .u8 (.ofNat 0), .int .u8 (.ofNat 0), .int .u8 (.ofNat 0), .int .u8 (.ofNat 2), .int .u8 (.ofNat 0), .int .u8 (.ofNat 0), .int .u8 (.ofNat 0), .int .u8
    (.ofNat 0), .int .u8 (.ofNat 0), .int .u8 (.ofNat 0), .int .u8 (.ofNat 0), .int .u8 (.ofNat 25), .int .u8 (.ofNat 72), .int .u8 (.ofNat 76), .int .u8 (.ofNat 68), .int .u8 (.ofNat
    49), .int .u8 (.ofNat 0), .int .u8 (.ofNat 1), .int .u8 (.ofNat 0), .int .u8 (.ofNat 1), .int .u8 (.ofNat 0), .int .u8 (.ofNat 1), .int .u8 (.ofNat 4), .int .u8 (.ofNat 0), .int
    .u8 (.ofNat 0), .int .u8 (.ofNat 0), .int .u8 (.ofNat 0), .int .u8 (.ofNat 1), .int .u8 (.ofNat 32), .int .u8 (.ofNat 54), .int .u8 (.ofNat 14), .int .u8 (.ofNat 142), .int .u8
    (.ofNat 80), .int .u8 (.ofNat 185), .int .u8 (.ofNat 105), .int .u8 (.ofNat 190), .int .u8 (.ofNat 121), .int .u8 (.ofNat 253), .int .u8 (.ofNat 160), .int .u8 (.ofNat 127), .int
    .u8 (.ofNat 184)] (some 1))]⟩
theorem e3_tabs : ∀ x, x ∈ ([(85, [e0, e2])] : List (Nat × List Tent)) → ∀ e, e ∈ x.2 → TentOK Tryz.prog x.1 e := by
  intro x hx
  simp only [List.mem_cons, List.not_mem_nil, or_false] at hx
  subst hx
  intro e he
  simp only [List.mem_cons, List.not_mem_nil, or_false] at he
  rcases he with rfl | rfl
  · exact e0_ok
  · exact e2_ok
theorem e3_good : goodE e3 = true := by kernel_rfl
theorem e3_ran : okR (runF (withTabs [(85, [e0, e2])] base) 1000 20 e3.args e3.h0 (pieceK e3)) = true := by kernel_rfl
theorem e3_ok : TentOK Tryz.prog 20 e3 := piece_ok (withTabs_ok _ _ e3_tabs baseOK) e3_good e3_ran
end Go.Proofs.YtgpegjmbofgmmaaGreat.jouRun
