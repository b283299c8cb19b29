/- A call, done by the kernel: what it is asked and what it answers. No condition. -/
import Derived.Test.YtgpegjmbofgmmaaGreatJouRunPiece7
import Derived.KernelRfl
namespace Go.Proofs.YtgpegjmbofgmmaaGreat.jouRun
open Go.Ab
def e8 : Tent :=
    ⟨[.pointer (some ⟨968, 0, none⟩), .agg ⟨[.int .i64 (.ofNat 3), .int .i64 (.ofNat 0), .int .i64 (.ofNat 0), .int .i64 (.ofNat 0), .int .i64 (.ofNat 0), .slice none 0 0, .slice none
    0 0, .slice none 0 0, .int .i64 (.ofNat 0), .int .i64 (.ofNat 0), .int .i64 (.ofNat 0), .int .i64 (.ofNat 0)]⟩], 2806, [(530, .map []), (531, .cells [.int .i64 (.ofNat 9), .int
    .i64 (.ofNat 0), .map (some 530)] none), (532, .cells [.pointer (some ⟨2470, 0, none⟩), .pointer (some ⟨531, 0, none⟩), .int .i64 (.ofNat 2), .int .i64 (.ofNat 1), .slice (some
    ⟨2802, 0, (some 1)⟩) 2 2, .slice none 0 0] none), (968, .cells [.pointer (some ⟨532, 0, none⟩), .slice (some ⟨2804, 0, (some 1)⟩) 302 302, .int .i64 (.ofNat 245), .bool false]
    none), (1186, .cells [.int .u32 (.ofNat 0)] none), (1191, .cells [.int .i64 (.ofNat 1), .int .i64 (.ofNat 1), .slice (some ⟨1186, 0, none⟩) 1 1] (some 3)), (1214, .cells [.int .u32
    (.ofNat 5)] none), (1219, .cells [.int .i64 (.ofNat 1), .int .i64 (.ofNat 1), .slice (some ⟨1214, 0, none⟩) 1 1] (some 3)), (2154, .cells [.int .i64 (.ofNat 0)] (some 1)), (2156,
    .cells [.int .i64 (.ofNat 2), .int .i64 (.ofNat 1), .int .i64 (.ofNat 2)] (some 1)), (2163, .cells [.int .i64 (.ofNat 2), .int .i64 (.ofNat 0), .int .i64 (.ofNat 3)] (some 1)),
    (2470, .cells [.slice (some ⟨2717, 0, (some 11)⟩) 2 2] none), (2483, .cells [.int .u32 (.ofNat 0), .int .u32 (.ofNat 0), .int .u32 (.ofNat 0), .int .u32 (.ofNat 0), .int .u32
    (.ofNat 0), .int .u32 (.ofNat 0), .int .u32 (.ofNat 0), .int .u32 (.ofNat 0), .int .u32 (.ofNat 0), .int .u32 (.ofNat 5), .int .u32 (.ofNat 0), .int .u32 (.ofNat 0), .int .u32
    (.ofNat 0), .int .u32 (.ofNat 0), .int .u32 (.ofNat 0), .int .u32 (.ofNat 0)] (some 1)), (2485, .cells [.int .i64 (.ofNat 4), .int .i64 (.ofNat 4), .slice (some ⟨2483, 0, (some
    1)⟩) 16 16] (some 3)), (2510, .cells [.int .i64 (.ofNat 0)] (some 1)), (2512, .cells [.int .i64 (.ofNat 2), .int .i64 (.ofNat 0), .int .i64 (.ofNat 3)] (some 1)), (2521, .cells
    [.slice (some ⟨2512, 0, (some 1)⟩) 3 3] none), (2522, .cells [.int .i64 (.ofNat 3)] none), (2523, .cells [.int .i64 (.ofNat 4)] none), (2524, .cells [.int .i64 (.ofNat 0)] none),
    (2525, .cells [.int .i64 (.ofNat 0)] none), (2526, .cells [.int .i64 (.ofNat 3)] none), (2527, .cells [.int .i64 (.ofNat 4)] none), (2528, .cells [.int .i64 (.ofNat 0)] none),
    (2529, .cells [.int .i64 (.ofNat 0)] none), (2717, .cells [.int .i64 (.ofNat 1), .slice none 0 0, .slice none 0 0, .slice none 0 0, .int .i64 (.ofNat 0), .slice (some ⟨2485, 0,
    (some 3)⟩) 1 1, .iface 385 (.agg ⟨[.int .i64 (.ofNat 0), .slice (some ⟨2485, 0, (some 3)⟩) 1 1]⟩), .int .i64 (.ofNat 4), .int .i64 (.ofNat 4), .int .i64 (.ofNat 0), .int .i64
    (.ofNat 1), .int .i64 (.ofNat 12), .slice (some ⟨2510, 0, (some 1)⟩) 1 1, .slice (some ⟨2512, 0, (some 1)⟩) 3 3, .slice none 0 0, .int .i64 (.ofNat 0), .slice none 0 0, .iface 502
    (.agg ⟨[.func (.func 389) ⟨[]⟩ ⟨[.pointer (some ⟨2521, 0, none⟩)]⟩, .func (.func 503) ⟨[]⟩ ⟨[.pointer (some ⟨2524, 0, none⟩), .pointer (some ⟨2525, 0, none⟩), .pointer (some ⟨2522,
    0, none⟩), .pointer (some ⟨2523, 0, none⟩)]⟩, .func (.func 503) ⟨[]⟩ ⟨[.pointer (some ⟨2528, 0, none⟩), .pointer (some ⟨2529, 0, none⟩), .pointer (some ⟨2526, 0, none⟩), .pointer
    (some ⟨2527, 0, none⟩)]⟩]⟩), .int .i64 (.ofNat 4), .int .i64 (.ofNat 4), .int .i64 (.ofNat 0), .int .i64 (.ofNat 1)] (some 11)), (2802, .cells [.iface 209 (.agg ⟨[.int .i64 (.ofNat
    0), .int .i64 (.ofNat 1), .int .i64 (.ofNat 2), .int .i64 (.ofNat 2), .int .i64 (.ofNat 3), .int .i64 (.ofNat 0), .slice (some ⟨1219, 0, (some 3)⟩) 1 1, .int .i64 (.ofNat 0),
    .slice (some ⟨1191, 0, (some 3)⟩) 1 1]⟩), .iface 217 (.agg ⟨[.int .i64 (.ofNat 1), .int .i64 (.ofNat 0), .int .i64 (.ofNat 0), .int .i64 (.ofNat 4), .int .i64 (.ofNat 4), .int .i64
    (.ofNat 12), .slice (some ⟨2154, 0, (some 1)⟩) 1 1, .slice (some ⟨2163, 0, (some 1)⟩) 3 3, .slice none 0 0, .int .i64 (.ofNat 0), .slice none 0 0, .int .i64 (.ofNat 12), .slice
    (some ⟨2154, 0, (some 1)⟩) 1 1, .slice (some ⟨2156, 0, (some 1)⟩) 3 3, .slice none 0 0, .int .i64 (.ofNat 0), .slice none 0 0]⟩)] (some 1)), (2804, .cells [.int .u8 (.ofNat 0),
    .int .u8 (.ofNat 0), .int .u8 (.ofNat 0), .int .u8 (.ofNat 171), .int .u8 (.ofNat 0), .int .u8 (.ofNat 72), .int .u8 (.ofNat 76), .int .u8 (.ofNat 74), .int .u8 (.ofNat 49), .int
    .u8 (.ofNat 0), .int .u8 (.ofNat 0), .int .u8 (.ofNat 0), .int .u8 (.ofNat 0), .int .u8 (.ofNat 0), .int .u8 (.ofNat 0), .int .u8 (.ofNat 0), .int .u8 (.ofNat 2), .int .u8 (.ofNat
    0), .int .u8 (.ofNat 0), .int .u8 (.ofNat 0), .int .u8 (.ofNat 0), .int .u8 (.ofNat 0), .int .u8 (.ofNat 0), .int .u8 (.ofNat 0), .int .u8 (.ofNat 9), .int .u8 (.ofNat 0), .int .u8
    (.ofNat 0), .int .u8 (.ofNat 0), .int .u8 (.ofNat 0), .int .u8 (.ofNat 0), .int .u8 (.ofNat 0), .int .u8 (.ofNat 0), .int .u8 (.ofNat 1), .int .u8 (.ofNat 0), .int .u8 (.ofNat 0),
    .int .u8 (.ofNat 0), .int .u8 (.ofNat 0), .int .u8 (.ofNat 0), .int .u8 (.ofNat 0), .int .u8 (.ofNat 0), .int .u8 (.ofNat 2), .int .u8 (.ofNat 0), .int .u8 (.ofNat 0), .int .u8
    (.ofNat 0), .int .u8 (.ofNat 0), .int .u8 (.ofNat 0), .int .u8 (.ofNat 0), .int .u8 (.ofNat 0), .int .u8 (.ofNat 1), .int .u8 (.ofNat 0), .int .u8 (.ofNat 0), .int .u8 (.ofNat 0),
    .int .u8 (.ofNat 0), .int .u8 (.ofNat 0), .int .u8 (.ofNat 0), .int .u8 (.ofNat 0), .int .u8 (.ofNat 0), .int .u8 (.ofNat 0), .int .u8 (.ofNat 0), .int .u8 (.ofNat 0), .int .u8
    (.ofNat 0), .int .u8 (.ofNat 0), .int .u8 (.ofNat 0), .int .u8 (.ofNat 0), .int .u8 (.ofNat 0), .int .u8 (.ofNat 0), .int .u8 (.ofNat 0), .int .u8 (.ofNat 0), .int .u8 (.ofNat 0),
    .int .u8 (.ofNat 0), .int .u8 (.ofNat 0), .int .u8 (.ofNat 0), .int .u8 (.ofNat 0), .int .u8 (.ofNat 0), .int .u8 (.ofNat 0), .int .u8 (.ofNat 0), .int .u8 (.ofNat 0), .int .u8
    (.ofNat 0), .int .u8 (.ofNat 0), .int .u8 (.ofNat 0), .int .u8 (.ofNat 30), .int .u8 (.ofNat 72), .int .u8 (.ofNat 76), .int .u8 (.ofNat 68), .int .u8 (.ofNat 49), .int .u8 (.ofNat
    0), .int .u8 (.ofNat 1), .int .u8 (.ofNat 0), .int .u8 (.ofNat 4), .int .u8 (.ofNat 0), .int .u8 (.ofNat 4), .int .u8 (.ofNat 4), .int .u8 (.ofNat 0), .int .u8 (.ofNat 0), .int .u8
    (.ofNat 0), .int .u8 (.ofNat 0), .int .u8 (.ofNat 6), .int .u8 (.ofNat 166), .int .u8 (.ofNat 253), .int .u8 (.ofNat 241), .int .u8 (.ofNat 197), .int .u8 (.ofNat 0), .int .u8
    (.ofNat 0), .int .u8 (.ofNat 0), .int .u8 (.ofNat 0), .int .u8 (.ofNat 0), .int .u8 (.ofNat 0), .int .u8 (.ofNat 177), .int .u8 (.ofNat 194), .int .u8 (.ofNat 161), .int .u8
    (.ofNat 163), .int .u8 (.ofNat 0), .int .u8 (.ofNat 0), .int .u8 (.ofNat 0), .int .u8 (.ofNat 0), .int .u8 (.ofNat 0), .int .u8 (.ofNat 0), .int .u8 (.ofNat 0), .int .u8 (.ofNat
    12), .int .u8 (.ofNat 0), .int .u8 (.ofNat 0), .int .u8 (.ofNat 0), .int .u8 (.ofNat 0), .int .u8 (.ofNat 0), .int .u8 (.ofNat 0), .int .u8 (.ofNat 0), .int .u8 (.ofNat 1), .int
    .u8 (.ofNat 0), .int .u8 (.ofNat 0), .int .u8 (.ofNat 0), .int .u8 (.ofNat 0), .int .u8 (.ofNat 0), .int .u8 (.ofNat 0), .int .u8 (.ofNat 0), .int .u8 (.ofNat 0), .int .u8 (.ofNat
    0), .int .u8 (.ofNat 0), .int .u8 (.ofNat 0), .int .u8 (.ofNat 0), .int .u8 (.ofNat 0), .int .u8 (.ofNat 0), .int .u8 (.ofNat 0), .int .u8 (.ofNat 3), .int .u8 (.ofNat 0), .int .u8
    (.ofNat 0), .int .u8 (.ofNat 0), .int .u8 (.ofNat 0), .int .u8 (.ofNat 0), .int .u8 (.ofNat 0), .int .u8 (.ofNat 0), .int .u8 (.ofNat 2), .int .u8 (.ofNat 0), .int .u8 (.ofNat 0),
    .int .u8 (.ofNat 0), .int .u8 (.ofNat 0), .int .u8 (.ofNat 0), .int .u8 (.ofNat 0), .int .u8 (.ofNat 0), .int .u8 (.ofNat 1), .int .u8 (.ofNat 0), .int .u8 (.ofNat 0), .int .u8
    (.ofNat 0), .int .u8 (.ofNat 0), .int .u8 (.ofNat 0), .int .u8 (.ofNat 0), .int .u8 (.ofNat 0), .int .u8 (.ofNat 2), .int .u8 (.ofNat 0), .int .u8 (.ofNat 0), .int .u8 (.ofNat 0),
    .int .u8 (.ofNat 0), .int .u8 (.ofNat 0), .int .u8 (.ofNat 0), .int .u8 (.ofNat 0), .int .u8 (.ofNat 0), .int .u8 (.ofNat 59), .int .u8 (.ofNat 15), .int .u8 (.ofNat 191), .int .u8
    (.ofNat 160), .int .u8 (.ofNat 0), .int .u8 (.ofNat 0), .int .u8 (.ofNat 0), .int .u8 (.ofNat 58), .int .u8 (.ofNat 1), .int .u8 (.ofNat 0), .int .u8 (.ofNat 0), .int .u8 (.ofNat
    0), .int .u8 (.ofNat 0), .int .u8 (.ofNat 0), .int .u8 (.ofNat 0), .int .u8 (.ofNat 0), .int .u8 (.ofNat 0), .int .u8 (.ofNat 0), .int .u8 (.ofNat 0), .int .u8 (.ofNat 0), .int .u8
    (.ofNat 0), .int .u8 (.ofNat 0), .int .u8 (.ofNat 0), .int .u8 (.ofNat 0), .int .u8 (.ofNat 1), .int .u8 (.ofNat 0), .int .u8 (.ofNat 0), .int .u8 (.ofNat 0), .int .u8 (.ofNat 0),
    .int .u8 (.ofNat 0), .int .u8 (.ofNat 0), .int .u8 (.ofNat 0), .int .u8 (.ofNat 2), .int .u8 (.ofNat 0), .int .u8 (.ofNat 0), .int .u8 (.ofNat 0), .int .u8 (.ofNat 0), .int .u8
    (.ofNat 0), .int .u8 (.ofNat 0), .int .u8 (.ofNat 0), .int .u8 (.ofNat 25), .int .u8 (.ofNat 72), .int .u8 (.ofNat 76), .int .u8 (.ofNat 68), .int .u8 (.ofNat 49), .int .u8 (.ofNat
    0), .int .u8 (.ofNat 1), .int .u8 (.ofNat 0), .int .u8 (.ofNat 1), .int .u8 (.ofNat 0), .int .u8 (.ofNat 1), .int .u8 (.ofNat 4), .int .u8 (.ofNat 0), .int .u8 (.ofNat 0), .int .u8
    (.ofNat 0), .int .u8 (.ofNat 0), .int .u8 (.ofNat 1), .int .u8 (.ofNat 32), .int .u8 (.ofNat 54), .int .u8 (.ofNat 14), .int .u8 (.ofNat 142), .int .u8 (.ofNat 80), .int .u8
    (.ofNat 185), .int .u8 (.ofNat 105), .int .u8 (.ofNat 190), .int .u8 (.ofNat 121), .int .u8 (.ofNat 253), .int .u8 (.ofNat 160), .int .u8 (.ofNat 127), .int .u8 (.ofNat 184), .int
    .u8 (.ofNat 0), .int .u8 (.ofNat 0), .int .u8 (.ofNat 0), .int .u8 (.ofNat 49), .int .u8 (.ofNat 2), .int .u8 (.ofNat 0), .int .u8 (.ofNat 0), .int .u8 (.ofNat 0), .int .u8 (.ofNat
    0), .int .u8 (.ofNat 0), .int .u8 (.ofNat 0), .int .u8 (.ofNat 0), .int .u8 (.ofNat 1), .int .u8 (.ofNat 0), .int .u8 (.ofNat 0), .int .u8 (.ofNat 0), .int .u8 (.ofNat 0), .int .u8
    (.ofNat 0), .int .u8 (.ofNat 0), .int .u8 (.ofNat 0), .int .u8 (.ofNat 3), .int .u8 (.ofNat 0), .int .u8 (.ofNat 0), .int .u8 (.ofNat 0), .int .u8 (.ofNat 0), .int .u8 (.ofNat 0),
    .int .u8 (.ofNat 0), .int .u8 (.ofNat 0), .int .u8 (.ofNat 2), .int .u8 (.ofNat 0), .int .u8 (.ofNat 0), .int .u8 (.ofNat 0), .int .u8 (.ofNat 0), .int .u8 (.ofNat 0), .int .u8
    (.ofNat 0), .int .u8 (.ofNat 0), .int .u8 (.ofNat 0), .int .u8 (.ofNat 0), .int .u8 (.ofNat 0), .int .u8 (.ofNat 0), .int .u8 (.ofNat 0), .int .u8 (.ofNat 0), .int .u8 (.ofNat 0),
    .int .u8 (.ofNat 0), .int .u8 (.ofNat 3), .int .u8 (.ofNat 0), .int .u8 (.ofNat 0), .int .u8 (.ofNat 0), .int .u8 (.ofNat 0), .int .u8 (.ofNat 0), .int .u8 (.ofNat 0), .int .u8
    (.ofNat 0), .int .u8 (.ofNat 0), .int .u8 (.ofNat 141), .int .u8 (.ofNat 191), .int .u8 (.ofNat 99), .int .u8 (.ofNat 190)] (some 1))], .agg ⟨[.int .i64 (.ofNat 0), .int .i64
    (.ofNat 0), .slice none 0 0, .slice none 0 0]⟩, 3240, [(530, .map []), (531, .cells [.int .i64 (.ofNat 9), .int .i64 (.ofNat 0), .map (some 530)] none), (532, .cells [.pointer
    (some ⟨2841, 0, none⟩), .pointer (some ⟨531, 0, none⟩), .int .i64 (.ofNat 2), .int .i64 (.ofNat 1), .slice (some ⟨2802, 0, (some 1)⟩) 1 1, .slice (some ⟨3237, 0, (some 1)⟩) 1 1]
    none), (968, .cells [.pointer (some ⟨532, 0, none⟩), .slice (some ⟨3239, 0, (some 1)⟩) 311 311, .int .i64 (.ofNat 245), .bool false] none), (1186, .cells [.int .u32 (.ofNat 0)]
    none), (1191, .cells [.int .i64 (.ofNat 1), .int .i64 (.ofNat 1), .slice (some ⟨1186, 0, none⟩) 1 1] (some 3)), (1214, .cells [.int .u32 (.ofNat 5)] none), (1219, .cells [.int .i64
    (.ofNat 1), .int .i64 (.ofNat 1), .slice (some ⟨1214, 0, none⟩) 1 1] (some 3)), (2154, .cells [.int .i64 (.ofNat 0)] (some 1)), (2156, .cells [.int .i64 (.ofNat 2), .int .i64
    (.ofNat 1), .int .i64 (.ofNat 2)] (some 1)), (2163, .cells [.int .i64 (.ofNat 2), .int .i64 (.ofNat 0), .int .i64 (.ofNat 3)] (some 1)), (2470, .cells [.slice (some ⟨2717, 0, (some
    11)⟩) 2 2] none), (2483, .cells [.int .u32 (.ofNat 0), .int .u32 (.ofNat 0), .int .u32 (.ofNat 0), .int .u32 (.ofNat 0), .int .u32 (.ofNat 0), .int .u32 (.ofNat 0), .int .u32
    (.ofNat 0), .int .u32 (.ofNat 0), .int .u32 (.ofNat 0), .int .u32 (.ofNat 5), .int .u32 (.ofNat 0), .int .u32 (.ofNat 0), .int .u32 (.ofNat 0), .int .u32 (.ofNat 0), .int .u32
    (.ofNat 0), .int .u32 (.ofNat 0)] (some 1)), (2485, .cells [.int .i64 (.ofNat 4), .int .i64 (.ofNat 4), .slice (some ⟨2483, 0, (some 1)⟩) 16 16] (some 3)), (2510, .cells [.int .i64
    (.ofNat 0)] (some 1)), (2512, .cells [.int .i64 (.ofNat 2), .int .i64 (.ofNat 0), .int .i64 (.ofNat 3)] (some 1)), (2521, .cells [.slice (some ⟨2512, 0, (some 1)⟩) 3 3] none),
    (2522, .cells [.int .i64 (.ofNat 3)] none), (2523, .cells [.int .i64 (.ofNat 4)] none), (2524, .cells [.int .i64 (.ofNat 0)] none), (2525, .cells [.int .i64 (.ofNat 0)] none),
    (2526, .cells [.int .i64 (.ofNat 3)] none), (2527, .cells [.int .i64 (.ofNat 4)] none), (2528, .cells [.int .i64 (.ofNat 0)] none), (2529, .cells [.int .i64 (.ofNat 0)] none),
    (2717, .cells [.int .i64 (.ofNat 1), .slice none 0 0, .slice none 0 0, .slice none 0 0, .int .i64 (.ofNat 0), .slice (some ⟨2485, 0, (some 3)⟩) 1 1, .iface 385 (.agg ⟨[.int .i64
    (.ofNat 0), .slice (some ⟨2485, 0, (some 3)⟩) 1 1]⟩), .int .i64 (.ofNat 4), .int .i64 (.ofNat 4), .int .i64 (.ofNat 0), .int .i64 (.ofNat 1), .int .i64 (.ofNat 12), .slice (some
    ⟨2510, 0, (some 1)⟩) 1 1, .slice (some ⟨2512, 0, (some 1)⟩) 3 3, .slice none 0 0, .int .i64 (.ofNat 0), .slice none 0 0, .iface 502 (.agg ⟨[.func (.func 389) ⟨[]⟩ ⟨[.pointer (some
    ⟨2521, 0, none⟩)]⟩, .func (.func 503) ⟨[]⟩ ⟨[.pointer (some ⟨2524, 0, none⟩), .pointer (some ⟨2525, 0, none⟩), .pointer (some ⟨2522, 0, none⟩), .pointer (some ⟨2523, 0, none⟩)]⟩,
    .func (.func 503) ⟨[]⟩ ⟨[.pointer (some ⟨2528, 0, none⟩), .pointer (some ⟨2529, 0, none⟩), .pointer (some ⟨2526, 0, none⟩), .pointer (some ⟨2527, 0, none⟩)]⟩]⟩), .int .i64 (.ofNat
    4), .int .i64 (.ofNat 4), .int .i64 (.ofNat 0), .int .i64 (.ofNat 1)] (some 11)), (2802, .cells [.iface 209 (.agg ⟨[.int .i64 (.ofNat 0), .int .i64 (.ofNat 1), .int .i64 (.ofNat
    2), .int .i64 (.ofNat 2), .int .i64 (.ofNat 3), .int .i64 (.ofNat 0), .slice (some ⟨1219, 0, (some 3)⟩) 1 1, .int .i64 (.ofNat 0), .slice (some ⟨1191, 0, (some 3)⟩) 1 1]⟩), .iface
    217 (.agg ⟨[.int .i64 (.ofNat 1), .int .i64 (.ofNat 0), .int .i64 (.ofNat 0), .int .i64 (.ofNat 4), .int .i64 (.ofNat 4), .int .i64 (.ofNat 12), .slice (some ⟨2154, 0, (some 1)⟩) 1
    1, .slice (some ⟨2163, 0, (some 1)⟩) 3 3, .slice none 0 0, .int .i64 (.ofNat 0), .slice none 0 0, .int .i64 (.ofNat 12), .slice (some ⟨2154, 0, (some 1)⟩) 1 1, .slice (some ⟨2156,
    0, (some 1)⟩) 3 3, .slice none 0 0, .int .i64 (.ofNat 0), .slice none 0 0]⟩)] (some 1)), (2804, .gone), (2841, .cells [.slice (some ⟨3152, 0, (some 11)⟩) 2 2] none), (2854, .cells
    [.int .u32 (.ofNat 0), .int .u32 (.ofNat 0), .int .u32 (.ofNat 0), .int .u32 (.ofNat 0), .int .u32 (.ofNat 0), .int .u32 (.ofNat 0), .int .u32 (.ofNat 0), .int .u32 (.ofNat 0),
    .int .u32 (.ofNat 0), .int .u32 (.ofNat 5), .int .u32 (.ofNat 0), .int .u32 (.ofNat 0), .int .u32 (.ofNat 0), .int .u32 (.ofNat 0), .int .u32 (.ofNat 0), .int .u32 (.ofNat 0)]
    (some 1)), (2856, .cells [.int .i64 (.ofNat 4), .int .i64 (.ofNat 4), .slice (some ⟨2854, 0, (some 1)⟩) 16 16] (some 3)), (2881, .cells [.int .i64 (.ofNat 0)] (some 1)), (2883,
    .cells [.int .i64 (.ofNat 2), .int .i64 (.ofNat 1), .int .i64 (.ofNat 2)] (some 1)), (2892, .cells [.slice (some ⟨2883, 0, (some 1)⟩) 3 3] none), (2893, .cells [.int .i64 (.ofNat
    2)] none), (2894, .cells [.int .i64 (.ofNat 4)] none), (2895, .cells [.int .i64 (.ofNat 1)] none), (2896, .cells [.int .i64 (.ofNat 1)] none), (2897, .cells [.int .i64 (.ofNat 2)]
    none), (2898, .cells [.int .i64 (.ofNat 4)] none), (2899, .cells [.int .i64 (.ofNat 1)] none), (2900, .cells [.int .i64 (.ofNat 1)] none), (3152, .cells [.int .i64 (.ofNat 1),
    .slice none 0 0, .slice none 0 0, .slice none 0 0, .int .i64 (.ofNat 0), .slice (some ⟨2856, 0, (some 3)⟩) 1 1, .iface 385 (.agg ⟨[.int .i64 (.ofNat 0), .slice (some ⟨2856, 0,
    (some 3)⟩) 1 1]⟩), .int .i64 (.ofNat 4), .int .i64 (.ofNat 4), .int .i64 (.ofNat 0), .int .i64 (.ofNat 1), .int .i64 (.ofNat 12), .slice (some ⟨2881, 0, (some 1)⟩) 1 1, .slice
    (some ⟨2883, 0, (some 1)⟩) 3 3, .slice none 0 0, .int .i64 (.ofNat 0), .slice none 0 0, .iface 502 (.agg ⟨[.func (.func 389) ⟨[]⟩ ⟨[.pointer (some ⟨2892, 0, none⟩)]⟩, .func (.func
    503) ⟨[]⟩ ⟨[.pointer (some ⟨2895, 0, none⟩), .pointer (some ⟨2896, 0, none⟩), .pointer (some ⟨2893, 0, none⟩), .pointer (some ⟨2894, 0, none⟩)]⟩, .func (.func 503) ⟨[]⟩ ⟨[.pointer
    (some ⟨2899, 0, none⟩), .pointer (some ⟨2900, 0, none⟩), .pointer (some ⟨2897, 0, none⟩), .pointer (some ⟨2898, 0, none⟩)]⟩]⟩), .int .i64 (.ofNat 4), .int .i64 (.ofNat 4), .int
    .i64 (.ofNat 0), .int .i64 (.ofNat 1)] (some 11)), (3237, .cells [.iface 217 (.agg ⟨[.int .i64 (.ofNat 1), .int .i64 (.ofNat 0), .int .i64 (.ofNat 0), .int .i64 (.ofNat 4), .int
    .i64 (.ofNat 4), .int .i64 (.ofNat 12), .slice (some ⟨2154, 0, (some 1)⟩) 1 1, .slice (some ⟨2163, 0, (some 1)⟩) 3 3, .slice none 0 0, .int .i64 (.ofNat 0), .slice none 0 0, .int
    .i64 (.ofNat 12), .slice (some ⟨2154, 0, (some 1)⟩) 1 1, .slice (some ⟨2156, 0, (some 1)⟩) 3 3, .slice none 0 0, .int .i64 (.ofNat 0), .slice none 0 0]⟩)] (some 1)), (3239, .cells
    [.int .u8 (.ofNat 0), .int .u8 (.ofNat 0), .int .u8 (.ofNat 0), .int .u8 (.ofNat 171), .int .u8 (.ofNat 0), .int .u8 (.ofNat 72), .int .u8 (.ofNat 76), .int .u8 (.ofNat 74), .int
    .u8 (.ofNat 49), .int .u8 (.ofNat 0), .int .u8 (.ofNat 0), .int .u8 (.ofNat 0), .int .u8 (.ofNat 0), .int .u8 (.ofNat 0), .int .u8 (.ofNat 0), .int .u8 (.ofNat 0), .int .u8 (.ofNat
    2), .int .u8 (.ofNat 0), .int .u8 (.ofNat 0), .int .u8 (.ofNat 0), .int .u8 (.ofNat 0), .int .u8 (.ofNat 0), .int .u8 (.ofNat 0), .int .u8 (.ofNat 0), .int .u8 (.ofNat 9), .int .u8
    (.ofNat 0), .int .u8 (.ofNat 0), .int .u8 (.ofNat 0), .int .u8 (.ofNat 0), .int .u8 (.ofNat 0), .int .u8 (.ofNat 0), .int .u8 (.ofNat 0), .int .u8 (.ofNat 1), .int .u8 (.ofNat 0),
    .int .u8 (.ofNat 0), .int .u8 (.ofNat 0), .int .u8 (.ofNat 0), .int .u8 (.ofNat 0), .int .u8 (.ofNat 0), .int .u8 (.ofNat 0), .int .u8 (.ofNat 2), .int .u8 (.ofNat 0), .int .u8
    (.ofNat 0), .int .u8 (.ofNat 0), .int .u8 (.ofNat 0), .int .u8 (.ofNat 0), .int .u8 (.ofNat 0), .int .u8 (.ofNat 0), .int .u8 (.ofNat 1), .int .u8 (.ofNat 0), .int .u8 (.ofNat 0),
    .int .u8 (.ofNat 0), .int .u8 (.ofNat 0), .int .u8 (.ofNat 0), .int .u8 (.ofNat 0), .int .u8 (.ofNat 0), .int .u8 (.ofNat 0), .int .u8 (.ofNat 0), .int .u8 (.ofNat 0), .int .u8
    (.ofNat 0), .int .u8 (.ofNat 0), .int .u8 (.ofNat 0), .int .u8 (.ofNat 0), .int .u8 (.ofNat 0), .int .u8 (.ofNat 0), .int .u8 (.ofNat 0), .int .u8 (.ofNat 0), .int .u8 (.ofNat 0),
    .int .u8 (.ofNat 0), .int .u8 (.ofNat 0), .int .u8 (.ofNat 0), .int .u8 (.ofNat 0), .int .u8 (.ofNat 0), .int .u8 (.ofNat 0), .int .u8 (.ofNat 0), .int .u8 (.ofNat 0), .int .u8
    (.ofNat 0), .int .u8 (.ofNat 0), .int .u8 (.ofNat 0), .int .u8 (.ofNat 0), .int .u8 (.ofNat 30), .int .u8 (.ofNat 72), .int .u8 (.ofNat 76), .int .u8 (.ofNat 68), .int .u8 (.ofNat
    49), .int .u8 (.ofNat 0), .int .u8 (.ofNat 1), .int .u8 (.ofNat 0), .int .u8 (.ofNat 4), .int .u8 (.ofNat 0), .int .u8 (.ofNat 4), .int .u8 (.ofNat 4), .int .u8 (.ofNat 0), .int
    .u8 (.ofNat 0), .int .u8 (.ofNat 0), .int .u8 (.ofNat 0), .int .u8 (.ofNat 6), .int .u8 (.ofNat 166), .int .u8 (.ofNat 253), .int .u8 (.ofNat 241), .int .u8 (.ofNat 197), .int .u8
    (.ofNat 0), .int .u8 (.ofNat 0), .int .u8 (.ofNat 0), .int .u8 (.ofNat 0), .int .u8 (.ofNat 0), .int .u8 (.ofNat 0), .int .u8 (.ofNat 177), .int .u8 (.ofNat 194), .int .u8 (.ofNat
    161), .int .u8 (.ofNat 163), .int .u8 (.ofNat 0), .int .u8 (.ofNat 0), .int .u8 (.ofNat 0), .int .u8 (.ofNat 0), .int .u8 (.ofNat 0), .int .u8 (.ofNat 0), .int .u8 (.ofNat 0), .int
    .u8 (.ofNat 12), .int .u8 (.ofNat 0), .int .u8 (.ofNat 0), .int .u8 (.ofNat 0), .int .u8 (.ofNat 0), .int .u8 (.ofNat 0), .int .u8 (.ofNat 0), .int .u8 (.ofNat 0), .int .u8 (.ofNat
    1), .int .u8 (.ofNat 0), .int .u8 (.ofNat 0), .int .u8 (.ofNat 0), .int .u8 (.ofNat 0), .int .u8 (.ofNat 0), .int .u8 (.ofNat 0), .int .u8 (.ofNat 0), .int .u8 (.ofNat 0), .int .u8
    (.ofNat 0), .int .u8 (.ofNat 0), .int .u8 (.ofNat 0), .int .u8 (.ofNat 0), .int .u8 (.ofNat 0), .int .u8 (.ofNat 0), .int .u8 (.ofNat 0), .int .u8 (.ofNat 3), .int .u8 (.ofNat 0),
    .int .u8 (.ofNat 0), .int .u8 (.ofNat 0), .int .u8 (.ofNat 0), .int .u8 (.ofNat 0), .int .u8 (.ofNat 0), .int .u8 (.ofNat 0), .int .u8 (.ofNat 2), .int .u8 (.ofNat 0), .int .u8
    (.ofNat 0), .int .u8 (.ofNat 0), .int .u8 (.ofNat 0), .int .u8 (.ofNat 0), .int .u8 (.ofNat 0), .int .u8 (.ofNat 0), .int .u8 (.ofNat 1), .int .u8 (.ofNat 0), .int .u8 (.ofNat 0),
    .int .u8 (.ofNat 0), .int .u8 (.ofNat 0), .int .u8 (.ofNat 0), .int .u8 (.ofNat 0), .int .u8 (.ofNat 0), .int .u8 (.ofNat 2), .int .u8 (.ofNat 0), .int .u8 (.ofNat 0), .int .u8
    (.ofNat 0), .int .u8 (.ofNat 0), .int .u8 (.ofNat 0), .int .u8 (.ofNat 0), .int .u8 (.ofNat 0), .int .u8 (.ofNat 0), .int .u8 (.ofNat 59), .int .u8 (.ofNat 15), .int .u8 (.ofNat
    191), .int .u8 (.ofNat 160), .int .u8 (.ofNat 0), .int .u8 (.ofNat 0), .int .u8 (.ofNat 0), .int .u8 (.ofNat 58), .int .u8 (.ofNat 1), .int .u8 (.ofNat 0), .int .u8 (.ofNat 0),
    .int .u8 (.ofNat 0), .int .u8 (.ofNat 0), .int .u8 (.ofNat 0), .int .u8 (.ofNat 0), .int .u8 (.ofNat 0), .int .u8 (.ofNat 0), .int .u8 (.ofNat 0), .int .u8 (.ofNat 0), .int .u8
    (.ofNat 0), .int .u8 (.ofNat 0), .int .u8 (.ofNat 0), .int .u8 (.ofNat 0), .int .u8 (.ofNat 0), .int .u8 (.ofNat 1), .int .u8 (.ofNat 0), .int .u8 (.ofNat 0), .int .u8 (.ofNat 0),
    .int .u8 (.ofNat 0), .int .u8 (.ofNat 0), .int .u8 (.ofNat 0), .int .u8 (.ofNat 0), .int .u8 (.ofNat 2), .int .u8 (.ofNat 0), .int .u8 (.ofNat 0), .int .u8 (.ofNat 0), .int .u8
    (.ofNat 0), .int .u8 (.ofNat 0), .int .u8 (.ofNat 0), .int .u8 (.ofNat 0), .int .u8 (.ofNat 25), .int .u8 (.ofNat 72), .int .u8 (.ofNat 76), .int .u8 (.ofNat 68), .int .u8 (.ofNat
    49), .int .u8 (.ofNat 0), .int .u8 (.ofNat 1), .int .u8 (.ofNat 0), .int .u8 (.ofNat 1), .int .u8 (.ofNat 0), .int .u8 (.ofNat 1), .int .u8 (.ofNat 4), .int .u8 (.ofNat 0), .int
    .u8 (.ofNat 0), .int .u8 (.ofNat 0), .int .u8 (.ofNat 0), .int .u8 (.ofNat 1), .int .u8 (.ofNat 32), .int .u8 (.ofNat 54), .int .u8 (.ofNat 14), .int .u8 (.ofNat 142), .int .u8
    (.ofNat 80), .int .u8 (.ofNat 185), .int .u8 (.ofNat 105), .int .u8 (.ofNat 190), .int .u8 (.ofNat 121), .int .u8 (.ofNat 253), .int .u8 (.ofNat 160), .int .u8 (.ofNat 127), .int
    .u8 (.ofNat 184), .int .u8 (.ofNat 0), .int .u8 (.ofNat 0), .int .u8 (.ofNat 0), .int .u8 (.ofNat 49), .int .u8 (.ofNat 2), .int .u8 (.ofNat 0), .int .u8 (.ofNat 0), .int .u8
    (.ofNat 0), .int .u8 (.ofNat 0), .int .u8 (.ofNat 0), .int .u8 (.ofNat 0), .int .u8 (.ofNat 0), .int .u8 (.ofNat 1), .int .u8 (.ofNat 0), .int .u8 (.ofNat 0), .int .u8 (.ofNat 0),
    .int .u8 (.ofNat 0), .int .u8 (.ofNat 0), .int .u8 (.ofNat 0), .int .u8 (.ofNat 0), .int .u8 (.ofNat 3), .int .u8 (.ofNat 0), .int .u8 (.ofNat 0), .int .u8 (.ofNat 0), .int .u8
    (.ofNat 0), .int .u8 (.ofNat 0), .int .u8 (.ofNat 0), .int .u8 (.ofNat 0), .int .u8 (.ofNat 2), .int .u8 (.ofNat 0), .int .u8 (.ofNat 0), .int .u8 (.ofNat 0), .int .u8 (.ofNat 0),
    .int .u8 (.ofNat 0), .int .u8 (.ofNat 0), .int .u8 (.ofNat 0), .int .u8 (.ofNat 0), .int .u8 (.ofNat 0), .int .u8 (.ofNat 0), .int .u8 (.ofNat 0), .int .u8 (.ofNat 0), .int .u8
    (.ofNat 0), .int .u8 (.ofNat 0), .int .u8 (.ofNat 0), .int .u8 (.ofNat 3), .int .u8 (.ofNat 0), .int .u8 (.ofNat 0), .int .u8 (.ofNat 0), .int .u8 (.ofNat 0), .int .u8 (.ofNat 0),
    .int .u8 (.ofNat 0), .int .u8 (.ofNat 0), .int .u8 (.ofNat 0), .int .u8 (.ofNat 141), .int .u8 (.ofNat 191), .int .u8 (.ofNat 99), .int .u8 (.ofNat 190), .int .u8 (.ofNat 0), .int
    .u8 (.ofNat 0), .int .u8 (.ofNat 0), .int .u8 (.ofNat 1), .int .u8 (.ofNat 3), .int .u8 (.ofNat 75), .int .u8 (.ofNat 11), .int .u8 (.ofNat 190), .int .u8 (.ofNat 55)] (some 1))]⟩
theorem e8_tabs : ∀ x, x ∈ ([(85, [e0, e2, e4, e5, e7])] : List (Nat × List Tent)) → ∀ e, e ∈ x.2 → TentOK Tryz.prog x.1 e := by
  intro x hx
  simp only [List.mem_cons, List.not_mem_nil, or_false] at hx
  subst hx
  intro e he
  simp only [List.mem_cons, List.not_mem_nil, or_false] at he
  rcases he with rfl | rfl | rfl | rfl | rfl
  · exact e0_ok
  · exact e2_ok
  · exact e4_ok
  · exact e5_ok
  · exact e7_ok
theorem e8_good : goodE e8 = true := by kernel_rfl
theorem e8_ran : okR (runF (withTabs [(85, [e0, e2, e4, e5, e7])] base) 1000 20 e8.args e8.h0 (pieceK e8)) = true := by kernel_rfl
theorem e8_ok : TentOK Tryz.prog 20 e8 := piece_ok (withTabs_ok _ _ e8_tabs baseOK) e8_good e8_ran
end Go.Proofs.YtgpegjmbofgmmaaGreat.jouRun
