/- A call, done by the kernel: what it is asked and what it answers. No condition. -/
import Derived.Test.YtgpegjmbofgmmaaGreatJouRunPiece12
import Derived.KernelRfl
namespace Go.Proofs.YtgpegjmbofgmmaaGreat.jouRun
open Go.Ab
def e13 : Tent :=
    ⟨[.slice (some ⟨3249, 0, (some 1)⟩) 248 248], 3250, [(3249, .cells [.int .u8 (.ofNat 0), .int .u8 (.ofNat 0), .int .u8 (.ofNat 0), .int .u8 (.ofNat 171), .int .u8 (.ofNat 0), .int
    .u8 (.ofNat 72), .int .u8 (.ofNat 76), .int .u8 (.ofNat 74), .int .u8 (.ofNat 49), .int .u8 (.ofNat 0), .int .u8 (.ofNat 0), .int .u8 (.ofNat 0), .int .u8 (.ofNat 0), .int .u8
    (.ofNat 0), .int .u8 (.ofNat 0), .int .u8 (.ofNat 0), .int .u8 (.ofNat 2), .int .u8 (.ofNat 0), .int .u8 (.ofNat 0), .int .u8 (.ofNat 0), .int .u8 (.ofNat 0), .int .u8 (.ofNat 0),
    .int .u8 (.ofNat 0), .int .u8 (.ofNat 0), .int .u8 (.ofNat 9), .int .u8 (.ofNat 0), .int .u8 (.ofNat 0), .int .u8 (.ofNat 0), .int .u8 (.ofNat 0), .int .u8 (.ofNat 0), .int .u8
    (.ofNat 0), .int .u8 (.ofNat 0), .int .u8 (.ofNat 1), .int .u8 (.ofNat 0), .int .u8 (.ofNat 0), .int .u8 (.ofNat 0), .int .u8 (.ofNat 0), .int .u8 (.ofNat 0), .int .u8 (.ofNat 0),
    .int .u8 (.ofNat 0), .int .u8 (.ofNat 2), .int .u8 (.ofNat 0), .int .u8 (.ofNat 0), .int .u8 (.ofNat 0), .int .u8 (.ofNat 0), .int .u8 (.ofNat 0), .int .u8 (.ofNat 0), .int .u8
    (.ofNat 0), .int .u8 (.ofNat 1), .int .u8 (.ofNat 0), .int .u8 (.ofNat 0), .int .u8 (.ofNat 0), .int .u8 (.ofNat 0), .int .u8 (.ofNat 0), .int .u8 (.ofNat 0), .int .u8 (.ofNat 0),
    .int .u8 (.ofNat 0), .int .u8 (.ofNat 0), .int .u8 (.ofNat 0), .int .u8 (.ofNat 0), .int .u8 (.ofNat 0), .int .u8 (.ofNat 0), .int .u8 (.ofNat 0), .int .u8 (.ofNat 0), .int .u8
    (.ofNat 0), .int .u8 (.ofNat 0), .int .u8 (.ofNat 0), .int .u8 (.ofNat 0), .int .u8 (.ofNat 0), .int .u8 (.ofNat 0), .int .u8 (.ofNat 0), .int .u8 (.ofNat 0), .int .u8 (.ofNat 0),
    .int .u8 (.ofNat 0), .int .u8 (.ofNat 0), .int .u8 (.ofNat 0), .int .u8 (.ofNat 0), .int .u8 (.ofNat 0), .int .u8 (.ofNat 0), .int .u8 (.ofNat 0), .int .u8 (.ofNat 30), .int .u8
    (.ofNat 72), .int .u8 (.ofNat 76), .int .u8 (.ofNat 68), .int .u8 (.ofNat 49), .int .u8 (.ofNat 0), .int .u8 (.ofNat 1), .int .u8 (.ofNat 0), .int .u8 (.ofNat 4), .int .u8 (.ofNat
    0), .int .u8 (.ofNat 4), .int .u8 (.ofNat 4), .int .u8 (.ofNat 0), .int .u8 (.ofNat 0), .int .u8 (.ofNat 0), .int .u8 (.ofNat 0), .int .u8 (.ofNat 6), .int .u8 (.ofNat 166), .int
    .u8 (.ofNat 253), .int .u8 (.ofNat 241), .int .u8 (.ofNat 197), .int .u8 (.ofNat 0), .int .u8 (.ofNat 0), .int .u8 (.ofNat 0), .int .u8 (.ofNat 0), .int .u8 (.ofNat 0), .int .u8
    (.ofNat 0), .int .u8 (.ofNat 177), .int .u8 (.ofNat 194), .int .u8 (.ofNat 161), .int .u8 (.ofNat 163), .int .u8 (.ofNat 0), .int .u8 (.ofNat 0), .int .u8 (.ofNat 0), .int .u8
    (.ofNat 0), .int .u8 (.ofNat 0), .int .u8 (.ofNat 0), .int .u8 (.ofNat 0), .int .u8 (.ofNat 12), .int .u8 (.ofNat 0), .int .u8 (.ofNat 0), .int .u8 (.ofNat 0), .int .u8 (.ofNat 0),
    .int .u8 (.ofNat 0), .int .u8 (.ofNat 0), .int .u8 (.ofNat 0), .int .u8 (.ofNat 1), .int .u8 (.ofNat 0), .int .u8 (.ofNat 0), .int .u8 (.ofNat 0), .int .u8 (.ofNat 0), .int .u8
    (.ofNat 0), .int .u8 (.ofNat 0), .int .u8 (.ofNat 0), .int .u8 (.ofNat 0), .int .u8 (.ofNat 0), .int .u8 (.ofNat 0), .int .u8 (.ofNat 0), .int .u8 (.ofNat 0), .int .u8 (.ofNat 0),
    .int .u8 (.ofNat 0), .int .u8 (.ofNat 0), .int .u8 (.ofNat 3), .int .u8 (.ofNat 0), .int .u8 (.ofNat 0), .int .u8 (.ofNat 0), .int .u8 (.ofNat 0), .int .u8 (.ofNat 0), .int .u8
    (.ofNat 0), .int .u8 (.ofNat 0), .int .u8 (.ofNat 2), .int .u8 (.ofNat 0), .int .u8 (.ofNat 0), .int .u8 (.ofNat 0), .int .u8 (.ofNat 0), .int .u8 (.ofNat 0), .int .u8 (.ofNat 0),
    .int .u8 (.ofNat 0), .int .u8 (.ofNat 1), .int .u8 (.ofNat 0), .int .u8 (.ofNat 0), .int .u8 (.ofNat 0), .int .u8 (.ofNat 0), .int .u8 (.ofNat 0), .int .u8 (.ofNat 0), .int .u8
    (.ofNat 0), .int .u8 (.ofNat 2), .int .u8 (.ofNat 0), .int .u8 (.ofNat 0), .int .u8 (.ofNat 0), .int .u8 (.ofNat 0), .int .u8 (.ofNat 0), .int .u8 (.ofNat 0), .int .u8 (.ofNat 0),
    .int .u8 (.ofNat 0), .int .u8 (.ofNat 59), .int .u8 (.ofNat 15), .int .u8 (.ofNat 191), .int .u8 (.ofNat 160), .int .u8 (.ofNat 0), .int .u8 (.ofNat 0), .int .u8 (.ofNat 0), .int
    .u8 (.ofNat 58), .int .u8 (.ofNat 1), .int .u8 (.ofNat 0), .int .u8 (.ofNat 0), .int .u8 (.ofNat 0), .int .u8 (.ofNat 0), .int .u8 (.ofNat 0), .int .u8 (.ofNat 0), .int .u8 (.ofNat
    0), .int .u8 (.ofNat 0), .int .u8 (.ofNat 0), .int .u8 (.ofNat 0), .int .u8 (.ofNat 0), .int .u8 (.ofNat 0), .int .u8 (.ofNat 0), .int .u8 (.ofNat 0), .int .u8 (.ofNat 0), .int .u8
    (.ofNat 1), .int .u8 (.ofNat 0), .int .u8 (.ofNat 0), .int .u8 (.ofNat 0), .int .u8 (.ofNat 0), .int .u8 (.ofNat 0), .int .u8 (.ofNat 0), .int .u8 (.ofNat 0), .int .u8 (.ofNat 2),
    .int .u8 (.ofNat 0), .int .u8 (.ofNat 0), .int .u8 (.ofNat 0), .int .u8 (.ofNat 0), .int .u8 (.ofNat 0), .int .u8 (.ofNat 0), .int .u8 (.ofNat 0), .int .u8 (.ofNat 25), .int .u8
    (.ofNat 72), .int .u8 (.ofNat 76), .int .u8 (.ofNat 68), .int .u8 (.ofNat 49), .int .u8 (.ofNat 0), .int .u8 (.ofNat 1), .int .u8 (.ofNat 0), .int .u8 (.ofNat 1), .int .u8 (.ofNat
    0), .int .u8 (.ofNat 1), .int .u8 (.ofNat 4), .int .u8 (.ofNat 0), .int .u8 (.ofNat 0), .int .u8 (.ofNat 0), .int .u8 (.ofNat 0), .int .u8 (.ofNat 1), .int .u8 (.ofNat 32), .int
    .u8 (.ofNat 54), .int .u8 (.ofNat 14), .int .u8 (.ofNat 142), .int .u8 (.ofNat 80), .int .u8 (.ofNat 185), .int .u8 (.ofNat 105), .int .u8 (.ofNat 190), .int .u8 (.ofNat 121), .int
    .u8 (.ofNat 253), .int .u8 (.ofNat 160), .int .u8 (.ofNat 127), .int .u8 (.ofNat 184), .int .u8 (.ofNat 0), .int .u8 (.ofNat 0), .int .u8 (.ofNat 0)] (some 1))], .tuple ⟨[.pointer
    (some ⟨4581, 0, none⟩), .int .i64 (.ofNat 1), .int .i64 (.ofNat 0)]⟩, 5704, [(3249, .cells [.int .u8 (.ofNat 0), .int .u8 (.ofNat 0), .int .u8 (.ofNat 0), .int .u8 (.ofNat 171),
    .int .u8 (.ofNat 0), .int .u8 (.ofNat 72), .int .u8 (.ofNat 76), .int .u8 (.ofNat 74), .int .u8 (.ofNat 49), .int .u8 (.ofNat 0), .int .u8 (.ofNat 0), .int .u8 (.ofNat 0), .int .u8
    (.ofNat 0), .int .u8 (.ofNat 0), .int .u8 (.ofNat 0), .int .u8 (.ofNat 0), .int .u8 (.ofNat 2), .int .u8 (.ofNat 0), .int .u8 (.ofNat 0), .int .u8 (.ofNat 0), .int .u8 (.ofNat 0),
    .int .u8 (.ofNat 0), .int .u8 (.ofNat 0), .int .u8 (.ofNat 0), .int .u8 (.ofNat 9), .int .u8 (.ofNat 0), .int .u8 (.ofNat 0), .int .u8 (.ofNat 0), .int .u8 (.ofNat 0), .int .u8
    (.ofNat 0), .int .u8 (.ofNat 0), .int .u8 (.ofNat 0), .int .u8 (.ofNat 1), .int .u8 (.ofNat 0), .int .u8 (.ofNat 0), .int .u8 (.ofNat 0), .int .u8 (.ofNat 0), .int .u8 (.ofNat 0),
    .int .u8 (.ofNat 0), .int .u8 (.ofNat 0), .int .u8 (.ofNat 2), .int .u8 (.ofNat 0), .int .u8 (.ofNat 0), .int .u8 (.ofNat 0), .int .u8 (.ofNat 0), .int .u8 (.ofNat 0), .int .u8
    (.ofNat 0), .int .u8 (.ofNat 0), .int .u8 (.ofNat 1), .int .u8 (.ofNat 0), .int .u8 (.ofNat 0), .int .u8 (.ofNat 0), .int .u8 (.ofNat 0), .int .u8 (.ofNat 0), .int .u8 (.ofNat 0),
    .int .u8 (.ofNat 0), .int .u8 (.ofNat 0), .int .u8 (.ofNat 0), .int .u8 (.ofNat 0), .int .u8 (.ofNat 0), .int .u8 (.ofNat 0), .int .u8 (.ofNat 0), .int .u8 (.ofNat 0), .int .u8
    (.ofNat 0), .int .u8 (.ofNat 0), .int .u8 (.ofNat 0), .int .u8 (.ofNat 0), .int .u8 (.ofNat 0), .int .u8 (.ofNat 0), .int .u8 (.ofNat 0), .int .u8 (.ofNat 0), .int .u8 (.ofNat 0),
    .int .u8 (.ofNat 0), .int .u8 (.ofNat 0), .int .u8 (.ofNat 0), .int .u8 (.ofNat 0), .int .u8 (.ofNat 0), .int .u8 (.ofNat 0), .int .u8 (.ofNat 0), .int .u8 (.ofNat 0), .int .u8
    (.ofNat 30), .int .u8 (.ofNat 72), .int .u8 (.ofNat 76), .int .u8 (.ofNat 68), .int .u8 (.ofNat 49), .int .u8 (.ofNat 0), .int .u8 (.ofNat 1), .int .u8 (.ofNat 0), .int .u8 (.ofNat
    4), .int .u8 (.ofNat 0), .int .u8 (.ofNat 4), .int .u8 (.ofNat 4), .int .u8 (.ofNat 0), .int .u8 (.ofNat 0), .int .u8 (.ofNat 0), .int .u8 (.ofNat 0), .int .u8 (.ofNat 6), .int .u8
    (.ofNat 166), .int .u8 (.ofNat 253), .int .u8 (.ofNat 241), .int .u8 (.ofNat 197), .int .u8 (.ofNat 0), .int .u8 (.ofNat 0), .int .u8 (.ofNat 0), .int .u8 (.ofNat 0), .int .u8
    (.ofNat 0), .int .u8 (.ofNat 0), .int .u8 (.ofNat 177), .int .u8 (.ofNat 194), .int .u8 (.ofNat 161), .int .u8 (.ofNat 163), .int .u8 (.ofNat 0), .int .u8 (.ofNat 0), .int .u8
    (.ofNat 0), .int .u8 (.ofNat 0), .int .u8 (.ofNat 0), .int .u8 (.ofNat 0), .int .u8 (.ofNat 0), .int .u8 (.ofNat 12), .int .u8 (.ofNat 0), .int .u8 (.ofNat 0), .int .u8 (.ofNat 0),
    .int .u8 (.ofNat 0), .int .u8 (.ofNat 0), .int .u8 (.ofNat 0), .int .u8 (.ofNat 0), .int .u8 (.ofNat 1), .int .u8 (.ofNat 0), .int .u8 (.ofNat 0), .int .u8 (.ofNat 0), .int .u8
    (.ofNat 0), .int .u8 (.ofNat 0), .int .u8 (.ofNat 0), .int .u8 (.ofNat 0), .int .u8 (.ofNat 0), .int .u8 (.ofNat 0), .int .u8 (.ofNat 0), .int .u8 (.ofNat 0), .int .u8 (.ofNat 0),
    .int .u8 (.ofNat 0), .int .u8 (.ofNat 0), .int .u8 (.ofNat 0), .int .u8 (.ofNat 3), .int .u8 (.ofNat 0), .int .u8 (.ofNat 0), .int .u8 (.ofNat 0), .int .u8 (.ofNat 0), .int .u8
    (.ofNat 0), .int .u8 (.ofNat 0), .int .u8 (.ofNat 0), .int .u8 (.ofNat 2), .int .u8 (.ofNat 0), .int .u8 (.ofNat 0), .int .u8 (.ofNat 0), .int .u8 (.ofNat 0), .int .u8 (.ofNat 0),
    .int .u8 (.ofNat 0), .int .u8 (.ofNat 0), .int .u8 (.ofNat 1), .int .u8 (.ofNat 0), .int .u8 (.ofNat 0), .int .u8 (.ofNat 0), .int .u8 (.ofNat 0), .int .u8 (.ofNat 0), .int .u8
    (.ofNat 0), .int .u8 (.ofNat 0), .int .u8 (.ofNat 2), .int .u8 (.ofNat 0), .int .u8 (.ofNat 0), .int .u8 (.ofNat 0), .int .u8 (.ofNat 0), .int .u8 (.ofNat 0), .int .u8 (.ofNat 0),
    .int .u8 (.ofNat 0), .int .u8 (.ofNat 0), .int .u8 (.ofNat 59), .int .u8 (.ofNat 15), .int .u8 (.ofNat 191), .int .u8 (.ofNat 160), .int .u8 (.ofNat 0), .int .u8 (.ofNat 0), .int
    .u8 (.ofNat 0), .int .u8 (.ofNat 58), .int .u8 (.ofNat 1), .int .u8 (.ofNat 0), .int .u8 (.ofNat 0), .int .u8 (.ofNat 0), .int .u8 (.ofNat 0), .int .u8 (.ofNat 0), .int .u8 (.ofNat
    0), .int .u8 (.ofNat 0), .int .u8 (.ofNat 0), .int .u8 (.ofNat 0), .int .u8 (.ofNat 0), .int .u8 (.ofNat 0), .int .u8 (.ofNat 0), .int .u8 (.ofNat 0), .int .u8 (.ofNat 0), .int .u8
    (.ofNat 0), .int .u8 (.ofNat 1), .int .u8 (.ofNat 0), .int .u8 (.ofNat 0), .int .u8 (.ofNat 0), .int .u8 (.ofNat 0), .int .u8 (.ofNat 0), .int .u8 (.ofNat 0), .int .u8 (.ofNat 0),
    .int .u8 (.ofNat 2), .int .u8 (.ofNat 0), .int .u8 (.ofNat 0), .int .u8 (.ofNat 0), .int .u8 (.ofNat 0), .int .u8 (.ofNat 0), .int .u8 (.ofNat 0), .int .u8 (.ofNat 0), .int .u8
    (.ofNat 25), .int .u8 (.ofNat 72), .int .u8 (.ofNat 76), .int .u8 (.ofNat 68), .int .u8 (.ofNat 49), .int .u8 (.ofNat 0), .int .u8 (.ofNat 1), .int .u8 (.ofNat 0), .int .u8 (.ofNat
    1), .int .u8 (.ofNat 0), .int .u8 (.ofNat 1), .int .u8 (.ofNat 4), .int .u8 (.ofNat 0), .int .u8 (.ofNat 0), .int .u8 (.ofNat 0), .int .u8 (.ofNat 0), .int .u8 (.ofNat 1), .int .u8
    (.ofNat 32), .int .u8 (.ofNat 54), .int .u8 (.ofNat 14), .int .u8 (.ofNat 142), .int .u8 (.ofNat 80), .int .u8 (.ofNat 185), .int .u8 (.ofNat 105), .int .u8 (.ofNat 190), .int .u8
    (.ofNat 121), .int .u8 (.ofNat 253), .int .u8 (.ofNat 160), .int .u8 (.ofNat 127), .int .u8 (.ofNat 184), .int .u8 (.ofNat 0), .int .u8 (.ofNat 0), .int .u8 (.ofNat 0)] (some 1)),
    (4143, .map []), (4144, .cells [.int .i64 (.ofNat 9), .int .i64 (.ofNat 0), .map (some 4143)] none), (4145, .cells [.pointer (some ⟨4980, 0, none⟩), .pointer (some ⟨4144, 0,
    none⟩), .int .i64 (.ofNat 2), .int .i64 (.ofNat 1), .slice (some ⟨5700, 0, (some 1)⟩) 1 1, .slice none 0 0] none), (4581, .cells [.pointer (some ⟨4145, 0, none⟩), .slice (some
    ⟨5701, 0, (some 1)⟩) 245 245, .int .i64 (.ofNat 245), .bool false] none), (4863, .cells [.int .u32 (.ofNat 0)] none), (4868, .cells [.int .i64 (.ofNat 1), .int .i64 (.ofNat 1),
    .slice (some ⟨4863, 0, none⟩) 1 1] (some 3)), (4891, .cells [.int .u32 (.ofNat 5)] none), (4896, .cells [.int .i64 (.ofNat 1), .int .i64 (.ofNat 1), .slice (some ⟨4891, 0, none⟩) 1
    1] (some 3)), (4980, .cells [.slice (some ⟨5291, 0, (some 11)⟩) 2 2] none), (4993, .cells [.int .u32 (.ofNat 0), .int .u32 (.ofNat 0), .int .u32 (.ofNat 0), .int .u32 (.ofNat 0),
    .int .u32 (.ofNat 0), .int .u32 (.ofNat 0), .int .u32 (.ofNat 0), .int .u32 (.ofNat 0), .int .u32 (.ofNat 0), .int .u32 (.ofNat 5), .int .u32 (.ofNat 0), .int .u32 (.ofNat 0), .int
    .u32 (.ofNat 0), .int .u32 (.ofNat 0), .int .u32 (.ofNat 0), .int .u32 (.ofNat 0)] (some 1)), (4995, .cells [.int .i64 (.ofNat 4), .int .i64 (.ofNat 4), .slice (some ⟨4993, 0,
    (some 1)⟩) 16 16] (some 3)), (5020, .cells [.int .i64 (.ofNat 0)] (some 1)), (5022, .cells [.int .i64 (.ofNat 2), .int .i64 (.ofNat 1), .int .i64 (.ofNat 2)] (some 1)), (5031,
    .cells [.slice (some ⟨5022, 0, (some 1)⟩) 3 3] none), (5032, .cells [.int .i64 (.ofNat 2)] none), (5033, .cells [.int .i64 (.ofNat 4)] none), (5034, .cells [.int .i64 (.ofNat 1)]
    none), (5035, .cells [.int .i64 (.ofNat 1)] none), (5036, .cells [.int .i64 (.ofNat 2)] none), (5037, .cells [.int .i64 (.ofNat 4)] none), (5038, .cells [.int .i64 (.ofNat 1)]
    none), (5039, .cells [.int .i64 (.ofNat 1)] none), (5291, .cells [.int .i64 (.ofNat 1), .slice none 0 0, .slice none 0 0, .slice none 0 0, .int .i64 (.ofNat 0), .slice (some ⟨4995,
    0, (some 3)⟩) 1 1, .iface 385 (.agg ⟨[.int .i64 (.ofNat 0), .slice (some ⟨4995, 0, (some 3)⟩) 1 1]⟩), .int .i64 (.ofNat 4), .int .i64 (.ofNat 4), .int .i64 (.ofNat 0), .int .i64
    (.ofNat 1), .int .i64 (.ofNat 12), .slice (some ⟨5020, 0, (some 1)⟩) 1 1, .slice (some ⟨5022, 0, (some 1)⟩) 3 3, .slice none 0 0, .int .i64 (.ofNat 0), .slice none 0 0, .iface 502
    (.agg ⟨[.func (.func 389) ⟨[]⟩ ⟨[.pointer (some ⟨5031, 0, none⟩)]⟩, .func (.func 503) ⟨[]⟩ ⟨[.pointer (some ⟨5034, 0, none⟩), .pointer (some ⟨5035, 0, none⟩), .pointer (some ⟨5032,
    0, none⟩), .pointer (some ⟨5033, 0, none⟩)]⟩, .func (.func 503) ⟨[]⟩ ⟨[.pointer (some ⟨5038, 0, none⟩), .pointer (some ⟨5039, 0, none⟩), .pointer (some ⟨5036, 0, none⟩), .pointer
    (some ⟨5037, 0, none⟩)]⟩]⟩), .int .i64 (.ofNat 4), .int .i64 (.ofNat 4), .int .i64 (.ofNat 0), .int .i64 (.ofNat 1)] (some 11)), (5700, .cells [.iface 209 (.agg ⟨[.int .i64 (.ofNat
    0), .int .i64 (.ofNat 1), .int .i64 (.ofNat 2), .int .i64 (.ofNat 2), .int .i64 (.ofNat 3), .int .i64 (.ofNat 0), .slice (some ⟨4896, 0, (some 3)⟩) 1 1, .int .i64 (.ofNat 0),
    .slice (some ⟨4868, 0, (some 3)⟩) 1 1]⟩)] (some 1)), (5701, .cells [.int .u8 (.ofNat 0), .int .u8 (.ofNat 0), .int .u8 (.ofNat 0), .int .u8 (.ofNat 171), .int .u8 (.ofNat 0), .int
    .u8 (.ofNat 72), .int .u8 (.ofNat 76), .int .u8 (.ofNat 74), .int .u8 (.ofNat 49), .int .u8 (.ofNat 0), .int .u8 (.ofNat 0), .int .u8 (.ofNat 0), .int .u8 (.ofNat 0), .int .u8
    (.ofNat 0), .int .u8 (.ofNat 0), .int .u8 (.ofNat 0), .int .u8 (.ofNat 2), .int .u8 (.ofNat 0), .int .u8 (.ofNat 0), .int .u8 (.ofNat 0), .int .u8 (.ofNat 0), .int .u8 (.ofNat 0),
    .int .u8 (.ofNat 0), .int .u8 (.ofNat 0), .int .u8 (.ofNat 9), .int .u8 (.ofNat 0), .int .u8 (.ofNat 0), .int .u8 (.ofNat 0), .int .u8 (.ofNat 0), .int .u8 (.ofNat 0), .int .u8
    (.ofNat 0), .int .u8 (.ofNat 0), .int .u8 (.ofNat 1), .int .u8 (.ofNat 0), .int .u8 (.ofNat 0), .int .u8 (.ofNat 0), .int .u8 (.ofNat 0), .int .u8 (.ofNat 0), .int .u8 (.ofNat 0),
    .int .u8 (.ofNat 0), .int .u8 (.ofNat 2), .int .u8 (.ofNat 0), .int .u8 (.ofNat 0), .int .u8 (.ofNat 0), .int .u8 (.ofNat 0), .int .u8 (.ofNat 0), .int .u8 (.ofNat 0), .int .u8
    (.ofNat 0), .int .u8 (.ofNat 1), .int .u8 (.ofNat 0), .int .u8 (.ofNat 0), .int .u8 (.ofNat 0), .int .u8 (.ofNat 0), .int .u8 (.ofNat 0), .int .u8 (.ofNat 0), .int .u8 (.ofNat 0),
    .int .u8 (.ofNat 0), .int .u8 (.ofNat 0), .int .u8 (.ofNat 0), .int .u8 (.ofNat 0), .int .u8 (.ofNat 0), .int .u8 (.ofNat 0), .int .u8 (.ofNat 0), .int .u8 (.ofNat 0), .int .u8
    (.ofNat 0), .int .u8 (.ofNat 0), .int .u8 (.ofNat 0), .int .u8 (.ofNat 0), .int .u8 (.ofNat 0), .int .u8 (.ofNat 0), .int .u8 (.ofNat 0), .int .u8 (.ofNat 0), .int .u8 (.ofNat 0),
    .int .u8 (.ofNat 0), .int .u8 (.ofNat 0), .int .u8 (.ofNat 0), .int .u8 (.ofNat 0), .int .u8 (.ofNat 0), .int .u8 (.ofNat 0), .int .u8 (.ofNat 0), .int .u8 (.ofNat 30), .int .u8
    (.ofNat 72), .int .u8 (.ofNat 76), .int .u8 (.ofNat 68), .int .u8 (.ofNat 49), .int .u8 (.ofNat 0), .int .u8 (.ofNat 1), .int .u8 (.ofNat 0), .int .u8 (.ofNat 4), .int .u8 (.ofNat
    0), .int .u8 (.ofNat 4), .int .u8 (.ofNat 4), .int .u8 (.ofNat 0), .int .u8 (.ofNat 0), .int .u8 (.ofNat 0), .int .u8 (.ofNat 0), .int .u8 (.ofNat 6), .int .u8 (.ofNat 166), .int
    .u8 (.ofNat 253), .int .u8 (.ofNat 241), .int .u8 (.ofNat 197), .int .u8 (.ofNat 0), .int .u8 (.ofNat 0), .int .u8 (.ofNat 0), .int .u8 (.ofNat 0), .int .u8 (.ofNat 0), .int .u8
    (.ofNat 0), .int .u8 (.ofNat 177), .int .u8 (.ofNat 194), .int .u8 (.ofNat 161), .int .u8 (.ofNat 163), .int .u8 (.ofNat 0), .int .u8 (.ofNat 0), .int .u8 (.ofNat 0), .int .u8
    (.ofNat 0), .int .u8 (.ofNat 0), .int .u8 (.ofNat 0), .int .u8 (.ofNat 0), .int .u8 (.ofNat 12), .int .u8 (.ofNat 0), .int .u8 (.ofNat 0), .int .u8 (.ofNat 0), .int .u8 (.ofNat 0),
    .int .u8 (.ofNat 0), .int .u8 (.ofNat 0), .int .u8 (.ofNat 0), .int .u8 (.ofNat 1), .int .u8 (.ofNat 0), .int .u8 (.ofNat 0), .int .u8 (.ofNat 0), .int .u8 (.ofNat 0), .int .u8
    (.ofNat 0), .int .u8 (.ofNat 0), .int .u8 (.ofNat 0), .int .u8 (.ofNat 0), .int .u8 (.ofNat 0), .int .u8 (.ofNat 0), .int .u8 (.ofNat 0), .int .u8 (.ofNat 0), .int .u8 (.ofNat 0),
    .int .u8 (.ofNat 0), .int .u8 (.ofNat 0), .int .u8 (.ofNat 3), .int .u8 (.ofNat 0), .int .u8 (.ofNat 0), .int .u8 (.ofNat 0), .int .u8 (.ofNat 0), .int .u8 (.ofNat 0), .int .u8
    (.ofNat 0), .int .u8 (.ofNat 0), .int .u8 (.ofNat 2), .int .u8 (.ofNat 0), .int .u8 (.ofNat 0), .int .u8 (.ofNat 0), .int .u8 (.ofNat 0), .int .u8 (.ofNat 0), .int .u8 (.ofNat 0),
    .int .u8 (.ofNat 0), .int .u8 (.ofNat 1), .int .u8 (.ofNat 0), .int .u8 (.ofNat 0), .int .u8 (.ofNat 0), .int .u8 (.ofNat 0), .int .u8 (.ofNat 0), .int .u8 (.ofNat 0), .int .u8
    (.ofNat 0), .int .u8 (.ofNat 2), .int .u8 (.ofNat 0), .int .u8 (.ofNat 0), .int .u8 (.ofNat 0), .int .u8 (.ofNat 0), .int .u8 (.ofNat 0), .int .u8 (.ofNat 0), .int .u8 (.ofNat 0),
    .int .u8 (.ofNat 0), .int .u8 (.ofNat 59), .int .u8 (.ofNat 15), .int .u8 (.ofNat 191), .int .u8 (.ofNat 160), .int .u8 (.ofNat 0), .int .u8 (.ofNat 0), .int .u8 (.ofNat 0), .int
    .u8 (.ofNat 58), .int .u8 (.ofNat 1), .int .u8 (.ofNat 0), .int .u8 (.ofNat 0), .int .u8 (.ofNat 0), .int .u8 (.ofNat 0), .int .u8 (.ofNat 0), .int .u8 (.ofNat 0), .int .u8 (.ofNat
    0), .int .u8 (.ofNat 0), .int .u8 (.ofNat 0), .int .u8 (.ofNat 0), .int .u8 (.ofNat 0), .int .u8 (.ofNat 0), .int .u8 (.ofNat 0), .int .u8 (.ofNat 0), .int .u8 (.ofNat 0), .int .u8
    (.ofNat 1), .int .u8 (.ofNat 0), .int .u8 (.ofNat 0), .int .u8 (.ofNat 0), .int .u8 (.ofNat 0), .int .u8 (.ofNat 0), .int .u8 (.ofNat 0), .int .u8 (.ofNat 0), .int .u8 (.ofNat 2),
    .int .u8 (.ofNat 0), .int .u8 (.ofNat 0), .int .u8 (.ofNat 0), .int .u8 (.ofNat 0), .int .u8 (.ofNat 0), .int .u8 (.ofNat 0), .int .u8 (.ofNat 0), .int .u8 (.ofNat 25), .int .u8
    (.ofNat 72), .int .u8 (.ofNat 76), .int .u8 (.ofNat 68), .int .u8 (.ofNat 49), .int .u8 (.ofNat 0), .int .u8 (.ofNat 1), .int .u8 (.ofNat 0), .int .u8 (.ofNat 1), .int .u8 (.ofNat
    0), .int .u8 (.ofNat 1), .int .u8 (.ofNat 4), .int .u8 (.ofNat 0), .int .u8 (.ofNat 0), .int .u8 (.ofNat 0), .int .u8 (.ofNat 0), .int .u8 (.ofNat 1), .int .u8 (.ofNat 32), .int
    .u8 (.ofNat 54), .int .u8 (.ofNat 14), .int .u8 (.ofNat 142), .int .u8 (.ofNat 80), .int .u8 (.ofNat 185), .int .u8 (.ofNat 105), .int .u8 (.ofNat 190), .int .u8 (.ofNat 121), .int
    .u8 (.ofNat 253), .int .u8 (.ofNat 160), .int .u8 (.ofNat 127), .int .u8 (.ofNat 184)] (some 1))]⟩
theorem e13_tabs : ∀ x, x ∈ ([(57, [e11]), (85, [e0, e2, e4, e5, e7, e10, e12])] : List (Nat × List Tent)) → ∀ e, e ∈ x.2 → TentOK Tryz.prog x.1 e := by
  intro x hx
  simp only [List.mem_cons, List.not_mem_nil, or_false] at hx
  rcases hx with rfl | rfl
  · intro e he
    simp only [List.mem_cons, List.not_mem_nil, or_false] at he
    subst he
    exact e11_ok
  · intro e he
    simp only [List.mem_cons, List.not_mem_nil, or_false] at he
    rcases he with rfl | rfl | rfl | rfl | rfl | rfl | rfl
    · exact e0_ok
    · exact e2_ok
    · exact e4_ok
    · exact e5_ok
    · exact e7_ok
    · exact e10_ok
    · exact e12_ok
theorem e13_good : goodE e13 = true := by kernel_rfl
theorem e13_ran : okR (runF (withTabs [(57, [e11]), (85, [e0, e2, e4, e5, e7, e10, e12])] base) 1000 24 e13.args e13.h0 (pieceK e13)) = true := by kernel_rfl
theorem e13_ok : TentOK Tryz.prog 24 e13 := piece_ok (withTabs_ok _ _ e13_tabs baseOK) e13_good e13_ran
end Go.Proofs.YtgpegjmbofgmmaaGreat.jouRun
