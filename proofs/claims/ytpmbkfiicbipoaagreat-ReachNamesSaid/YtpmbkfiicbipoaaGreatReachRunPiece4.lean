/- A call, done by the kernel: what it is asked and what it answers. No condition. -/
import Derived.Test.YtpmbkfiicbipoaaGreatReachRunPiece3
import Derived.KernelRfl
namespace Go.Proofs.YtpmbkfiicbipoaaGreat.reachRun
open Go.Ab
def e4 : Tent :=
    ⟨[.slice (some ⟨4170, 0, (some 6)⟩) 3 3], 4179, [(3, .cells [.int .i64 (.ofNat 0)] none), (4, .cells [.int .i64 (.ofNat 2), .int .i64 (.ofNat 1), .int .i64 (.ofNat 2)] none), (5,
    .cells [.int .i64 (.ofNat 1)] none), (6, .cells [.int .i64 (.ofNat 1), .int .i64 (.ofNat 4), .int .i64 (.ofNat 4)] none), (4170, .cells [.int .i64 (.ofNat 1), .slice none 0 0,
    .slice none 0 0, .slice none 0 0, .int .i64 (.ofNat 0), .slice (some ⟨4178, 0, (some 3)⟩) 1 1, .int .i64 (.ofNat 12), .slice (some ⟨3, 0, none⟩) 1 1, .slice (some ⟨4, 0, none⟩) 3
    3, .slice none 0 0, .int .i64 (.ofNat 0), .slice none 0 0, .int .i64 (.ofNat 11), .slice (some ⟨5, 0, none⟩) 1 1, .slice (some ⟨6, 0, none⟩) 3 3, .slice none 0 0, .int .i64 (.ofNat
    0), .slice none 0 0] (some 6)), (4176, .cells [.int .u32 (.ofNat 0), .int .u32 (.ofNat 0), .int .u32 (.ofNat 0), .int .u32 (.ofNat 0), .int .u32 (.ofNat 0), .int .u32 (.ofNat 0),
    .int .u32 (.ofNat 0), .int .u32 (.ofNat 0), .int .u32 (.ofNat 0), .int .u32 (.ofNat 0), .int .u32 (.ofNat 0), .int .u32 (.ofNat 0), .int .u32 (.ofNat 0), .int .u32 (.ofNat 0), .int
    .u32 (.ofNat 0), .int .u32 (.ofNat 0), .int .u32 (.ofNat 0), .int .u32 (.ofNat 0), .int .u32 (.ofNat 0), .int .u32 (.ofNat 0), .int .u32 (.ofNat 0), .int .u32 (.ofNat 0), .int .u32
    (.ofNat 0), .int .u32 (.ofNat 0), .int .u32 (.ofNat 0), .int .u32 (.ofNat 0), .int .u32 (.ofNat 0), .int .u32 (.ofNat 1), .int .u32 (.ofNat 0), .int .u32 (.ofNat 0), .int .u32
    (.ofNat 0), .int .u32 (.ofNat 0), .int .u32 (.ofNat 0), .int .u32 (.ofNat 0), .int .u32 (.ofNat 0), .int .u32 (.ofNat 0), .int .u32 (.ofNat 0), .int .u32 (.ofNat 0), .int .u32
    (.ofNat 0), .int .u32 (.ofNat 0), .int .u32 (.ofNat 0), .int .u32 (.ofNat 0), .int .u32 (.ofNat 0), .int .u32 (.ofNat 0), .int .u32 (.ofNat 0), .int .u32 (.ofNat 0), .int .u32
    (.ofNat 0), .int .u32 (.ofNat 0), .int .u32 (.ofNat 0), .int .u32 (.ofNat 0), .int .u32 (.ofNat 0), .int .u32 (.ofNat 0), .int .u32 (.ofNat 0), .int .u32 (.ofNat 0), .int .u32
    (.ofNat 0), .int .u32 (.ofNat 0), .int .u32 (.ofNat 0), .int .u32 (.ofNat 0), .int .u32 (.ofNat 0), .int .u32 (.ofNat 0), .int .u32 (.ofNat 0), .int .u32 (.ofNat 0), .int .u32
    (.ofNat 0), .int .u32 (.ofNat 0)] (some 1)), (4178, .cells [.int .i64 (.ofNat 8), .int .i64 (.ofNat 8), .slice (some ⟨4176, 0, (some 1)⟩) 64 64] (some 3))], .pointer (some ⟨4179,
    0, none⟩), 6265, [(3, .cells [.int .i64 (.ofNat 0)] none), (4, .cells [.int .i64 (.ofNat 2), .int .i64 (.ofNat 1), .int .i64 (.ofNat 2)] none), (5, .cells [.int .i64 (.ofNat 1)]
    none), (6, .cells [.int .i64 (.ofNat 1), .int .i64 (.ofNat 4), .int .i64 (.ofNat 4)] none), (4170, .cells [.int .i64 (.ofNat 1), .slice none 0 0, .slice none 0 0, .slice none 0 0,
    .int .i64 (.ofNat 0), .slice (some ⟨4178, 0, (some 3)⟩) 1 1, .int .i64 (.ofNat 12), .slice (some ⟨3, 0, none⟩) 1 1, .slice (some ⟨4, 0, none⟩) 3 3, .slice none 0 0, .int .i64
    (.ofNat 0), .slice none 0 0, .int .i64 (.ofNat 11), .slice (some ⟨5, 0, none⟩) 1 1, .slice (some ⟨6, 0, none⟩) 3 3, .slice none 0 0, .int .i64 (.ofNat 0), .slice none 0 0] (some
    6)), (4176, .cells [.int .u32 (.ofNat 0), .int .u32 (.ofNat 0), .int .u32 (.ofNat 0), .int .u32 (.ofNat 0), .int .u32 (.ofNat 0), .int .u32 (.ofNat 0), .int .u32 (.ofNat 0), .int
    .u32 (.ofNat 0), .int .u32 (.ofNat 0), .int .u32 (.ofNat 0), .int .u32 (.ofNat 0), .int .u32 (.ofNat 0), .int .u32 (.ofNat 0), .int .u32 (.ofNat 0), .int .u32 (.ofNat 0), .int .u32
    (.ofNat 0), .int .u32 (.ofNat 0), .int .u32 (.ofNat 0), .int .u32 (.ofNat 0), .int .u32 (.ofNat 0), .int .u32 (.ofNat 0), .int .u32 (.ofNat 0), .int .u32 (.ofNat 0), .int .u32
    (.ofNat 0), .int .u32 (.ofNat 0), .int .u32 (.ofNat 0), .int .u32 (.ofNat 0), .int .u32 (.ofNat 1), .int .u32 (.ofNat 0), .int .u32 (.ofNat 0), .int .u32 (.ofNat 0), .int .u32
    (.ofNat 0), .int .u32 (.ofNat 0), .int .u32 (.ofNat 0), .int .u32 (.ofNat 0), .int .u32 (.ofNat 0), .int .u32 (.ofNat 0), .int .u32 (.ofNat 0), .int .u32 (.ofNat 0), .int .u32
    (.ofNat 0), .int .u32 (.ofNat 0), .int .u32 (.ofNat 0), .int .u32 (.ofNat 0), .int .u32 (.ofNat 0), .int .u32 (.ofNat 0), .int .u32 (.ofNat 0), .int .u32 (.ofNat 0), .int .u32
    (.ofNat 0), .int .u32 (.ofNat 0), .int .u32 (.ofNat 0), .int .u32 (.ofNat 0), .int .u32 (.ofNat 0), .int .u32 (.ofNat 0), .int .u32 (.ofNat 0), .int .u32 (.ofNat 0), .int .u32
    (.ofNat 0), .int .u32 (.ofNat 0), .int .u32 (.ofNat 0), .int .u32 (.ofNat 0), .int .u32 (.ofNat 0), .int .u32 (.ofNat 0), .int .u32 (.ofNat 0), .int .u32 (.ofNat 0), .int .u32
    (.ofNat 0)] (some 1)), (4178, .cells [.int .i64 (.ofNat 8), .int .i64 (.ofNat 8), .slice (some ⟨4176, 0, (some 1)⟩) 64 64] (some 3)), (4179, .cells [.slice (some ⟨6264, 0, (some
    11)⟩) 3 3] none), (4192, .cells [.int .u32 (.ofNat 0), .int .u32 (.ofNat 0), .int .u32 (.ofNat 0), .int .u32 (.ofNat 0), .int .u32 (.ofNat 0), .int .u32 (.ofNat 0), .int .u32
    (.ofNat 0), .int .u32 (.ofNat 0), .int .u32 (.ofNat 0), .int .u32 (.ofNat 0), .int .u32 (.ofNat 0), .int .u32 (.ofNat 0), .int .u32 (.ofNat 0), .int .u32 (.ofNat 0), .int .u32
    (.ofNat 0), .int .u32 (.ofNat 0), .int .u32 (.ofNat 0), .int .u32 (.ofNat 0), .int .u32 (.ofNat 0), .int .u32 (.ofNat 0), .int .u32 (.ofNat 0), .int .u32 (.ofNat 0), .int .u32
    (.ofNat 0), .int .u32 (.ofNat 0), .int .u32 (.ofNat 0), .int .u32 (.ofNat 0), .int .u32 (.ofNat 0), .int .u32 (.ofNat 1), .int .u32 (.ofNat 0), .int .u32 (.ofNat 0), .int .u32
    (.ofNat 0), .int .u32 (.ofNat 0), .int .u32 (.ofNat 0), .int .u32 (.ofNat 0), .int .u32 (.ofNat 0), .int .u32 (.ofNat 0), .int .u32 (.ofNat 0), .int .u32 (.ofNat 0), .int .u32
    (.ofNat 0), .int .u32 (.ofNat 0), .int .u32 (.ofNat 0), .int .u32 (.ofNat 0), .int .u32 (.ofNat 0), .int .u32 (.ofNat 0), .int .u32 (.ofNat 0), .int .u32 (.ofNat 0), .int .u32
    (.ofNat 0), .int .u32 (.ofNat 0), .int .u32 (.ofNat 0), .int .u32 (.ofNat 0), .int .u32 (.ofNat 0), .int .u32 (.ofNat 0), .int .u32 (.ofNat 0), .int .u32 (.ofNat 0), .int .u32
    (.ofNat 0), .int .u32 (.ofNat 0), .int .u32 (.ofNat 0), .int .u32 (.ofNat 0), .int .u32 (.ofNat 0), .int .u32 (.ofNat 0), .int .u32 (.ofNat 0), .int .u32 (.ofNat 0), .int .u32
    (.ofNat 0), .int .u32 (.ofNat 0)] (some 1)), (4194, .cells [.int .i64 (.ofNat 8), .int .i64 (.ofNat 8), .slice (some ⟨4192, 0, (some 1)⟩) 64 64] (some 3)), (4219, .cells [.int .i64
    (.ofNat 0)] (some 1)), (4221, .cells [.int .i64 (.ofNat 2), .int .i64 (.ofNat 1), .int .i64 (.ofNat 2)] (some 1)), (4230, .cells [.slice (some ⟨4221, 0, (some 1)⟩) 3 3] none),
    (4231, .cells [.int .i64 (.ofNat 2)] none), (4232, .cells [.int .i64 (.ofNat 8)] none), (4233, .cells [.int .i64 (.ofNat 1)] none), (4234, .cells [.int .i64 (.ofNat 1)] none),
    (4235, .cells [.int .i64 (.ofNat 2)] none), (4236, .cells [.int .i64 (.ofNat 8)] none), (4237, .cells [.int .i64 (.ofNat 1)] none), (4238, .cells [.int .i64 (.ofNat 1)] none),
    (5125, .cells [.int .i64 (.ofNat 1)] (some 1)), (5127, .cells [.int .i64 (.ofNat 1), .int .i64 (.ofNat 4), .int .i64 (.ofNat 4)] (some 1)), (5136, .cells [.slice (some ⟨5127, 0,
    (some 1)⟩) 3 3] none), (5137, .cells [.int .i64 (.ofNat 1)] none), (5138, .cells [.int .i64 (.ofNat 8)] none), (5139, .cells [.int .i64 (.ofNat 4)] none), (5140, .cells [.int .i64
    (.ofNat 1)] none), (5141, .cells [.int .i64 (.ofNat 8)] none), (5142, .cells [.int .i64 (.ofNat 4)] none), (6264, .cells [.int .i64 (.ofNat 1), .slice none 0 0, .slice none 0 0,
    .slice none 0 0, .int .i64 (.ofNat 0), .slice (some ⟨4194, 0, (some 3)⟩) 1 1, .iface 127 (.agg ⟨[.int .i64 (.ofNat 0), .slice (some ⟨4194, 0, (some 3)⟩) 1 1]⟩), .int .i64 (.ofNat
    8), .int .i64 (.ofNat 8), .int .i64 (.ofNat 0), .int .i64 (.ofNat 1), .int .i64 (.ofNat 12), .slice (some ⟨4219, 0, (some 1)⟩) 1 1, .slice (some ⟨4221, 0, (some 1)⟩) 3 3, .slice
    none 0 0, .int .i64 (.ofNat 0), .slice none 0 0, .iface 219 (.agg ⟨[.func (.func 149) ⟨[]⟩ ⟨[.pointer (some ⟨4230, 0, none⟩)]⟩, .func (.func 222) ⟨[]⟩ ⟨[.pointer (some ⟨4233, 0,
    none⟩), .pointer (some ⟨4234, 0, none⟩), .pointer (some ⟨4231, 0, none⟩), .pointer (some ⟨4232, 0, none⟩)]⟩, .func (.func 222) ⟨[]⟩ ⟨[.pointer (some ⟨4237, 0, none⟩), .pointer
    (some ⟨4238, 0, none⟩), .pointer (some ⟨4235, 0, none⟩), .pointer (some ⟨4236, 0, none⟩)]⟩]⟩), .int .i64 (.ofNat 8), .int .i64 (.ofNat 8), .int .i64 (.ofNat 0), .int .i64 (.ofNat
    1), .int .i64 (.ofNat 11), .slice (some ⟨5125, 0, (some 1)⟩) 1 1, .slice (some ⟨5127, 0, (some 1)⟩) 3 3, .slice none 0 0, .int .i64 (.ofNat 0), .slice none 0 0, .iface 219 (.agg
    ⟨[.func (.func 146) ⟨[]⟩ ⟨[.pointer (some ⟨5136, 0, none⟩)]⟩, .func (.func 216) ⟨[]⟩ ⟨[.pointer (some ⟨5137, 0, none⟩), .pointer (some ⟨5138, 0, none⟩), .pointer (some ⟨5139, 0,
    none⟩)]⟩, .func (.func 216) ⟨[]⟩ ⟨[.pointer (some ⟨5140, 0, none⟩), .pointer (some ⟨5141, 0, none⟩), .pointer (some ⟨5142, 0, none⟩)]⟩]⟩), .int .i64 (.ofNat 4), .int .i64 (.ofNat
    4), .int .i64 (.ofNat 0), .int .i64 (.ofNat 1)] (some 11))]⟩
theorem e4_tabs : ∀ x, x ∈ ([(6, [e1, e3]), (7, [e2])] : List (Nat × List Tent)) → ∀ e, e ∈ x.2 → TentOK Tryz.prog x.1 e := by
  intro x hx
  simp only [List.mem_cons, List.not_mem_nil, or_false] at hx
  rcases hx with rfl | rfl
  · intro e he
    simp only [List.mem_cons, List.not_mem_nil, or_false] at he
    rcases he with rfl | rfl
    · exact e1_ok
    · exact e3_ok
  · intro e he
    simp only [List.mem_cons, List.not_mem_nil, or_false] at he
    subst he
    exact e2_ok
theorem e4_good : goodE e4 = true := by kernel_rfl
theorem e4_ran : okR (runF (withTabs [(6, [e1, e3]), (7, [e2])] base) 1000 5 e4.args e4.h0 (pieceK e4)) = true := by kernel_rfl
theorem e4_ok : TentOK Tryz.prog 5 e4 := piece_ok (withTabs_ok _ _ e4_tabs baseOK) e4_good e4_ran
end Go.Proofs.YtpmbkfiicbipoaaGreat.reachRun
