/-
  NARROWER THAN 'FOR EVERY INPUT', by the rows' own cells (each row's printed sentence says how): JournalNames: calm · JournalRecord: calm · JournalRead: calm · JournalOne: calm.
  DERIVED. THE GIVEN ROWS OF THIS SEAT. 4 by the template 'for every input the law returns true; each argument reads behind the call as it read before'; 0 by the template 'total and deterministic' (their statements: YtgpegjmbofgmmaaGreatTotals.lean).
  GIVEN WITH THE SEED: the statements are not yours to turn. If you find one false, say at which input.
  Laid BY PROGRAM, IN A SANDBOX (cutbox-rows.mjs): the forced cells as the released guide's own fill.sh prints them over the translation 6d2bb845152d683d… (all of the seat's roots in one cut). By AI agents, Wed Nov 11 2026. No macro, syntax, notation, axiom, sorry.
-/
import Derived.Test.YtgpegjmbofgmmaaGreatChecked
import GoSem.Claim
import GoSem.ClaimJoined
import GoSem.ClaimMapViews
import Derived.JoinedTies
import Derived.KernelRfl
namespace Go.Proofs.YtgpegjmbofgmmaaGreat
/- THE CELL 'sum', in the pinned program and in every row, IS THE sha256 OF THE DUMP (.gsa) THAT YtgpegjmbofgmmaaGreatProg.lean LOADS. Nothing in Lean hashes anything: it is a label: what it is worth is what the hold of that sum in a sandbox is worth. -/
noncomputable def Tryz.pinned : Pinned := { name := "ytgpegjmbofgmmaagreat", sum := "6d2bb845152d683d6d9e4f85e11e1bc4875ea37df4e3263b319e0ca5b28b2555", checked := Tryz.checked }
namespace Rows
def none {H : Type} : Left H := { results := [], args := [] }

/-- 'halidelaw25.JournalNames': WHATEVER THE INPUT: true; the input reads as it did. -/
def journalNamesSpec : ChangeSpec := { name := "journalNames", fn := fun _ => fun
  | [] => { results := [.lit (.bool true)], args := [] }
  | _ => none }
def journalNamesRow : OpenClaim := { program := "ytgpegjmbofgmmaagreat", sum := "6d2bb845152d683d6d9e4f85e11e1bc4875ea37df4e3263b319e0ca5b28b2555", func := "halide/halidelaw25.JournalNames", spec := "journalNames", inPlace := ["math.Float32frombits", "math.Float32bits", "math.Float64bits", "math.Float64frombits", "math.RoundToEven", "(*sync.WaitGroup).Add", "internal/race.ReleaseMerge", "internal/race.Disable", "internal/race.Enable", "internal/synctest.IsInBubble", "internal/synctest.Associate[sync.WaitGroup]", "sync.fatal", "sync/atomic.OrUint64", "sync/atomic.AddUint64", "internal/race.Read", "sync/atomic.LoadUint64", "sync/atomic.StoreUint64", "internal/synctest.Disassociate[sync.WaitGroup]", "sync.runtime_Semrelease", "(*sync.WaitGroup).Done", "(*internal/sync.Mutex).Lock", "sync/atomic.CompareAndSwapInt32", "internal/race.Acquire", "(*internal/sync.Mutex).lockSlow", "internal/sync.runtime_canSpin", "internal/sync.runtime_doSpin", "internal/sync.throw", "internal/sync.runtime_nanotime", "internal/sync.runtime_SemacquireMutex", "sync/atomic.AddInt32", "(*internal/sync.Mutex).Unlock", "(*internal/sync.Mutex).unlockSlow", "internal/sync.fatal", "internal/sync.runtime_Semrelease", "(*sync.WaitGroup).Wait", "internal/synctest.IsAssociated[sync.WaitGroup]", "sync/atomic.CompareAndSwapUint64", "internal/race.Write", "sync.runtime_SemacquireWaitGroup"], unfollowed := true, recurses := true, plainKeys := false, leaving := true, apart := false, calm := true, outside := [.timePasses] }
def JournalNamesSaid : Prop := journalNamesRow.holds Tryz.pinned (OpenSpec.ofChange journalNamesSpec)

/-- ITS FALSE NEIGHBOUR: 'it returns false'. Refute it at one input. -/
def journalNamesWrong : ChangeSpec := { name := "journalNames", fn := fun _ => fun
  | [] => { results := [.lit (.bool false)], args := [] }
  | _ => none }
def JournalNamesWrongFalsely : Prop := journalNamesRow.holds Tryz.pinned (OpenSpec.ofChange journalNamesWrong)

/-- 'halidelaw25.JournalRecord': WHATEVER THE INPUT: true; the input reads as it did. -/
def journalRecordSpec : ChangeSpec := { name := "journalRecord", fn := fun _ => fun
  | [d] => { results := [.lit (.bool true)], args := [d] }
  | _ => none }
def journalRecordRow : OpenClaim := { program := "ytgpegjmbofgmmaagreat", sum := "6d2bb845152d683d6d9e4f85e11e1bc4875ea37df4e3263b319e0ca5b28b2555", func := "halide/halidelaw25.JournalRecord", spec := "journalRecord", inPlace := ["math.Float32frombits", "math.Float32bits", "math.Float64bits", "math.Float64frombits", "math.RoundToEven", "(*sync.WaitGroup).Add", "internal/race.ReleaseMerge", "internal/race.Disable", "internal/race.Enable", "internal/synctest.IsInBubble", "internal/synctest.Associate[sync.WaitGroup]", "sync.fatal", "sync/atomic.OrUint64", "sync/atomic.AddUint64", "internal/race.Read", "sync/atomic.LoadUint64", "sync/atomic.StoreUint64", "internal/synctest.Disassociate[sync.WaitGroup]", "sync.runtime_Semrelease", "(*sync.WaitGroup).Done", "(*internal/sync.Mutex).Lock", "sync/atomic.CompareAndSwapInt32", "internal/race.Acquire", "(*internal/sync.Mutex).lockSlow", "internal/sync.runtime_canSpin", "internal/sync.runtime_doSpin", "internal/sync.throw", "internal/sync.runtime_nanotime", "internal/sync.runtime_SemacquireMutex", "sync/atomic.AddInt32", "(*internal/sync.Mutex).Unlock", "(*internal/sync.Mutex).unlockSlow", "internal/sync.fatal", "internal/sync.runtime_Semrelease", "(*sync.WaitGroup).Wait", "internal/synctest.IsAssociated[sync.WaitGroup]", "sync/atomic.CompareAndSwapUint64", "internal/race.Write", "sync.runtime_SemacquireWaitGroup"], unfollowed := true, recurses := true, plainKeys := false, leaving := true, apart := false, calm := true, outside := [.timePasses] }
def JournalRecordSaid : Prop := journalRecordRow.holds Tryz.pinned (OpenSpec.ofChange journalRecordSpec)

/-- ITS FALSE NEIGHBOUR: 'it returns false'. Refute it at one input. -/
def journalRecordWrong : ChangeSpec := { name := "journalRecord", fn := fun _ => fun
  | [d] => { results := [.lit (.bool false)], args := [d] }
  | _ => none }
def JournalRecordWrongFalsely : Prop := journalRecordRow.holds Tryz.pinned (OpenSpec.ofChange journalRecordWrong)

/-- 'halidelaw25.JournalRead': WHATEVER THE INPUT: true; the input reads as it did. -/
def journalReadSpec : ChangeSpec := { name := "journalRead", fn := fun _ => fun
  | [d] => { results := [.lit (.bool true)], args := [d] }
  | _ => none }
def journalReadRow : OpenClaim := { program := "ytgpegjmbofgmmaagreat", sum := "6d2bb845152d683d6d9e4f85e11e1bc4875ea37df4e3263b319e0ca5b28b2555", func := "halide/halidelaw25.JournalRead", spec := "journalRead", inPlace := ["math.Float32frombits", "math.Float32bits", "math.Float64bits", "math.Float64frombits", "math.RoundToEven", "(*sync.WaitGroup).Add", "internal/race.ReleaseMerge", "internal/race.Disable", "internal/race.Enable", "internal/synctest.IsInBubble", "internal/synctest.Associate[sync.WaitGroup]", "sync.fatal", "sync/atomic.OrUint64", "sync/atomic.AddUint64", "internal/race.Read", "sync/atomic.LoadUint64", "sync/atomic.StoreUint64", "internal/synctest.Disassociate[sync.WaitGroup]", "sync.runtime_Semrelease", "(*sync.WaitGroup).Done", "(*internal/sync.Mutex).Lock", "sync/atomic.CompareAndSwapInt32", "internal/race.Acquire", "(*internal/sync.Mutex).lockSlow", "internal/sync.runtime_canSpin", "internal/sync.runtime_doSpin", "internal/sync.throw", "internal/sync.runtime_nanotime", "internal/sync.runtime_SemacquireMutex", "sync/atomic.AddInt32", "(*internal/sync.Mutex).Unlock", "(*internal/sync.Mutex).unlockSlow", "internal/sync.fatal", "internal/sync.runtime_Semrelease", "(*sync.WaitGroup).Wait", "internal/synctest.IsAssociated[sync.WaitGroup]", "sync/atomic.CompareAndSwapUint64", "internal/race.Write", "sync.runtime_SemacquireWaitGroup"], unfollowed := true, recurses := true, plainKeys := false, leaving := true, apart := false, calm := true, outside := [.timePasses] }
def JournalReadSaid : Prop := journalReadRow.holds Tryz.pinned (OpenSpec.ofChange journalReadSpec)

/-- ITS FALSE NEIGHBOUR: 'it returns false'. Refute it at one input. -/
def journalReadWrong : ChangeSpec := { name := "journalRead", fn := fun _ => fun
  | [d] => { results := [.lit (.bool false)], args := [d] }
  | _ => none }
def JournalReadWrongFalsely : Prop := journalReadRow.holds Tryz.pinned (OpenSpec.ofChange journalReadWrong)

/-- 'halidelaw25.JournalOne': WHATEVER THE INPUT: true; the input reads as it did. -/
def journalOneSpec : ChangeSpec := { name := "journalOne", fn := fun _ => fun
  | [d1, d2] => { results := [.lit (.bool true)], args := [d1, d2] }
  | _ => none }
def journalOneRow : OpenClaim := { program := "ytgpegjmbofgmmaagreat", sum := "6d2bb845152d683d6d9e4f85e11e1bc4875ea37df4e3263b319e0ca5b28b2555", func := "halide/halidelaw25.JournalOne", spec := "journalOne", inPlace := ["math.Float32frombits", "math.Float32bits", "math.Float64bits", "math.Float64frombits", "math.RoundToEven", "(*sync.WaitGroup).Add", "internal/race.ReleaseMerge", "internal/race.Disable", "internal/race.Enable", "internal/synctest.IsInBubble", "internal/synctest.Associate[sync.WaitGroup]", "sync.fatal", "sync/atomic.OrUint64", "sync/atomic.AddUint64", "internal/race.Read", "sync/atomic.LoadUint64", "sync/atomic.StoreUint64", "internal/synctest.Disassociate[sync.WaitGroup]", "sync.runtime_Semrelease", "(*sync.WaitGroup).Done", "(*internal/sync.Mutex).Lock", "sync/atomic.CompareAndSwapInt32", "internal/race.Acquire", "(*internal/sync.Mutex).lockSlow", "internal/sync.runtime_canSpin", "internal/sync.runtime_doSpin", "internal/sync.throw", "internal/sync.runtime_nanotime", "internal/sync.runtime_SemacquireMutex", "sync/atomic.AddInt32", "(*internal/sync.Mutex).Unlock", "(*internal/sync.Mutex).unlockSlow", "internal/sync.fatal", "internal/sync.runtime_Semrelease", "(*sync.WaitGroup).Wait", "internal/synctest.IsAssociated[sync.WaitGroup]", "sync/atomic.CompareAndSwapUint64", "internal/race.Write", "sync.runtime_SemacquireWaitGroup"], unfollowed := true, recurses := true, plainKeys := false, leaving := true, apart := false, calm := true, outside := [.timePasses] }
def JournalOneSaid : Prop := journalOneRow.holds Tryz.pinned (OpenSpec.ofChange journalOneSpec)

/-- ITS FALSE NEIGHBOUR: 'it returns false'. Refute it at one input. -/
def journalOneWrong : ChangeSpec := { name := "journalOne", fn := fun _ => fun
  | [d1, d2] => { results := [.lit (.bool false)], args := [d1, d2] }
  | _ => none }
def JournalOneWrongFalsely : Prop := journalOneRow.holds Tryz.pinned (OpenSpec.ofChange journalOneWrong)

/- THE SECOND FORM. 'bulk': how many values and letters a reading holds, each counted each time it is reached (what is shared counts as often as it is met; a slice's spare places count too). A statement '..UptoSaid' is the law's where the arguments, and the package variables that the reading takes, are together of bulk at most 1048576: NARROWER than '..Said'. Prove '..Said' where nothing that the law and all that it calls make is longer than what came in: it says more and counts as full. Else prove '..UptoSaid'. A law counts once. -/
mutual
def uptoBulk {H : Type} : DataW H → Nat
  | .lit (.string bytes) => bytes.length + 1
  | .lit _ => 1
  | .nil => 1
  | .ptr d => uptoBulk d + 1
  | .slice elems spare => uptoBulkAll elems + uptoBulkAll spare + 1
  | .agg parts => uptoBulkAll parts + 1
  | .iface _ d => uptoBulk d + 1
  | .map entries => uptoBulkEntries entries + 1
  | .held _ => 1
def uptoBulkAll {H : Type} : List (DataW H) → Nat
  | [] => 0
  | d :: r => uptoBulk d + uptoBulkAll r
def uptoBulkEntries {H : Type} : List (Lit × DataW H) → Nat
  | [] => 0
  | x :: r => uptoBulkEntry x + uptoBulkEntries r
def uptoBulkEntry {H : Type} : Lit × DataW H → Nat
  | (.string bytes, d) => bytes.length + uptoBulk d + 1
  | (_, d) => uptoBulk d + 1
 end
def uptoSmall : (H : Type) → List (DataW H) → Bool := fun _ ds => decide (uptoBulkAll ds ≤ 1048576)
def OpenSpec.upto (s : _root_.Go.ChangeSpec) : _root_.Go.OpenSpec := { _root_.Go.OpenSpec.ofChange s with cond := some uptoSmall }

/-- 'halidelaw25.JournalNames', WHERE WHAT IT READS IS OF BULK AT MOST 1048576: true; the input reads as it did. -/
def journalNamesUptoRow : OpenClaim := { program := "ytgpegjmbofgmmaagreat", sum := "6d2bb845152d683d6d9e4f85e11e1bc4875ea37df4e3263b319e0ca5b28b2555", func := "halide/halidelaw25.JournalNames", spec := "journalNames", inPlace := ["math.Float32frombits", "math.Float32bits", "math.Float64bits", "math.Float64frombits", "math.RoundToEven", "(*sync.WaitGroup).Add", "internal/race.ReleaseMerge", "internal/race.Disable", "internal/race.Enable", "internal/synctest.IsInBubble", "internal/synctest.Associate[sync.WaitGroup]", "sync.fatal", "sync/atomic.OrUint64", "sync/atomic.AddUint64", "internal/race.Read", "sync/atomic.LoadUint64", "sync/atomic.StoreUint64", "internal/synctest.Disassociate[sync.WaitGroup]", "sync.runtime_Semrelease", "(*sync.WaitGroup).Done", "(*internal/sync.Mutex).Lock", "sync/atomic.CompareAndSwapInt32", "internal/race.Acquire", "(*internal/sync.Mutex).lockSlow", "internal/sync.runtime_canSpin", "internal/sync.runtime_doSpin", "internal/sync.throw", "internal/sync.runtime_nanotime", "internal/sync.runtime_SemacquireMutex", "sync/atomic.AddInt32", "(*internal/sync.Mutex).Unlock", "(*internal/sync.Mutex).unlockSlow", "internal/sync.fatal", "internal/sync.runtime_Semrelease", "(*sync.WaitGroup).Wait", "internal/synctest.IsAssociated[sync.WaitGroup]", "sync/atomic.CompareAndSwapUint64", "internal/race.Write", "sync.runtime_SemacquireWaitGroup"], unfollowed := true, recurses := true, plainKeys := false, leaving := true, apart := false, calm := true, outside := [.timePasses], narrowed := true }
def JournalNamesUptoSaid : Prop := journalNamesUptoRow.holds Tryz.pinned (OpenSpec.upto journalNamesSpec)

/-- 'halidelaw25.JournalRecord', WHERE WHAT IT READS IS OF BULK AT MOST 1048576: true; the input reads as it did. -/
def journalRecordUptoRow : OpenClaim := { program := "ytgpegjmbofgmmaagreat", sum := "6d2bb845152d683d6d9e4f85e11e1bc4875ea37df4e3263b319e0ca5b28b2555", func := "halide/halidelaw25.JournalRecord", spec := "journalRecord", inPlace := ["math.Float32frombits", "math.Float32bits", "math.Float64bits", "math.Float64frombits", "math.RoundToEven", "(*sync.WaitGroup).Add", "internal/race.ReleaseMerge", "internal/race.Disable", "internal/race.Enable", "internal/synctest.IsInBubble", "internal/synctest.Associate[sync.WaitGroup]", "sync.fatal", "sync/atomic.OrUint64", "sync/atomic.AddUint64", "internal/race.Read", "sync/atomic.LoadUint64", "sync/atomic.StoreUint64", "internal/synctest.Disassociate[sync.WaitGroup]", "sync.runtime_Semrelease", "(*sync.WaitGroup).Done", "(*internal/sync.Mutex).Lock", "sync/atomic.CompareAndSwapInt32", "internal/race.Acquire", "(*internal/sync.Mutex).lockSlow", "internal/sync.runtime_canSpin", "internal/sync.runtime_doSpin", "internal/sync.throw", "internal/sync.runtime_nanotime", "internal/sync.runtime_SemacquireMutex", "sync/atomic.AddInt32", "(*internal/sync.Mutex).Unlock", "(*internal/sync.Mutex).unlockSlow", "internal/sync.fatal", "internal/sync.runtime_Semrelease", "(*sync.WaitGroup).Wait", "internal/synctest.IsAssociated[sync.WaitGroup]", "sync/atomic.CompareAndSwapUint64", "internal/race.Write", "sync.runtime_SemacquireWaitGroup"], unfollowed := true, recurses := true, plainKeys := false, leaving := true, apart := false, calm := true, outside := [.timePasses], narrowed := true }
def JournalRecordUptoSaid : Prop := journalRecordUptoRow.holds Tryz.pinned (OpenSpec.upto journalRecordSpec)

/-- 'halidelaw25.JournalRead', WHERE WHAT IT READS IS OF BULK AT MOST 1048576: true; the input reads as it did. -/
def journalReadUptoRow : OpenClaim := { program := "ytgpegjmbofgmmaagreat", sum := "6d2bb845152d683d6d9e4f85e11e1bc4875ea37df4e3263b319e0ca5b28b2555", func := "halide/halidelaw25.JournalRead", spec := "journalRead", inPlace := ["math.Float32frombits", "math.Float32bits", "math.Float64bits", "math.Float64frombits", "math.RoundToEven", "(*sync.WaitGroup).Add", "internal/race.ReleaseMerge", "internal/race.Disable", "internal/race.Enable", "internal/synctest.IsInBubble", "internal/synctest.Associate[sync.WaitGroup]", "sync.fatal", "sync/atomic.OrUint64", "sync/atomic.AddUint64", "internal/race.Read", "sync/atomic.LoadUint64", "sync/atomic.StoreUint64", "internal/synctest.Disassociate[sync.WaitGroup]", "sync.runtime_Semrelease", "(*sync.WaitGroup).Done", "(*internal/sync.Mutex).Lock", "sync/atomic.CompareAndSwapInt32", "internal/race.Acquire", "(*internal/sync.Mutex).lockSlow", "internal/sync.runtime_canSpin", "internal/sync.runtime_doSpin", "internal/sync.throw", "internal/sync.runtime_nanotime", "internal/sync.runtime_SemacquireMutex", "sync/atomic.AddInt32", "(*internal/sync.Mutex).Unlock", "(*internal/sync.Mutex).unlockSlow", "internal/sync.fatal", "internal/sync.runtime_Semrelease", "(*sync.WaitGroup).Wait", "internal/synctest.IsAssociated[sync.WaitGroup]", "sync/atomic.CompareAndSwapUint64", "internal/race.Write", "sync.runtime_SemacquireWaitGroup"], unfollowed := true, recurses := true, plainKeys := false, leaving := true, apart := false, calm := true, outside := [.timePasses], narrowed := true }
def JournalReadUptoSaid : Prop := journalReadUptoRow.holds Tryz.pinned (OpenSpec.upto journalReadSpec)

/-- 'halidelaw25.JournalOne', WHERE WHAT IT READS IS OF BULK AT MOST 1048576: true; the input reads as it did. -/
def journalOneUptoRow : OpenClaim := { program := "ytgpegjmbofgmmaagreat", sum := "6d2bb845152d683d6d9e4f85e11e1bc4875ea37df4e3263b319e0ca5b28b2555", func := "halide/halidelaw25.JournalOne", spec := "journalOne", inPlace := ["math.Float32frombits", "math.Float32bits", "math.Float64bits", "math.Float64frombits", "math.RoundToEven", "(*sync.WaitGroup).Add", "internal/race.ReleaseMerge", "internal/race.Disable", "internal/race.Enable", "internal/synctest.IsInBubble", "internal/synctest.Associate[sync.WaitGroup]", "sync.fatal", "sync/atomic.OrUint64", "sync/atomic.AddUint64", "internal/race.Read", "sync/atomic.LoadUint64", "sync/atomic.StoreUint64", "internal/synctest.Disassociate[sync.WaitGroup]", "sync.runtime_Semrelease", "(*sync.WaitGroup).Done", "(*internal/sync.Mutex).Lock", "sync/atomic.CompareAndSwapInt32", "internal/race.Acquire", "(*internal/sync.Mutex).lockSlow", "internal/sync.runtime_canSpin", "internal/sync.runtime_doSpin", "internal/sync.throw", "internal/sync.runtime_nanotime", "internal/sync.runtime_SemacquireMutex", "sync/atomic.AddInt32", "(*internal/sync.Mutex).Unlock", "(*internal/sync.Mutex).unlockSlow", "internal/sync.fatal", "internal/sync.runtime_Semrelease", "(*sync.WaitGroup).Wait", "internal/synctest.IsAssociated[sync.WaitGroup]", "sync/atomic.CompareAndSwapUint64", "internal/race.Write", "sync.runtime_SemacquireWaitGroup"], unfollowed := true, recurses := true, plainKeys := false, leaving := true, apart := false, calm := true, outside := [.timePasses], narrowed := true }
def JournalOneUptoSaid : Prop := journalOneUptoRow.holds Tryz.pinned (OpenSpec.upto journalOneSpec)

end Rows
end Go.Proofs.YtgpegjmbofgmmaaGreat
