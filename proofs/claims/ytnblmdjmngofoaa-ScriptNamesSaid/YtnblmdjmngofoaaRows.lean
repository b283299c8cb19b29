/-
  No cell of these rows narrows 'for every input' (looked for: loops, veiled, ifaces, maps, wideKeys, modest, calm, conditions, laid).
  DERIVED. THE GIVEN ROWS OF THIS SEAT. 3 by the template 'for every input the law returns true; each argument reads behind the call as it read before'; 0 by the template 'total and deterministic' (their statements: YtnblmdjmngofoaaTotals.lean).
  GIVEN WITH THE SEED: the statements are not yours to turn. If you find one false, say at which input.
  Laid BY PROGRAM, IN A SANDBOX (cutbox-rows.mjs): the forced cells as the released guide's own fill.sh prints them over the translation ed0ae01343219d24… (all of the seat's roots in one cut). By AI agents, Wed Nov 11 2026. No macro, syntax, notation, axiom, sorry.
-/
import Derived.Test.YtnblmdjmngofoaaChecked
import GoSem.Claim
import GoSem.ClaimJoined
import GoSem.ClaimMapViews
import Derived.JoinedTies
import Derived.KernelRfl
namespace Go.Proofs.Ytnblmdjmngofoaa
/- THE CELL 'sum', in the pinned program and in every row, IS THE sha256 OF THE DUMP (.gsa) THAT YtnblmdjmngofoaaProg.lean LOADS. Nothing in Lean hashes anything: it is a label: what it is worth is what the hold of that sum in a sandbox is worth. -/
noncomputable def Try.pinned : Pinned := { name := "ytnblmdjmngofoaa", sum := "ed0ae01343219d2432219131bd05bf4461a8bb81d55e958e31cb52692c9c28eb", checked := Try.checked }
namespace Rows
def none {H : Type} : Left H := { results := [], args := [] }

/-- 'halidelaw20.GraphNames': WHATEVER THE INPUT: true; the input reads as it did. -/
def graphNamesSpec : ChangeSpec := { name := "graphNames", fn := fun _ => fun
  | [] => { results := [.lit (.bool true)], args := [] }
  | _ => none }
def graphNamesRow : OpenClaim := { program := "ytnblmdjmngofoaa", sum := "ed0ae01343219d2432219131bd05bf4461a8bb81d55e958e31cb52692c9c28eb", func := "halide/halidelaw20.GraphNames", spec := "graphNames", apart := false }
def GraphNamesSaid : Prop := graphNamesRow.holds Try.pinned (OpenSpec.ofChange graphNamesSpec)

/-- ITS FALSE NEIGHBOUR: 'it returns false'. Refute it at one input. -/
def graphNamesWrong : ChangeSpec := { name := "graphNames", fn := fun _ => fun
  | [] => { results := [.lit (.bool false)], args := [] }
  | _ => none }
def GraphNamesWrongFalsely : Prop := graphNamesRow.holds Try.pinned (OpenSpec.ofChange graphNamesWrong)

/-- 'halidelaw23.LiveNames': WHATEVER THE INPUT: true; the input reads as it did. -/
def liveNamesSpec : ChangeSpec := { name := "liveNames", fn := fun _ => fun
  | [] => { results := [.lit (.bool true)], args := [] }
  | _ => none }
def liveNamesRow : OpenClaim := { program := "ytnblmdjmngofoaa", sum := "ed0ae01343219d2432219131bd05bf4461a8bb81d55e958e31cb52692c9c28eb", func := "halide/halidelaw23.LiveNames", spec := "liveNames", apart := false }
def LiveNamesSaid : Prop := liveNamesRow.holds Try.pinned (OpenSpec.ofChange liveNamesSpec)

/-- ITS FALSE NEIGHBOUR: 'it returns false'. Refute it at one input. -/
def liveNamesWrong : ChangeSpec := { name := "liveNames", fn := fun _ => fun
  | [] => { results := [.lit (.bool false)], args := [] }
  | _ => none }
def LiveNamesWrongFalsely : Prop := liveNamesRow.holds Try.pinned (OpenSpec.ofChange liveNamesWrong)

/-- 'halidelaw26.ScriptNames': WHATEVER THE INPUT: true; the input reads as it did. -/
def scriptNamesSpec : ChangeSpec := { name := "scriptNames", fn := fun _ => fun
  | [] => { results := [.lit (.bool true)], args := [] }
  | _ => none }
def scriptNamesRow : OpenClaim := { program := "ytnblmdjmngofoaa", sum := "ed0ae01343219d2432219131bd05bf4461a8bb81d55e958e31cb52692c9c28eb", func := "halide/halidelaw26.ScriptNames", spec := "scriptNames", apart := false }
def ScriptNamesSaid : Prop := scriptNamesRow.holds Try.pinned (OpenSpec.ofChange scriptNamesSpec)

/-- ITS FALSE NEIGHBOUR: 'it returns false'. Refute it at one input. -/
def scriptNamesWrong : ChangeSpec := { name := "scriptNames", fn := fun _ => fun
  | [] => { results := [.lit (.bool false)], args := [] }
  | _ => none }
def ScriptNamesWrongFalsely : Prop := scriptNamesRow.holds Try.pinned (OpenSpec.ofChange scriptNamesWrong)

/- THE SECOND FORM. 'bulk': how many values and letters a reading holds, each counted each time it is reached (what is shared counts as often as it is met; a slice's spare places count too). A statement '..UptoSaid' is the law's where the arguments, and the package variables that the reading takes, are together of bulk at most 1048576: NARROWER than '..Said'. Prove '..Said' where nothing that the law and all that it calls make is longer than what came in: it says more and counts as full. Else prove '..UptoSaid'. A law counts once. -/
mutual
def uptoBulk {H : Type} : DataW H → Nat
  | .lit (.string bytes) => bytes.length + 1
  | .lit _ => 1
  | .nil => 1
  | .ptr d => uptoBulk d + 1
  | .slice elems spare => uptoBulkAll elems + uptoBulkAll spare + 1
  | .agg parts => uptoBulkAll parts + 1
  | .iface _ d => uptoBulk d + 1
  | .map entries => uptoBulkEntries entries + 1
  | .held _ => 1
def uptoBulkAll {H : Type} : List (DataW H) → Nat
  | [] => 0
  | d :: r => uptoBulk d + uptoBulkAll r
def uptoBulkEntries {H : Type} : List (Lit × DataW H) → Nat
  | [] => 0
  | x :: r => uptoBulkEntry x + uptoBulkEntries r
def uptoBulkEntry {H : Type} : Lit × DataW H → Nat
  | (.string bytes, d) => bytes.length + uptoBulk d + 1
  | (_, d) => uptoBulk d + 1
 end
def uptoSmall : (H : Type) → List (DataW H) → Bool := fun _ ds => decide (uptoBulkAll ds ≤ 1048576)
def OpenSpec.upto (s : _root_.Go.ChangeSpec) : _root_.Go.OpenSpec := { _root_.Go.OpenSpec.ofChange s with cond := some uptoSmall }

/-- 'halidelaw20.GraphNames', WHERE WHAT IT READS IS OF BULK AT MOST 1048576: true; the input reads as it did. -/
def graphNamesUptoRow : OpenClaim := { program := "ytnblmdjmngofoaa", sum := "ed0ae01343219d2432219131bd05bf4461a8bb81d55e958e31cb52692c9c28eb", func := "halide/halidelaw20.GraphNames", spec := "graphNames", apart := false, narrowed := true }
def GraphNamesUptoSaid : Prop := graphNamesUptoRow.holds Try.pinned (OpenSpec.upto graphNamesSpec)

/-- 'halidelaw23.LiveNames', WHERE WHAT IT READS IS OF BULK AT MOST 1048576: true; the input reads as it did. -/
def liveNamesUptoRow : OpenClaim := { program := "ytnblmdjmngofoaa", sum := "ed0ae01343219d2432219131bd05bf4461a8bb81d55e958e31cb52692c9c28eb", func := "halide/halidelaw23.LiveNames", spec := "liveNames", apart := false, narrowed := true }
def LiveNamesUptoSaid : Prop := liveNamesUptoRow.holds Try.pinned (OpenSpec.upto liveNamesSpec)

/-- 'halidelaw26.ScriptNames', WHERE WHAT IT READS IS OF BULK AT MOST 1048576: true; the input reads as it did. -/
def scriptNamesUptoRow : OpenClaim := { program := "ytnblmdjmngofoaa", sum := "ed0ae01343219d2432219131bd05bf4461a8bb81d55e958e31cb52692c9c28eb", func := "halide/halidelaw26.ScriptNames", spec := "scriptNames", apart := false, narrowed := true }
def ScriptNamesUptoSaid : Prop := scriptNamesUptoRow.holds Try.pinned (OpenSpec.upto scriptNamesSpec)

end Rows
end Go.Proofs.Ytnblmdjmngofoaa
