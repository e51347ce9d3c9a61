/-
  No cell of these rows narrows 'for every input' (looked for: loops, veiled, ifaces, maps, wideKeys, modest, calm, conditions, laid).
  DERIVED. THE GIVEN ROWS OF THIS SEAT. 8 by the template 'for every input the law returns true; each argument reads behind the call as it read before'; 0 by the template 'total and deterministic' (their statements: YteplclbjiaamlaaTotals.lean).
  GIVEN WITH THE SEED: the statements are not yours to turn. If you find one false, say at which input.
  Laid BY PROGRAM, IN A SANDBOX (cutbox-rows.mjs): the forced cells as the released guide's own fill.sh prints them over the translation 00df4b71636d293d… (all of the seat's roots in one cut). By AI agents, Wed Nov 11 2026. No macro, syntax, notation, axiom, sorry.
-/
import Derived.Test.YteplclbjiaamlaaChecked
import GoSem.Claim
import GoSem.ClaimJoined
import GoSem.ClaimMapViews
import Derived.JoinedTies
import Derived.KernelRfl
namespace Go.Proofs.Yteplclbjiaamlaa
/- THE CELL 'sum', in the pinned program and in every row, IS THE sha256 OF THE DUMP (.gsa) THAT YteplclbjiaamlaaProg.lean LOADS. Nothing in Lean hashes anything: it is a label: what it is worth is what the hold of that sum in a sandbox is worth. -/
noncomputable def Try.pinned : Pinned := { name := "yteplclbjiaamlaa", sum := "00df4b71636d293dd086972f76430517fa8161b1008f36583f9b2c3f6fc09872", checked := Try.checked }
namespace Rows
def none {H : Type} : Left H := { results := [], args := [] }

/-- 'commutatorlaw06.SineValues': WHATEVER THE INPUT: true; the input reads as it did. -/
def sineValuesSpec : ChangeSpec := { name := "sineValues", fn := fun _ => fun
  | [d] => { results := [.lit (.bool true)], args := [d] }
  | _ => none }
def sineValuesRow : OpenClaim := { program := "yteplclbjiaamlaa", sum := "00df4b71636d293dd086972f76430517fa8161b1008f36583f9b2c3f6fc09872", func := "commutator/commutatorlaw06.SineValues", spec := "sineValues", apart := false }
def SineValuesSaid : Prop := sineValuesRow.holds Try.pinned (OpenSpec.ofChange sineValuesSpec)

/-- ITS FALSE NEIGHBOUR: 'it returns false'. Refute it at one input. -/
def sineValuesWrong : ChangeSpec := { name := "sineValues", fn := fun _ => fun
  | [d] => { results := [.lit (.bool false)], args := [d] }
  | _ => none }
def SineValuesWrongFalsely : Prop := sineValuesRow.holds Try.pinned (OpenSpec.ofChange sineValuesWrong)

/-- 'commutatorlaw06.SineTable': WHATEVER THE INPUT: true; the input reads as it did. -/
def sineTableSpec : ChangeSpec := { name := "sineTable", fn := fun _ => fun
  | [d1, d2] => { results := [.lit (.bool true)], args := [d1, d2] }
  | _ => none }
def sineTableRow : OpenClaim := { program := "yteplclbjiaamlaa", sum := "00df4b71636d293dd086972f76430517fa8161b1008f36583f9b2c3f6fc09872", func := "commutator/commutatorlaw06.SineTable", spec := "sineTable", apart := false }
def SineTableSaid : Prop := sineTableRow.holds Try.pinned (OpenSpec.ofChange sineTableSpec)

/-- ITS FALSE NEIGHBOUR: 'it returns false'. Refute it at one input. -/
def sineTableWrong : ChangeSpec := { name := "sineTable", fn := fun _ => fun
  | [d1, d2] => { results := [.lit (.bool false)], args := [d1, d2] }
  | _ => none }
def SineTableWrongFalsely : Prop := sineTableRow.holds Try.pinned (OpenSpec.ofChange sineTableWrong)

/-- 'commutatorlaw06.SineLength': WHATEVER THE INPUT: true; the input reads as it did. -/
def sineLengthSpec : ChangeSpec := { name := "sineLength", fn := fun _ => fun
  | [d] => { results := [.lit (.bool true)], args := [d] }
  | _ => none }
def sineLengthRow : OpenClaim := { program := "yteplclbjiaamlaa", sum := "00df4b71636d293dd086972f76430517fa8161b1008f36583f9b2c3f6fc09872", func := "commutator/commutatorlaw06.SineLength", spec := "sineLength", apart := false }
def SineLengthSaid : Prop := sineLengthRow.holds Try.pinned (OpenSpec.ofChange sineLengthSpec)

/-- ITS FALSE NEIGHBOUR: 'it returns false'. Refute it at one input. -/
def sineLengthWrong : ChangeSpec := { name := "sineLength", fn := fun _ => fun
  | [d] => { results := [.lit (.bool false)], args := [d] }
  | _ => none }
def SineLengthWrongFalsely : Prop := sineLengthRow.holds Try.pinned (OpenSpec.ofChange sineLengthWrong)

/-- 'commutatorlaw06.SineExact': WHATEVER THE INPUT: true; the input reads as it did. -/
def sineExactSpec : ChangeSpec := { name := "sineExact", fn := fun _ => fun
  | [d] => { results := [.lit (.bool true)], args := [d] }
  | _ => none }
def sineExactRow : OpenClaim := { program := "yteplclbjiaamlaa", sum := "00df4b71636d293dd086972f76430517fa8161b1008f36583f9b2c3f6fc09872", func := "commutator/commutatorlaw06.SineExact", spec := "sineExact", apart := false }
def SineExactSaid : Prop := sineExactRow.holds Try.pinned (OpenSpec.ofChange sineExactSpec)

/-- ITS FALSE NEIGHBOUR: 'it returns false'. Refute it at one input. -/
def sineExactWrong : ChangeSpec := { name := "sineExact", fn := fun _ => fun
  | [d] => { results := [.lit (.bool false)], args := [d] }
  | _ => none }
def SineExactWrongFalsely : Prop := sineExactRow.holds Try.pinned (OpenSpec.ofChange sineExactWrong)

/-- 'commutatorlaw06.SineSymmetric': WHATEVER THE INPUT: true; the input reads as it did. -/
def sineSymmetricSpec : ChangeSpec := { name := "sineSymmetric", fn := fun _ => fun
  | [d] => { results := [.lit (.bool true)], args := [d] }
  | _ => none }
def sineSymmetricRow : OpenClaim := { program := "yteplclbjiaamlaa", sum := "00df4b71636d293dd086972f76430517fa8161b1008f36583f9b2c3f6fc09872", func := "commutator/commutatorlaw06.SineSymmetric", spec := "sineSymmetric", apart := false }
def SineSymmetricSaid : Prop := sineSymmetricRow.holds Try.pinned (OpenSpec.ofChange sineSymmetricSpec)

/-- ITS FALSE NEIGHBOUR: 'it returns false'. Refute it at one input. -/
def sineSymmetricWrong : ChangeSpec := { name := "sineSymmetric", fn := fun _ => fun
  | [d] => { results := [.lit (.bool false)], args := [d] }
  | _ => none }
def SineSymmetricWrongFalsely : Prop := sineSymmetricRow.holds Try.pinned (OpenSpec.ofChange sineSymmetricWrong)

/-- 'commutatorlaw06.SineSteps': WHATEVER THE INPUT: true; the input reads as it did. -/
def sineStepsSpec : ChangeSpec := { name := "sineSteps", fn := fun _ => fun
  | [d] => { results := [.lit (.bool true)], args := [d] }
  | _ => none }
def sineStepsRow : OpenClaim := { program := "yteplclbjiaamlaa", sum := "00df4b71636d293dd086972f76430517fa8161b1008f36583f9b2c3f6fc09872", func := "commutator/commutatorlaw06.SineSteps", spec := "sineSteps", apart := false }
def SineStepsSaid : Prop := sineStepsRow.holds Try.pinned (OpenSpec.ofChange sineStepsSpec)

/-- ITS FALSE NEIGHBOUR: 'it returns false'. Refute it at one input. -/
def sineStepsWrong : ChangeSpec := { name := "sineSteps", fn := fun _ => fun
  | [d] => { results := [.lit (.bool false)], args := [d] }
  | _ => none }
def SineStepsWrongFalsely : Prop := sineStepsRow.holds Try.pinned (OpenSpec.ofChange sineStepsWrong)

/-- 'commutatorlaw06.SineTurns': WHATEVER THE INPUT: true; the input reads as it did. -/
def sineTurnsSpec : ChangeSpec := { name := "sineTurns", fn := fun _ => fun
  | [d1, d2] => { results := [.lit (.bool true)], args := [d1, d2] }
  | _ => none }
def sineTurnsRow : OpenClaim := { program := "yteplclbjiaamlaa", sum := "00df4b71636d293dd086972f76430517fa8161b1008f36583f9b2c3f6fc09872", func := "commutator/commutatorlaw06.SineTurns", spec := "sineTurns", apart := false }
def SineTurnsSaid : Prop := sineTurnsRow.holds Try.pinned (OpenSpec.ofChange sineTurnsSpec)

/-- ITS FALSE NEIGHBOUR: 'it returns false'. Refute it at one input. -/
def sineTurnsWrong : ChangeSpec := { name := "sineTurns", fn := fun _ => fun
  | [d1, d2] => { results := [.lit (.bool false)], args := [d1, d2] }
  | _ => none }
def SineTurnsWrongFalsely : Prop := sineTurnsRow.holds Try.pinned (OpenSpec.ofChange sineTurnsWrong)

/-- 'commutatorlaw06.SineSums': WHATEVER THE INPUT: true; the input reads as it did. -/
def sineSumsSpec : ChangeSpec := { name := "sineSums", fn := fun _ => fun
  | [d1, d2] => { results := [.lit (.bool true)], args := [d1, d2] }
  | _ => none }
def sineSumsRow : OpenClaim := { program := "yteplclbjiaamlaa", sum := "00df4b71636d293dd086972f76430517fa8161b1008f36583f9b2c3f6fc09872", func := "commutator/commutatorlaw06.SineSums", spec := "sineSums", apart := false }
def SineSumsSaid : Prop := sineSumsRow.holds Try.pinned (OpenSpec.ofChange sineSumsSpec)

/-- ITS FALSE NEIGHBOUR: 'it returns false'. Refute it at one input. -/
def sineSumsWrong : ChangeSpec := { name := "sineSums", fn := fun _ => fun
  | [d1, d2] => { results := [.lit (.bool false)], args := [d1, d2] }
  | _ => none }
def SineSumsWrongFalsely : Prop := sineSumsRow.holds Try.pinned (OpenSpec.ofChange sineSumsWrong)

/- THE SECOND FORM. 'bulk': how many values and letters a reading holds, each counted each time it is reached (what is shared counts as often as it is met; a slice's spare places count too). A statement '..UptoSaid' is the law's where the arguments, and the package variables that the reading takes, are together of bulk at most 1048576: NARROWER than '..Said'. Prove '..Said' where nothing that the law and all that it calls make is longer than what came in: it says more and counts as full. Else prove '..UptoSaid'. A law counts once. -/
mutual
def uptoBulk {H : Type} : DataW H → Nat
  | .lit (.string bytes) => bytes.length + 1
  | .lit _ => 1
  | .nil => 1
  | .ptr d => uptoBulk d + 1
  | .slice elems spare => uptoBulkAll elems + uptoBulkAll spare + 1
  | .agg parts => uptoBulkAll parts + 1
  | .iface _ d => uptoBulk d + 1
  | .map entries => uptoBulkEntries entries + 1
  | .held _ => 1
def uptoBulkAll {H : Type} : List (DataW H) → Nat
  | [] => 0
  | d :: r => uptoBulk d + uptoBulkAll r
def uptoBulkEntries {H : Type} : List (Lit × DataW H) → Nat
  | [] => 0
  | x :: r => uptoBulkEntry x + uptoBulkEntries r
def uptoBulkEntry {H : Type} : Lit × DataW H → Nat
  | (.string bytes, d) => bytes.length + uptoBulk d + 1
  | (_, d) => uptoBulk d + 1
 end
def uptoSmall : (H : Type) → List (DataW H) → Bool := fun _ ds => decide (uptoBulkAll ds ≤ 1048576)
def OpenSpec.upto (s : _root_.Go.ChangeSpec) : _root_.Go.OpenSpec := { _root_.Go.OpenSpec.ofChange s with cond := some uptoSmall }

/-- 'commutatorlaw06.SineValues', WHERE WHAT IT READS IS OF BULK AT MOST 1048576: true; the input reads as it did. -/
def sineValuesUptoRow : OpenClaim := { program := "yteplclbjiaamlaa", sum := "00df4b71636d293dd086972f76430517fa8161b1008f36583f9b2c3f6fc09872", func := "commutator/commutatorlaw06.SineValues", spec := "sineValues", apart := false, narrowed := true }
def SineValuesUptoSaid : Prop := sineValuesUptoRow.holds Try.pinned (OpenSpec.upto sineValuesSpec)

/-- 'commutatorlaw06.SineTable', WHERE WHAT IT READS IS OF BULK AT MOST 1048576: true; the input reads as it did. -/
def sineTableUptoRow : OpenClaim := { program := "yteplclbjiaamlaa", sum := "00df4b71636d293dd086972f76430517fa8161b1008f36583f9b2c3f6fc09872", func := "commutator/commutatorlaw06.SineTable", spec := "sineTable", apart := false, narrowed := true }
def SineTableUptoSaid : Prop := sineTableUptoRow.holds Try.pinned (OpenSpec.upto sineTableSpec)

/-- 'commutatorlaw06.SineLength', WHERE WHAT IT READS IS OF BULK AT MOST 1048576: true; the input reads as it did. -/
def sineLengthUptoRow : OpenClaim := { program := "yteplclbjiaamlaa", sum := "00df4b71636d293dd086972f76430517fa8161b1008f36583f9b2c3f6fc09872", func := "commutator/commutatorlaw06.SineLength", spec := "sineLength", apart := false, narrowed := true }
def SineLengthUptoSaid : Prop := sineLengthUptoRow.holds Try.pinned (OpenSpec.upto sineLengthSpec)

/-- 'commutatorlaw06.SineExact', WHERE WHAT IT READS IS OF BULK AT MOST 1048576: true; the input reads as it did. -/
def sineExactUptoRow : OpenClaim := { program := "yteplclbjiaamlaa", sum := "00df4b71636d293dd086972f76430517fa8161b1008f36583f9b2c3f6fc09872", func := "commutator/commutatorlaw06.SineExact", spec := "sineExact", apart := false, narrowed := true }
def SineExactUptoSaid : Prop := sineExactUptoRow.holds Try.pinned (OpenSpec.upto sineExactSpec)

/-- 'commutatorlaw06.SineSymmetric', WHERE WHAT IT READS IS OF BULK AT MOST 1048576: true; the input reads as it did. -/
def sineSymmetricUptoRow : OpenClaim := { program := "yteplclbjiaamlaa", sum := "00df4b71636d293dd086972f76430517fa8161b1008f36583f9b2c3f6fc09872", func := "commutator/commutatorlaw06.SineSymmetric", spec := "sineSymmetric", apart := false, narrowed := true }
def SineSymmetricUptoSaid : Prop := sineSymmetricUptoRow.holds Try.pinned (OpenSpec.upto sineSymmetricSpec)

/-- 'commutatorlaw06.SineSteps', WHERE WHAT IT READS IS OF BULK AT MOST 1048576: true; the input reads as it did. -/
def sineStepsUptoRow : OpenClaim := { program := "yteplclbjiaamlaa", sum := "00df4b71636d293dd086972f76430517fa8161b1008f36583f9b2c3f6fc09872", func := "commutator/commutatorlaw06.SineSteps", spec := "sineSteps", apart := false, narrowed := true }
def SineStepsUptoSaid : Prop := sineStepsUptoRow.holds Try.pinned (OpenSpec.upto sineStepsSpec)

/-- 'commutatorlaw06.SineTurns', WHERE WHAT IT READS IS OF BULK AT MOST 1048576: true; the input reads as it did. -/
def sineTurnsUptoRow : OpenClaim := { program := "yteplclbjiaamlaa", sum := "00df4b71636d293dd086972f76430517fa8161b1008f36583f9b2c3f6fc09872", func := "commutator/commutatorlaw06.SineTurns", spec := "sineTurns", apart := false, narrowed := true }
def SineTurnsUptoSaid : Prop := sineTurnsUptoRow.holds Try.pinned (OpenSpec.upto sineTurnsSpec)

/-- 'commutatorlaw06.SineSums', WHERE WHAT IT READS IS OF BULK AT MOST 1048576: true; the input reads as it did. -/
def sineSumsUptoRow : OpenClaim := { program := "yteplclbjiaamlaa", sum := "00df4b71636d293dd086972f76430517fa8161b1008f36583f9b2c3f6fc09872", func := "commutator/commutatorlaw06.SineSums", spec := "sineSums", apart := false, narrowed := true }
def SineSumsUptoSaid : Prop := sineSumsUptoRow.holds Try.pinned (OpenSpec.upto sineSumsSpec)

end Rows
end Go.Proofs.Yteplclbjiaamlaa
