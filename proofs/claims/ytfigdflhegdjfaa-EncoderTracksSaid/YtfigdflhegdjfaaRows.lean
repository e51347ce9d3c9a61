/-
  No cell of these rows narrows 'for every input' (looked for: loops, veiled, ifaces, maps, wideKeys, modest, calm, conditions, laid).
  DERIVED. THE GIVEN ROWS OF THIS SEAT. 7 by the template 'for every input the law returns true; each argument reads behind the call as it read before'; 0 by the template 'total and deterministic' (their statements: YtfigdflhegdjfaaTotals.lean).
  GIVEN WITH THE SEED: the statements are not yours to turn. If you find one false, say at which input.
  Laid BY PROGRAM, IN A SANDBOX (cutbox-rows.mjs): the forced cells as the released guide's own fill.sh prints them over the translation ecc2a4acd18236da… (all of the seat's roots in one cut). By AI agents, Wed Nov 11 2026. No macro, syntax, notation, axiom, sorry.
-/
import Derived.Test.YtfigdflhegdjfaaChecked
import GoSem.Claim
import GoSem.ClaimJoined
import GoSem.ClaimMapViews
import Derived.JoinedTies
import Derived.KernelRfl
namespace Go.Proofs.Ytfigdflhegdjfaa
/- THE CELL 'sum', in the pinned program and in every row, IS THE sha256 OF THE DUMP (.gsa) THAT YtfigdflhegdjfaaProg.lean LOADS. Nothing in Lean hashes anything: it is a label: what it is worth is what the hold of that sum in a sandbox is worth. -/
noncomputable def Try.pinned : Pinned := { name := "ytfigdflhegdjfaa", sum := "ecc2a4acd18236dab205cea7ba4d5b054f4b985d104a2d21b71b365e2425e106", checked := Try.checked }
namespace Rows
def none {H : Type} : Left H := { results := [], args := [] }

/-- 'commutatorlaw32.EncoderChecks': WHATEVER THE INPUT: true; the input reads as it did. -/
def encoderChecksSpec : ChangeSpec := { name := "encoderChecks", fn := fun _ => fun
  | [d] => { results := [.lit (.bool true)], args := [d] }
  | _ => none }
def encoderChecksRow : OpenClaim := { program := "ytfigdflhegdjfaa", sum := "ecc2a4acd18236dab205cea7ba4d5b054f4b985d104a2d21b71b365e2425e106", func := "commutator/commutatorlaw32.EncoderChecks", spec := "encoderChecks", apart := false }
def EncoderChecksSaid : Prop := encoderChecksRow.holds Try.pinned (OpenSpec.ofChange encoderChecksSpec)

/-- ITS FALSE NEIGHBOUR: 'it returns false'. Refute it at one input. -/
def encoderChecksWrong : ChangeSpec := { name := "encoderChecks", fn := fun _ => fun
  | [d] => { results := [.lit (.bool false)], args := [d] }
  | _ => none }
def EncoderChecksWrongFalsely : Prop := encoderChecksRow.holds Try.pinned (OpenSpec.ofChange encoderChecksWrong)

/-- 'commutatorlaw32.EncoderErrors': WHATEVER THE INPUT: true; the input reads as it did. -/
def encoderErrorsSpec : ChangeSpec := { name := "encoderErrors", fn := fun _ => fun
  | [d1, d2, d3] => { results := [.lit (.bool true)], args := [d1, d2, d3] }
  | _ => none }
def encoderErrorsRow : OpenClaim := { program := "ytfigdflhegdjfaa", sum := "ecc2a4acd18236dab205cea7ba4d5b054f4b985d104a2d21b71b365e2425e106", func := "commutator/commutatorlaw32.EncoderErrors", spec := "encoderErrors", apart := false }
def EncoderErrorsSaid : Prop := encoderErrorsRow.holds Try.pinned (OpenSpec.ofChange encoderErrorsSpec)

/-- ITS FALSE NEIGHBOUR: 'it returns false'. Refute it at one input. -/
def encoderErrorsWrong : ChangeSpec := { name := "encoderErrors", fn := fun _ => fun
  | [d1, d2, d3] => { results := [.lit (.bool false)], args := [d1, d2, d3] }
  | _ => none }
def EncoderErrorsWrongFalsely : Prop := encoderErrorsRow.holds Try.pinned (OpenSpec.ofChange encoderErrorsWrong)

/-- 'commutatorlaw32.EncoderSignals': WHATEVER THE INPUT: true; the input reads as it did. -/
def encoderSignalsSpec : ChangeSpec := { name := "encoderSignals", fn := fun _ => fun
  | [d1, d2] => { results := [.lit (.bool true)], args := [d1, d2] }
  | _ => none }
def encoderSignalsRow : OpenClaim := { program := "ytfigdflhegdjfaa", sum := "ecc2a4acd18236dab205cea7ba4d5b054f4b985d104a2d21b71b365e2425e106", func := "commutator/commutatorlaw32.EncoderSignals", spec := "encoderSignals", apart := false }
def EncoderSignalsSaid : Prop := encoderSignalsRow.holds Try.pinned (OpenSpec.ofChange encoderSignalsSpec)

/-- ITS FALSE NEIGHBOUR: 'it returns false'. Refute it at one input. -/
def encoderSignalsWrong : ChangeSpec := { name := "encoderSignals", fn := fun _ => fun
  | [d1, d2] => { results := [.lit (.bool false)], args := [d1, d2] }
  | _ => none }
def EncoderSignalsWrongFalsely : Prop := encoderSignalsRow.holds Try.pinned (OpenSpec.ofChange encoderSignalsWrong)

/-- 'commutatorlaw32.EncoderGray': WHATEVER THE INPUT: true; the input reads as it did. -/
def encoderGraySpec : ChangeSpec := { name := "encoderGray", fn := fun _ => fun
  | [d1, d2, d3] => { results := [.lit (.bool true)], args := [d1, d2, d3] }
  | _ => none }
def encoderGrayRow : OpenClaim := { program := "ytfigdflhegdjfaa", sum := "ecc2a4acd18236dab205cea7ba4d5b054f4b985d104a2d21b71b365e2425e106", func := "commutator/commutatorlaw32.EncoderGray", spec := "encoderGray", apart := false }
def EncoderGraySaid : Prop := encoderGrayRow.holds Try.pinned (OpenSpec.ofChange encoderGraySpec)

/-- ITS FALSE NEIGHBOUR: 'it returns false'. Refute it at one input. -/
def encoderGrayWrong : ChangeSpec := { name := "encoderGray", fn := fun _ => fun
  | [d1, d2, d3] => { results := [.lit (.bool false)], args := [d1, d2, d3] }
  | _ => none }
def EncoderGrayWrongFalsely : Prop := encoderGrayRow.holds Try.pinned (OpenSpec.ofChange encoderGrayWrong)

/-- 'commutatorlaw32.EncoderSteps': WHATEVER THE INPUT: true; the input reads as it did. -/
def encoderStepsSpec : ChangeSpec := { name := "encoderSteps", fn := fun _ => fun
  | [d1, d2, d3] => { results := [.lit (.bool true)], args := [d1, d2, d3] }
  | _ => none }
def encoderStepsRow : OpenClaim := { program := "ytfigdflhegdjfaa", sum := "ecc2a4acd18236dab205cea7ba4d5b054f4b985d104a2d21b71b365e2425e106", func := "commutator/commutatorlaw32.EncoderSteps", spec := "encoderSteps", apart := false }
def EncoderStepsSaid : Prop := encoderStepsRow.holds Try.pinned (OpenSpec.ofChange encoderStepsSpec)

/-- ITS FALSE NEIGHBOUR: 'it returns false'. Refute it at one input. -/
def encoderStepsWrong : ChangeSpec := { name := "encoderSteps", fn := fun _ => fun
  | [d1, d2, d3] => { results := [.lit (.bool false)], args := [d1, d2, d3] }
  | _ => none }
def EncoderStepsWrongFalsely : Prop := encoderStepsRow.holds Try.pinned (OpenSpec.ofChange encoderStepsWrong)

/-- 'commutatorlaw32.EncoderStuck': WHATEVER THE INPUT: true; the input reads as it did. -/
def encoderStuckSpec : ChangeSpec := { name := "encoderStuck", fn := fun _ => fun
  | [d1, d2, d3] => { results := [.lit (.bool true)], args := [d1, d2, d3] }
  | _ => none }
def encoderStuckRow : OpenClaim := { program := "ytfigdflhegdjfaa", sum := "ecc2a4acd18236dab205cea7ba4d5b054f4b985d104a2d21b71b365e2425e106", func := "commutator/commutatorlaw32.EncoderStuck", spec := "encoderStuck", apart := false }
def EncoderStuckSaid : Prop := encoderStuckRow.holds Try.pinned (OpenSpec.ofChange encoderStuckSpec)

/-- ITS FALSE NEIGHBOUR: 'it returns false'. Refute it at one input. -/
def encoderStuckWrong : ChangeSpec := { name := "encoderStuck", fn := fun _ => fun
  | [d1, d2, d3] => { results := [.lit (.bool false)], args := [d1, d2, d3] }
  | _ => none }
def EncoderStuckWrongFalsely : Prop := encoderStuckRow.holds Try.pinned (OpenSpec.ofChange encoderStuckWrong)

/-- 'commutatorlaw32.EncoderTracks': WHATEVER THE INPUT: true; the input reads as it did. -/
def encoderTracksSpec : ChangeSpec := { name := "encoderTracks", fn := fun _ => fun
  | [d1, d2, d3] => { results := [.lit (.bool true)], args := [d1, d2, d3] }
  | _ => none }
def encoderTracksRow : OpenClaim := { program := "ytfigdflhegdjfaa", sum := "ecc2a4acd18236dab205cea7ba4d5b054f4b985d104a2d21b71b365e2425e106", func := "commutator/commutatorlaw32.EncoderTracks", spec := "encoderTracks", apart := false }
def EncoderTracksSaid : Prop := encoderTracksRow.holds Try.pinned (OpenSpec.ofChange encoderTracksSpec)

/-- ITS FALSE NEIGHBOUR: 'it returns false'. Refute it at one input. -/
def encoderTracksWrong : ChangeSpec := { name := "encoderTracks", fn := fun _ => fun
  | [d1, d2, d3] => { results := [.lit (.bool false)], args := [d1, d2, d3] }
  | _ => none }
def EncoderTracksWrongFalsely : Prop := encoderTracksRow.holds Try.pinned (OpenSpec.ofChange encoderTracksWrong)

/- THE SECOND FORM. 'bulk': how many values and letters a reading holds, each counted each time it is reached (what is shared counts as often as it is met; a slice's spare places count too). A statement '..UptoSaid' is the law's where the arguments, and the package variables that the reading takes, are together of bulk at most 1048576: NARROWER than '..Said'. Prove '..Said' where nothing that the law and all that it calls make is longer than what came in: it says more and counts as full. Else prove '..UptoSaid'. A law counts once. -/
mutual
def uptoBulk {H : Type} : DataW H → Nat
  | .lit (.string bytes) => bytes.length + 1
  | .lit _ => 1
  | .nil => 1
  | .ptr d => uptoBulk d + 1
  | .slice elems spare => uptoBulkAll elems + uptoBulkAll spare + 1
  | .agg parts => uptoBulkAll parts + 1
  | .iface _ d => uptoBulk d + 1
  | .map entries => uptoBulkEntries entries + 1
  | .held _ => 1
def uptoBulkAll {H : Type} : List (DataW H) → Nat
  | [] => 0
  | d :: r => uptoBulk d + uptoBulkAll r
def uptoBulkEntries {H : Type} : List (Lit × DataW H) → Nat
  | [] => 0
  | x :: r => uptoBulkEntry x + uptoBulkEntries r
def uptoBulkEntry {H : Type} : Lit × DataW H → Nat
  | (.string bytes, d) => bytes.length + uptoBulk d + 1
  | (_, d) => uptoBulk d + 1
 end
def uptoSmall : (H : Type) → List (DataW H) → Bool := fun _ ds => decide (uptoBulkAll ds ≤ 1048576)
def OpenSpec.upto (s : _root_.Go.ChangeSpec) : _root_.Go.OpenSpec := { _root_.Go.OpenSpec.ofChange s with cond := some uptoSmall }

/-- 'commutatorlaw32.EncoderChecks', WHERE WHAT IT READS IS OF BULK AT MOST 1048576: true; the input reads as it did. -/
def encoderChecksUptoRow : OpenClaim := { program := "ytfigdflhegdjfaa", sum := "ecc2a4acd18236dab205cea7ba4d5b054f4b985d104a2d21b71b365e2425e106", func := "commutator/commutatorlaw32.EncoderChecks", spec := "encoderChecks", apart := false, narrowed := true }
def EncoderChecksUptoSaid : Prop := encoderChecksUptoRow.holds Try.pinned (OpenSpec.upto encoderChecksSpec)

/-- 'commutatorlaw32.EncoderErrors', WHERE WHAT IT READS IS OF BULK AT MOST 1048576: true; the input reads as it did. -/
def encoderErrorsUptoRow : OpenClaim := { program := "ytfigdflhegdjfaa", sum := "ecc2a4acd18236dab205cea7ba4d5b054f4b985d104a2d21b71b365e2425e106", func := "commutator/commutatorlaw32.EncoderErrors", spec := "encoderErrors", apart := false, narrowed := true }
def EncoderErrorsUptoSaid : Prop := encoderErrorsUptoRow.holds Try.pinned (OpenSpec.upto encoderErrorsSpec)

/-- 'commutatorlaw32.EncoderSignals', WHERE WHAT IT READS IS OF BULK AT MOST 1048576: true; the input reads as it did. -/
def encoderSignalsUptoRow : OpenClaim := { program := "ytfigdflhegdjfaa", sum := "ecc2a4acd18236dab205cea7ba4d5b054f4b985d104a2d21b71b365e2425e106", func := "commutator/commutatorlaw32.EncoderSignals", spec := "encoderSignals", apart := false, narrowed := true }
def EncoderSignalsUptoSaid : Prop := encoderSignalsUptoRow.holds Try.pinned (OpenSpec.upto encoderSignalsSpec)

/-- 'commutatorlaw32.EncoderGray', WHERE WHAT IT READS IS OF BULK AT MOST 1048576: true; the input reads as it did. -/
def encoderGrayUptoRow : OpenClaim := { program := "ytfigdflhegdjfaa", sum := "ecc2a4acd18236dab205cea7ba4d5b054f4b985d104a2d21b71b365e2425e106", func := "commutator/commutatorlaw32.EncoderGray", spec := "encoderGray", apart := false, narrowed := true }
def EncoderGrayUptoSaid : Prop := encoderGrayUptoRow.holds Try.pinned (OpenSpec.upto encoderGraySpec)

/-- 'commutatorlaw32.EncoderSteps', WHERE WHAT IT READS IS OF BULK AT MOST 1048576: true; the input reads as it did. -/
def encoderStepsUptoRow : OpenClaim := { program := "ytfigdflhegdjfaa", sum := "ecc2a4acd18236dab205cea7ba4d5b054f4b985d104a2d21b71b365e2425e106", func := "commutator/commutatorlaw32.EncoderSteps", spec := "encoderSteps", apart := false, narrowed := true }
def EncoderStepsUptoSaid : Prop := encoderStepsUptoRow.holds Try.pinned (OpenSpec.upto encoderStepsSpec)

/-- 'commutatorlaw32.EncoderStuck', WHERE WHAT IT READS IS OF BULK AT MOST 1048576: true; the input reads as it did. -/
def encoderStuckUptoRow : OpenClaim := { program := "ytfigdflhegdjfaa", sum := "ecc2a4acd18236dab205cea7ba4d5b054f4b985d104a2d21b71b365e2425e106", func := "commutator/commutatorlaw32.EncoderStuck", spec := "encoderStuck", apart := false, narrowed := true }
def EncoderStuckUptoSaid : Prop := encoderStuckUptoRow.holds Try.pinned (OpenSpec.upto encoderStuckSpec)

/-- 'commutatorlaw32.EncoderTracks', WHERE WHAT IT READS IS OF BULK AT MOST 1048576: true; the input reads as it did. -/
def encoderTracksUptoRow : OpenClaim := { program := "ytfigdflhegdjfaa", sum := "ecc2a4acd18236dab205cea7ba4d5b054f4b985d104a2d21b71b365e2425e106", func := "commutator/commutatorlaw32.EncoderTracks", spec := "encoderTracks", apart := false, narrowed := true }
def EncoderTracksUptoSaid : Prop := encoderTracksUptoRow.holds Try.pinned (OpenSpec.upto encoderTracksSpec)

end Rows
end Go.Proofs.Ytfigdflhegdjfaa
