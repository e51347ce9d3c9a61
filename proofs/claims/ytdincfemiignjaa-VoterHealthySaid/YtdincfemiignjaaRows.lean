/-
  No cell of these rows narrows 'for every input' (looked for: loops, veiled, ifaces, maps, wideKeys, modest, calm, conditions, laid).
  DERIVED. THE GIVEN ROWS OF THIS SEAT. 5 by the template 'for every input the law returns true; each argument reads behind the call as it read before'; 0 by the template 'total and deterministic' (their statements: YtdincfemiignjaaTotals.lean).
  GIVEN WITH THE SEED: the statements are not yours to turn. If you find one false, say at which input.
  Laid BY PROGRAM, IN A SANDBOX (cutbox-rows.mjs): the forced cells as the released guide's own fill.sh prints them over the translation 5f8f4da371f9813d… (all of the seat's roots in one cut). By AI agents, Wed Nov 11 2026. No macro, syntax, notation, axiom, sorry.
-/
import Derived.Test.YtdincfemiignjaaChecked
import GoSem.Claim
import GoSem.ClaimJoined
import GoSem.ClaimMapViews
import Derived.JoinedTies
import Derived.KernelRfl
namespace Go.Proofs.Ytdincfemiignjaa
/- THE CELL 'sum', in the pinned program and in every row, IS THE sha256 OF THE DUMP (.gsa) THAT YtdincfemiignjaaProg.lean LOADS. Nothing in Lean hashes anything: it is a label: what it is worth is what the hold of that sum in a sandbox is worth. -/
noncomputable def Try.pinned : Pinned := { name := "ytdincfemiignjaa", sum := "5f8f4da371f9813d0032b370b9e086d06e8e3a2847f9db05a63e009d4e3ebe82", checked := Try.checked }
namespace Rows
def none {H : Type} : Left H := { results := [], args := [] }

/-- 'commutatorlaw40.VoterSteps': WHATEVER THE INPUT: true; the input reads as it did. -/
def voterStepsSpec : ChangeSpec := { name := "voterSteps", fn := fun _ => fun
  | [d1, d2, d3] => { results := [.lit (.bool true)], args := [d1, d2, d3] }
  | _ => none }
def voterStepsRow : OpenClaim := { program := "ytdincfemiignjaa", sum := "5f8f4da371f9813d0032b370b9e086d06e8e3a2847f9db05a63e009d4e3ebe82", func := "commutator/commutatorlaw40.VoterSteps", spec := "voterSteps", apart := false }
def VoterStepsSaid : Prop := voterStepsRow.holds Try.pinned (OpenSpec.ofChange voterStepsSpec)

/-- ITS FALSE NEIGHBOUR: 'it returns false'. Refute it at one input. -/
def voterStepsWrong : ChangeSpec := { name := "voterSteps", fn := fun _ => fun
  | [d1, d2, d3] => { results := [.lit (.bool false)], args := [d1, d2, d3] }
  | _ => none }
def VoterStepsWrongFalsely : Prop := voterStepsRow.holds Try.pinned (OpenSpec.ofChange voterStepsWrong)

/-- 'commutatorlaw40.VoterNames': WHATEVER THE INPUT: true; the input reads as it did. -/
def voterNamesSpec : ChangeSpec := { name := "voterNames", fn := fun _ => fun
  | [d1, d2, d3] => { results := [.lit (.bool true)], args := [d1, d2, d3] }
  | _ => none }
def voterNamesRow : OpenClaim := { program := "ytdincfemiignjaa", sum := "5f8f4da371f9813d0032b370b9e086d06e8e3a2847f9db05a63e009d4e3ebe82", func := "commutator/commutatorlaw40.VoterNames", spec := "voterNames", apart := false }
def VoterNamesSaid : Prop := voterNamesRow.holds Try.pinned (OpenSpec.ofChange voterNamesSpec)

/-- ITS FALSE NEIGHBOUR: 'it returns false'. Refute it at one input. -/
def voterNamesWrong : ChangeSpec := { name := "voterNames", fn := fun _ => fun
  | [d1, d2, d3] => { results := [.lit (.bool false)], args := [d1, d2, d3] }
  | _ => none }
def VoterNamesWrongFalsely : Prop := voterNamesRow.holds Try.pinned (OpenSpec.ofChange voterNamesWrong)

/-- 'commutatorlaw40.VoterTruth': WHATEVER THE INPUT: true; the input reads as it did. -/
def voterTruthSpec : ChangeSpec := { name := "voterTruth", fn := fun _ => fun
  | [d1, d2, d3] => { results := [.lit (.bool true)], args := [d1, d2, d3] }
  | _ => none }
def voterTruthRow : OpenClaim := { program := "ytdincfemiignjaa", sum := "5f8f4da371f9813d0032b370b9e086d06e8e3a2847f9db05a63e009d4e3ebe82", func := "commutator/commutatorlaw40.VoterTruth", spec := "voterTruth", apart := false }
def VoterTruthSaid : Prop := voterTruthRow.holds Try.pinned (OpenSpec.ofChange voterTruthSpec)

/-- ITS FALSE NEIGHBOUR: 'it returns false'. Refute it at one input. -/
def voterTruthWrong : ChangeSpec := { name := "voterTruth", fn := fun _ => fun
  | [d1, d2, d3] => { results := [.lit (.bool false)], args := [d1, d2, d3] }
  | _ => none }
def VoterTruthWrongFalsely : Prop := voterTruthRow.holds Try.pinned (OpenSpec.ofChange voterTruthWrong)

/-- 'commutatorlaw40.VoterHealthy': WHATEVER THE INPUT: true; the input reads as it did. -/
def voterHealthySpec : ChangeSpec := { name := "voterHealthy", fn := fun _ => fun
  | [d1, d2, d3] => { results := [.lit (.bool true)], args := [d1, d2, d3] }
  | _ => none }
def voterHealthyRow : OpenClaim := { program := "ytdincfemiignjaa", sum := "5f8f4da371f9813d0032b370b9e086d06e8e3a2847f9db05a63e009d4e3ebe82", func := "commutator/commutatorlaw40.VoterHealthy", spec := "voterHealthy", apart := false }
def VoterHealthySaid : Prop := voterHealthyRow.holds Try.pinned (OpenSpec.ofChange voterHealthySpec)

/-- ITS FALSE NEIGHBOUR: 'it returns false'. Refute it at one input. -/
def voterHealthyWrong : ChangeSpec := { name := "voterHealthy", fn := fun _ => fun
  | [d1, d2, d3] => { results := [.lit (.bool false)], args := [d1, d2, d3] }
  | _ => none }
def VoterHealthyWrongFalsely : Prop := voterHealthyRow.holds Try.pinned (OpenSpec.ofChange voterHealthyWrong)

/-- 'commutatorlaw40.VoterTurns': WHATEVER THE INPUT: true; the input reads as it did. -/
def voterTurnsSpec : ChangeSpec := { name := "voterTurns", fn := fun _ => fun
  | [d1, d2, d3] => { results := [.lit (.bool true)], args := [d1, d2, d3] }
  | _ => none }
def voterTurnsRow : OpenClaim := { program := "ytdincfemiignjaa", sum := "5f8f4da371f9813d0032b370b9e086d06e8e3a2847f9db05a63e009d4e3ebe82", func := "commutator/commutatorlaw40.VoterTurns", spec := "voterTurns", apart := false }
def VoterTurnsSaid : Prop := voterTurnsRow.holds Try.pinned (OpenSpec.ofChange voterTurnsSpec)

/-- ITS FALSE NEIGHBOUR: 'it returns false'. Refute it at one input. -/
def voterTurnsWrong : ChangeSpec := { name := "voterTurns", fn := fun _ => fun
  | [d1, d2, d3] => { results := [.lit (.bool false)], args := [d1, d2, d3] }
  | _ => none }
def VoterTurnsWrongFalsely : Prop := voterTurnsRow.holds Try.pinned (OpenSpec.ofChange voterTurnsWrong)

/- THE SECOND FORM. 'bulk': how many values and letters a reading holds, each counted each time it is reached (what is shared counts as often as it is met; a slice's spare places count too). A statement '..UptoSaid' is the law's where the arguments, and the package variables that the reading takes, are together of bulk at most 1048576: NARROWER than '..Said'. Prove '..Said' where nothing that the law and all that it calls make is longer than what came in: it says more and counts as full. Else prove '..UptoSaid'. A law counts once. -/
mutual
def uptoBulk {H : Type} : DataW H → Nat
  | .lit (.string bytes) => bytes.length + 1
  | .lit _ => 1
  | .nil => 1
  | .ptr d => uptoBulk d + 1
  | .slice elems spare => uptoBulkAll elems + uptoBulkAll spare + 1
  | .agg parts => uptoBulkAll parts + 1
  | .iface _ d => uptoBulk d + 1
  | .map entries => uptoBulkEntries entries + 1
  | .held _ => 1
def uptoBulkAll {H : Type} : List (DataW H) → Nat
  | [] => 0
  | d :: r => uptoBulk d + uptoBulkAll r
def uptoBulkEntries {H : Type} : List (Lit × DataW H) → Nat
  | [] => 0
  | x :: r => uptoBulkEntry x + uptoBulkEntries r
def uptoBulkEntry {H : Type} : Lit × DataW H → Nat
  | (.string bytes, d) => bytes.length + uptoBulk d + 1
  | (_, d) => uptoBulk d + 1
 end
def uptoSmall : (H : Type) → List (DataW H) → Bool := fun _ ds => decide (uptoBulkAll ds ≤ 1048576)
def OpenSpec.upto (s : _root_.Go.ChangeSpec) : _root_.Go.OpenSpec := { _root_.Go.OpenSpec.ofChange s with cond := some uptoSmall }

/-- 'commutatorlaw40.VoterSteps', WHERE WHAT IT READS IS OF BULK AT MOST 1048576: true; the input reads as it did. -/
def voterStepsUptoRow : OpenClaim := { program := "ytdincfemiignjaa", sum := "5f8f4da371f9813d0032b370b9e086d06e8e3a2847f9db05a63e009d4e3ebe82", func := "commutator/commutatorlaw40.VoterSteps", spec := "voterSteps", apart := false, narrowed := true }
def VoterStepsUptoSaid : Prop := voterStepsUptoRow.holds Try.pinned (OpenSpec.upto voterStepsSpec)

/-- 'commutatorlaw40.VoterNames', WHERE WHAT IT READS IS OF BULK AT MOST 1048576: true; the input reads as it did. -/
def voterNamesUptoRow : OpenClaim := { program := "ytdincfemiignjaa", sum := "5f8f4da371f9813d0032b370b9e086d06e8e3a2847f9db05a63e009d4e3ebe82", func := "commutator/commutatorlaw40.VoterNames", spec := "voterNames", apart := false, narrowed := true }
def VoterNamesUptoSaid : Prop := voterNamesUptoRow.holds Try.pinned (OpenSpec.upto voterNamesSpec)

/-- 'commutatorlaw40.VoterTruth', WHERE WHAT IT READS IS OF BULK AT MOST 1048576: true; the input reads as it did. -/
def voterTruthUptoRow : OpenClaim := { program := "ytdincfemiignjaa", sum := "5f8f4da371f9813d0032b370b9e086d06e8e3a2847f9db05a63e009d4e3ebe82", func := "commutator/commutatorlaw40.VoterTruth", spec := "voterTruth", apart := false, narrowed := true }
def VoterTruthUptoSaid : Prop := voterTruthUptoRow.holds Try.pinned (OpenSpec.upto voterTruthSpec)

/-- 'commutatorlaw40.VoterHealthy', WHERE WHAT IT READS IS OF BULK AT MOST 1048576: true; the input reads as it did. -/
def voterHealthyUptoRow : OpenClaim := { program := "ytdincfemiignjaa", sum := "5f8f4da371f9813d0032b370b9e086d06e8e3a2847f9db05a63e009d4e3ebe82", func := "commutator/commutatorlaw40.VoterHealthy", spec := "voterHealthy", apart := false, narrowed := true }
def VoterHealthyUptoSaid : Prop := voterHealthyUptoRow.holds Try.pinned (OpenSpec.upto voterHealthySpec)

/-- 'commutatorlaw40.VoterTurns', WHERE WHAT IT READS IS OF BULK AT MOST 1048576: true; the input reads as it did. -/
def voterTurnsUptoRow : OpenClaim := { program := "ytdincfemiignjaa", sum := "5f8f4da371f9813d0032b370b9e086d06e8e3a2847f9db05a63e009d4e3ebe82", func := "commutator/commutatorlaw40.VoterTurns", spec := "voterTurns", apart := false, narrowed := true }
def VoterTurnsUptoSaid : Prop := voterTurnsUptoRow.holds Try.pinned (OpenSpec.upto voterTurnsSpec)

end Rows
end Go.Proofs.Ytdincfemiignjaa
