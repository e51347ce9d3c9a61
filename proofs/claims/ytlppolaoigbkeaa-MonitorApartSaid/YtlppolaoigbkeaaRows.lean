/-
  No cell of these rows narrows 'for every input' (looked for: loops, veiled, ifaces, maps, wideKeys, modest, calm, conditions, laid).
  DERIVED. THE GIVEN ROWS OF THIS SEAT. 7 by the template 'for every input the law returns true; each argument reads behind the call as it read before'; 0 by the template 'total and deterministic' (their statements: YtlppolaoigbkeaaTotals.lean).
  GIVEN WITH THE SEED: the statements are not yours to turn. If you find one false, say at which input.
  Laid BY PROGRAM, IN A SANDBOX (cutbox-rows.mjs): the forced cells as the released guide's own fill.sh prints them over the translation dc50dcdc91538fab… (all of the seat's roots in one cut). By AI agents, Wed Nov 11 2026. No macro, syntax, notation, axiom, sorry.
-/
import Derived.Test.YtlppolaoigbkeaaChecked
import GoSem.Claim
import GoSem.ClaimJoined
import GoSem.ClaimMapViews
import Derived.JoinedTies
import Derived.KernelRfl
namespace Go.Proofs.Ytlppolaoigbkeaa
/- THE CELL 'sum', in the pinned program and in every row, IS THE sha256 OF THE DUMP (.gsa) THAT YtlppolaoigbkeaaProg.lean LOADS. Nothing in Lean hashes anything: it is a label: what it is worth is what the hold of that sum in a sandbox is worth. -/
noncomputable def Try.pinned : Pinned := { name := "ytlppolaoigbkeaa", sum := "dc50dcdc91538fabb0612377d003eff8724fc386e5742b3fa26a3bf980673670", checked := Try.checked }
namespace Rows
def none {H : Type} : Left H := { results := [], args := [] }

/-- 'commutatorlaw46.MonitorChecks': WHATEVER THE INPUT: true; the input reads as it did. -/
def monitorChecksSpec : ChangeSpec := { name := "monitorChecks", fn := fun _ => fun
  | [d] => { results := [.lit (.bool true)], args := [d] }
  | _ => none }
def monitorChecksRow : OpenClaim := { program := "ytlppolaoigbkeaa", sum := "dc50dcdc91538fabb0612377d003eff8724fc386e5742b3fa26a3bf980673670", func := "commutator/commutatorlaw46.MonitorChecks", spec := "monitorChecks", apart := false }
def MonitorChecksSaid : Prop := monitorChecksRow.holds Try.pinned (OpenSpec.ofChange monitorChecksSpec)

/-- ITS FALSE NEIGHBOUR: 'it returns false'. Refute it at one input. -/
def monitorChecksWrong : ChangeSpec := { name := "monitorChecks", fn := fun _ => fun
  | [d] => { results := [.lit (.bool false)], args := [d] }
  | _ => none }
def MonitorChecksWrongFalsely : Prop := monitorChecksRow.holds Try.pinned (OpenSpec.ofChange monitorChecksWrong)

/-- 'commutatorlaw46.MonitorConditions': WHATEVER THE INPUT: true; the input reads as it did. -/
def monitorConditionsSpec : ChangeSpec := { name := "monitorConditions", fn := fun _ => fun
  | [d1, d2] => { results := [.lit (.bool true)], args := [d1, d2] }
  | _ => none }
def monitorConditionsRow : OpenClaim := { program := "ytlppolaoigbkeaa", sum := "dc50dcdc91538fabb0612377d003eff8724fc386e5742b3fa26a3bf980673670", func := "commutator/commutatorlaw46.MonitorConditions", spec := "monitorConditions", apart := false }
def MonitorConditionsSaid : Prop := monitorConditionsRow.holds Try.pinned (OpenSpec.ofChange monitorConditionsSpec)

/-- ITS FALSE NEIGHBOUR: 'it returns false'. Refute it at one input. -/
def monitorConditionsWrong : ChangeSpec := { name := "monitorConditions", fn := fun _ => fun
  | [d1, d2] => { results := [.lit (.bool false)], args := [d1, d2] }
  | _ => none }
def MonitorConditionsWrongFalsely : Prop := monitorConditionsRow.holds Try.pinned (OpenSpec.ofChange monitorConditionsWrong)

/-- 'commutatorlaw46.MonitorCounts': WHATEVER THE INPUT: true; the input reads as it did. -/
def monitorCountsSpec : ChangeSpec := { name := "monitorCounts", fn := fun _ => fun
  | [d1, d2] => { results := [.lit (.bool true)], args := [d1, d2] }
  | _ => none }
def monitorCountsRow : OpenClaim := { program := "ytlppolaoigbkeaa", sum := "dc50dcdc91538fabb0612377d003eff8724fc386e5742b3fa26a3bf980673670", func := "commutator/commutatorlaw46.MonitorCounts", spec := "monitorCounts", apart := false }
def MonitorCountsSaid : Prop := monitorCountsRow.holds Try.pinned (OpenSpec.ofChange monitorCountsSpec)

/-- ITS FALSE NEIGHBOUR: 'it returns false'. Refute it at one input. -/
def monitorCountsWrong : ChangeSpec := { name := "monitorCounts", fn := fun _ => fun
  | [d1, d2] => { results := [.lit (.bool false)], args := [d1, d2] }
  | _ => none }
def MonitorCountsWrongFalsely : Prop := monitorCountsRow.holds Try.pinned (OpenSpec.ofChange monitorCountsWrong)

/-- 'commutatorlaw46.MonitorApart': WHATEVER THE INPUT: true; the input reads as it did. -/
def monitorApartSpec : ChangeSpec := { name := "monitorApart", fn := fun _ => fun
  | [d1, d2, d3] => { results := [.lit (.bool true)], args := [d1, d2, d3] }
  | _ => none }
def monitorApartRow : OpenClaim := { program := "ytlppolaoigbkeaa", sum := "dc50dcdc91538fabb0612377d003eff8724fc386e5742b3fa26a3bf980673670", func := "commutator/commutatorlaw46.MonitorApart", spec := "monitorApart", apart := false }
def MonitorApartSaid : Prop := monitorApartRow.holds Try.pinned (OpenSpec.ofChange monitorApartSpec)

/-- ITS FALSE NEIGHBOUR: 'it returns false'. Refute it at one input. -/
def monitorApartWrong : ChangeSpec := { name := "monitorApart", fn := fun _ => fun
  | [d1, d2, d3] => { results := [.lit (.bool false)], args := [d1, d2, d3] }
  | _ => none }
def MonitorApartWrongFalsely : Prop := monitorApartRow.holds Try.pinned (OpenSpec.ofChange monitorApartWrong)

/-- 'commutatorlaw46.MonitorHealthy': WHATEVER THE INPUT: true; the input reads as it did. -/
def monitorHealthySpec : ChangeSpec := { name := "monitorHealthy", fn := fun _ => fun
  | [d1, d2, d3] => { results := [.lit (.bool true)], args := [d1, d2, d3] }
  | _ => none }
def monitorHealthyRow : OpenClaim := { program := "ytlppolaoigbkeaa", sum := "dc50dcdc91538fabb0612377d003eff8724fc386e5742b3fa26a3bf980673670", func := "commutator/commutatorlaw46.MonitorHealthy", spec := "monitorHealthy", apart := false }
def MonitorHealthySaid : Prop := monitorHealthyRow.holds Try.pinned (OpenSpec.ofChange monitorHealthySpec)

/-- ITS FALSE NEIGHBOUR: 'it returns false'. Refute it at one input. -/
def monitorHealthyWrong : ChangeSpec := { name := "monitorHealthy", fn := fun _ => fun
  | [d1, d2, d3] => { results := [.lit (.bool false)], args := [d1, d2, d3] }
  | _ => none }
def MonitorHealthyWrongFalsely : Prop := monitorHealthyRow.holds Try.pinned (OpenSpec.ofChange monitorHealthyWrong)

/-- 'commutatorlaw46.MonitorOrder': WHATEVER THE INPUT: true; the input reads as it did. -/
def monitorOrderSpec : ChangeSpec := { name := "monitorOrder", fn := fun _ => fun
  | [d1, d2] => { results := [.lit (.bool true)], args := [d1, d2] }
  | _ => none }
def monitorOrderRow : OpenClaim := { program := "ytlppolaoigbkeaa", sum := "dc50dcdc91538fabb0612377d003eff8724fc386e5742b3fa26a3bf980673670", func := "commutator/commutatorlaw46.MonitorOrder", spec := "monitorOrder", apart := false }
def MonitorOrderSaid : Prop := monitorOrderRow.holds Try.pinned (OpenSpec.ofChange monitorOrderSpec)

/-- ITS FALSE NEIGHBOUR: 'it returns false'. Refute it at one input. -/
def monitorOrderWrong : ChangeSpec := { name := "monitorOrder", fn := fun _ => fun
  | [d1, d2] => { results := [.lit (.bool false)], args := [d1, d2] }
  | _ => none }
def MonitorOrderWrongFalsely : Prop := monitorOrderRow.holds Try.pinned (OpenSpec.ofChange monitorOrderWrong)

/-- 'commutatorlaw46.MonitorSteps': WHATEVER THE INPUT: true; the input reads as it did. -/
def monitorStepsSpec : ChangeSpec := { name := "monitorSteps", fn := fun _ => fun
  | [d1, d2, d3] => { results := [.lit (.bool true)], args := [d1, d2, d3] }
  | _ => none }
def monitorStepsRow : OpenClaim := { program := "ytlppolaoigbkeaa", sum := "dc50dcdc91538fabb0612377d003eff8724fc386e5742b3fa26a3bf980673670", func := "commutator/commutatorlaw46.MonitorSteps", spec := "monitorSteps", apart := false }
def MonitorStepsSaid : Prop := monitorStepsRow.holds Try.pinned (OpenSpec.ofChange monitorStepsSpec)

/-- ITS FALSE NEIGHBOUR: 'it returns false'. Refute it at one input. -/
def monitorStepsWrong : ChangeSpec := { name := "monitorSteps", fn := fun _ => fun
  | [d1, d2, d3] => { results := [.lit (.bool false)], args := [d1, d2, d3] }
  | _ => none }
def MonitorStepsWrongFalsely : Prop := monitorStepsRow.holds Try.pinned (OpenSpec.ofChange monitorStepsWrong)

/- THE SECOND FORM. 'bulk': how many values and letters a reading holds, each counted each time it is reached (what is shared counts as often as it is met; a slice's spare places count too). A statement '..UptoSaid' is the law's where the arguments, and the package variables that the reading takes, are together of bulk at most 1048576: NARROWER than '..Said'. Prove '..Said' where nothing that the law and all that it calls make is longer than what came in: it says more and counts as full. Else prove '..UptoSaid'. A law counts once. -/
mutual
def uptoBulk {H : Type} : DataW H → Nat
  | .lit (.string bytes) => bytes.length + 1
  | .lit _ => 1
  | .nil => 1
  | .ptr d => uptoBulk d + 1
  | .slice elems spare => uptoBulkAll elems + uptoBulkAll spare + 1
  | .agg parts => uptoBulkAll parts + 1
  | .iface _ d => uptoBulk d + 1
  | .map entries => uptoBulkEntries entries + 1
  | .held _ => 1
def uptoBulkAll {H : Type} : List (DataW H) → Nat
  | [] => 0
  | d :: r => uptoBulk d + uptoBulkAll r
def uptoBulkEntries {H : Type} : List (Lit × DataW H) → Nat
  | [] => 0
  | x :: r => uptoBulkEntry x + uptoBulkEntries r
def uptoBulkEntry {H : Type} : Lit × DataW H → Nat
  | (.string bytes, d) => bytes.length + uptoBulk d + 1
  | (_, d) => uptoBulk d + 1
 end
def uptoSmall : (H : Type) → List (DataW H) → Bool := fun _ ds => decide (uptoBulkAll ds ≤ 1048576)
def OpenSpec.upto (s : _root_.Go.ChangeSpec) : _root_.Go.OpenSpec := { _root_.Go.OpenSpec.ofChange s with cond := some uptoSmall }

/-- 'commutatorlaw46.MonitorChecks', WHERE WHAT IT READS IS OF BULK AT MOST 1048576: true; the input reads as it did. -/
def monitorChecksUptoRow : OpenClaim := { program := "ytlppolaoigbkeaa", sum := "dc50dcdc91538fabb0612377d003eff8724fc386e5742b3fa26a3bf980673670", func := "commutator/commutatorlaw46.MonitorChecks", spec := "monitorChecks", apart := false, narrowed := true }
def MonitorChecksUptoSaid : Prop := monitorChecksUptoRow.holds Try.pinned (OpenSpec.upto monitorChecksSpec)

/-- 'commutatorlaw46.MonitorConditions', WHERE WHAT IT READS IS OF BULK AT MOST 1048576: true; the input reads as it did. -/
def monitorConditionsUptoRow : OpenClaim := { program := "ytlppolaoigbkeaa", sum := "dc50dcdc91538fabb0612377d003eff8724fc386e5742b3fa26a3bf980673670", func := "commutator/commutatorlaw46.MonitorConditions", spec := "monitorConditions", apart := false, narrowed := true }
def MonitorConditionsUptoSaid : Prop := monitorConditionsUptoRow.holds Try.pinned (OpenSpec.upto monitorConditionsSpec)

/-- 'commutatorlaw46.MonitorCounts', WHERE WHAT IT READS IS OF BULK AT MOST 1048576: true; the input reads as it did. -/
def monitorCountsUptoRow : OpenClaim := { program := "ytlppolaoigbkeaa", sum := "dc50dcdc91538fabb0612377d003eff8724fc386e5742b3fa26a3bf980673670", func := "commutator/commutatorlaw46.MonitorCounts", spec := "monitorCounts", apart := false, narrowed := true }
def MonitorCountsUptoSaid : Prop := monitorCountsUptoRow.holds Try.pinned (OpenSpec.upto monitorCountsSpec)

/-- 'commutatorlaw46.MonitorApart', WHERE WHAT IT READS IS OF BULK AT MOST 1048576: true; the input reads as it did. -/
def monitorApartUptoRow : OpenClaim := { program := "ytlppolaoigbkeaa", sum := "dc50dcdc91538fabb0612377d003eff8724fc386e5742b3fa26a3bf980673670", func := "commutator/commutatorlaw46.MonitorApart", spec := "monitorApart", apart := false, narrowed := true }
def MonitorApartUptoSaid : Prop := monitorApartUptoRow.holds Try.pinned (OpenSpec.upto monitorApartSpec)

/-- 'commutatorlaw46.MonitorHealthy', WHERE WHAT IT READS IS OF BULK AT MOST 1048576: true; the input reads as it did. -/
def monitorHealthyUptoRow : OpenClaim := { program := "ytlppolaoigbkeaa", sum := "dc50dcdc91538fabb0612377d003eff8724fc386e5742b3fa26a3bf980673670", func := "commutator/commutatorlaw46.MonitorHealthy", spec := "monitorHealthy", apart := false, narrowed := true }
def MonitorHealthyUptoSaid : Prop := monitorHealthyUptoRow.holds Try.pinned (OpenSpec.upto monitorHealthySpec)

/-- 'commutatorlaw46.MonitorOrder', WHERE WHAT IT READS IS OF BULK AT MOST 1048576: true; the input reads as it did. -/
def monitorOrderUptoRow : OpenClaim := { program := "ytlppolaoigbkeaa", sum := "dc50dcdc91538fabb0612377d003eff8724fc386e5742b3fa26a3bf980673670", func := "commutator/commutatorlaw46.MonitorOrder", spec := "monitorOrder", apart := false, narrowed := true }
def MonitorOrderUptoSaid : Prop := monitorOrderUptoRow.holds Try.pinned (OpenSpec.upto monitorOrderSpec)

/-- 'commutatorlaw46.MonitorSteps', WHERE WHAT IT READS IS OF BULK AT MOST 1048576: true; the input reads as it did. -/
def monitorStepsUptoRow : OpenClaim := { program := "ytlppolaoigbkeaa", sum := "dc50dcdc91538fabb0612377d003eff8724fc386e5742b3fa26a3bf980673670", func := "commutator/commutatorlaw46.MonitorSteps", spec := "monitorSteps", apart := false, narrowed := true }
def MonitorStepsUptoSaid : Prop := monitorStepsUptoRow.holds Try.pinned (OpenSpec.upto monitorStepsSpec)

end Rows
end Go.Proofs.Ytlppolaoigbkeaa
