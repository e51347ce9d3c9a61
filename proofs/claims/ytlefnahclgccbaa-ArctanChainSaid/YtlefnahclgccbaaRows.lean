/-
  No cell of these rows narrows 'for every input' (looked for: loops, veiled, ifaces, maps, wideKeys, modest, calm, conditions, laid).
  DERIVED. THE GIVEN ROWS OF THIS SEAT. 9 by the template 'for every input the law returns true; each argument reads behind the call as it read before'; 0 by the template 'total and deterministic' (their statements: YtlefnahclgccbaaTotals.lean).
  GIVEN WITH THE SEED: the statements are not yours to turn. If you find one false, say at which input.
  Laid BY PROGRAM, IN A SANDBOX (cutbox-rows.mjs): the forced cells as the released guide's own fill.sh prints them over the translation cce79601f0e50f71… (all of the seat's roots in one cut). By AI agents, Wed Nov 11 2026. No macro, syntax, notation, axiom, sorry.
-/
import Derived.Test.YtlefnahclgccbaaChecked
import GoSem.Claim
import GoSem.ClaimJoined
import GoSem.ClaimMapViews
import Derived.JoinedTies
import Derived.KernelRfl
namespace Go.Proofs.Ytlefnahclgccbaa
/- THE CELL 'sum', in the pinned program and in every row, IS THE sha256 OF THE DUMP (.gsa) THAT YtlefnahclgccbaaProg.lean LOADS. Nothing in Lean hashes anything: it is a label: what it is worth is what the hold of that sum in a sandbox is worth. -/
noncomputable def Try.pinned : Pinned := { name := "ytlefnahclgccbaa", sum := "cce79601f0e50f7145a54f09444e453d99f7b4a36c5dc4f47d1fb5c41485e08e", checked := Try.checked }
namespace Rows
def none {H : Type} : Left H := { results := [], args := [] }

/-- 'commutatorlaw07.ArctanAngles': WHATEVER THE INPUT: true; the input reads as it did. -/
def arctanAnglesSpec : ChangeSpec := { name := "arctanAngles", fn := fun _ => fun
  | [d1, d2] => { results := [.lit (.bool true)], args := [d1, d2] }
  | _ => none }
def arctanAnglesRow : OpenClaim := { program := "ytlefnahclgccbaa", sum := "cce79601f0e50f7145a54f09444e453d99f7b4a36c5dc4f47d1fb5c41485e08e", func := "commutator/commutatorlaw07.ArctanAngles", spec := "arctanAngles", apart := false }
def ArctanAnglesSaid : Prop := arctanAnglesRow.holds Try.pinned (OpenSpec.ofChange arctanAnglesSpec)

/-- ITS FALSE NEIGHBOUR: 'it returns false'. Refute it at one input. -/
def arctanAnglesWrong : ChangeSpec := { name := "arctanAngles", fn := fun _ => fun
  | [d1, d2] => { results := [.lit (.bool false)], args := [d1, d2] }
  | _ => none }
def ArctanAnglesWrongFalsely : Prop := arctanAnglesRow.holds Try.pinned (OpenSpec.ofChange arctanAnglesWrong)

/-- 'commutatorlaw07.ArctanCompares': WHATEVER THE INPUT: true; the input reads as it did. -/
def arctanComparesSpec : ChangeSpec := { name := "arctanCompares", fn := fun _ => fun
  | [d1, d2] => { results := [.lit (.bool true)], args := [d1, d2] }
  | _ => none }
def arctanComparesRow : OpenClaim := { program := "ytlefnahclgccbaa", sum := "cce79601f0e50f7145a54f09444e453d99f7b4a36c5dc4f47d1fb5c41485e08e", func := "commutator/commutatorlaw07.ArctanCompares", spec := "arctanCompares", apart := false }
def ArctanComparesSaid : Prop := arctanComparesRow.holds Try.pinned (OpenSpec.ofChange arctanComparesSpec)

/-- ITS FALSE NEIGHBOUR: 'it returns false'. Refute it at one input. -/
def arctanComparesWrong : ChangeSpec := { name := "arctanCompares", fn := fun _ => fun
  | [d1, d2] => { results := [.lit (.bool false)], args := [d1, d2] }
  | _ => none }
def ArctanComparesWrongFalsely : Prop := arctanComparesRow.holds Try.pinned (OpenSpec.ofChange arctanComparesWrong)

/-- 'commutatorlaw07.ArctanBack': WHATEVER THE INPUT: true; the input reads as it did. -/
def arctanBackSpec : ChangeSpec := { name := "arctanBack", fn := fun _ => fun
  | [d1, d2] => { results := [.lit (.bool true)], args := [d1, d2] }
  | _ => none }
def arctanBackRow : OpenClaim := { program := "ytlefnahclgccbaa", sum := "cce79601f0e50f7145a54f09444e453d99f7b4a36c5dc4f47d1fb5c41485e08e", func := "commutator/commutatorlaw07.ArctanBack", spec := "arctanBack", apart := false }
def ArctanBackSaid : Prop := arctanBackRow.holds Try.pinned (OpenSpec.ofChange arctanBackSpec)

/-- ITS FALSE NEIGHBOUR: 'it returns false'. Refute it at one input. -/
def arctanBackWrong : ChangeSpec := { name := "arctanBack", fn := fun _ => fun
  | [d1, d2] => { results := [.lit (.bool false)], args := [d1, d2] }
  | _ => none }
def ArctanBackWrongFalsely : Prop := arctanBackRow.holds Try.pinned (OpenSpec.ofChange arctanBackWrong)

/-- 'commutatorlaw07.ArctanBounds': WHATEVER THE INPUT: true; the input reads as it did. -/
def arctanBoundsSpec : ChangeSpec := { name := "arctanBounds", fn := fun _ => fun
  | [d1, d2] => { results := [.lit (.bool true)], args := [d1, d2] }
  | _ => none }
def arctanBoundsRow : OpenClaim := { program := "ytlefnahclgccbaa", sum := "cce79601f0e50f7145a54f09444e453d99f7b4a36c5dc4f47d1fb5c41485e08e", func := "commutator/commutatorlaw07.ArctanBounds", spec := "arctanBounds", apart := false }
def ArctanBoundsSaid : Prop := arctanBoundsRow.holds Try.pinned (OpenSpec.ofChange arctanBoundsSpec)

/-- ITS FALSE NEIGHBOUR: 'it returns false'. Refute it at one input. -/
def arctanBoundsWrong : ChangeSpec := { name := "arctanBounds", fn := fun _ => fun
  | [d1, d2] => { results := [.lit (.bool false)], args := [d1, d2] }
  | _ => none }
def ArctanBoundsWrongFalsely : Prop := arctanBoundsRow.holds Try.pinned (OpenSpec.ofChange arctanBoundsWrong)

/-- 'commutatorlaw07.ArctanOrder': WHATEVER THE INPUT: true; the input reads as it did. -/
def arctanOrderSpec : ChangeSpec := { name := "arctanOrder", fn := fun _ => fun
  | [d1, d2] => { results := [.lit (.bool true)], args := [d1, d2] }
  | _ => none }
def arctanOrderRow : OpenClaim := { program := "ytlefnahclgccbaa", sum := "cce79601f0e50f7145a54f09444e453d99f7b4a36c5dc4f47d1fb5c41485e08e", func := "commutator/commutatorlaw07.ArctanOrder", spec := "arctanOrder", apart := false }
def ArctanOrderSaid : Prop := arctanOrderRow.holds Try.pinned (OpenSpec.ofChange arctanOrderSpec)

/-- ITS FALSE NEIGHBOUR: 'it returns false'. Refute it at one input. -/
def arctanOrderWrong : ChangeSpec := { name := "arctanOrder", fn := fun _ => fun
  | [d1, d2] => { results := [.lit (.bool false)], args := [d1, d2] }
  | _ => none }
def ArctanOrderWrongFalsely : Prop := arctanOrderRow.holds Try.pinned (OpenSpec.ofChange arctanOrderWrong)

/-- 'commutatorlaw07.ArctanChain': WHATEVER THE INPUT: true; the input reads as it did. -/
def arctanChainSpec : ChangeSpec := { name := "arctanChain", fn := fun _ => fun
  | [d1, d2, d3] => { results := [.lit (.bool true)], args := [d1, d2, d3] }
  | _ => none }
def arctanChainRow : OpenClaim := { program := "ytlefnahclgccbaa", sum := "cce79601f0e50f7145a54f09444e453d99f7b4a36c5dc4f47d1fb5c41485e08e", func := "commutator/commutatorlaw07.ArctanChain", spec := "arctanChain", apart := false }
def ArctanChainSaid : Prop := arctanChainRow.holds Try.pinned (OpenSpec.ofChange arctanChainSpec)

/-- ITS FALSE NEIGHBOUR: 'it returns false'. Refute it at one input. -/
def arctanChainWrong : ChangeSpec := { name := "arctanChain", fn := fun _ => fun
  | [d1, d2, d3] => { results := [.lit (.bool false)], args := [d1, d2, d3] }
  | _ => none }
def ArctanChainWrongFalsely : Prop := arctanChainRow.holds Try.pinned (OpenSpec.ofChange arctanChainWrong)

/-- 'commutatorlaw07.ArctanQuarters': WHATEVER THE INPUT: true; the input reads as it did. -/
def arctanQuartersSpec : ChangeSpec := { name := "arctanQuarters", fn := fun _ => fun
  | [d1, d2, d3] => { results := [.lit (.bool true)], args := [d1, d2, d3] }
  | _ => none }
def arctanQuartersRow : OpenClaim := { program := "ytlefnahclgccbaa", sum := "cce79601f0e50f7145a54f09444e453d99f7b4a36c5dc4f47d1fb5c41485e08e", func := "commutator/commutatorlaw07.ArctanQuarters", spec := "arctanQuarters", apart := false }
def ArctanQuartersSaid : Prop := arctanQuartersRow.holds Try.pinned (OpenSpec.ofChange arctanQuartersSpec)

/-- ITS FALSE NEIGHBOUR: 'it returns false'. Refute it at one input. -/
def arctanQuartersWrong : ChangeSpec := { name := "arctanQuarters", fn := fun _ => fun
  | [d1, d2, d3] => { results := [.lit (.bool false)], args := [d1, d2, d3] }
  | _ => none }
def ArctanQuartersWrongFalsely : Prop := arctanQuartersRow.holds Try.pinned (OpenSpec.ofChange arctanQuartersWrong)

/-- 'commutatorlaw07.ArctanSums': WHATEVER THE INPUT: true; the input reads as it did. -/
def arctanSumsSpec : ChangeSpec := { name := "arctanSums", fn := fun _ => fun
  | [d1, d2, d3] => { results := [.lit (.bool true)], args := [d1, d2, d3] }
  | _ => none }
def arctanSumsRow : OpenClaim := { program := "ytlefnahclgccbaa", sum := "cce79601f0e50f7145a54f09444e453d99f7b4a36c5dc4f47d1fb5c41485e08e", func := "commutator/commutatorlaw07.ArctanSums", spec := "arctanSums", apart := false }
def ArctanSumsSaid : Prop := arctanSumsRow.holds Try.pinned (OpenSpec.ofChange arctanSumsSpec)

/-- ITS FALSE NEIGHBOUR: 'it returns false'. Refute it at one input. -/
def arctanSumsWrong : ChangeSpec := { name := "arctanSums", fn := fun _ => fun
  | [d1, d2, d3] => { results := [.lit (.bool false)], args := [d1, d2, d3] }
  | _ => none }
def ArctanSumsWrongFalsely : Prop := arctanSumsRow.holds Try.pinned (OpenSpec.ofChange arctanSumsWrong)

/-- 'commutatorlaw07.ArctanTurns': WHATEVER THE INPUT: true; the input reads as it did. -/
def arctanTurnsSpec : ChangeSpec := { name := "arctanTurns", fn := fun _ => fun
  | [d1, d2] => { results := [.lit (.bool true)], args := [d1, d2] }
  | _ => none }
def arctanTurnsRow : OpenClaim := { program := "ytlefnahclgccbaa", sum := "cce79601f0e50f7145a54f09444e453d99f7b4a36c5dc4f47d1fb5c41485e08e", func := "commutator/commutatorlaw07.ArctanTurns", spec := "arctanTurns", apart := false }
def ArctanTurnsSaid : Prop := arctanTurnsRow.holds Try.pinned (OpenSpec.ofChange arctanTurnsSpec)

/-- ITS FALSE NEIGHBOUR: 'it returns false'. Refute it at one input. -/
def arctanTurnsWrong : ChangeSpec := { name := "arctanTurns", fn := fun _ => fun
  | [d1, d2] => { results := [.lit (.bool false)], args := [d1, d2] }
  | _ => none }
def ArctanTurnsWrongFalsely : Prop := arctanTurnsRow.holds Try.pinned (OpenSpec.ofChange arctanTurnsWrong)

/- THE SECOND FORM. 'bulk': how many values and letters a reading holds, each counted each time it is reached (what is shared counts as often as it is met; a slice's spare places count too). A statement '..UptoSaid' is the law's where the arguments, and the package variables that the reading takes, are together of bulk at most 1048576: NARROWER than '..Said'. Prove '..Said' where nothing that the law and all that it calls make is longer than what came in: it says more and counts as full. Else prove '..UptoSaid'. A law counts once. -/
mutual
def uptoBulk {H : Type} : DataW H → Nat
  | .lit (.string bytes) => bytes.length + 1
  | .lit _ => 1
  | .nil => 1
  | .ptr d => uptoBulk d + 1
  | .slice elems spare => uptoBulkAll elems + uptoBulkAll spare + 1
  | .agg parts => uptoBulkAll parts + 1
  | .iface _ d => uptoBulk d + 1
  | .map entries => uptoBulkEntries entries + 1
  | .held _ => 1
def uptoBulkAll {H : Type} : List (DataW H) → Nat
  | [] => 0
  | d :: r => uptoBulk d + uptoBulkAll r
def uptoBulkEntries {H : Type} : List (Lit × DataW H) → Nat
  | [] => 0
  | x :: r => uptoBulkEntry x + uptoBulkEntries r
def uptoBulkEntry {H : Type} : Lit × DataW H → Nat
  | (.string bytes, d) => bytes.length + uptoBulk d + 1
  | (_, d) => uptoBulk d + 1
 end
def uptoSmall : (H : Type) → List (DataW H) → Bool := fun _ ds => decide (uptoBulkAll ds ≤ 1048576)
def OpenSpec.upto (s : _root_.Go.ChangeSpec) : _root_.Go.OpenSpec := { _root_.Go.OpenSpec.ofChange s with cond := some uptoSmall }

/-- 'commutatorlaw07.ArctanAngles', WHERE WHAT IT READS IS OF BULK AT MOST 1048576: true; the input reads as it did. -/
def arctanAnglesUptoRow : OpenClaim := { program := "ytlefnahclgccbaa", sum := "cce79601f0e50f7145a54f09444e453d99f7b4a36c5dc4f47d1fb5c41485e08e", func := "commutator/commutatorlaw07.ArctanAngles", spec := "arctanAngles", apart := false, narrowed := true }
def ArctanAnglesUptoSaid : Prop := arctanAnglesUptoRow.holds Try.pinned (OpenSpec.upto arctanAnglesSpec)

/-- 'commutatorlaw07.ArctanCompares', WHERE WHAT IT READS IS OF BULK AT MOST 1048576: true; the input reads as it did. -/
def arctanComparesUptoRow : OpenClaim := { program := "ytlefnahclgccbaa", sum := "cce79601f0e50f7145a54f09444e453d99f7b4a36c5dc4f47d1fb5c41485e08e", func := "commutator/commutatorlaw07.ArctanCompares", spec := "arctanCompares", apart := false, narrowed := true }
def ArctanComparesUptoSaid : Prop := arctanComparesUptoRow.holds Try.pinned (OpenSpec.upto arctanComparesSpec)

/-- 'commutatorlaw07.ArctanBack', WHERE WHAT IT READS IS OF BULK AT MOST 1048576: true; the input reads as it did. -/
def arctanBackUptoRow : OpenClaim := { program := "ytlefnahclgccbaa", sum := "cce79601f0e50f7145a54f09444e453d99f7b4a36c5dc4f47d1fb5c41485e08e", func := "commutator/commutatorlaw07.ArctanBack", spec := "arctanBack", apart := false, narrowed := true }
def ArctanBackUptoSaid : Prop := arctanBackUptoRow.holds Try.pinned (OpenSpec.upto arctanBackSpec)

/-- 'commutatorlaw07.ArctanBounds', WHERE WHAT IT READS IS OF BULK AT MOST 1048576: true; the input reads as it did. -/
def arctanBoundsUptoRow : OpenClaim := { program := "ytlefnahclgccbaa", sum := "cce79601f0e50f7145a54f09444e453d99f7b4a36c5dc4f47d1fb5c41485e08e", func := "commutator/commutatorlaw07.ArctanBounds", spec := "arctanBounds", apart := false, narrowed := true }
def ArctanBoundsUptoSaid : Prop := arctanBoundsUptoRow.holds Try.pinned (OpenSpec.upto arctanBoundsSpec)

/-- 'commutatorlaw07.ArctanOrder', WHERE WHAT IT READS IS OF BULK AT MOST 1048576: true; the input reads as it did. -/
def arctanOrderUptoRow : OpenClaim := { program := "ytlefnahclgccbaa", sum := "cce79601f0e50f7145a54f09444e453d99f7b4a36c5dc4f47d1fb5c41485e08e", func := "commutator/commutatorlaw07.ArctanOrder", spec := "arctanOrder", apart := false, narrowed := true }
def ArctanOrderUptoSaid : Prop := arctanOrderUptoRow.holds Try.pinned (OpenSpec.upto arctanOrderSpec)

/-- 'commutatorlaw07.ArctanChain', WHERE WHAT IT READS IS OF BULK AT MOST 1048576: true; the input reads as it did. -/
def arctanChainUptoRow : OpenClaim := { program := "ytlefnahclgccbaa", sum := "cce79601f0e50f7145a54f09444e453d99f7b4a36c5dc4f47d1fb5c41485e08e", func := "commutator/commutatorlaw07.ArctanChain", spec := "arctanChain", apart := false, narrowed := true }
def ArctanChainUptoSaid : Prop := arctanChainUptoRow.holds Try.pinned (OpenSpec.upto arctanChainSpec)

/-- 'commutatorlaw07.ArctanQuarters', WHERE WHAT IT READS IS OF BULK AT MOST 1048576: true; the input reads as it did. -/
def arctanQuartersUptoRow : OpenClaim := { program := "ytlefnahclgccbaa", sum := "cce79601f0e50f7145a54f09444e453d99f7b4a36c5dc4f47d1fb5c41485e08e", func := "commutator/commutatorlaw07.ArctanQuarters", spec := "arctanQuarters", apart := false, narrowed := true }
def ArctanQuartersUptoSaid : Prop := arctanQuartersUptoRow.holds Try.pinned (OpenSpec.upto arctanQuartersSpec)

/-- 'commutatorlaw07.ArctanSums', WHERE WHAT IT READS IS OF BULK AT MOST 1048576: true; the input reads as it did. -/
def arctanSumsUptoRow : OpenClaim := { program := "ytlefnahclgccbaa", sum := "cce79601f0e50f7145a54f09444e453d99f7b4a36c5dc4f47d1fb5c41485e08e", func := "commutator/commutatorlaw07.ArctanSums", spec := "arctanSums", apart := false, narrowed := true }
def ArctanSumsUptoSaid : Prop := arctanSumsUptoRow.holds Try.pinned (OpenSpec.upto arctanSumsSpec)

/-- 'commutatorlaw07.ArctanTurns', WHERE WHAT IT READS IS OF BULK AT MOST 1048576: true; the input reads as it did. -/
def arctanTurnsUptoRow : OpenClaim := { program := "ytlefnahclgccbaa", sum := "cce79601f0e50f7145a54f09444e453d99f7b4a36c5dc4f47d1fb5c41485e08e", func := "commutator/commutatorlaw07.ArctanTurns", spec := "arctanTurns", apart := false, narrowed := true }
def ArctanTurnsUptoSaid : Prop := arctanTurnsUptoRow.holds Try.pinned (OpenSpec.upto arctanTurnsSpec)

end Rows
end Go.Proofs.Ytlefnahclgccbaa
