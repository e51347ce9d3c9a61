/-
  No cell of these rows narrows 'for every input' (looked for: loops, veiled, ifaces, maps, wideKeys, modest, calm, conditions, laid).
  DERIVED. THE GIVEN ROWS OF THIS SEAT. 8 by the template 'for every input the law returns true; each argument reads behind the call as it read before'; 0 by the template 'total and deterministic' (their statements: YtdkneeglkbbnlaaTotals.lean).
  GIVEN WITH THE SEED: the statements are not yours to turn. If you find one false, say at which input.
  Laid BY PROGRAM, IN A SANDBOX (cutbox-rows.mjs): the forced cells as the released guide's own fill.sh prints them over the translation 7dad61222b7fbb96… (all of the seat's roots in one cut). By AI agents, Wed Nov 11 2026. No macro, syntax, notation, axiom, sorry.
-/
import Derived.Test.YtdkneeglkbbnlaaChecked
import GoSem.Claim
import GoSem.ClaimJoined
import GoSem.ClaimMapViews
import Derived.JoinedTies
import Derived.KernelRfl
namespace Go.Proofs.Ytdkneeglkbbnlaa
/- THE CELL 'sum', in the pinned program and in every row, IS THE sha256 OF THE DUMP (.gsa) THAT YtdkneeglkbbnlaaProg.lean LOADS. Nothing in Lean hashes anything: it is a label: what it is worth is what the hold of that sum in a sandbox is worth. -/
noncomputable def Try.pinned : Pinned := { name := "ytdkneeglkbbnlaa", sum := "7dad61222b7fbb96a289a40793886a91874812356fbae0541ea57e8130e3fa13", checked := Try.checked }
namespace Rows
def none {H : Type} : Left H := { results := [], args := [] }

/-- 'commutatorlaw20.ParkTurns': WHATEVER THE INPUT: true; the input reads as it did. -/
def parkTurnsSpec : ChangeSpec := { name := "parkTurns", fn := fun _ => fun
  | [d1, d2, d3] => { results := [.lit (.bool true)], args := [d1, d2, d3] }
  | _ => none }
def parkTurnsRow : OpenClaim := { program := "ytdkneeglkbbnlaa", sum := "7dad61222b7fbb96a289a40793886a91874812356fbae0541ea57e8130e3fa13", func := "commutator/commutatorlaw20.ParkTurns", spec := "parkTurns", apart := false }
def ParkTurnsSaid : Prop := parkTurnsRow.holds Try.pinned (OpenSpec.ofChange parkTurnsSpec)

/-- ITS FALSE NEIGHBOUR: 'it returns false'. Refute it at one input. -/
def parkTurnsWrong : ChangeSpec := { name := "parkTurns", fn := fun _ => fun
  | [d1, d2, d3] => { results := [.lit (.bool false)], args := [d1, d2, d3] }
  | _ => none }
def ParkTurnsWrongFalsely : Prop := parkTurnsRow.holds Try.pinned (OpenSpec.ofChange parkTurnsWrong)

/-- 'commutatorlaw20.ParkLoss': WHATEVER THE INPUT: true; the input reads as it did. -/
def parkLossSpec : ChangeSpec := { name := "parkLoss", fn := fun _ => fun
  | [d1, d2] => { results := [.lit (.bool true)], args := [d1, d2] }
  | _ => none }
def parkLossRow : OpenClaim := { program := "ytdkneeglkbbnlaa", sum := "7dad61222b7fbb96a289a40793886a91874812356fbae0541ea57e8130e3fa13", func := "commutator/commutatorlaw20.ParkLoss", spec := "parkLoss", apart := false }
def ParkLossSaid : Prop := parkLossRow.holds Try.pinned (OpenSpec.ofChange parkLossSpec)

/-- ITS FALSE NEIGHBOUR: 'it returns false'. Refute it at one input. -/
def parkLossWrong : ChangeSpec := { name := "parkLoss", fn := fun _ => fun
  | [d1, d2] => { results := [.lit (.bool false)], args := [d1, d2] }
  | _ => none }
def ParkLossWrongFalsely : Prop := parkLossRow.holds Try.pinned (OpenSpec.ofChange parkLossWrong)

/-- 'commutatorlaw20.ParkShorter': WHATEVER THE INPUT: true; the input reads as it did. -/
def parkShorterSpec : ChangeSpec := { name := "parkShorter", fn := fun _ => fun
  | [d1, d2, d3] => { results := [.lit (.bool true)], args := [d1, d2, d3] }
  | _ => none }
def parkShorterRow : OpenClaim := { program := "ytdkneeglkbbnlaa", sum := "7dad61222b7fbb96a289a40793886a91874812356fbae0541ea57e8130e3fa13", func := "commutator/commutatorlaw20.ParkShorter", spec := "parkShorter", apart := false }
def ParkShorterSaid : Prop := parkShorterRow.holds Try.pinned (OpenSpec.ofChange parkShorterSpec)

/-- ITS FALSE NEIGHBOUR: 'it returns false'. Refute it at one input. -/
def parkShorterWrong : ChangeSpec := { name := "parkShorter", fn := fun _ => fun
  | [d1, d2, d3] => { results := [.lit (.bool false)], args := [d1, d2, d3] }
  | _ => none }
def ParkShorterWrongFalsely : Prop := parkShorterRow.holds Try.pinned (OpenSpec.ofChange parkShorterWrong)

/-- 'commutatorlaw20.ParkQuarters': WHATEVER THE INPUT: true; the input reads as it did. -/
def parkQuartersSpec : ChangeSpec := { name := "parkQuarters", fn := fun _ => fun
  | [d1, d2, d3] => { results := [.lit (.bool true)], args := [d1, d2, d3] }
  | _ => none }
def parkQuartersRow : OpenClaim := { program := "ytdkneeglkbbnlaa", sum := "7dad61222b7fbb96a289a40793886a91874812356fbae0541ea57e8130e3fa13", func := "commutator/commutatorlaw20.ParkQuarters", spec := "parkQuarters", apart := false }
def ParkQuartersSaid : Prop := parkQuartersRow.holds Try.pinned (OpenSpec.ofChange parkQuartersSpec)

/-- ITS FALSE NEIGHBOUR: 'it returns false'. Refute it at one input. -/
def parkQuartersWrong : ChangeSpec := { name := "parkQuarters", fn := fun _ => fun
  | [d1, d2, d3] => { results := [.lit (.bool false)], args := [d1, d2, d3] }
  | _ => none }
def ParkQuartersWrongFalsely : Prop := parkQuartersRow.holds Try.pinned (OpenSpec.ofChange parkQuartersWrong)

/-- 'commutatorlaw20.ParkSums': WHATEVER THE INPUT: true; the input reads as it did. -/
def parkSumsSpec : ChangeSpec := { name := "parkSums", fn := fun _ => fun
  | [d1, d2, d3] => { results := [.lit (.bool true)], args := [d1, d2, d3] }
  | _ => none }
def parkSumsRow : OpenClaim := { program := "ytdkneeglkbbnlaa", sum := "7dad61222b7fbb96a289a40793886a91874812356fbae0541ea57e8130e3fa13", func := "commutator/commutatorlaw20.ParkSums", spec := "parkSums", apart := false }
def ParkSumsSaid : Prop := parkSumsRow.holds Try.pinned (OpenSpec.ofChange parkSumsSpec)

/-- ITS FALSE NEIGHBOUR: 'it returns false'. Refute it at one input. -/
def parkSumsWrong : ChangeSpec := { name := "parkSums", fn := fun _ => fun
  | [d1, d2, d3] => { results := [.lit (.bool false)], args := [d1, d2, d3] }
  | _ => none }
def ParkSumsWrongFalsely : Prop := parkSumsRow.holds Try.pinned (OpenSpec.ofChange parkSumsWrong)

/-- 'commutatorlaw20.ParkDots': WHATEVER THE INPUT: true; the input reads as it did. -/
def parkDotsSpec : ChangeSpec := { name := "parkDots", fn := fun _ => fun
  | [d1, d2, d3] => { results := [.lit (.bool true)], args := [d1, d2, d3] }
  | _ => none }
def parkDotsRow : OpenClaim := { program := "ytdkneeglkbbnlaa", sum := "7dad61222b7fbb96a289a40793886a91874812356fbae0541ea57e8130e3fa13", func := "commutator/commutatorlaw20.ParkDots", spec := "parkDots", apart := false }
def ParkDotsSaid : Prop := parkDotsRow.holds Try.pinned (OpenSpec.ofChange parkDotsSpec)

/-- ITS FALSE NEIGHBOUR: 'it returns false'. Refute it at one input. -/
def parkDotsWrong : ChangeSpec := { name := "parkDots", fn := fun _ => fun
  | [d1, d2, d3] => { results := [.lit (.bool false)], args := [d1, d2, d3] }
  | _ => none }
def ParkDotsWrongFalsely : Prop := parkDotsRow.holds Try.pinned (OpenSpec.ofChange parkDotsWrong)

/-- 'commutatorlaw20.ParkParks': WHATEVER THE INPUT: true; the input reads as it did. -/
def parkParksSpec : ChangeSpec := { name := "parkParks", fn := fun _ => fun
  | [d1, d2, d3] => { results := [.lit (.bool true)], args := [d1, d2, d3] }
  | _ => none }
def parkParksRow : OpenClaim := { program := "ytdkneeglkbbnlaa", sum := "7dad61222b7fbb96a289a40793886a91874812356fbae0541ea57e8130e3fa13", func := "commutator/commutatorlaw20.ParkParks", spec := "parkParks", apart := false }
def ParkParksSaid : Prop := parkParksRow.holds Try.pinned (OpenSpec.ofChange parkParksSpec)

/-- ITS FALSE NEIGHBOUR: 'it returns false'. Refute it at one input. -/
def parkParksWrong : ChangeSpec := { name := "parkParks", fn := fun _ => fun
  | [d1, d2, d3] => { results := [.lit (.bool false)], args := [d1, d2, d3] }
  | _ => none }
def ParkParksWrongFalsely : Prop := parkParksRow.holds Try.pinned (OpenSpec.ofChange parkParksWrong)

/-- 'commutatorlaw20.ParkThere': WHATEVER THE INPUT: true; the input reads as it did. -/
def parkThereSpec : ChangeSpec := { name := "parkThere", fn := fun _ => fun
  | [d1, d2, d3] => { results := [.lit (.bool true)], args := [d1, d2, d3] }
  | _ => none }
def parkThereRow : OpenClaim := { program := "ytdkneeglkbbnlaa", sum := "7dad61222b7fbb96a289a40793886a91874812356fbae0541ea57e8130e3fa13", func := "commutator/commutatorlaw20.ParkThere", spec := "parkThere", apart := false }
def ParkThereSaid : Prop := parkThereRow.holds Try.pinned (OpenSpec.ofChange parkThereSpec)

/-- ITS FALSE NEIGHBOUR: 'it returns false'. Refute it at one input. -/
def parkThereWrong : ChangeSpec := { name := "parkThere", fn := fun _ => fun
  | [d1, d2, d3] => { results := [.lit (.bool false)], args := [d1, d2, d3] }
  | _ => none }
def ParkThereWrongFalsely : Prop := parkThereRow.holds Try.pinned (OpenSpec.ofChange parkThereWrong)

/- THE SECOND FORM. 'bulk': how many values and letters a reading holds, each counted each time it is reached (what is shared counts as often as it is met; a slice's spare places count too). A statement '..UptoSaid' is the law's where the arguments, and the package variables that the reading takes, are together of bulk at most 1048576: NARROWER than '..Said'. Prove '..Said' where nothing that the law and all that it calls make is longer than what came in: it says more and counts as full. Else prove '..UptoSaid'. A law counts once. -/
mutual
def uptoBulk {H : Type} : DataW H → Nat
  | .lit (.string bytes) => bytes.length + 1
  | .lit _ => 1
  | .nil => 1
  | .ptr d => uptoBulk d + 1
  | .slice elems spare => uptoBulkAll elems + uptoBulkAll spare + 1
  | .agg parts => uptoBulkAll parts + 1
  | .iface _ d => uptoBulk d + 1
  | .map entries => uptoBulkEntries entries + 1
  | .held _ => 1
def uptoBulkAll {H : Type} : List (DataW H) → Nat
  | [] => 0
  | d :: r => uptoBulk d + uptoBulkAll r
def uptoBulkEntries {H : Type} : List (Lit × DataW H) → Nat
  | [] => 0
  | x :: r => uptoBulkEntry x + uptoBulkEntries r
def uptoBulkEntry {H : Type} : Lit × DataW H → Nat
  | (.string bytes, d) => bytes.length + uptoBulk d + 1
  | (_, d) => uptoBulk d + 1
 end
def uptoSmall : (H : Type) → List (DataW H) → Bool := fun _ ds => decide (uptoBulkAll ds ≤ 1048576)
def OpenSpec.upto (s : _root_.Go.ChangeSpec) : _root_.Go.OpenSpec := { _root_.Go.OpenSpec.ofChange s with cond := some uptoSmall }

/-- 'commutatorlaw20.ParkTurns', WHERE WHAT IT READS IS OF BULK AT MOST 1048576: true; the input reads as it did. -/
def parkTurnsUptoRow : OpenClaim := { program := "ytdkneeglkbbnlaa", sum := "7dad61222b7fbb96a289a40793886a91874812356fbae0541ea57e8130e3fa13", func := "commutator/commutatorlaw20.ParkTurns", spec := "parkTurns", apart := false, narrowed := true }
def ParkTurnsUptoSaid : Prop := parkTurnsUptoRow.holds Try.pinned (OpenSpec.upto parkTurnsSpec)

/-- 'commutatorlaw20.ParkLoss', WHERE WHAT IT READS IS OF BULK AT MOST 1048576: true; the input reads as it did. -/
def parkLossUptoRow : OpenClaim := { program := "ytdkneeglkbbnlaa", sum := "7dad61222b7fbb96a289a40793886a91874812356fbae0541ea57e8130e3fa13", func := "commutator/commutatorlaw20.ParkLoss", spec := "parkLoss", apart := false, narrowed := true }
def ParkLossUptoSaid : Prop := parkLossUptoRow.holds Try.pinned (OpenSpec.upto parkLossSpec)

/-- 'commutatorlaw20.ParkShorter', WHERE WHAT IT READS IS OF BULK AT MOST 1048576: true; the input reads as it did. -/
def parkShorterUptoRow : OpenClaim := { program := "ytdkneeglkbbnlaa", sum := "7dad61222b7fbb96a289a40793886a91874812356fbae0541ea57e8130e3fa13", func := "commutator/commutatorlaw20.ParkShorter", spec := "parkShorter", apart := false, narrowed := true }
def ParkShorterUptoSaid : Prop := parkShorterUptoRow.holds Try.pinned (OpenSpec.upto parkShorterSpec)

/-- 'commutatorlaw20.ParkQuarters', WHERE WHAT IT READS IS OF BULK AT MOST 1048576: true; the input reads as it did. -/
def parkQuartersUptoRow : OpenClaim := { program := "ytdkneeglkbbnlaa", sum := "7dad61222b7fbb96a289a40793886a91874812356fbae0541ea57e8130e3fa13", func := "commutator/commutatorlaw20.ParkQuarters", spec := "parkQuarters", apart := false, narrowed := true }
def ParkQuartersUptoSaid : Prop := parkQuartersUptoRow.holds Try.pinned (OpenSpec.upto parkQuartersSpec)

/-- 'commutatorlaw20.ParkSums', WHERE WHAT IT READS IS OF BULK AT MOST 1048576: true; the input reads as it did. -/
def parkSumsUptoRow : OpenClaim := { program := "ytdkneeglkbbnlaa", sum := "7dad61222b7fbb96a289a40793886a91874812356fbae0541ea57e8130e3fa13", func := "commutator/commutatorlaw20.ParkSums", spec := "parkSums", apart := false, narrowed := true }
def ParkSumsUptoSaid : Prop := parkSumsUptoRow.holds Try.pinned (OpenSpec.upto parkSumsSpec)

/-- 'commutatorlaw20.ParkDots', WHERE WHAT IT READS IS OF BULK AT MOST 1048576: true; the input reads as it did. -/
def parkDotsUptoRow : OpenClaim := { program := "ytdkneeglkbbnlaa", sum := "7dad61222b7fbb96a289a40793886a91874812356fbae0541ea57e8130e3fa13", func := "commutator/commutatorlaw20.ParkDots", spec := "parkDots", apart := false, narrowed := true }
def ParkDotsUptoSaid : Prop := parkDotsUptoRow.holds Try.pinned (OpenSpec.upto parkDotsSpec)

/-- 'commutatorlaw20.ParkParks', WHERE WHAT IT READS IS OF BULK AT MOST 1048576: true; the input reads as it did. -/
def parkParksUptoRow : OpenClaim := { program := "ytdkneeglkbbnlaa", sum := "7dad61222b7fbb96a289a40793886a91874812356fbae0541ea57e8130e3fa13", func := "commutator/commutatorlaw20.ParkParks", spec := "parkParks", apart := false, narrowed := true }
def ParkParksUptoSaid : Prop := parkParksUptoRow.holds Try.pinned (OpenSpec.upto parkParksSpec)

/-- 'commutatorlaw20.ParkThere', WHERE WHAT IT READS IS OF BULK AT MOST 1048576: true; the input reads as it did. -/
def parkThereUptoRow : OpenClaim := { program := "ytdkneeglkbbnlaa", sum := "7dad61222b7fbb96a289a40793886a91874812356fbae0541ea57e8130e3fa13", func := "commutator/commutatorlaw20.ParkThere", spec := "parkThere", apart := false, narrowed := true }
def ParkThereUptoSaid : Prop := parkThereUptoRow.holds Try.pinned (OpenSpec.upto parkThereSpec)

end Rows
end Go.Proofs.Ytdkneeglkbbnlaa
