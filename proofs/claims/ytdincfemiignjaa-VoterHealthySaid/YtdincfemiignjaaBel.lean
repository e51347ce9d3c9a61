/- 'Bel w w': what was there stays: the chain of worlds in a walk. -/
import Derived.WalkKit
import Derived.Deep.QuietTactic
import Derived.BigQuiet
namespace Go.Proofs.Ytdincfemiignjaa
open Go.RowKit
def Bel (w w' : World) : Prop := Below w.heap.size w w'
theorem Bel.refl (w : World) : Bel w w := Below.refl _ _
theorem Bel.trans {a b c : World} (h : Bel a b) (g : Bel b c) : Bel a c := Below.trans h (Below.mono g (Below.size h))
theorem Bel.alloc {a b : World} (h : Bel a b) (o : Obj) : Bel a (b.alloc o) := Below.alloc h (Below.size h) o
theorem Bel.drew {a b : World} (h : Bel a b) : Bel a b.drew := Below.drew h
theorem Bel.drewN {a b : World} (h : Bel a b) (n : Nat) : Bel a (b.drewN n) := by
  have h' : Below a.heap.size a b := h
  exact ⟨h'.os, h'.tape, h'.output, h'.size, h'.block⟩
theorem Bel.setCell {a b : World} (h : Bel a b) {p : Addr} (hp : a.heap.size ≤ p.block) (u : Value) : Bel a (b.setCell p u) := Below.setCell h hp u
/-- A contract over a chain of worlds. -/
theorem on_bel {P : Program} {f : FuncId} {args : Array Value} {w0 w : World} {r : Ending} (hb : Bel w0 w) (h : Calls P f args w fun e w' => e = r ∧ Bel w w') : Calls P f args w fun e w' => e = r ∧ Bel w0 w' :=
  h.mono fun _ _ ⟨he, hg⟩ => ⟨he, hb.trans hg⟩
end Go.Proofs.Ytdincfemiignjaa
