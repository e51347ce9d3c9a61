/- Quiet calls behind a drawn region. -/
import Derived.Test.YtdincfemiignjaaQui
namespace Go.Proofs.Ytdincfemiignjaa
open Go.RowKit
theorem quiet_eq2 {P : Program} {f : FuncId} {args : Array Value} {w : World} {a n : Nat} {v : Value}
    (h : Calls P f args (w.drewN (a + n)) fun e w' => e = .returned v ∧ w.drewN (a + n) = w') : Calls P f args (w.drewN (a + n)) fun e w'' => e = .returned v ∧ ∃ m, w'' = w.drewN (a + m) :=
  h.mono fun _ _ ⟨he, hm⟩ => ⟨he, n, hm.symm⟩
end Go.Proofs.Ytdincfemiignjaa
