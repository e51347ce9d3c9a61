/- awake of chapter 06: the document's examples. -/
import Derived.Test.YteplclbjiaamlaaSinW
import Derived.Test.YteplclbjiaamlaaSinR
import Derived.Test.YteplclbjiaamlaaBase
namespace Go.Proofs.Yteplclbjiaamlaa
open Go.RowKit

theorem awake_true (w0 w : World) (hb : Bel w0 w) : Calls Try.prog 11 #[] w fun e w' => e = .returned (.bool true) ∧ Bel w0 w' := by
  have e1 : bc 128 = 32763 := by decide +kernel
  have e2 : bs 128 = 402 := by decide +kernel
  have e3 : bs 8192 = 23170 := by decide +kernel
  have e4 : bc 32768 = -32768 := by decide +kernel
  have e5 : bs (-1) = -3 := by decide +kernel
  go_enter Try.func11, Try.ntmps11
  go_wp2_with (first | (go_at_call 12; (with_reducible refine (both_any _ _ _ (by assumption)).mono ?_); rintro e w' ⟨rfl, hb⟩) | (go_at_call 15; (with_reducible refine (sin_any _ _ _ (by assumption)).mono ?_); rintro e w' ⟨rfl, hb⟩) | (go_at_call 14; (with_reducible refine (cos_any _ _ _ (by assumption)).mono ?_); rintro e w' ⟨rfl, hb⟩))
  go_returns
  exact ⟨rfl, by assumption⟩
end Go.Proofs.Yteplclbjiaamlaa
