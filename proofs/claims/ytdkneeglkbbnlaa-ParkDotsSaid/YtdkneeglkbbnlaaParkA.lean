/- awake of chapter 20: the document's examples. -/
import Derived.Test.YtdkneeglkbbnlaaParkW
namespace Go.Proofs.Ytdkneeglkbbnlaa
open Go.RowKit

theorem awake_true (w0 w : World) (hb : Bel w0 w) : Calls Try.prog 11 #[] w fun e w' => e = .returned (.bool true) ∧ Bel w0 w' := by
  have h1 : prkB 1000 0 = true := by decide
  have h2 : prkB 707 707 = true := by decide
  have h3 : losB 0 = true := by decide
  have e1 : tu 1000 0 8192 = 707 := by decide +kernel
  have e2 : tv 1000 0 8192 = 707 := by decide +kernel
  have e3 : tu 707 707 (-nrm 8192) = 999 := by decide +kernel
  have e4 : tv 707 707 (-nrm 8192) = 0 := by decide +kernel
  have e5 : los 0 = 3 := by decide
  go_enter Try.func11, Try.ntmps11
  go_wp2_with (first | (go_at_call 12; (with_reducible refine (turn_in _ _ _ (by assumption) _ _ (by assumption)).mono ?_); rintro e w' ⟨rfl, hb⟩) | (go_at_call 19; (with_reducible refine (park_in _ _ _ (by assumption) _ _ (by assumption)).mono ?_); rintro e w' ⟨rfl, hb⟩) | (go_at_call 15; (with_reducible refine (loss_in _ (by assumption) _).mono ?_); rintro e w' ⟨rfl, rfl⟩))
  go_returns
  exact ⟨rfl, by assumption⟩
end Go.Proofs.Ytdkneeglkbbnlaa
