/- awake of chapter 05: the document's examples. -/
import Derived.Test.YtpcniocjedbbjaaAngW
namespace Go.Proofs.Ytpcniocjedbbjaa
open Go.RowKit

theorem awake_true (w : World) : Calls Try.prog 13 #[] w fun e w' => e = .returned (.bool true) ∧ w = w' := by
  have e1 : mid 65530 10 4 = 4 := by decide
  have e2 : midB 65530 10 4 = true := by decide
  have e3 : dif 10 65530 = 16 := by decide
  have e4 : dif 32768 0 = -32768 := by decide
  have e5 : dif 100 131000 = 172 := by decide
  have e6 : posB 131000 = true := by decide
  go_enter Try.func13, Try.ntmps13
  go_wp2_with (first | (go_at_call 14; refine (middle_any _ _ _ _).mono ?_; rintro e w' ⟨rfl, rfl⟩) | (go_at_call 20; refine (unwrap_in _ _ (by assumption) _).mono ?_; rintro e w' ⟨rfl, rfl⟩) | (go_at_call 18; refine (diff_any _ _ _).mono ?_; rintro e w' ⟨rfl, rfl⟩))
  go_returns
  exact ⟨rfl, rfl⟩
end Go.Proofs.Ytpcniocjedbbjaa
