/- The walk of the law AngleWithin. -/
import Derived.Test.YtpcniocjedbbjaaAngA
import Derived.Test.YtpcniocjedbbjaaAngW2
import Derived.Test.YtpcniocjedbbjaaFlat
namespace Go.Proofs.Ytpcniocjedbbjaa
open Go.RowKit
set_option linter.unusedVariables false

theorem wth_both {a f t : Int} (h : wth a f t = false) (g : wth a t f = false) : dif f t = 0 := by
  simp only [wth, decide_eq_false_iff_not] at h g
  unfold nrm at h g
  unfold dif
  omega

theorem angleWithin_walk (a0 : Int) (a1 : Int) (a2 : Int) (w : World) (w0 : (Lit.int .i64 a0).wf = true) (w1 : (Lit.int .i64 a1).wf = true) (w2 : (Lit.int .i64 a2).wf = true) :
    Calls Try.prog 9 #[.int .i64 a0, .int .i64 a1, .int .i64 a2] w fun e w' => e = .returned (.bool true) ∧ Below w.heap.size w w' := by
  by_cases h1 : wth a0 a1 a2 = true
  · go_enter Try.func9, Try.ntmps9
    go_wp2_with (first | (go_at_call 13; refine (awake_true _).mono ?_; rintro e w' ⟨rfl, rfl⟩) | (go_at_call 26; refine (within_any _ _ _ _).mono ?_; rintro e w' ⟨rfl, rfl⟩) | (go_at_call 27; refine (rwithin_any _ _ _ _).mono ?_; rintro e w' ⟨rfl, rfl⟩) | (go_at_call 18; refine (diff_any _ _ _).mono ?_; rintro e w' ⟨rfl, rfl⟩))
    go_returns
    exact ⟨rfl, Below.refl _ _⟩
  · have h1' : wth a0 a1 a2 = false := by simpa using h1
    clear h1
    by_cases h2 : wth a0 a2 a1 = true
    · go_enter Try.func9, Try.ntmps9
      go_wp2_with (first | (go_at_call 13; refine (awake_true _).mono ?_; rintro e w' ⟨rfl, rfl⟩) | (go_at_call 26; refine (within_any _ _ _ _).mono ?_; rintro e w' ⟨rfl, rfl⟩) | (go_at_call 27; refine (rwithin_any _ _ _ _).mono ?_; rintro e w' ⟨rfl, rfl⟩) | (go_at_call 18; refine (diff_any _ _ _).mono ?_; rintro e w' ⟨rfl, rfl⟩))
      go_returns
      exact ⟨rfl, Below.refl _ _⟩
    · have h2' : wth a0 a2 a1 = false := by simpa using h2
      clear h2
      have h3 := wth_both h1' h2'
      go_enter Try.func9, Try.ntmps9
      go_wp2_with (first | (go_at_call 13; refine (awake_true _).mono ?_; rintro e w' ⟨rfl, rfl⟩) | (go_at_call 26; refine (within_any _ _ _ _).mono ?_; rintro e w' ⟨rfl, rfl⟩) | (go_at_call 27; refine (rwithin_any _ _ _ _).mono ?_; rintro e w' ⟨rfl, rfl⟩) | (go_at_call 18; refine (diff_any _ _ _).mono ?_; rintro e w' ⟨rfl, rfl⟩))
      go_returns
      exact ⟨rfl, Below.refl _ _⟩
end Go.Proofs.Ytpcniocjedbbjaa
