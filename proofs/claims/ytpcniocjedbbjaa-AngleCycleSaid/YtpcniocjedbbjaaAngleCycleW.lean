/- The walk of the law AngleCycle. -/
import Derived.Test.YtpcniocjedbbjaaAngA
import Derived.Test.YtpcniocjedbbjaaAngW2
import Derived.Test.YtpcniocjedbbjaaFlat
namespace Go.Proofs.Ytpcniocjedbbjaa
open Go.RowKit
set_option linter.unusedVariables false

theorem cyc_1 (A X : Int) : nrm (A + X * 65536) = nrm A := by unfold nrm; omega
theorem cyc_2 (A B X : Int) : dif (A + X * 65536) B = dif A B := by unfold dif; omega
theorem cyc_3 (A B : Int) : nrm (B + dif A B) = nrm A := by unfold nrm dif; omega
theorem cyc_4 (A B X : Int) : dif (A + X) (B + X) = dif A B := by unfold dif; omega
theorem cyc_5 (A B : Int) (h : dif A B ≠ -32768) : dif B A = -dif A B := by unfold dif at *; omega

theorem angleCycle_walk (a0 : Int) (a1 : Int) (a2 : Int) (w : World) (w0 : (Lit.int .i64 a0).wf = true) (w1 : (Lit.int .i64 a1).wf = true) (w2 : (Lit.int .i64 a2).wf = true) :
    Calls Try.prog 4 #[.int .i64 a0, .int .i64 a1, .int .i64 a2] w fun e w' => e = .returned (.bool true) ∧ Below w.heap.size w w' := by
  have bA := clp_bd a0 (-1152921504606846976) 1152921504606846976 (by omega)
  have bB := clp_bd a1 (-1152921504606846976) 1152921504606846976 (by omega)
  have bX := clp_bd a2 (-1099511627776) 1099511627776 (by omega)
  obtain ⟨A, hA⟩ : ∃ A, clp a0 (-1152921504606846976) 1152921504606846976 = A := ⟨_, rfl⟩
  obtain ⟨B, hB⟩ : ∃ B, clp a1 (-1152921504606846976) 1152921504606846976 = B := ⟨_, rfl⟩
  obtain ⟨X, hX⟩ : ∃ X, clp a2 (-1099511627776) 1099511627776 = X := ⟨_, rfl⟩
  rw [hA] at bA
  rw [hB] at bB
  rw [hX] at bX
  have n1 := nrm_bd A
  have n2 := dif_bd A B
  have e1 := cyc_1 A X
  have e2 := cyc_2 A B X
  have e3 := cyc_3 A B
  have e4 := cyc_4 A B X
  by_cases h : dif A B = -32768
  · have hb : (dif A B == -32768) = true := by simpa using h
    clear h
    go_enter Try.func4, Try.ntmps4
    go_wp2_with (first | (go_at_call 13; (with_reducible refine (awake_true _).mono ?_); rintro e w' ⟨rfl, rfl⟩) | (go_at_call 16; (with_reducible refine (clip_any _ _ _ _).mono ?_); rintro e w' ⟨rfl, rfl⟩) | (go_at_call 17; (with_reducible refine (norm_any _ _).mono ?_); rintro e w' ⟨rfl, rfl⟩) | (go_at_call 18; (with_reducible refine (diff_any _ _ _).mono ?_); rintro e w' ⟨rfl, rfl⟩))
    go_returns
    exact ⟨rfl, Below.refl _ _⟩
  · have hb : (dif A B == -32768) = false := by simpa using h
    have e5 := cyc_5 A B h
    clear h
    go_enter Try.func4, Try.ntmps4
    go_wp2_with (first | (go_at_call 13; (with_reducible refine (awake_true _).mono ?_); rintro e w' ⟨rfl, rfl⟩) | (go_at_call 16; (with_reducible refine (clip_any _ _ _ _).mono ?_); rintro e w' ⟨rfl, rfl⟩) | (go_at_call 17; (with_reducible refine (norm_any _ _).mono ?_); rintro e w' ⟨rfl, rfl⟩) | (go_at_call 18; (with_reducible refine (diff_any _ _ _).mono ?_); rintro e w' ⟨rfl, rfl⟩))
    go_returns
    exact ⟨rfl, Below.refl _ _⟩
end Go.Proofs.Ytpcniocjedbbjaa
