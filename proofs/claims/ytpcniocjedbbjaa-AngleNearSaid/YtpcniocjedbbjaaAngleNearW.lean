/- The walk of the law AngleNear. -/
import Derived.Test.YtpcniocjedbbjaaAngA
import Derived.Test.YtpcniocjedbbjaaAngW2
import Derived.Test.YtpcniocjedbbjaaRowAt
namespace Go.Proofs.Ytpcniocjedbbjaa
open Go.RowKit
set_option linter.unusedVariables false

theorem near_1 (P d : Int) (h : -32768 ≤ d ∧ d ≤ 32767) : dif (nrm (P + d)) P = d := by unfold nrm dif; omega

set_option maxHeartbeats 1000000 in
theorem angleNear_walk (a0 : Int) (a1 : Option Addr) (len1 cap1 : Nat) (D1 : Nat → List Value) (w : World) (w0 : (Lit.int .i64 a0).wf = true) (r1 : IsRows [some .i16] w a1 len1 cap1 D1) :
    Calls Try.prog 7 #[.int .i64 a0, .slice a1 len1 cap1] w fun e w' => e = .returned (.bool true) ∧ Below w.heap.size w w' := by
  obtain ⟨hl, hm⟩ := rows_nil r1
  unfold maxLen at hm
  by_cases hlen : 1000 < len1
  · have hR := hide r1
    clear r1
    go_enter Try.func7, Try.ntmps7
    go_wp2_with (first | (go_at_call 13; (with_reducible refine (awake_true _).mono ?_); rintro e w' ⟨rfl, rfl⟩))
    go_returns
    exact ⟨rfl, Below.refl _ _⟩
  · have hlen' : len1 ≤ 1000 := by omega
    clear hlen
    have bA := clp_bd a0 (-1125899906842624) 1125899906842624 (by omega)
    obtain ⟨A, hA⟩ : ∃ A, clp a0 (-1125899906842624) 1125899906842624 = A := ⟨_, rfl⟩
    rw [hA] at bA
    have hR := hide r1
    clear r1
    go_enter Try.func7, Try.ntmps7
    go_wp2_with (first | (go_at_call 13; (with_reducible refine (awake_true _).mono ?_); rintro e w' ⟨rfl, rfl⟩) | (go_at_call 16; (with_reducible refine (clip_any _ _ _ _).mono ?_); rintro e w' ⟨rfl, rfl⟩))
    go_loop [0, 5, 24] (fun p t i => ∃ (k : Nat) (P : Int), k ≤ len1 ∧ i = .int .i64 k ∧ p = .int .i64 P ∧ t = .int .i64 P ∧ -1125899906842624 - 32768 * (k : Int) ≤ P ∧ P ≤ 1125899906842624 + 32768 * (k : Int)) (fun _ _ i => len1 - (intOf i).toNat)
    case atStart => exact ⟨0, A, Nat.zero_le _, rfl, rfl, rfl, by omega, by omega⟩
    case round =>
      obtain ⟨k, P, hk, rfl, rfl, rfl, hp1, hp2⟩ := hrel
      by_cases hlt : k < len1
      · obtain ⟨b, off, rfl, hc⟩ := rows_ints hR.out (by omega)
        obtain ⟨hc1, hw1⟩ := hc k hlt
        have hb1 := bounds_i16 hw1
        clear hc hw1 hR
        obtain ⟨d, hd⟩ : ∃ d, num1 (D1 k) = d := ⟨_, rfl⟩
        rw [hd] at hc1 hb1
        clear hd
        have e1 := near_1 P d hb1
        have e2 : posB P = true := posB_mk (by omega)
        go_wp2_with (first | (go_at_call 13; (with_reducible refine (awake_true _).mono ?_); rintro e w' ⟨rfl, rfl⟩) | (go_at_call 17; (with_reducible refine (norm_any _ _).mono ?_); rintro e w' ⟨rfl, rfl⟩) | (go_at_call 20; (with_reducible refine (unwrap_in _ _ (by assumption) _).mono ?_); rintro e w' ⟨rfl, rfl⟩))
        go_round
        case rel => exact ⟨k + 1, P + d, by omega, by go_num, by go_num, by go_num, by omega, by omega⟩
        case measure => simp [intOf]; omega
      · go_wp2
        go_returns
        exact ⟨rfl, Below.refl _ _⟩
end Go.Proofs.Ytpcniocjedbbjaa
