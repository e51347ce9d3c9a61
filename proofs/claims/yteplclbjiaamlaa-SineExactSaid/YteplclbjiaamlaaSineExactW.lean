/- The walk of the law SineExact. -/
import Derived.Test.YteplclbjiaamlaaSinA
import Derived.Test.YteplclbjiaamlaaMax
import Derived.Test.YteplclbjiaamlaaExaW
import Derived.Test.YteplclbjiaamlaaFlat
namespace Go.Proofs.Yteplclbjiaamlaa
open Go.RowKit
set_option linter.unusedVariables false

set_option maxHeartbeats 1000000 in
theorem sineExact_walk (a0 : Int) (w : World) (w0 : (Lit.int .i64 a0).wf = true) :
    Calls Try.prog 6 #[.int .i64 a0] w fun e w' => e = .returned (.bool true) ∧ Below w.heap.size w w' := by
  have hb := Bel.refl w
  have hn := nrm_bd a0
  have b1 := b_bd a0
  rcases (show nrm a0 / 16384 = 0 ∨ nrm a0 / 16384 = 1 ∨ nrm a0 / 16384 = 2 ∨ nrm a0 / 16384 = 3 by omega) with hq | hq | hq | hq
  · have bn : 0 ≤ nrm a0 ∧ nrm a0 < 16384 := by omega
    have hs : bs a0 = (sn (nrm a0 % 16384).toNat : Int) := by
      unfold bs s0
      rw [if_neg (by omega), if_neg (by omega), if_neg (by omega)]
    obtain ⟨-, g1, g2⟩ := exa_at (nrm a0 % 16384).toNat (by omega)
    have g3 := sn_bd (nrm a0 % 16384).toNat
    have g4 : (sn (nrm a0 % 16384).toNat : Int) ≤ 32768 := by have := bd_r (nrm a0 % 16384).toNat (by omega); omega
    have g5 : -4096 < exV (nrm a0 % 16384).toNat - (sn (nrm a0 % 16384).toNat : Int) * 32768 := by omega
    have g6 : exV (nrm a0 % 16384).toNat - (sn (nrm a0 % 16384).toNat : Int) * 32768 < 163840 := by omega
    clear g1 g2 hn hq
    go_enter Try.func6, Try.ntmps6
    go_wp2_with (first | (go_at_call 11; (with_reducible refine (awake_true _ _ (by assumption)).mono ?_); rintro e w' ⟨rfl, hb⟩) | (go_at_call 19; (with_reducible refine (rnorm_any _ _).mono ?_); rintro e w' ⟨rfl, rfl⟩) | (go_at_call 20; (with_reducible refine (exact_any _ (by omega) _).mono ?_); rintro e w' ⟨rfl, rfl⟩) | (go_at_call 15; (with_reducible refine (sin_any _ _ _ (by assumption)).mono ?_); rintro e w' ⟨rfl, hb⟩))
    go_returns
    exact ⟨rfl, (show Bel _ _ from by assumption)⟩
  · have bn : 16384 ≤ nrm a0 ∧ nrm a0 < 32768 := by omega
    have hs : bs a0 = (sn (16384 - nrm a0 % 16384).toNat : Int) := by
      have hm := (mirror_r (nrm a0 % 16384).toNat (by omega)).1
      have he : 16384 - (nrm a0 % 16384).toNat = (16384 - nrm a0 % 16384).toNat := by omega
      rw [he] at hm
      rw [hm]
      unfold bs c0
      rw [if_pos (by omega)]
    obtain ⟨-, g1, g2⟩ := exa_at (16384 - nrm a0 % 16384).toNat (by omega)
    have g3 := sn_bd (16384 - nrm a0 % 16384).toNat
    have g4 : (sn (16384 - nrm a0 % 16384).toNat : Int) ≤ 32768 := by have hm := (mirror_r (nrm a0 % 16384).toNat (by omega)).1; have he : 16384 - (nrm a0 % 16384).toNat = (16384 - nrm a0 % 16384).toNat := (by omega); rw [he] at hm; rw [hm]; have := bd_r (nrm a0 % 16384).toNat (by omega); omega
    have g5 : -4096 < exV (16384 - nrm a0 % 16384).toNat - (sn (16384 - nrm a0 % 16384).toNat : Int) * 32768 := by omega
    have g6 : exV (16384 - nrm a0 % 16384).toNat - (sn (16384 - nrm a0 % 16384).toNat : Int) * 32768 < 163840 := by omega
    clear g1 g2 hn hq
    go_enter Try.func6, Try.ntmps6
    go_wp2_with (first | (go_at_call 11; (with_reducible refine (awake_true _ _ (by assumption)).mono ?_); rintro e w' ⟨rfl, hb⟩) | (go_at_call 19; (with_reducible refine (rnorm_any _ _).mono ?_); rintro e w' ⟨rfl, rfl⟩) | (go_at_call 20; (with_reducible refine (exact_any _ (by omega) _).mono ?_); rintro e w' ⟨rfl, rfl⟩) | (go_at_call 15; (with_reducible refine (sin_any _ _ _ (by assumption)).mono ?_); rintro e w' ⟨rfl, hb⟩))
    go_returns
    exact ⟨rfl, (show Bel _ _ from by assumption)⟩
  · have bn : 32768 ≤ nrm a0 ∧ nrm a0 < 49152 := by omega
    have hs : bs a0 = -(sn (nrm a0 % 16384).toNat : Int) := by
      unfold bs s0
      rw [if_neg (by omega), if_pos (by omega)]
    obtain ⟨-, g1, g2⟩ := exa_at (nrm a0 % 16384).toNat (by omega)
    have g3 := sn_bd (nrm a0 % 16384).toNat
    have g4 : (sn (nrm a0 % 16384).toNat : Int) ≤ 32768 := by have := bd_r (nrm a0 % 16384).toNat (by omega); omega
    have g5 : -4096 < exV (nrm a0 % 16384).toNat - (sn (nrm a0 % 16384).toNat : Int) * 32768 := by omega
    have g6 : exV (nrm a0 % 16384).toNat - (sn (nrm a0 % 16384).toNat : Int) * 32768 < 163840 := by omega
    clear g1 g2 hn hq
    go_enter Try.func6, Try.ntmps6
    go_wp2_with (first | (go_at_call 11; (with_reducible refine (awake_true _ _ (by assumption)).mono ?_); rintro e w' ⟨rfl, hb⟩) | (go_at_call 19; (with_reducible refine (rnorm_any _ _).mono ?_); rintro e w' ⟨rfl, rfl⟩) | (go_at_call 20; (with_reducible refine (exact_any _ (by omega) _).mono ?_); rintro e w' ⟨rfl, rfl⟩) | (go_at_call 15; (with_reducible refine (sin_any _ _ _ (by assumption)).mono ?_); rintro e w' ⟨rfl, hb⟩))
    go_returns
    exact ⟨rfl, (show Bel _ _ from by assumption)⟩
  · have bn : 49152 ≤ nrm a0 ∧ nrm a0 < 65536 := by omega
    have hs : bs a0 = -(sn (16384 - nrm a0 % 16384).toNat : Int) := by
      have hm := (mirror_r (nrm a0 % 16384).toNat (by omega)).1
      have he : 16384 - (nrm a0 % 16384).toNat = (16384 - nrm a0 % 16384).toNat := by omega
      rw [he] at hm
      rw [hm]
      unfold bs c0
      rw [if_neg (by omega), if_neg (by omega), if_pos (by omega)]
    obtain ⟨-, g1, g2⟩ := exa_at (16384 - nrm a0 % 16384).toNat (by omega)
    have g3 := sn_bd (16384 - nrm a0 % 16384).toNat
    have g4 : (sn (16384 - nrm a0 % 16384).toNat : Int) ≤ 32768 := by have hm := (mirror_r (nrm a0 % 16384).toNat (by omega)).1; have he : 16384 - (nrm a0 % 16384).toNat = (16384 - nrm a0 % 16384).toNat := (by omega); rw [he] at hm; rw [hm]; have := bd_r (nrm a0 % 16384).toNat (by omega); omega
    have g5 : -4096 < exV (16384 - nrm a0 % 16384).toNat - (sn (16384 - nrm a0 % 16384).toNat : Int) * 32768 := by omega
    have g6 : exV (16384 - nrm a0 % 16384).toNat - (sn (16384 - nrm a0 % 16384).toNat : Int) * 32768 < 163840 := by omega
    clear g1 g2 hn hq
    go_enter Try.func6, Try.ntmps6
    go_wp2_with (first | (go_at_call 11; (with_reducible refine (awake_true _ _ (by assumption)).mono ?_); rintro e w' ⟨rfl, hb⟩) | (go_at_call 19; (with_reducible refine (rnorm_any _ _).mono ?_); rintro e w' ⟨rfl, rfl⟩) | (go_at_call 20; (with_reducible refine (exact_any _ (by omega) _).mono ?_); rintro e w' ⟨rfl, rfl⟩) | (go_at_call 15; (with_reducible refine (sin_any _ _ _ (by assumption)).mono ?_); rintro e w' ⟨rfl, hb⟩))
    go_returns
    exact ⟨rfl, (show Bel _ _ from by assumption)⟩
end Go.Proofs.Yteplclbjiaamlaa
