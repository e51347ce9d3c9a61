/- The walk of the law EncoderTracks. -/
import Derived.Test.YtfigdflhegdjfaaEncA
import Derived.Test.YtfigdflhegdjfaaEncL
import Derived.Test.YtfigdflhegdjfaaEncK
import Derived.Test.YtfigdflhegdjfaaEncV
import Derived.Test.YtfigdflhegdjfaaNormW
import Derived.Test.YtfigdflhegdjfaaFlat
import Derived.Test.YtfigdflhegdjfaaRowAt
import Derived.Deep.DrawnRows
import Derived.BigQuiet
import Derived.IntWalk
namespace Go.Proofs.Ytfigdflhegdjfaa
open Go.RowKit
set_option linter.unusedVariables false
attribute [local go_sem ↓] Go.wp_at_zero Go.wp_at_succ

set_option maxRecDepth 100000 in
set_option maxHeartbeats 8000000 in
theorem encoderTracks_walk (a0x0 a0x1 : Int) (a1 : Int) (a2 : Option Addr) (len2 cap2 : Nat) (D2 : Nat → List Value) (w : World) (w0x0 : (Lit.int .i64 a0x0).wf = true) (w0x1 : (Lit.int .i64 a0x1).wf = true) (w1 : (Lit.int .i64 a1).wf = true) (r2 : IsRows [some .i16] w a2 len2 cap2 D2) :
    Calls Try.prog 9 #[.agg #[.int .i64 a0x0, .int .i64 a0x1], .int .i64 a1, .slice a2 len2 cap2] w fun e w' => e = .returned (.bool true) ∧ Below w.heap.size w w' := by
  clear w0x0 w0x1 w1
  obtain ⟨hl, hm⟩ := rows_nil r2
  unfold maxLen at hm
  obtain ⟨b, h⟩ : ∃ b, chkB a0x0 a0x1 = b := ⟨_, rfl⟩
  have hR := hide r2
  clear r2
  cases b
  · go_enter Try.func9, Try.ntmps9
    go_wp2_with (first | (go_at_call 10; (with_reducible refine (awake_true _ _ (Gar.refl _)).mono ?_); rintro e w' ⟨rfl, os1, n1, rfl⟩) | (go_at_call 12; (with_reducible refine (check_bad _ _ h _).mono ?_); rintro e w' ⟨rfl, rfl⟩))
    go_returns
    exact ⟨rfl, (show Bel _ _ from Gar.bel (by repeat (first | exact Gar.refl _ | refine Gar.drewN ?_ _ | refine Gar.drew ?_ | refine Gar.alloc ?_ _ | refine Gar.allocs ?_ _)))⟩
  by_cases hlen : 500 < len2
  · go_enter Try.func9, Try.ntmps9
    go_wp2_with (first | (go_at_call 10; (with_reducible refine (awake_true _ _ (Gar.refl _)).mono ?_); rintro e w' ⟨rfl, os1, n1, rfl⟩) | (go_at_call 12; (with_reducible refine (check_ok _ _ h _).mono ?_); rintro e w' ⟨rfl, rfl⟩))
    go_returns
    exact ⟨rfl, (show Bel _ _ from Gar.bel (by repeat (first | exact Gar.refl _ | refine Gar.drewN ?_ _ | refine Gar.drew ?_ | refine Gar.alloc ?_ _ | refine Gar.allocs ?_ _)))⟩
  have hlen' : len2 ≤ 500 := by omega
  have hdl : decide ((500 : Int) < (len2 : Int)) = false := decide_eq_false (by omega)
  have bE := clp_bd a1 (-68719476736) 68719476736 (by omega)
  have CE := clip_any a1 (-68719476736) 68719476736
  obtain ⟨E, hE⟩ : ∃ E, clp a1 (-68719476736) 68719476736 = E := ⟨_, rfl⟩
  rw [hE] at bE CE
  clear hE hlen
  have L0 := fun w => lcall_ok a0x0 a0x1 0 0 0 0 false false false E h (by decide) w w (Gar.refl _)
  obtain ⟨N0, hN0⟩ : ∃ N, cnt a0x0 E = N := ⟨_, rfl⟩
  rw [hN0] at L0
  rw [show stC (a0x0 * a0x1) 0 0 false false false (sgA N0) (sgB N0) (sgZ N0 (a0x0 * a0x1)) = 0 from by unfold stC; simp, show stE 0 0 false (sgA N0) (sgB N0) = 0 from by unfold stE; simp, show stS (a0x0 * a0x1) 0 0 0 false false false (sgA N0) (sgB N0) (sgZ N0 (a0x0 * a0x1)) = 0 from by unfold stS; simp, show stK false false false (sgZ N0 (a0x0 * a0x1)) = false from by unfold stK; simp] at L0
  have I0 : TrkI a0x0 a0x1 0 E N0 0 (phs (sgA N0) (sgB N0)) 0 false (sgZ N0 (a0x0 * a0x1)) := ⟨hN0.symm, by omega, rfl, rfl, fun hh => by cases hh⟩
  generalize phs (sgA N0) (sgB N0) = PH0 at *
  generalize sgZ N0 (a0x0 * a0x1) = Z0 at *
  have hI0 := hide I0
  clear I0 hN0
  obtain ⟨c1, c2, c3, _, _⟩ := chk_in h
  have hc3 := hide c3
  clear c3
  go_enter Try.func9, Try.ntmps9
  go_wp2_with (first | (go_at_call 10; (with_reducible refine (awake_true _ _ (Gar.refl _)).mono ?_); rintro e w' ⟨rfl, os1, n1, rfl⟩) | (go_at_call 12; (with_reducible refine (check_ok _ _ h _).mono ?_); rintro e w' ⟨rfl, rfl⟩) | (go_at_call 14; (with_reducible refine (CE _).mono ?_); rintro e w' ⟨rfl, rfl⟩) | (go_at_call 24; (with_reducible refine (L0 _).mono ?_); rintro e w' ⟨rfl, os3, n3, rfl⟩))
  go_loopw [1, 9, 10, 12] (fun ps fr kw i wr => ∃ (k : Nat) (P N F ph ct f0 f1 : Int) (kn hi f4 f5 f6 : Bool), i = .int .i64 k ∧ k ≤ len2 ∧ ps = .int .i64 P ∧ fr = .int .i64 F ∧ kw = .bool kn ∧ Gar (((allocs ((allocs (w.alloc (.cells #[.int .i64 a0x0, .int .i64 a0x1] 23)) os1).alloc (.cells #[.int .i64 a0x0, .int .i64 a0x1] 23)) os3).alloc (.cells #[.int .i64 ph, .int .i64 ct, .int .i64 0, .int .i64 0, .bool kn, .bool hi, .bool true] 32)).alloc (.cells #[.int .i64 f0, .int .i64 f1, .int .i64 0, .int .i64 0, .bool f4, .bool f5, .bool f6] 32)) wr ∧ TrkI a0x0 a0x1 k P N F ph ct kn hi) (fun _ _ _ i _ => len2 - (intOf i).toNat)
  case atStart => exact ⟨0, E, N0, 0, PH0, 0, 0, 0, false, Z0, false, false, false, rfl, Nat.zero_le _, rfl, rfl, rfl, by repeat (first | exact Gar.refl _ | refine Gar.drewN ?_ _ | refine Gar.drew ?_ | refine Gar.alloc ?_ _ | refine Gar.allocs ?_ _), hI0.out⟩
  case round =>
    clear hI0 L0 CE bE
    obtain ⟨k, P, N, F, ph, ct, f0, f1, kn, hi, f4, f5, f6, rfl, hk, rfl, rfl, rfl, ⟨os, n, rfl⟩, hI1⟩ := hrel
    obtain ⟨hN, bP1, bP2, bN1, bN2⟩ := trk_bd h (by omega) hI1
    have hI := hide hI1
    clear hI1
    by_cases hlt : k < len2
    · obtain ⟨b, off, rfl, hc⟩ := rows_ints hR.out (by omega)
      obtain ⟨hc1, hw1⟩ := hc k hlt
      have hb1 := bounds_i16 hw1
      clear hc hw1 hR
      obtain ⟨d, hd⟩ : ∃ d, num1 (D2 k) = d := ⟨_, rfl⟩
      rw [hd] at hc1 hb1
      clear hd
      have hlt5 : k < 500 := by omega
      have hbb := World.block_lt_of_cell? w _ hc1
      obtain ⟨q1, q2, q3, q4, q5, q6, q7, q8⟩ := lt_all hbb
      have i1 : (0 : Int) ≤ (k : Int) := by omega
      have i2 : (k : Int) < (len2 : Int) := by omega
      have i3 : (k : Int) < (cap2 : Int) := by omega
      obtain ⟨U, hU⟩ : ∃ U : Int, 65536 / a0x0 = U := ⟨_, rfl⟩
      have bU : 0 ≤ U ∧ U ≤ 16384 := by
        have := Int.emod_add_mul_ediv 65536 a0x0
        have := Int.emod_nonneg 65536 (show a0x0 ≠ 0 by omega)
        have h1 : 0 ≤ 65536 / a0x0 := Int.ediv_nonneg (by omega) (by omega)
        have := Int.mul_le_mul_of_nonneg_right c1 h1
        omega
      have hU1 : Int.tdiv 65536 a0x0 = U := by rw [Int.tdiv_eq_ediv_of_nonneg (by omega), hU]
      have hU2 : Int.tdiv (-65536) a0x0 = -U := by rw [Int.neg_tdiv, hU1]
      have CD := clip_any d (-U) U
      have bD := clp_bd d (-U) U (by omega)
      obtain ⟨D, hD⟩ : ∃ D, clp d (-U) U = D := ⟨_, rfl⟩
      rw [hD] at CD bD
      clear hD
      have K1 := fun w => lcount_ok a0x0 a0x1 P h w w (Gar.refl _)
      have K2 := fun w => lcount_ok a0x0 a0x1 (P + D) h w w (Gar.refl _)
      rw [← hN] at K1
      obtain ⟨M0, hM0⟩ : ∃ M, cnt a0x0 (P + D) = M := ⟨_, rfl⟩
      have bM0 : -34359738369 ≤ M0 ∧ M0 ≤ 34359738368 := by rw [← hM0]; exact cnt_bd c1 c2 (by omega) (by omega)
      rw [hM0] at K2
      have hM := hide (And.intro hN hM0.symm)
      clear hN hM0
      have s1 : IntKind.i64.wrap (P + D) = P + D := IntWalk.i64_in _ (by omega)
      go_wp2_with (fail)
      go_quiet ((go_at_call 14; (first | with_reducible exact quiet_eq2 (CD _) | with_reducible exact quiet_eq (CD _))))
      rcases (show (-1 ≤ M0 - N ∧ M0 - N ≤ 1) ∨ N + 1 < M0 ∨ (¬ N + 1 < M0 ∧ M0 < N - 1) by omega) with ⟨d1, d2⟩ | d1 | ⟨d1, d2⟩
      · have u1 : decide (N + 1 < M0) = false := decide_eq_false (by omega)
        have u2 : decide (M0 < N - 1) = false := decide_eq_false (by omega)
        have hQ := hM.out.2
        clear hM
        cases kn
        · obtain ⟨s, hs⟩ : ∃ s, stK false hi true (sgZ M0 (a0x0 * a0x1)) = s := ⟨_, rfl⟩
          cases s
          · obtain ⟨g1, g2, g3, g4, g5, g6⟩ := trk_go h hI.out (P + D) M0 hQ (by omega) (by omega) hlt5 (by omega) (by omega)
            have LC := fun w => lcall_ok a0x0 a0x1 ph ct 0 0 false hi true (P + D) h g1 w w (Gar.refl _)
            rw [← hQ, g2, g3] at LC
            have J := g6 (stC (a0x0 * a0x1) ph ct false hi true (sgA M0) (sgB M0) (sgZ M0 (a0x0 * a0x1))) rfl
            rw [hs] at LC
            clear hs
            generalize stC (a0x0 * a0x1) ph ct false hi true (sgA M0) (sgB M0) (sgZ M0 (a0x0 * a0x1)) = T at *
            clear g1 g2 g3 g4 g5 g6 hI hQ
            generalize phs (sgA M0) (sgB M0) = PH at *
            generalize sgZ M0 (a0x0 * a0x1) = Z at *
            have hI2 := hide J
            clear J
            go_wp2_with (first | (go_at_call 25; (first | (with_reducible refine (K1 _).mono ?_) | (with_reducible refine (K2 _).mono ?_)); rintro e w' ⟨rfl, os6, n6, rfl⟩) | (go_at_call 24; (with_reducible refine (LC _).mono ?_); rintro e w' ⟨rfl, os4, n4, rfl⟩))
            go_roundw
            case rel => exact ⟨k + 1, P + D, M0, F, PH, T, _, _, false, Z, _, _, _, by go_num, by omega, rfl, rfl, rfl, by repeat (first | exact Gar.refl _ | refine Gar.drewN ?_ _ | refine Gar.drew ?_ | refine Gar.alloc ?_ _ | refine Gar.allocs ?_ _), hI2.out⟩
            case measure => simp [intOf]; omega
          · obtain ⟨g1, g2, g3, g4, g5, g6⟩ := trk_go h hI.out (P + D) M0 hQ (by omega) (by omega) hlt5 (by omega) (by omega)
            have LC := fun w => lcall_ok a0x0 a0x1 ph ct 0 0 false hi true (P + D) h g1 w w (Gar.refl _)
            rw [← hQ, g2, g3] at LC
            obtain ⟨k2, a1, J⟩ := g5 rfl hs
            rw [hs, k2] at LC
            clear k2 hs
            clear g1 g2 g3 g4 g5 g6 hI hQ
            have LA := fun (w : World) => angle_ok a0x0 a0x1 (phs (sgA M0) (sgB M0)) (0) 0 0 true (sgZ M0 (a0x0 * a0x1)) true h w w (Gar.refl _)
            generalize phs (sgA M0) (sgB M0) = PH at *
            generalize sgZ M0 (a0x0 * a0x1) = Z at *
            generalize agl a0x0 (0) = AG at *
            have LD := dist_any AG (P + D)
            generalize dst AG (P + D) = DD at *
            obtain ⟨BB, hBB⟩ : ∃ BB, (32768 + a0x0 - 1) / a0x0 = BB := ⟨_, rfl⟩
            have hBB1 : Int.tdiv (32768 + a0x0 - 1) a0x0 = BB := by rw [Int.tdiv_eq_ediv_of_nonneg (by omega), hBB]
            have bBB := half_bd c1 c2
            rw [hBB] at a1 bBB
            have s4 : IntKind.i64.wrap BB = BB := IntWalk.i64_in _ (by omega)
            have d5 : decide (BB < DD) = false := decide_eq_false (by omega)
            have s2 : IntKind.i64.wrap (32768 + a0x0) = 32768 + a0x0 := IntWalk.i64_in _ (by omega)
            have s3 : IntKind.i64.wrap (32768 + a0x0 - 1) = 32768 + a0x0 - 1 := IntWalk.i64_in _ (by omega)
            clear a1
            have hI2 := hide J
            clear J
            go_wp2_with (first | (go_at_call 25; (first | (with_reducible refine (K1 _).mono ?_) | (with_reducible refine (K2 _).mono ?_)); rintro e w' ⟨rfl, os6, n6, rfl⟩) | (go_at_call 24; (with_reducible refine (LC _).mono ?_); rintro e w' ⟨rfl, os4, n4, rfl⟩) | (go_at_call 20; (with_reducible refine (LA _).mono ?_); rintro e w' ⟨rfl, os5, n5, rfl⟩))
            apply merge
            · intro hx
              go_region
              all_goals with_reducible exact hx.out
            go_wp2_with (first | (go_at_call 25; (first | (with_reducible refine (K1 _).mono ?_) | (with_reducible refine (K2 _).mono ?_)); rintro e w' ⟨rfl, os6, n6, rfl⟩) | (go_at_call 24; (with_reducible refine (LC _).mono ?_); rintro e w' ⟨rfl, os4, n4, rfl⟩) | (go_at_call 20; (with_reducible refine (LA _).mono ?_); rintro e w' ⟨rfl, os5, n5, rfl⟩))
            go_quiet ((go_at_call 26; (first | with_reducible exact quiet_eq2 (LD _) | with_reducible exact quiet_eq (LD _))))
            go_wp2_with (fail)
            go_roundw
            case rel => exact ⟨k + 1, P + D, M0, M0, PH, 0, _, _, true, Z, _, _, _, by go_num, by omega, rfl, rfl, rfl, by repeat (first | exact Gar.refl _ | refine Gar.drewN ?_ _ | refine Gar.drew ?_ | refine Gar.alloc ?_ _ | refine Gar.allocs ?_ _), hI2.out⟩
            case measure => simp [intOf]; omega
        · obtain ⟨g1, g2, g3, g4, g5, g6⟩ := trk_go h hI.out (P + D) M0 hQ (by omega) (by omega) hlt5 (by omega) (by omega)
          have LC := fun w => lcall_ok a0x0 a0x1 ph ct 0 0 true hi true (P + D) h g1 w w (Gar.refl _)
          rw [← hQ, g2, g3] at LC
          obtain ⟨k1, k2, f1b, f2b, a1, J⟩ := g4 rfl
          rw [k1, k2] at LC
          clear k1 k2
          clear g1 g2 g3 g4 g5 g6 hI hQ
          have LA := fun (w : World) => angle_ok a0x0 a0x1 (phs (sgA M0) (sgB M0)) (M0 - F) 0 0 true (sgZ M0 (a0x0 * a0x1)) true h w w (Gar.refl _)
          generalize phs (sgA M0) (sgB M0) = PH at *
          generalize sgZ M0 (a0x0 * a0x1) = Z at *
          generalize agl a0x0 (M0 - F) = AG at *
          have LD := dist_any AG (P + D)
          generalize dst AG (P + D) = DD at *
          obtain ⟨BB, hBB⟩ : ∃ BB, (32768 + a0x0 - 1) / a0x0 = BB := ⟨_, rfl⟩
          have hBB1 : Int.tdiv (32768 + a0x0 - 1) a0x0 = BB := by rw [Int.tdiv_eq_ediv_of_nonneg (by omega), hBB]
          have bBB := half_bd c1 c2
          rw [hBB] at a1 bBB
          have s4 : IntKind.i64.wrap BB = BB := IntWalk.i64_in _ (by omega)
          have d5 : decide (BB < DD) = false := decide_eq_false (by omega)
          have s2 : IntKind.i64.wrap (32768 + a0x0) = 32768 + a0x0 := IntWalk.i64_in _ (by omega)
          have s3 : IntKind.i64.wrap (32768 + a0x0 - 1) = 32768 + a0x0 - 1 := IntWalk.i64_in _ (by omega)
          clear a1
          have hI2 := hide J
          clear J
          go_wp2_with (first | (go_at_call 25; (first | (with_reducible refine (K1 _).mono ?_) | (with_reducible refine (K2 _).mono ?_)); rintro e w' ⟨rfl, os6, n6, rfl⟩) | (go_at_call 24; (with_reducible refine (LC _).mono ?_); rintro e w' ⟨rfl, os4, n4, rfl⟩) | (go_at_call 20; (with_reducible refine (LA _).mono ?_); rintro e w' ⟨rfl, os5, n5, rfl⟩))
          go_quiet ((go_at_call 26; (first | with_reducible exact quiet_eq2 (LD _) | with_reducible exact quiet_eq (LD _))))
          go_wp2_with (fail)
          go_roundw
          case rel => exact ⟨k + 1, P + D, M0, F, PH, M0 - F, _, _, true, Z, _, _, _, by go_num, by omega, rfl, rfl, rfl, by repeat (first | exact Gar.refl _ | refine Gar.drewN ?_ _ | refine Gar.drew ?_ | refine Gar.alloc ?_ _ | refine Gar.allocs ?_ _), hI2.out⟩
          case measure => simp [intOf]; omega
      · have u1 : decide (N + 1 < M0) = true := decide_eq_true (by omega)
        have hQ := hM.out.1
        clear hM
        cases kn
        · obtain ⟨s, hs⟩ : ∃ s, stK false hi true (sgZ N (a0x0 * a0x1)) = s := ⟨_, rfl⟩
          cases s
          · obtain ⟨g1, g2, g3, g4, g5, g6⟩ := trk_go h hI.out (P) N hQ (by omega) (by omega) hlt5 (by omega) (by omega)
            have LC := fun w => lcall_ok a0x0 a0x1 ph ct 0 0 false hi true (P) h g1 w w (Gar.refl _)
            rw [← hQ, g2, g3] at LC
            have J := g6 (stC (a0x0 * a0x1) ph ct false hi true (sgA N) (sgB N) (sgZ N (a0x0 * a0x1))) rfl
            rw [hs] at LC
            clear hs
            generalize stC (a0x0 * a0x1) ph ct false hi true (sgA N) (sgB N) (sgZ N (a0x0 * a0x1)) = T at *
            clear g1 g2 g3 g4 g5 g6 hI hQ
            generalize phs (sgA N) (sgB N) = PH at *
            generalize sgZ N (a0x0 * a0x1) = Z at *
            have hI2 := hide J
            clear J
            go_wp2_with (first | (go_at_call 25; (first | (with_reducible refine (K1 _).mono ?_) | (with_reducible refine (K2 _).mono ?_)); rintro e w' ⟨rfl, os6, n6, rfl⟩) | (go_at_call 24; (with_reducible refine (LC _).mono ?_); rintro e w' ⟨rfl, os4, n4, rfl⟩))
            go_roundw
            case rel => exact ⟨k + 1, P, N, F, PH, T, _, _, false, Z, _, _, _, by go_num, by omega, rfl, rfl, rfl, by repeat (first | exact Gar.refl _ | refine Gar.drewN ?_ _ | refine Gar.drew ?_ | refine Gar.alloc ?_ _ | refine Gar.allocs ?_ _), hI2.out⟩
            case measure => simp [intOf]; omega
          · obtain ⟨g1, g2, g3, g4, g5, g6⟩ := trk_go h hI.out (P) N hQ (by omega) (by omega) hlt5 (by omega) (by omega)
            have LC := fun w => lcall_ok a0x0 a0x1 ph ct 0 0 false hi true (P) h g1 w w (Gar.refl _)
            rw [← hQ, g2, g3] at LC
            obtain ⟨k2, a1, J⟩ := g5 rfl hs
            rw [hs, k2] at LC
            clear k2 hs
            clear g1 g2 g3 g4 g5 g6 hI hQ
            have LA := fun (w : World) => angle_ok a0x0 a0x1 (phs (sgA N) (sgB N)) (0) 0 0 true (sgZ N (a0x0 * a0x1)) true h w w (Gar.refl _)
            generalize phs (sgA N) (sgB N) = PH at *
            generalize sgZ N (a0x0 * a0x1) = Z at *
            generalize agl a0x0 (0) = AG at *
            have LD := dist_any AG (P)
            generalize dst AG (P) = DD at *
            obtain ⟨BB, hBB⟩ : ∃ BB, (32768 + a0x0 - 1) / a0x0 = BB := ⟨_, rfl⟩
            have hBB1 : Int.tdiv (32768 + a0x0 - 1) a0x0 = BB := by rw [Int.tdiv_eq_ediv_of_nonneg (by omega), hBB]
            have bBB := half_bd c1 c2
            rw [hBB] at a1 bBB
            have s4 : IntKind.i64.wrap BB = BB := IntWalk.i64_in _ (by omega)
            have d5 : decide (BB < DD) = false := decide_eq_false (by omega)
            have s2 : IntKind.i64.wrap (32768 + a0x0) = 32768 + a0x0 := IntWalk.i64_in _ (by omega)
            have s3 : IntKind.i64.wrap (32768 + a0x0 - 1) = 32768 + a0x0 - 1 := IntWalk.i64_in _ (by omega)
            clear a1
            have hI2 := hide J
            clear J
            go_wp2_with (first | (go_at_call 25; (first | (with_reducible refine (K1 _).mono ?_) | (with_reducible refine (K2 _).mono ?_)); rintro e w' ⟨rfl, os6, n6, rfl⟩) | (go_at_call 24; (with_reducible refine (LC _).mono ?_); rintro e w' ⟨rfl, os4, n4, rfl⟩) | (go_at_call 20; (with_reducible refine (LA _).mono ?_); rintro e w' ⟨rfl, os5, n5, rfl⟩))
            apply merge
            · intro hx
              go_region
              all_goals with_reducible exact hx.out
            go_wp2_with (first | (go_at_call 25; (first | (with_reducible refine (K1 _).mono ?_) | (with_reducible refine (K2 _).mono ?_)); rintro e w' ⟨rfl, os6, n6, rfl⟩) | (go_at_call 24; (with_reducible refine (LC _).mono ?_); rintro e w' ⟨rfl, os4, n4, rfl⟩) | (go_at_call 20; (with_reducible refine (LA _).mono ?_); rintro e w' ⟨rfl, os5, n5, rfl⟩))
            go_quiet ((go_at_call 26; (first | with_reducible exact quiet_eq2 (LD _) | with_reducible exact quiet_eq (LD _))))
            go_wp2_with (fail)
            go_roundw
            case rel => exact ⟨k + 1, P, N, N, PH, 0, _, _, true, Z, _, _, _, by go_num, by omega, rfl, rfl, rfl, by repeat (first | exact Gar.refl _ | refine Gar.drewN ?_ _ | refine Gar.drew ?_ | refine Gar.alloc ?_ _ | refine Gar.allocs ?_ _), hI2.out⟩
            case measure => simp [intOf]; omega
        · obtain ⟨g1, g2, g3, g4, g5, g6⟩ := trk_go h hI.out (P) N hQ (by omega) (by omega) hlt5 (by omega) (by omega)
          have LC := fun w => lcall_ok a0x0 a0x1 ph ct 0 0 true hi true (P) h g1 w w (Gar.refl _)
          rw [← hQ, g2, g3] at LC
          obtain ⟨k1, k2, f1b, f2b, a1, J⟩ := g4 rfl
          rw [k1, k2] at LC
          clear k1 k2
          clear g1 g2 g3 g4 g5 g6 hI hQ
          have LA := fun (w : World) => angle_ok a0x0 a0x1 (phs (sgA N) (sgB N)) (N - F) 0 0 true (sgZ N (a0x0 * a0x1)) true h w w (Gar.refl _)
          generalize phs (sgA N) (sgB N) = PH at *
          generalize sgZ N (a0x0 * a0x1) = Z at *
          generalize agl a0x0 (N - F) = AG at *
          have LD := dist_any AG (P)
          generalize dst AG (P) = DD at *
          obtain ⟨BB, hBB⟩ : ∃ BB, (32768 + a0x0 - 1) / a0x0 = BB := ⟨_, rfl⟩
          have hBB1 : Int.tdiv (32768 + a0x0 - 1) a0x0 = BB := by rw [Int.tdiv_eq_ediv_of_nonneg (by omega), hBB]
          have bBB := half_bd c1 c2
          rw [hBB] at a1 bBB
          have s4 : IntKind.i64.wrap BB = BB := IntWalk.i64_in _ (by omega)
          have d5 : decide (BB < DD) = false := decide_eq_false (by omega)
          have s2 : IntKind.i64.wrap (32768 + a0x0) = 32768 + a0x0 := IntWalk.i64_in _ (by omega)
          have s3 : IntKind.i64.wrap (32768 + a0x0 - 1) = 32768 + a0x0 - 1 := IntWalk.i64_in _ (by omega)
          clear a1
          have hI2 := hide J
          clear J
          go_wp2_with (first | (go_at_call 25; (first | (with_reducible refine (K1 _).mono ?_) | (with_reducible refine (K2 _).mono ?_)); rintro e w' ⟨rfl, os6, n6, rfl⟩) | (go_at_call 24; (with_reducible refine (LC _).mono ?_); rintro e w' ⟨rfl, os4, n4, rfl⟩) | (go_at_call 20; (with_reducible refine (LA _).mono ?_); rintro e w' ⟨rfl, os5, n5, rfl⟩))
          go_quiet ((go_at_call 26; (first | with_reducible exact quiet_eq2 (LD _) | with_reducible exact quiet_eq (LD _))))
          go_wp2_with (fail)
          go_roundw
          case rel => exact ⟨k + 1, P, N, F, PH, N - F, _, _, true, Z, _, _, _, by go_num, by omega, rfl, rfl, rfl, by repeat (first | exact Gar.refl _ | refine Gar.drewN ?_ _ | refine Gar.drew ?_ | refine Gar.alloc ?_ _ | refine Gar.allocs ?_ _), hI2.out⟩
          case measure => simp [intOf]; omega
      · have u1 : decide (N + 1 < M0) = false := decide_eq_false (by omega)
        have u2 : decide (M0 < N - 1) = true := decide_eq_true (by omega)
        have hQ := hM.out.1
        clear hM
        cases kn
        · obtain ⟨s, hs⟩ : ∃ s, stK false hi true (sgZ N (a0x0 * a0x1)) = s := ⟨_, rfl⟩
          cases s
          · obtain ⟨g1, g2, g3, g4, g5, g6⟩ := trk_go h hI.out (P) N hQ (by omega) (by omega) hlt5 (by omega) (by omega)
            have LC := fun w => lcall_ok a0x0 a0x1 ph ct 0 0 false hi true (P) h g1 w w (Gar.refl _)
            rw [← hQ, g2, g3] at LC
            have J := g6 (stC (a0x0 * a0x1) ph ct false hi true (sgA N) (sgB N) (sgZ N (a0x0 * a0x1))) rfl
            rw [hs] at LC
            clear hs
            generalize stC (a0x0 * a0x1) ph ct false hi true (sgA N) (sgB N) (sgZ N (a0x0 * a0x1)) = T at *
            clear g1 g2 g3 g4 g5 g6 hI hQ
            generalize phs (sgA N) (sgB N) = PH at *
            generalize sgZ N (a0x0 * a0x1) = Z at *
            have hI2 := hide J
            clear J
            go_wp2_with (first | (go_at_call 25; (first | (with_reducible refine (K1 _).mono ?_) | (with_reducible refine (K2 _).mono ?_)); rintro e w' ⟨rfl, os6, n6, rfl⟩) | (go_at_call 24; (with_reducible refine (LC _).mono ?_); rintro e w' ⟨rfl, os4, n4, rfl⟩))
            go_roundw
            case rel => exact ⟨k + 1, P, N, F, PH, T, _, _, false, Z, _, _, _, by go_num, by omega, rfl, rfl, rfl, by repeat (first | exact Gar.refl _ | refine Gar.drewN ?_ _ | refine Gar.drew ?_ | refine Gar.alloc ?_ _ | refine Gar.allocs ?_ _), hI2.out⟩
            case measure => simp [intOf]; omega
          · obtain ⟨g1, g2, g3, g4, g5, g6⟩ := trk_go h hI.out (P) N hQ (by omega) (by omega) hlt5 (by omega) (by omega)
            have LC := fun w => lcall_ok a0x0 a0x1 ph ct 0 0 false hi true (P) h g1 w w (Gar.refl _)
            rw [← hQ, g2, g3] at LC
            obtain ⟨k2, a1, J⟩ := g5 rfl hs
            rw [hs, k2] at LC
            clear k2 hs
            clear g1 g2 g3 g4 g5 g6 hI hQ
            have LA := fun (w : World) => angle_ok a0x0 a0x1 (phs (sgA N) (sgB N)) (0) 0 0 true (sgZ N (a0x0 * a0x1)) true h w w (Gar.refl _)
            generalize phs (sgA N) (sgB N) = PH at *
            generalize sgZ N (a0x0 * a0x1) = Z at *
            generalize agl a0x0 (0) = AG at *
            have LD := dist_any AG (P)
            generalize dst AG (P) = DD at *
            obtain ⟨BB, hBB⟩ : ∃ BB, (32768 + a0x0 - 1) / a0x0 = BB := ⟨_, rfl⟩
            have hBB1 : Int.tdiv (32768 + a0x0 - 1) a0x0 = BB := by rw [Int.tdiv_eq_ediv_of_nonneg (by omega), hBB]
            have bBB := half_bd c1 c2
            rw [hBB] at a1 bBB
            have s4 : IntKind.i64.wrap BB = BB := IntWalk.i64_in _ (by omega)
            have d5 : decide (BB < DD) = false := decide_eq_false (by omega)
            have s2 : IntKind.i64.wrap (32768 + a0x0) = 32768 + a0x0 := IntWalk.i64_in _ (by omega)
            have s3 : IntKind.i64.wrap (32768 + a0x0 - 1) = 32768 + a0x0 - 1 := IntWalk.i64_in _ (by omega)
            clear a1
            have hI2 := hide J
            clear J
            go_wp2_with (first | (go_at_call 25; (first | (with_reducible refine (K1 _).mono ?_) | (with_reducible refine (K2 _).mono ?_)); rintro e w' ⟨rfl, os6, n6, rfl⟩) | (go_at_call 24; (with_reducible refine (LC _).mono ?_); rintro e w' ⟨rfl, os4, n4, rfl⟩) | (go_at_call 20; (with_reducible refine (LA _).mono ?_); rintro e w' ⟨rfl, os5, n5, rfl⟩))
            apply merge
            · intro hx
              go_region
              all_goals with_reducible exact hx.out
            go_wp2_with (first | (go_at_call 25; (first | (with_reducible refine (K1 _).mono ?_) | (with_reducible refine (K2 _).mono ?_)); rintro e w' ⟨rfl, os6, n6, rfl⟩) | (go_at_call 24; (with_reducible refine (LC _).mono ?_); rintro e w' ⟨rfl, os4, n4, rfl⟩) | (go_at_call 20; (with_reducible refine (LA _).mono ?_); rintro e w' ⟨rfl, os5, n5, rfl⟩))
            go_quiet ((go_at_call 26; (first | with_reducible exact quiet_eq2 (LD _) | with_reducible exact quiet_eq (LD _))))
            go_wp2_with (fail)
            go_roundw
            case rel => exact ⟨k + 1, P, N, N, PH, 0, _, _, true, Z, _, _, _, by go_num, by omega, rfl, rfl, rfl, by repeat (first | exact Gar.refl _ | refine Gar.drewN ?_ _ | refine Gar.drew ?_ | refine Gar.alloc ?_ _ | refine Gar.allocs ?_ _), hI2.out⟩
            case measure => simp [intOf]; omega
        · obtain ⟨g1, g2, g3, g4, g5, g6⟩ := trk_go h hI.out (P) N hQ (by omega) (by omega) hlt5 (by omega) (by omega)
          have LC := fun w => lcall_ok a0x0 a0x1 ph ct 0 0 true hi true (P) h g1 w w (Gar.refl _)
          rw [← hQ, g2, g3] at LC
          obtain ⟨k1, k2, f1b, f2b, a1, J⟩ := g4 rfl
          rw [k1, k2] at LC
          clear k1 k2
          clear g1 g2 g3 g4 g5 g6 hI hQ
          have LA := fun (w : World) => angle_ok a0x0 a0x1 (phs (sgA N) (sgB N)) (N - F) 0 0 true (sgZ N (a0x0 * a0x1)) true h w w (Gar.refl _)
          generalize phs (sgA N) (sgB N) = PH at *
          generalize sgZ N (a0x0 * a0x1) = Z at *
          generalize agl a0x0 (N - F) = AG at *
          have LD := dist_any AG (P)
          generalize dst AG (P) = DD at *
          obtain ⟨BB, hBB⟩ : ∃ BB, (32768 + a0x0 - 1) / a0x0 = BB := ⟨_, rfl⟩
          have hBB1 : Int.tdiv (32768 + a0x0 - 1) a0x0 = BB := by rw [Int.tdiv_eq_ediv_of_nonneg (by omega), hBB]
          have bBB := half_bd c1 c2
          rw [hBB] at a1 bBB
          have s4 : IntKind.i64.wrap BB = BB := IntWalk.i64_in _ (by omega)
          have d5 : decide (BB < DD) = false := decide_eq_false (by omega)
          have s2 : IntKind.i64.wrap (32768 + a0x0) = 32768 + a0x0 := IntWalk.i64_in _ (by omega)
          have s3 : IntKind.i64.wrap (32768 + a0x0 - 1) = 32768 + a0x0 - 1 := IntWalk.i64_in _ (by omega)
          clear a1
          have hI2 := hide J
          clear J
          go_wp2_with (first | (go_at_call 25; (first | (with_reducible refine (K1 _).mono ?_) | (with_reducible refine (K2 _).mono ?_)); rintro e w' ⟨rfl, os6, n6, rfl⟩) | (go_at_call 24; (with_reducible refine (LC _).mono ?_); rintro e w' ⟨rfl, os4, n4, rfl⟩) | (go_at_call 20; (with_reducible refine (LA _).mono ?_); rintro e w' ⟨rfl, os5, n5, rfl⟩))
          go_quiet ((go_at_call 26; (first | with_reducible exact quiet_eq2 (LD _) | with_reducible exact quiet_eq (LD _))))
          go_wp2_with (fail)
          go_roundw
          case rel => exact ⟨k + 1, P, N, F, PH, N - F, _, _, true, Z, _, _, _, by go_num, by omega, rfl, rfl, rfl, by repeat (first | exact Gar.refl _ | refine Gar.drewN ?_ _ | refine Gar.drew ?_ | refine Gar.alloc ?_ _ | refine Gar.allocs ?_ _), hI2.out⟩
          case measure => simp [intOf]; omega
    · clear hI hR
      go_wp2_with (fail)
      go_returns
      exact ⟨rfl, (show Bel _ _ from Gar.bel (by repeat (first | exact Gar.refl _ | refine Gar.drewN ?_ _ | refine Gar.drew ?_ | refine Gar.alloc ?_ _ | refine Gar.allocs ?_ _)))⟩
end Go.Proofs.Ytfigdflhegdjfaa
