/- The walk of the law VoterTurns. -/
import Derived.Test.YtdincfemiignjaaVotA
import Derived.Test.YtdincfemiignjaaVotX
import Derived.Test.YtdincfemiignjaaVotI
import Derived.Test.YtdincfemiignjaaFlat
import Derived.Test.YtdincfemiignjaaTail
namespace Go.Proofs.Ytdincfemiignjaa
open Go.RowKit
set_option linter.unusedVariables false
set_option linter.unusedSimpArgs false
attribute [local go_sem ↓] Go.wp_at_zero Go.wp_at_succ

theorem vang_bd (i a b c : Int) : 0 ≤ vang i a b c ∧ vang i a b c ≤ 65535 := by
  unfold vang; have := nrm_bd a; have := nrm_bd b; have := nrm_bd c; (repeat' split) <;> omega
set_option maxRecDepth 100000 in
set_option maxHeartbeats 8000000 in
theorem voterTurns_walk (a0x0 a0x1 a0x2 a0x3 a0x4 a0x5 a0x6 : Int) (a1x0 a1x1 a1x2 : Int) (a1x3 a1x4 a1x5 : Bool) (a1x6 : Int) (a2x0 a2x1 a2x2 a2x3 : Int) (a2x4 a2x5 a2x6 : Bool) (a2x7 a2x8 a2x9 a2x10 : Int) (a2x11 a2x12 a2x13 : Bool) (w : World) (w0x0 : (Lit.int .i64 a0x0).wf = true) (w0x1 : (Lit.int .i64 a0x1).wf = true) (w0x2 : (Lit.int .i64 a0x2).wf = true) (w0x3 : (Lit.int .i64 a0x3).wf = true) (w0x4 : (Lit.int .i64 a0x4).wf = true) (w0x5 : (Lit.int .i64 a0x5).wf = true) (w0x6 : (Lit.int .i64 a0x6).wf = true) (w1x0 : (Lit.int .i64 a1x0).wf = true) (w1x1 : (Lit.int .i64 a1x1).wf = true) (w1x2 : (Lit.int .i64 a1x2).wf = true) (w1x6 : (Lit.int .i64 a1x6).wf = true) (w2x0 : (Lit.int .i64 a2x0).wf = true) (w2x1 : (Lit.int .i64 a2x1).wf = true) (w2x2 : (Lit.int .i64 a2x2).wf = true) (w2x3 : (Lit.int .i64 a2x3).wf = true) (w2x7 : (Lit.int .i64 a2x7).wf = true) (w2x8 : (Lit.int .i64 a2x8).wf = true) (w2x9 : (Lit.int .i64 a2x9).wf = true) (w2x10 : (Lit.int .i64 a2x10).wf = true) :
    Calls Try.prog 7 #[.agg #[.int .i64 a0x0, .int .i64 a0x1, .int .i64 a0x2, .int .i64 a0x3, .int .i64 a0x4, .int .i64 a0x5, .int .i64 a0x6], .agg #[.int .i64 a1x0, .int .i64 a1x1, .int .i64 a1x2, .bool a1x3, .bool a1x4, .bool a1x5, .int .i64 a1x6], .agg #[.int .i64 a2x0, .int .i64 a2x1, .int .i64 a2x2, .int .i64 a2x3, .bool a2x4, .bool a2x5, .bool a2x6, .int .i64 a2x7, .int .i64 a2x8, .int .i64 a2x9, .int .i64 a2x10, .bool a2x11, .bool a2x12, .bool a2x13]] w fun e w' => e = .returned (.bool true) ∧ Below w.heap.size w w' := by
  clear w0x0 w0x1 w0x2 w0x3 w0x4 w0x5 w0x6 w1x0 w1x1 w1x2 w1x6 w2x0 w2x1 w2x2 w2x3 w2x7 w2x8 w2x9 w2x10
  by_cases hco : vcode a0x0 a0x1 a0x2 a0x3 a0x4 a0x5 a0x6 = 0
  rotate_left
  · have KD := rcheck_any a0x0 a0x1 a0x2 a0x3 a0x4 a0x5 a0x6
    generalize vcode a0x0 a0x1 a0x2 a0x3 a0x4 a0x5 a0x6 = c at *
    have hc1 : (c == 0) = false := by simpa using hco
    have hc2 : (c != 0) = true := by simpa using hco
    clear hco
    go_enter Try.func7, Try.ntmps7
    go_wp2_with (first | (go_at_call 15; (with_reducible refine (KD _).mono ?_); rintro e w' ⟨rfl, os0, n0, rfl⟩) | (go_at_call 8; (with_reducible refine (awake_true _ _ (Gar.refl _)).mono ?_); rintro e w' ⟨rfl, os1, n1, rfl⟩))
    go_returns
    exact ⟨rfl, show Bel _ _ from Gar.bel (by repeat (first | exact Gar.refl _ | refine Gar.drewN ?_ _ | refine Gar.drew ?_ | refine Gar.alloc ?_ _ | refine Gar.allocs ?_ _))⟩
  skip
  have KD := rcheck_any a0x0 a0x1 a0x2 a0x3 a0x4 a0x5 a0x6
  rw [hco] at KD
  have he := (vcode_in hco).1
  have KI := fun w => input_3 a2x0 a2x1 a2x2 a2x3 a2x4 a2x5 a2x6 a0x0 a0x1 a0x2 a0x3 a0x4 a0x5 a0x6 he w w (Gar.refl _)
  have bA0 := inO_bd false a2x1 a0x0 he.1
  have bA1 := inO_bd false a2x2 a0x1 he.2.1
  have bA2 := inO_bd false a2x3 a0x2 he.2.2
  have bt := tm_bd a2x0
  have bD := tm_bd a2x7
  have bO0 := tm_bd a2x8
  have bO1 := tm_bd a2x9
  have bO2 := tm_bd a2x10
  obtain ⟨Q0, hQ0⟩ : ∃ q, Int.tmod a2x0 65536 + inO false a2x1 a0x0 = q := ⟨_, rfl⟩
  obtain ⟨Q1, hQ1⟩ : ∃ q, Int.tmod a2x0 65536 + inO false a2x2 a0x1 = q := ⟨_, rfl⟩
  obtain ⟨Q2, hQ2⟩ : ∃ q, Int.tmod a2x0 65536 + inO false a2x3 a0x2 = q := ⟨_, rfl⟩
  rw [hQ0, hQ1, hQ2] at KI
  have bQ0 : -131070 ≤ Q0 ∧ Q0 ≤ 131070 := by omega
  have bQ1 : -131070 ≤ Q1 ∧ Q1 ≤ 131070 := by omega
  have bQ2 : -131070 ≤ Q2 ∧ Q2 ≤ 131070 := by omega
  clear hQ0 hQ1 hQ2 bA0 bA1 bA2 bt
  obtain ⟨D, hD⟩ : ∃ d, Int.tmod a2x7 65536 = d := ⟨_, rfl⟩
  rw [hD] at bD
  obtain ⟨O0, hO0⟩ : ∃ d, Int.tmod a2x8 65536 = d := ⟨_, rfl⟩
  rw [hO0] at bO0
  obtain ⟨O1, hO1⟩ : ∃ d, Int.tmod a2x9 65536 = d := ⟨_, rfl⟩
  rw [hO1] at bO1
  obtain ⟨O2, hO2⟩ : ∃ d, Int.tmod a2x10 65536 = d := ⟨_, rfl⟩
  rw [hO2] at bO2
  obtain ⟨u0, u1, u2, g01, g02, g12, ct, c0, c1, c2, cs, E0, E1, E2, ci, cw, hv⟩ := VS.ex a0x0 a0x1 a0x2 a0x3 a0x4 a0x5 a0x6 a1x0 a1x1 a1x2 a1x3 a1x4 a1x5 a1x6 (Q0 + O0) (Q1 + O1) (Q2 + O2) a2x4 a2x5 a2x6
  have K1 := fun w => vstep_ok a0x0 a0x1 a0x2 a0x3 a0x4 a0x5 a0x6 a1x0 a1x1 a1x2 a1x3 a1x4 a1x5 a1x6 (Q0 + O0) (Q1 + O1) (Q2 + O2) a2x4 a2x5 a2x6 u0 u1 u2 g01 g02 g12 ct c0 c1 c2 cs E0 E1 E2 ci cw hv hco w w (Gar.refl _)
  have K2 := fun w => vstep_ok a0x0 a0x1 a0x2 a0x3 a0x4 a0x5 a0x6 a1x0 a1x1 a1x2 a1x3 a1x4 a1x5 a1x6 (Q0 + O0 + D) (Q1 + O1 + D) (Q2 + O2 + D) a2x4 a2x5 a2x6 u0 u1 u2 g01 g02 g12 ct c0 c1 c2 cs E0 E1 E2 ci cw (hv.turn D) hco w w (Gar.refl _)
  have sQ0 : IntKind.i64.wrap (Q0 + O0) = Q0 + O0 := IntWalk.i64_in _ (by omega)
  have sQ1 : IntKind.i64.wrap (Q1 + O1) = Q1 + O1 := IntWalk.i64_in _ (by omega)
  have sQ2 : IntKind.i64.wrap (Q2 + O2) = Q2 + O2 := IntWalk.i64_in _ (by omega)
  have sR0 : IntKind.i64.wrap (Q0 + O0 + D) = Q0 + O0 + D := IntWalk.i64_in _ (by omega)
  have sR1 : IntKind.i64.wrap (Q1 + O1 + D) = Q1 + O1 + D := IntWalk.i64_in _ (by omega)
  have sR2 : IntKind.i64.wrap (Q2 + O2 + D) = Q2 + O2 + D := IntWalk.i64_in _ (by omega)
  clear hv hco he
  generalize decide (cw = 3) = AL at *
  by_cases hw : cw = 0
  · rw [if_pos hw] at K1 K2
    rw [decide_eq_true hw] at K1 K2
    clear hw
    go_enter Try.func7, Try.ntmps7
    go_wp2_with (first | (go_at_call 15; (with_reducible refine (KD _).mono ?_); rintro e w' ⟨rfl, os0, n0, rfl⟩) | (go_at_call 8; (with_reducible refine (awake_true _ _ (Gar.refl _)).mono ?_); rintro e w' ⟨rfl, os1, n1, rfl⟩) | (go_at_call 18; (with_reducible refine (KI _).mono ?_); rintro e w' ⟨rfl, os2, n2, rfl⟩))
    refine wp_loop_rounds 4 ?_
    rw [rounds_succ]
    go_wp2_with (fail)
    refine wp_region_tail 13 (by kernel_rfl) (by kernel_rfl) ?_
    simp only [List.take_succ_cons, List.take_zero, List.drop_succ_cons, List.drop_zero]
    repeat (first | go_big_quiet_skip | (go_big_quiet_want; go_big_quiet_op; (first | go_big_quiet_on | (apply Exists.intro; (refine And.intro ?_ ?_); fail; go_big_quiet_on))))
    refine wpQuiet_nil ?_
    go_wp2_with (fail)
    rw [rounds_succ]
    go_wp2_with (fail)
    refine wp_region_tail 13 (by kernel_rfl) (by kernel_rfl) ?_
    simp only [List.take_succ_cons, List.take_zero, List.drop_succ_cons, List.drop_zero]
    repeat (first | go_big_quiet_skip | (go_big_quiet_want; go_big_quiet_op; (first | go_big_quiet_on | (apply Exists.intro; (refine And.intro ?_ ?_); fail; go_big_quiet_on))))
    refine wpQuiet_nil ?_
    go_wp2_with (fail)
    rw [rounds_succ]
    go_wp2_with (fail)
    refine wp_region_tail 13 (by kernel_rfl) (by kernel_rfl) ?_
    simp only [List.take_succ_cons, List.take_zero, List.drop_succ_cons, List.drop_zero]
    repeat (first | go_big_quiet_skip | (go_big_quiet_want; go_big_quiet_op; (first | go_big_quiet_on | (apply Exists.intro; (refine And.intro ?_ ?_); fail; go_big_quiet_on))))
    refine wpQuiet_nil ?_
    go_wp2_with (fail)
    rw [rounds_succ]
    go_wp2_with (fail)
    refine wp_loop_rounds 4 ?_
    repeat any_goals (rw [rounds_succ]; go_wp2_with (first | (go_at_call 9; (first | (with_reducible refine (K1 _).mono ?_) | (with_reducible refine (K2 _).mono ?_)); rintro e w' ⟨rfl, os3, n3, rfl⟩)))
    refine wp_region_tail 46 (by kernel_rfl) (by kernel_rfl) ?_
    simp only [List.take_succ_cons, List.take_zero, List.drop_succ_cons, List.drop_zero]
    repeat (first | go_big_quiet_skip | (go_big_quiet_want; go_big_quiet_op; (first | go_big_quiet_on | (apply Exists.intro; (refine And.intro ?_ ?_); fail; go_big_quiet_on))))
    refine wpQuiet_nil ?_
    go_wp2_with (fail)
    go_returns
    exact ⟨rfl, show Bel _ _ from Gar.bel (by repeat (first | exact Gar.refl _ | refine Gar.drewN ?_ _ | refine Gar.drew ?_ | refine Gar.alloc ?_ _ | refine Gar.allocs ?_ _))⟩
  · rw [if_neg hw, decide_eq_false hw] at K1 K2
    rw [← vang_add] at K2
    have bV := vang_bd ci (Q0 + O0) (Q1 + O1) (Q2 + O2)
    generalize vang ci (Q0 + O0) (Q1 + O1) (Q2 + O2) = V at *
    have sV : IntKind.i64.wrap (V + D) = V + D := IntWalk.i64_in _ (by omega)
    have KN := norm_any (V + D)
    generalize nrm (V + D) = U at *
    clear hw
    go_enter Try.func7, Try.ntmps7
    go_wp2_with (first | (go_at_call 15; (with_reducible refine (KD _).mono ?_); rintro e w' ⟨rfl, os0, n0, rfl⟩) | (go_at_call 8; (with_reducible refine (awake_true _ _ (Gar.refl _)).mono ?_); rintro e w' ⟨rfl, os1, n1, rfl⟩) | (go_at_call 18; (with_reducible refine (KI _).mono ?_); rintro e w' ⟨rfl, os2, n2, rfl⟩))
    refine wp_loop_rounds 4 ?_
    rw [rounds_succ]
    go_wp2_with (fail)
    refine wp_region_tail 13 (by kernel_rfl) (by kernel_rfl) ?_
    simp only [List.take_succ_cons, List.take_zero, List.drop_succ_cons, List.drop_zero]
    repeat (first | go_big_quiet_skip | (go_big_quiet_want; go_big_quiet_op; (first | go_big_quiet_on | (apply Exists.intro; (refine And.intro ?_ ?_); fail; go_big_quiet_on))))
    refine wpQuiet_nil ?_
    go_wp2_with (fail)
    rw [rounds_succ]
    go_wp2_with (fail)
    refine wp_region_tail 13 (by kernel_rfl) (by kernel_rfl) ?_
    simp only [List.take_succ_cons, List.take_zero, List.drop_succ_cons, List.drop_zero]
    repeat (first | go_big_quiet_skip | (go_big_quiet_want; go_big_quiet_op; (first | go_big_quiet_on | (apply Exists.intro; (refine And.intro ?_ ?_); fail; go_big_quiet_on))))
    refine wpQuiet_nil ?_
    go_wp2_with (fail)
    rw [rounds_succ]
    go_wp2_with (fail)
    refine wp_region_tail 13 (by kernel_rfl) (by kernel_rfl) ?_
    simp only [List.take_succ_cons, List.take_zero, List.drop_succ_cons, List.drop_zero]
    repeat (first | go_big_quiet_skip | (go_big_quiet_want; go_big_quiet_op; (first | go_big_quiet_on | (apply Exists.intro; (refine And.intro ?_ ?_); fail; go_big_quiet_on))))
    refine wpQuiet_nil ?_
    go_wp2_with (fail)
    rw [rounds_succ]
    go_wp2_with (fail)
    refine wp_loop_rounds 4 ?_
    repeat any_goals (rw [rounds_succ]; go_wp2_with (first | (go_at_call 9; (first | (with_reducible refine (K1 _).mono ?_) | (with_reducible refine (K2 _).mono ?_)); rintro e w' ⟨rfl, os3, n3, rfl⟩)))
    refine wp_region_tail 46 (by kernel_rfl) (by kernel_rfl) ?_
    simp only [List.take_succ_cons, List.take_zero, List.drop_succ_cons, List.drop_zero]
    repeat (first | go_big_quiet_skip | (go_big_quiet_want; go_big_quiet_op; (first | go_big_quiet_on | (apply Exists.intro; (refine And.intro ?_ ?_); (first | (go_at_call 22; with_reducible exact calls_here (KN _))); go_big_quiet_on))))
    refine wpQuiet_nil ?_
    go_wp2_with (fail)
    go_returns
    exact ⟨rfl, show Bel _ _ from Gar.bel (by repeat (first | exact Gar.refl _ | refine Gar.drewN ?_ _ | refine Gar.drew ?_ | refine Gar.alloc ?_ _ | refine Gar.allocs ?_ _))⟩
end Go.Proofs.Ytdincfemiignjaa
