/- The walk of the law MonitorHealthy. -/
import Derived.Test.YtlppolaoigbkeaaMonA
import Derived.Test.YtlppolaoigbkeaaFlat
import Derived.Test.YtlppolaoigbkeaaMonH
import Derived.Test.YtlppolaoigbkeaaLtA
import Derived.Test.YtlppolaoigbkeaaRowN
import Derived.BigQuiet
import Derived.IntWalk
import Derived.Test.YtlppolaoigbkeaaTail
namespace Go.Proofs.Ytlppolaoigbkeaa
open Go.RowKit
set_option linter.unusedVariables false
attribute [local go_sem ↓] Go.wp_at_zero Go.wp_at_succ

set_option maxRecDepth 100000 in
set_option maxHeartbeats 8000000 in
theorem monitorHealthy_walk (a0x0 a0x1 a0x2 a0x3 a0x4 a0x5 a0x6 a0x7 a0x8 a0x9 : Int) (a1 : Option Addr) (len1 cap1 : Nat) (D1 : Nat → List Value) (a2 : Int) (w : World) (w0x0 : (Lit.int .i64 a0x0).wf = true) (w0x1 : (Lit.int .i64 a0x1).wf = true) (w0x2 : (Lit.int .i64 a0x2).wf = true) (w0x3 : (Lit.int .i64 a0x3).wf = true) (w0x4 : (Lit.int .i64 a0x4).wf = true) (w0x5 : (Lit.int .i64 a0x5).wf = true) (w0x6 : (Lit.int .i64 a0x6).wf = true) (w0x7 : (Lit.int .i64 a0x7).wf = true) (w0x8 : (Lit.int .i64 a0x8).wf = true) (w0x9 : (Lit.int .i64 a0x9).wf = true) (r1 : IsRows [some .i64, some .i64, some .i64, some .i64, some .i64, some .i64, some .i64, some .i64] w a1 len1 cap1 D1) (w2 : (Lit.int .i64 a2).wf = true) :
    Calls Try.prog 7 #[.agg #[.int .i64 a0x0, .int .i64 a0x1, .int .i64 a0x2, .int .i64 a0x3, .int .i64 a0x4, .int .i64 a0x5, .int .i64 a0x6, .int .i64 a0x7, .int .i64 a0x8, .int .i64 a0x9], .slice a1 len1 cap1, .int .i64 a2] w fun e w' => e = .returned (.bool true) ∧ Below w.heap.size w w' := by
  clear w0x0 w0x1 w0x2 w0x3 w0x4 w0x5 w0x6 w0x7 w0x8 w0x9
  clear w2
  obtain ⟨hl, hm⟩ := rows_nil r1
  unfold maxLen at hm
  obtain ⟨b, h⟩ : ∃ b, chkB a0x0 a0x1 a0x2 a0x3 a0x4 a0x5 a0x6 a0x7 a0x8 a0x9 = b := ⟨_, rfl⟩
  have hR := hide r1
  clear r1
  cases b
  · have KC := check_bad a0x0 a0x1 a0x2 a0x3 a0x4 a0x5 a0x6 a0x7 a0x8 a0x9 h
    clear h
    go_enter Try.func7, Try.ntmps7
    go_wp2_with (first | (go_at_call 10; (with_reducible refine (awake_true _ _ (Gar.refl _)).mono ?_); rintro e w' ⟨rfl, os1, n1, rfl⟩) | (go_at_call 12; (with_reducible refine (KC _).mono ?_); rintro e w' ⟨rfl, rfl⟩))
    go_returns
    exact ⟨rfl, show Bel _ _ from Gar.bel (by repeat (first | exact Gar.refl _ | refine Gar.drewN ?_ _ | refine Gar.drew ?_ | refine Gar.alloc ?_ _ | refine Gar.allocs ?_ _))⟩
  have KC := check_ok a0x0 a0x1 a0x2 a0x3 a0x4 a0x5 a0x6 a0x7 a0x8 a0x9 h
  by_cases hlen : 300 < len1
  · clear h
    go_enter Try.func7, Try.ntmps7
    go_wp2_with (first | (go_at_call 10; (with_reducible refine (awake_true _ _ (Gar.refl _)).mono ?_); rintro e w' ⟨rfl, os1, n1, rfl⟩) | (go_at_call 12; (with_reducible refine (KC _).mono ?_); rintro e w' ⟨rfl, rfl⟩))
    go_returns
    exact ⟨rfl, show Bel _ _ from Gar.bel (by repeat (first | exact Gar.refl _ | refine Gar.drewN ?_ _ | refine Gar.drew ?_ | refine Gar.alloc ?_ _ | refine Gar.allocs ?_ _))⟩
  have hlen2 : len1 ≤ 300 := by omega
  have hdl : decide ((300 : Int) < (len1 : Int)) = false := decide_eq_false (by omega)
  clear hlen
  obtain ⟨hc0, -, -, -, -, hc5, hc6, -, -, hc9⟩ := chk_in h
  have b0 := wi_in hc0
  have b5 := wi_in hc5
  have b6 := wi_in hc6
  have b9 := wi_in hc9
  clear hc0 hc5 hc6 hc9
  have CS := clip_any a2 0 a0x5
  have bS := clp_bd a2 0 a0x5 (by omega)
  generalize clp a2 0 a0x5 = S at *
  go_enter Try.func7, Try.ntmps7
  go_wp2_with (first | (go_at_call 10; (with_reducible refine (awake_true _ _ (Gar.refl _)).mono ?_); rintro e w' ⟨rfl, os1, n1, rfl⟩) | (go_at_call 12; (with_reducible refine (KC _).mono ?_); rintro e w' ⟨rfl, rfl⟩) | (go_at_call 17; (with_reducible refine (CS _).mono ?_); rintro e w' ⟨rfl, rfl⟩))
  go_loopw [8] (fun i wr => ∃ (k : Nat) (f0 f1 f2 f3 : Int) (g1 g2 : Bool), i = .int .i64 k ∧ k ≤ len1 ∧ Gar (((allocs (w.alloc (.cells #[.int .i64 a0x0, .int .i64 a0x1, .int .i64 a0x2, .int .i64 a0x3, .int .i64 a0x4, .int .i64 a0x5, .int .i64 a0x6, .int .i64 a0x7, .int .i64 a0x8, .int .i64 a0x9] 24)) os1).alloc (.cells #[.int .i64 a0x0, .int .i64 a0x1, .int .i64 a0x2, .int .i64 a0x3, .int .i64 a0x4, .int .i64 a0x5, .int .i64 a0x6, .int .i64 a0x7, .int .i64 a0x8, .int .i64 a0x9] 24)).alloc (.cells #[.int .i64 f0, .int .i64 f1, .int .i64 f2, .int .i64 f3, .bool false, .bool g1, .bool g2, .bool false] 42)) wr) (fun i _ => len1 - (intOf i).toNat)
  case atStart => exact ⟨0, 0, 0, 0, 0, false, false, rfl, Nat.zero_le _, by repeat (first | exact Gar.refl _ | refine Gar.drewN ?_ _ | refine Gar.drew ?_ | refine Gar.alloc ?_ _ | refine Gar.allocs ?_ _)⟩
  case round =>
    obtain ⟨k, f0, f1, f2, f3, g1, g2, rfl, hk, ⟨os, n, rfl⟩⟩ := hrel
    by_cases hlt : k < len1
    · obtain ⟨b, off, rfl, hrow⟩ := rows_8i hR.out (by omega)
      obtain ⟨d0, d1, d2, d3, d4, d5, d6, d7, w0, w1, w2, w3, w4, w5, w6, w7⟩ := hrow k hlt
      clear hrow hR
      have hbb := World.block_lt_of_cell? w _ w0
      obtain ⟨l1, l2, l3, l4, l5, l6, l7, l8⟩ := lt_all hbb
      have j1 : (0 : Int) ≤ (k : Int) := by omega
      have j2 : (k : Int) < (len1 : Int) := by omega
      have j3 : (k : Int) < (cap1 : Int) := by omega
      have CA := clip_any d0 (-262144) 262144
      have bA := clp_bd d0 (-262144) 262144 (by omega)
      generalize clp d0 (-262144) 262144 = A at *
      have CB := clip_any d1 (-262144) 262144
      have bB := clp_bd d1 (-262144) 262144 (by omega)
      generalize clp d1 (-262144) 262144 = B at *
      have CT := clip_any d2 (-1099511627776) 1099511627776
      have bT := clp_bd d2 (-1099511627776) 1099511627776 (by omega)
      generalize clp d2 (-1099511627776) 1099511627776 = T at *
      obtain ⟨Q, hQ⟩ : ∃ Q, a0x0 / 3 = Q := ⟨_, rfl⟩
      have hQ1 : Int.tdiv a0x0 3 = Q := by rw [Int.tdiv_eq_ediv_of_nonneg (by omega), hQ]
      obtain ⟨M, hM⟩ : ∃ M : Int, (if Q ≤ 262144 then Q else 262144) = M := ⟨_, rfl⟩
      have bM : 0 ≤ M ∧ M ≤ 262144 ∧ 3 * M ≤ a0x0 := by split at hM <;> omega
      have mM : ∀ (ts : Array TypeId) (t : TypeId) (w : World), (Builtin.min_ ts t #[.int .i64 Q, .int .i64 262144]).run Try.prog w = .ok (.int .i64 M) w := fun ts t w => by
        rw [← hM]; simp [Builtin.min_, Builtin.min2] <;> (repeat' split) <;> omega
      have mM2 : (if 262144 < Q then (262144 : Int) else Q) = M := by rw [← hM]; (repeat' split) <;> omega
      clear hM
      have CE0 := clip_any d3 (-M) M
      have bE0 := clp_bd d3 (-M) M (by omega)
      generalize clp d3 (-M) M = E0 at *
      have CE1 := clip_any d4 (-M) M
      have bE1 := clp_bd d4 (-M) M (by omega)
      generalize clp d4 (-M) M = E1 at *
      have CE2 := clip_any d5 (-M) M
      have bE2 := clp_bd d5 (-M) M (by omega)
      generalize clp d5 (-M) M = E2 at *
      have CE3 := clip_any d6 (-S) S
      have bE3 := clp_bd d6 (-S) S (by omega)
      generalize clp d6 (-S) S = E3 at *
      have CE4 := clip_any d7 (S - a0x5) (a0x5 - S)
      have bE4 := clp_bd d7 (S - a0x5) (a0x5 - S) (by omega)
      generalize clp d7 (S - a0x5) (a0x5 - S) = E4 at *
      have z0 : q0 a0x0 (A + E0) (B + E1) (-A - B + E2) = false := well_0 (by omega) (by omega) (by omega) (by omega) (by omega)
      have z3 : q3 a0x5 (T + E3) (T + E4) = false := well_3 (by omega) (by omega)
      have KS := fun w => step_ok a0x0 a0x1 a0x2 a0x3 a0x4 a0x5 a0x6 a0x7 a0x8 a0x9 f0 f1 f2 f3 false g1 g2 false (A + E0) (B + E1) (-A - B + E2) 1073741824 0 (T + E3) (T + E4) h w w (Gar.refl _)
      rw [z0, z3, mG_false (by omega), mG_false (by omega)] at KS
      clear z0 z3
      go_wp2_with (fail)
      go_quiet ((go_at_call 17; (first | with_reducible exact quiet_eq2 (CA _) | with_reducible exact quiet_eq2 (CB _) | with_reducible exact quiet_eq (CA _) | with_reducible exact quiet_eq (CB _))))
      go_wp2_with (first | (go_at_call 17; (with_reducible refine (CT _).mono ?_); rintro e w' ⟨rfl, rfl⟩))
      refine wp_loop_rounds 4 ?_
      have s0 : IntKind.i64.wrap (A + E0) = A + E0 := IntWalk.i64_in _ (by omega)
      have s1 : IntKind.i64.wrap (B + E1) = B + E1 := IntWalk.i64_in _ (by omega)
      have s2 : IntKind.i64.wrap ((-A - B) + E2) = (-A - B) + E2 := IntWalk.i64_in _ (by omega)
      have s3 : IntKind.i64.wrap (-M) = -M := IntWalk.i64_in _ (by omega)
      have s4 : IntKind.i64.wrap Q = Q := IntWalk.i64_in _ (by omega)
      rw [rounds_succ]
      go_wp2_with (fail)
      refine wp_region_tail 21 (by kernel_rfl) (by kernel_rfl) ?_
      simp only [List.take_succ_cons, List.take_zero, List.drop_succ_cons, List.drop_zero]
      repeat (first | go_big_quiet_skip | (go_big_quiet_want; go_big_quiet_op; (first | go_big_quiet_on | (apply Exists.intro; (refine And.intro ?_ ?_); (first | (go_at_call 17; with_reducible exact calls_here (CE0 _))); go_big_quiet_on))))
      refine wpQuiet_nil ?_
      go_wp2_with (fail)
      rw [rounds_succ]
      go_wp2_with (fail)
      refine wp_region_tail 21 (by kernel_rfl) (by kernel_rfl) ?_
      simp only [List.take_succ_cons, List.take_zero, List.drop_succ_cons, List.drop_zero]
      repeat (first | go_big_quiet_skip | (go_big_quiet_want; go_big_quiet_op; (first | go_big_quiet_on | (apply Exists.intro; (refine And.intro ?_ ?_); (first | (go_at_call 17; with_reducible exact calls_here (CE1 _))); go_big_quiet_on))))
      refine wpQuiet_nil ?_
      go_wp2_with (fail)
      rw [rounds_succ]
      go_wp2_with (fail)
      refine wp_region_tail 21 (by kernel_rfl) (by kernel_rfl) ?_
      simp only [List.take_succ_cons, List.take_zero, List.drop_succ_cons, List.drop_zero]
      repeat (first | go_big_quiet_skip | (go_big_quiet_want; go_big_quiet_op; (first | go_big_quiet_on | (apply Exists.intro; (refine And.intro ?_ ?_); (first | (go_at_call 17; with_reducible exact calls_here (CE2 _))); go_big_quiet_on))))
      refine wpQuiet_nil ?_
      go_wp2_with (fail)
      rw [rounds_succ]
      go_wp2_with (first | (go_at_call 17; (first | (with_reducible refine (CE3 _).mono ?_) | (with_reducible refine (CE4 _).mono ?_)); rintro e w' ⟨rfl, rfl⟩) | (go_at_call 16; (with_reducible refine (KS _).mono ?_); rintro e w' ⟨rfl, os4, n4, rfl⟩))
      go_roundw
      case rel => exact ⟨k + 1, _, _, _, _, _, _, by go_num, by omega, by repeat (first | exact Gar.refl _ | refine Gar.drewN ?_ _ | refine Gar.drew ?_ | refine Gar.alloc ?_ _ | refine Gar.allocs ?_ _)⟩
      case measure => simp [intOf]; omega
    · clear hR
      go_wp2_with (fail)
      go_returns
      exact ⟨rfl, show Bel _ _ from Gar.bel (by repeat (first | exact Gar.refl _ | refine Gar.drewN ?_ _ | refine Gar.drew ?_ | refine Gar.alloc ?_ _ | refine Gar.allocs ?_ _))⟩
end Go.Proofs.Ytlppolaoigbkeaa
