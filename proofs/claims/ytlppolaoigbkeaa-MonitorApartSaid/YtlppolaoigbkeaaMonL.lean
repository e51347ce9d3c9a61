/- The contracts of monitor.size and monitor.lost. -/
import Derived.Test.YtlppolaoigbkeaaMonW
namespace Go.Proofs.Ytlppolaoigbkeaa
open Go.RowKit
set_option linter.unusedVariables false

/-- The absolute value of n, moved into -m..m. -/
def sz (n m : Int) : Int := if n < -m then m else if m < n then m else if n < 0 then -n else n
theorem sz_bd (n m : Int) (h : 0 ≤ m) : 0 ≤ sz n m ∧ sz n m ≤ m := by unfold sz; (repeat' split) <;> omega
theorem size_any (n m : Int) (h : 0 ≤ m ∧ m ≤ 1099511627776) (w : World) : Calls Try.prog 24 #[.int .i64 n, .int .i64 m] w fun e w' => e = .returned (.int .i64 (sz n m)) ∧ w = w' := by
  rcases (show (n < -m) ∨ (-m ≤ n ∧ m < n) ∨ (-m ≤ n ∧ n ≤ m ∧ n < 0) ∨ (-m ≤ n ∧ n ≤ m ∧ ¬ n < 0) by omega) with g | g | g | g
  all_goals
    go_enter Try.func24, Try.ntmps24
    go_wp2
    all_goals
      go_returns
      exact ⟨ret_int (by unfold sz; (repeat' split) <;> omega), rfl⟩

theorem ret_bl {a b : Bool} (h : b = a) : Ending.returned (.bool a) = .returned (.bool b) := by rw [h]
def rowB (s g1 g2 : Bool) : Bool := s && (g1 || g2)
def tailB (s0 s1 s2 g0 g1 g2 : Bool) (k : Nat) : Bool := (decide (k ≤ 0) && rowB s0 g1 g2) || (decide (k ≤ 1) && rowB s1 g0 g2) || (decide (k ≤ 2) && rowB s2 g0 g1)
/-- Is one current small, and another one great? -/
def lostB (c1 c2 x y z : Int) : Bool := tailB (decide (sz x 2097152 ≤ c1)) (decide (sz y 2097152 ≤ c1)) (decide (sz z 2097152 ≤ c1)) (decide (c2 < sz x 2097152)) (decide (c2 < sz y 2097152)) (decide (c2 < sz z 2097152)) 0

set_option maxHeartbeats 4000000 in
theorem lost_any (c0 c1 c2 c3 c4 c5 c6 c7 c8 c9 x y z : Int) (w : World) : Calls Try.prog 23 #[.agg #[.int .i64 c0, .int .i64 c1, .int .i64 c2, .int .i64 c3, .int .i64 c4, .int .i64 c5, .int .i64 c6, .int .i64 c7, .int .i64 c8, .int .i64 c9], .agg #[.int .i64 x, .int .i64 y, .int .i64 z]] w fun e w' => e = .returned (.bool (lostB c1 c2 x y z)) ∧ Gar w w' := by
  have i0 : ∀ w, (Instr.index 32 (.agg #[.int .i64 x, .int .i64 y, .int .i64 z]) (.int .i64 0)).run Try.prog w = .ok (.int .i64 x) w := fun _ => by kernel_rfl
  have i1 : ∀ w, (Instr.index 32 (.agg #[.int .i64 x, .int .i64 y, .int .i64 z]) (.int .i64 1)).run Try.prog w = .ok (.int .i64 y) w := fun _ => by kernel_rfl
  have i2 : ∀ w, (Instr.index 32 (.agg #[.int .i64 x, .int .i64 y, .int .i64 z]) (.int .i64 2)).run Try.prog w = .ok (.int .i64 z) w := fun _ => by kernel_rfl
  obtain ⟨r, hr⟩ : ∃ r, lostB c1 c2 x y z = r := ⟨_, rfl⟩
  rw [hr]
  have hl := hide hr
  clear hr
  go_enter Try.func23, Try.ntmps23
  go_wp2
  go_loopw [10] (fun i wr => ∃ k n : Nat, i = .int .i64 k ∧ k ≤ 3 ∧ wr = (((w.alloc (.cells #[.int .i64 c0, .int .i64 c1, .int .i64 c2, .int .i64 c3, .int .i64 c4, .int .i64 c5, .int .i64 c6, .int .i64 c7, .int .i64 c8, .int .i64 c9] 24)).alloc (.cells #[.int .i64 x, .int .i64 y, .int .i64 z] 32)).drewN n) ∧ r = tailB (decide (sz x 2097152 ≤ c1)) (decide (sz y 2097152 ≤ c1)) (decide (sz z 2097152 ≤ c1)) (decide (c2 < sz x 2097152)) (decide (c2 < sz y 2097152)) (decide (c2 < sz z 2097152)) k) (fun i _ => 3 - (intOf i).toNat)
  case atStart => exact ⟨0, 0, rfl, by omega, rfl, hl.out.symm⟩
  case round =>
    obtain ⟨k, n, rfl, hk, rfl, hr⟩ := hrel
    have hr := hide hr
    rcases (show k = 0 ∨ k = 1 ∨ k = 2 ∨ k = 3 by omega) with rfl | rfl | rfl | rfl
    · by_cases g : sz x 2097152 ≤ c1
      · have d : decide (sz x 2097152 ≤ c1) = true := decide_eq_true g
        go_wp2
        refine wp_loop_rounds 4 ?_
        repeat any_goals (rw [rounds_succ]; go_wp2; (try (go_quiet ((first | (go_at_call 24; (first | with_reducible exact quiet_eq2 (size_any _ _ (by omega) _) | with_reducible exact quiet_eq (size_any _ _ (by omega) _))))); go_wp2)))
        rotate_right
        · go_round
          case rel => exact ⟨1, _, rfl, by omega, rfl, by rw [hr.out, Bool.eq_iff_iff]; simp [tailB, rowB] <;> omega⟩
          case measure => first | (simp; done) | (simp [intOf]; done) | (simp [intOf]; omega)
        all_goals
          go_returns
          refine ⟨ret_bl ?_, by repeat (first | exact Gar.refl _ | refine Gar.drewN ?_ _ | refine Gar.alloc ?_ _)⟩
          rw [hr.out]
          simp [tailB, rowB]
          omega
      · have d : decide (sz x 2097152 ≤ c1) = false := decide_eq_false g
        go_wp2
        refine wp_loop_rounds 4 ?_
        repeat any_goals (rw [rounds_succ]; go_wp2; (try (go_quiet ((first | (go_at_call 24; (first | with_reducible exact quiet_eq2 (size_any _ _ (by omega) _) | with_reducible exact quiet_eq (size_any _ _ (by omega) _))))); go_wp2)))
        go_round
        case rel => exact ⟨1, _, rfl, by omega, rfl, by rw [hr.out, Bool.eq_iff_iff]; simp [tailB, rowB] <;> omega⟩
        case measure => first | (simp; done) | (simp [intOf]; done) | (simp [intOf]; omega)
    · by_cases g : sz y 2097152 ≤ c1
      · have d : decide (sz y 2097152 ≤ c1) = true := decide_eq_true g
        go_wp2
        refine wp_loop_rounds 4 ?_
        repeat any_goals (rw [rounds_succ]; go_wp2; (try (go_quiet ((first | (go_at_call 24; (first | with_reducible exact quiet_eq2 (size_any _ _ (by omega) _) | with_reducible exact quiet_eq (size_any _ _ (by omega) _))))); go_wp2)))
        rotate_right
        · go_round
          case rel => exact ⟨2, _, rfl, by omega, rfl, by rw [hr.out, Bool.eq_iff_iff]; simp [tailB, rowB] <;> omega⟩
          case measure => first | (simp; done) | (simp [intOf]; done) | (simp [intOf]; omega)
        all_goals
          go_returns
          refine ⟨ret_bl ?_, by repeat (first | exact Gar.refl _ | refine Gar.drewN ?_ _ | refine Gar.alloc ?_ _)⟩
          rw [hr.out]
          simp [tailB, rowB]
          omega
      · have d : decide (sz y 2097152 ≤ c1) = false := decide_eq_false g
        go_wp2
        refine wp_loop_rounds 4 ?_
        repeat any_goals (rw [rounds_succ]; go_wp2; (try (go_quiet ((first | (go_at_call 24; (first | with_reducible exact quiet_eq2 (size_any _ _ (by omega) _) | with_reducible exact quiet_eq (size_any _ _ (by omega) _))))); go_wp2)))
        go_round
        case rel => exact ⟨2, _, rfl, by omega, rfl, by rw [hr.out, Bool.eq_iff_iff]; simp [tailB, rowB] <;> omega⟩
        case measure => first | (simp; done) | (simp [intOf]; done) | (simp [intOf]; omega)
    · by_cases g : sz z 2097152 ≤ c1
      · have d : decide (sz z 2097152 ≤ c1) = true := decide_eq_true g
        go_wp2
        refine wp_loop_rounds 4 ?_
        repeat any_goals (rw [rounds_succ]; go_wp2; (try (go_quiet ((first | (go_at_call 24; (first | with_reducible exact quiet_eq2 (size_any _ _ (by omega) _) | with_reducible exact quiet_eq (size_any _ _ (by omega) _))))); go_wp2)))
        rotate_right
        · go_round
          case rel => exact ⟨3, _, rfl, by omega, rfl, by rw [hr.out, Bool.eq_iff_iff]; simp [tailB, rowB] <;> omega⟩
          case measure => first | (simp; done) | (simp [intOf]; done) | (simp [intOf]; omega)
        all_goals
          go_returns
          refine ⟨ret_bl ?_, by repeat (first | exact Gar.refl _ | refine Gar.drewN ?_ _ | refine Gar.alloc ?_ _)⟩
          rw [hr.out]
          simp [tailB, rowB]
          omega
      · have d : decide (sz z 2097152 ≤ c1) = false := decide_eq_false g
        go_wp2
        refine wp_loop_rounds 4 ?_
        repeat any_goals (rw [rounds_succ]; go_wp2; (try (go_quiet ((first | (go_at_call 24; (first | with_reducible exact quiet_eq2 (size_any _ _ (by omega) _) | with_reducible exact quiet_eq (size_any _ _ (by omega) _))))); go_wp2)))
        go_round
        case rel => exact ⟨3, _, rfl, by omega, rfl, by rw [hr.out, Bool.eq_iff_iff]; simp [tailB, rowB] <;> omega⟩
        case measure => first | (simp; done) | (simp [intOf]; done) | (simp [intOf]; omega)
    · go_wp2
      go_returns
      exact ⟨ret_bl (by rw [hr.out]; simp [tailB, rowB]), by repeat (first | exact Gar.refl _ | refine Gar.drewN ?_ _ | refine Gar.alloc ?_ _)⟩
end Go.Proofs.Ytlppolaoigbkeaa
