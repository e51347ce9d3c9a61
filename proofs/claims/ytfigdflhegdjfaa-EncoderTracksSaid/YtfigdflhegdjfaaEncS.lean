/- The contracts of encoder.count, Count, Signals and of the reference's. -/
import Derived.Test.YtfigdflhegdjfaaEncW
import Derived.Test.YtfigdflhegdjfaaCel
namespace Go.Proofs.Ytfigdflhegdjfaa
open Go.RowKit
set_option linter.unusedVariables false

theorem and_3 (x : Int) : bits .and .i64 x 3 = x % 4 := by
  have h : (BitVec.ofInt 64 3).toNat = 2 ^ 2 - 1 := by decide
  have key : (BitVec.ofInt 64 x &&& BitVec.ofInt 64 3).toNat = (x % ((2 ^ 64 : Nat) : Int)).toNat % 2 ^ 2 := by
    rw [BitVec.toNat_and, BitVec.toNat_ofInt, h, Nat.and_two_pow_sub_one_eq_mod]
  show IntKind.i64.wrap ((BitVec.ofInt 64 x &&& BitVec.ofInt 64 3).toNat : Nat) = x % 4
  rw [key, IntKind.wrap_i64]
  omega
/-- The count of a position. -/
def cnt (c pos : Int) : Int := clp pos (-1099511627776) 1099511627776 * c / 65536

theorem count_any (c p pos : Int) (h : chkB c p = true) (w : World) : Calls Try.prog 30 #[.agg #[.int .i64 c, .int .i64 p], .int .i64 pos] w fun e w' => e = .returned (.int .i64 (cnt c pos)) ∧ ∃ n, w' = (w.alloc (.cells #[.int .i64 c, .int .i64 p] 23)).drewN n := by
  obtain ⟨h1, h2, h3, h4, h5⟩ := chk_in h
  have b1 := clp_bd pos (-1099511627776) 1099511627776 (by omega)
  have p1 := prod_bd (x := clp pos (-1099511627776) 1099511627776) (y := c) (m := 1099511627776) (n := 16384) (by omega) b1 (by omega)
  have hd := hide h3
  clear h h3
  go_enter Try.func30, Try.ntmps30
  go_wp2
  go_quiet ((go_at_call 29; exact quiet_eq (eclip_any _ _ _ (by omega) _)))
  go_wp2
  go_returns
  exact ⟨ret_i (by unfold cnt; rfl), _, rfl⟩

theorem Count_ok (c p pos : Int) (h : chkB c p = true) (w0 w : World) (hb : Gar w0 w) : Calls Try.prog 16 #[.agg #[.int .i64 c, .int .i64 p], .int .i64 pos] w fun e w' => e = .returned (.tuple #[.int .i64 (cnt c pos), .nilIface]) ∧ Gar w0 w' := by
  refine on_gar hb ?_
  clear hb w0
  go_enter Try.func16, Try.ntmps16
  go_wp2_with (first | (go_at_call 12; (with_reducible refine (check_ok _ _ h _).mono ?_); rintro e w' ⟨rfl, rfl⟩) | (go_at_call 30; (with_reducible refine (count_any _ _ _ h _).mono ?_); rintro e w' ⟨rfl, n, rfl⟩))
  go_returns
  exact ⟨rfl, by repeat (first | exact Gar.refl _ | refine Gar.drewN ?_ _ | refine Gar.alloc ?_ _)⟩
theorem Count_bad (c p pos : Int) (h : chkB c p = false) (w0 w : World) (hb : Gar w0 w) : Calls Try.prog 16 #[.agg #[.int .i64 c, .int .i64 p], .int .i64 pos] w fun e w' => e = .returned (.tuple #[.int .i64 0, .iface 64 (.int .i64 3)]) ∧ Gar w0 w' := by
  refine on_gar hb ?_
  clear hb w0
  go_enter Try.func16, Try.ntmps16
  go_wp2_with (first | (go_at_call 12; (with_reducible refine (check_bad _ _ h _).mono ?_); rintro e w' ⟨rfl, rfl⟩))
  go_returns
  exact ⟨rfl, by repeat (first | exact Gar.refl _ | refine Gar.drewN ?_ _ | refine Gar.alloc ?_ _)⟩

def sgA (n : Int) : Bool := decide (n % 4 = 1) || decide (n % 4 = 2)
def sgB (n : Int) : Bool := decide (2 ≤ n % 4)
def sgZ (n m : Int) : Bool := decide (n % m = 0)
theorem sgZ_t (n m : Int) : decide (n.tmod m = 0) = sgZ n m := by
  unfold sgZ
  rw [decide_eq_decide, ← Int.dvd_iff_tmod_eq_zero, ← Int.dvd_iff_emod_eq_zero]

theorem ret_sig {a b c a' b' c' : Bool} (h : a = a') (g : b = b') (k : c = c') : Ending.returned (.tuple #[.agg #[.bool a, .bool b, .bool c], .nilIface]) = .returned (.tuple #[.agg #[.bool a', .bool b', .bool c'], .nilIface]) := by rw [h, g, k]
theorem Signals_ok (c p pos : Int) (h : chkB c p = true) (w0 w : World) (hb : Gar w0 w) : Calls Try.prog 17 #[.agg #[.int .i64 c, .int .i64 p], .int .i64 pos] w fun e w' => e = .returned (.tuple #[.agg #[.bool (sgA (cnt c pos)), .bool (sgB (cnt c pos)), .bool (sgZ (cnt c pos) (c * p))], .nilIface]) ∧ Gar w0 w' := by
  refine on_gar hb ?_
  clear hb w0
  obtain ⟨h1, h2, h3, h4, h5⟩ := chk_in h
  have q1 := Int.mul_le_mul_of_nonneg_left h5 (show 0 ≤ c by omega)
  have q2 := Int.mul_le_mul_of_nonneg_left h4 (show 0 ≤ c by omega)
  have q3 : 4 ≤ c * p ∧ c * p ≤ 1048576 := by omega
  clear h3 q1 q2
  have hcnt := count_any c p pos h
  obtain ⟨N, hN⟩ : ∃ N, cnt c pos = N := ⟨_, rfl⟩
  rw [hN] at hcnt ⊢
  clear hN
  have hz := hide (sgZ_t N (c * p))
  have key : ∃ k, bits .and .i64 N 3 = k ∧ N % 4 = k ∧ (k = 0 ∨ k = 1 ∨ k = 2 ∨ k = 3) := ⟨N % 4, and_3 N, rfl, by omega⟩
  obtain ⟨k, ha, hk, hc⟩ := key
  have hA : sgA N = (decide (k = 1) || decide (k = 2)) := by unfold sgA; rw [hk]
  have hB : sgB N = decide (2 ≤ k) := by unfold sgB; rw [hk]
  rw [hA, hB]
  clear hA hB hk
  rcases hc with rfl | rfl | rfl | rfl
  all_goals
    go_enter Try.func17, Try.ntmps17
    go_wp2_with (first | (go_at_call 12; (with_reducible refine (check_ok _ _ h _).mono ?_); rintro e w' ⟨rfl, rfl⟩) | (go_at_call 30; (with_reducible refine (hcnt _).mono ?_); rintro e w' ⟨rfl, n, rfl⟩))
    refine bodyPost_ret (by simp [results, Try.results17, go_sem]; try rfl) rfl ?_
    have e1 : ∀ b, (N.tmod (c * p) == 0) = b → b = sgZ N (c * p) := by
      rintro b rfl
      rw [← hz.out]
      rfl
    refine ⟨ret_sig rfl rfl (e1 _ rfl), ?_⟩
    repeat (first | exact Gar.refl _ | refine Gar.drewN ?_ _ | refine Gar.alloc ?_ _)
theorem Signals_bad (c p pos : Int) (h : chkB c p = false) (w0 w : World) (hb : Gar w0 w) : Calls Try.prog 17 #[.agg #[.int .i64 c, .int .i64 p], .int .i64 pos] w fun e w' => e = .returned (.tuple #[.agg #[.bool false, .bool false, .bool false], .iface 64 (.int .i64 3)]) ∧ Gar w0 w' := by
  refine on_gar hb ?_
  clear hb w0
  go_enter Try.func17, Try.ntmps17
  go_wp2_with (first | (go_at_call 12; (with_reducible refine (check_bad _ _ h _).mono ?_); rintro e w' ⟨rfl, rfl⟩))
  refine bodyPost_ret (by simp [results, Try.results17, go_sem]; try rfl) rfl ?_
  refine ⟨rfl, ?_⟩
  repeat (first | exact Gar.refl _ | refine Gar.drewN ?_ _ | refine Gar.alloc ?_ _)
end Go.Proofs.Ytfigdflhegdjfaa
