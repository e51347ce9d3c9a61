/- The contracts of the reference's clip, floor, mod, Count, Signals, Angle; encoder.Angle, Stuck. -/
import Derived.Test.YtfigdflhegdjfaaEnc
import Derived.Deep.RegionWith
namespace Go.Proofs.Ytfigdflhegdjfaa
open Go.RowKit
set_option linter.unusedVariables false

theorem rclip_any (n lo hi : Int) (h : lo ≤ hi) (w : World) : Calls Try.prog 32 #[.int .i64 n, .int .i64 lo, .int .i64 hi] w fun e w' => e = .returned (.int .i64 (clp n lo hi)) ∧ w = w' := by
  go_enter Try.func32, Try.ntmps32
  go_wp2
  all_goals
    go_returns
    exact ⟨ret_i (by unfold clp; (repeat' split) <;> omega), rfl⟩
theorem div_cases (x m : Int) (hm : 0 < m) : (x.tmod m < 0 → x / m = x.tdiv m - 1) ∧ (¬ x.tmod m < 0 → x / m = x.tdiv m) ∧ (0 ≤ x → x.tmod m = x % m ∧ x.tdiv m = x / m) := by
  have e := Int.tmod_add_tdiv_mul x m
  rcases tmod_cases x m hm with ⟨h, q⟩ | ⟨h, q⟩
  · have b1 := Int.emod_nonneg x (show m ≠ 0 by omega)
    have := Int.tdiv_eq_ediv_of_nonneg (b := m) h
    exact ⟨fun g => by omega, fun _ => this.symm, fun _ => ⟨q, this⟩⟩
  · have b1 := Int.emod_nonneg (-x) (show m ≠ 0 by omega)
    have b2 := Int.emod_lt_of_pos (-x) hm
    have d := Int.tdiv_eq_ediv_of_nonneg (b := m) (show 0 ≤ -x by omega)
    rw [Int.neg_tdiv] at d
    have e2 := Int.emod_add_mul_ediv (-x) m
    refine ⟨fun g => ?_, fun g => ?_, fun h' => by omega⟩
    · have : x = (m - (-x) % m) + m * (x.tdiv m - 1) := by
        rw [Int.mul_sub, show x.tdiv m = -((-x) / m) by omega, Int.mul_neg]; omega
      rw [this, Int.add_mul_ediv_left _ _ (by omega), Int.ediv_eq_zero_of_lt (by omega) (by omega), ← this]; omega
    · have hz : (-x) % m = 0 := by omega
      have : x = m * x.tdiv m := by
        rw [show x.tdiv m = -((-x) / m) by omega, Int.mul_neg]; omega
      rw [this, Int.mul_ediv_cancel_left _ (by omega), ← this]
theorem div_bd (x m : Int) (hm : 1 ≤ m) (hx : -1152921504606846976 ≤ x ∧ x ≤ 1152921504606846976) : -1152921504606846977 ≤ x / m ∧ x / m ≤ 1152921504606846976 := by
  have h1 := tdiv_le_abs x m 1152921504606846976 hm hx
  obtain ⟨a, b, c⟩ := div_cases x m (by omega)
  by_cases g : x.tmod m < 0
  · have := a g; omega
  · have := b g; omega

theorem floor_any (a b : Int) (hb : 1 ≤ b ∧ b ≤ 1048576) (ha : -1152921504606846976 ≤ a ∧ a ≤ 1152921504606846976) (w : World) : Calls Try.prog 31 #[.int .i64 a, .int .i64 b] w fun e w' => e = .returned (.int .i64 (a / b)) ∧ w = w' := by
  have h1 := tdiv_le_abs a b 1152921504606846976 hb.1 ha
  obtain ⟨c1, c2, c3⟩ := div_cases a b (by omega)
  have t1 := tmod_lt (n := a) (t := b) (by omega)
  by_cases g : 0 ≤ a
  · obtain ⟨e1, e2⟩ := c3 g
    have g2 := Int.emod_nonneg a (show b ≠ 0 by omega)
    clear c1 c2 c3 e1 e2 t1 h1
    have g3 := Int.ediv_nonneg g (show 0 ≤ b by omega)
    go_enter Try.func31, Try.ntmps31
    go_wp2
    go_returns
    exact ⟨rfl, rfl⟩
  · clear c3
    obtain ⟨q, hq⟩ : ∃ q, a.tdiv b = q := ⟨_, rfl⟩
    obtain ⟨r, hr⟩ : ∃ q, a.tmod b = q := ⟨_, rfl⟩
    rw [hq] at h1 c1 c2
    rw [hr] at c1 c2 t1
    by_cases k : r < 0
    · have e := hide (c1 k)
      clear c1 c2
      go_enter Try.func31, Try.ntmps31
      go_wp2
      go_returns
      exact ⟨ret_i e.out.symm, rfl⟩
    · have e := hide (c2 k)
      clear c1 c2
      go_enter Try.func31, Try.ntmps31
      go_wp2
      go_returns
      exact ⟨ret_i e.out.symm, rfl⟩
theorem mod_any (a b : Int) (h1 : 1 ≤ b) (h2 : b ≤ 1048576) (ha : -1152921504606846976 ≤ a ∧ a ≤ 1152921504606846976) (w : World) : Calls Try.prog 33 #[.int .i64 a, .int .i64 b] w fun e w' => e = .returned (.int .i64 (a % b)) ∧ w = w' := by
  have e := Int.emod_add_mul_ediv a b
  have b1 := Int.emod_nonneg a (show b ≠ 0 by omega)
  have b2 := Int.emod_lt_of_pos a (show 0 < b by omega)
  have F := floor_any a b ⟨h1, h2⟩ ha
  have b3 := div_bd a b h1 ha
  obtain ⟨q, hq⟩ : ∃ q, a / b = q := ⟨_, rfl⟩
  obtain ⟨r, hr⟩ : ∃ q, a % b = q := ⟨_, rfl⟩
  rw [hr] at e b1 b2 ⊢
  rw [hq] at e F b3
  obtain ⟨p, hp⟩ : ∃ p, b * q = p := ⟨_, rfl⟩
  rw [hp] at e
  have b4 : -1152921504606846976 - 1048576 ≤ p ∧ p ≤ 1152921504606846976 := by omega
  have ee := hide e
  clear e hq hr
  go_enter Try.func33, Try.ntmps33
  go_wp2_with (go_at_call 31; (with_reducible refine (F _).mono ?_); rintro e w' ⟨rfl, rfl⟩)
  go_returns
  exact ⟨ret_i (by have := ee.out; omega), rfl⟩
theorem floor4_any (a : Int) (ha : (Lit.int .i64 a).wf = true) (w : World) : Calls Try.prog 31 #[.int .i64 a, .int .i64 4] w fun e w' => e = .returned (.int .i64 (a / 4)) ∧ w = w' := by
  have hb := bounds_i64 ha
  clear ha
  obtain ⟨c1, c2, c3⟩ := div_cases a 4 (by omega)
  have t1 := tmod_lt (n := a) (t := 4) (by omega)
  by_cases g : 0 ≤ a
  · clear c1 c2 c3 t1
    go_enter Try.func31, Try.ntmps31
    go_wp2
    go_returns
    exact ⟨rfl, rfl⟩
  · clear c3
    obtain ⟨q, hq⟩ : ∃ q, a.tdiv 4 = q := ⟨_, rfl⟩
    obtain ⟨r, hr⟩ : ∃ q, a.tmod 4 = q := ⟨_, rfl⟩
    have h1 : -2305843009213693952 ≤ q ∧ q ≤ 0 := by
      rcases tdiv_cases a 4 (by omega) with h | h <;> omega
    rw [hq] at c1 c2
    rw [hr] at c1 c2 t1
    by_cases k : r < 0
    · have e := hide (c1 k)
      clear c1 c2
      go_enter Try.func31, Try.ntmps31
      go_wp2
      go_returns
      exact ⟨ret_i e.out.symm, rfl⟩
    · have e := hide (c2 k)
      clear c1 c2
      go_enter Try.func31, Try.ntmps31
      go_wp2
      go_returns
      exact ⟨ret_i e.out.symm, rfl⟩
theorem mod4_any (a : Int) (ha : (Lit.int .i64 a).wf = true) (w : World) : Calls Try.prog 33 #[.int .i64 a, .int .i64 4] w fun e w' => e = .returned (.int .i64 (a % 4)) ∧ w = w' := by
  have F := floor4_any a ha
  have hb := bounds_i64 ha
  clear ha
  have b3 : -2305843009213693952 ≤ a / 4 ∧ a / 4 ≤ 2305843009213693952 := by omega
  obtain ⟨q, hq⟩ : ∃ q, a / 4 = q := ⟨_, rfl⟩
  rw [hq] at F b3
  have h1 : a % 4 = a - 4 * q := by omega
  have h2 : 0 ≤ a - 4 * q ∧ a - 4 * q ≤ 3 := by omega
  rw [h1]
  clear h1 hq
  go_enter Try.func33, Try.ntmps33
  go_wp2_with (go_at_call 31; (with_reducible refine (F _).mono ?_); rintro e w' ⟨rfl, rfl⟩)
  go_returns
  exact ⟨rfl, rfl⟩
theorem rphase_any (a b z : Bool) (w : World) : Calls Try.prog 34 #[.agg #[.bool a, .bool b, .bool z]] w fun e w' => e = .returned (.int .i64 (phs a b)) ∧ w' = w.alloc (.cells #[.bool a, .bool b, .bool z] 34) := by
  cases a <;> cases b
  all_goals
    go_enter Try.func34, Try.ntmps34
    go_wp2
    go_returns
    exact ⟨rfl, rfl⟩
theorem rCount_any (c p pos : Int) (h : chkB c p = true) (w : World) : Calls Try.prog 18 #[.agg #[.int .i64 c, .int .i64 p], .int .i64 pos] w fun e w' => e = .returned (.int .i64 (cnt c pos)) ∧ ∃ n, w' = (w.alloc (.cells #[.int .i64 c, .int .i64 p] 23)).drewN n := by
  obtain ⟨h1, h2, h3, h4, h5⟩ := chk_in h
  have b1 := clp_bd pos (-1099511627776) 1099511627776 (by omega)
  have p1 := prod_bd (x := clp pos (-1099511627776) 1099511627776) (y := c) (m := 1099511627776) (n := 16384) (by omega) b1 (by omega)
  have hd := hide h3
  clear h h3
  have C := rclip_any pos (-1099511627776) 1099511627776 (by omega)
  have F := floor_any (clp pos (-1099511627776) 1099511627776 * c) 65536 (by omega) (by omega)
  go_enter Try.func18, Try.ntmps18
  go_wp2
  go_quiet ((first | (go_at_call 32; with_reducible exact quiet_eq (C _)) | (go_at_call 31; with_reducible exact quiet_eq2 (F _)) | (go_at_call 31; with_reducible exact quiet_eq (F _))))
  go_wp2
  go_returns
  exact ⟨ret_i (by unfold cnt; rfl), _, rfl⟩
theorem ret_sg {a b c a' b' c' : Bool} (h : a = a') (g : b = b') (k : c = c') : Ending.returned (.agg #[.bool a, .bool b, .bool c]) = .returned (.agg #[.bool a', .bool b', .bool c']) := by rw [h, g, k]
theorem rSignals_ok (c p pos : Int) (h : chkB c p = true) (w0 w : World) (hb : Gar w0 w) : Calls Try.prog 19 #[.agg #[.int .i64 c, .int .i64 p], .int .i64 pos] w fun e w' => e = .returned (.agg #[.bool (sgA (cnt c pos)), .bool (sgB (cnt c pos)), .bool (sgZ (cnt c pos) (c * p))]) ∧ Gar w0 w' := by
  refine on_gar hb ?_
  clear hb w0
  have hcnt := rCount_any c p pos h
  obtain ⟨h1, h2, h3, h4, h5⟩ := chk_in h
  have q1 := Int.mul_le_mul_of_nonneg_left h5 (show 0 ≤ c by omega)
  have q2 := Int.mul_le_mul_of_nonneg_left h4 (show 0 ≤ c by omega)
  have q3 : 4 ≤ c * p ∧ c * p ≤ 1048576 := by omega
  have b1 := clp_bd pos (-1099511627776) 1099511627776 (by omega)
  have p1 := prod_bd (x := clp pos (-1099511627776) 1099511627776) (y := c) (m := 1099511627776) (n := 16384) (by omega) b1 (by omega)
  have hn : -1152921504606846976 ≤ cnt c pos ∧ cnt c pos ≤ 1152921504606846976 := by unfold cnt; omega
  clear h3 q1 q2 b1 p1
  obtain ⟨N, hN⟩ : ∃ N, cnt c pos = N := ⟨_, rfl⟩
  rw [hN] at hcnt hn ⊢
  clear hN
  have M1 := mod_any N 4 (by omega) (by omega) hn
  have M2 := mod_any N (c * p) (by omega) (by omega) hn
  have hB : sgB N = (decide (N % 4 = 2) || decide (N % 4 = 3)) := by
    unfold sgB
    rcases (show N % 4 = 0 ∨ N % 4 = 1 ∨ N % 4 = 2 ∨ N % 4 = 3 by omega) with e | e | e | e <;> rw [e] <;> decide
  have hA : sgA N = (decide (N % 4 = 1) || decide (N % 4 = 2)) := rfl
  rw [hB, hA]
  clear hB hA
  obtain ⟨k, hk, hc⟩ : ∃ k, N % 4 = k ∧ (k = 0 ∨ k = 1 ∨ k = 2 ∨ k = 3) := ⟨_, rfl, by omega⟩
  rw [hk] at M1 ⊢
  have hkk := hide hk
  clear hk
  obtain ⟨r, hr⟩ : ∃ r, N % (c * p) = r := ⟨_, rfl⟩
  have hz : sgZ N (c * p) = decide (r = 0) := by unfold sgZ; rw [hr]
  rw [hr] at M2
  rw [hz]
  clear hr hz
  rcases hc with rfl | rfl | rfl | rfl
  all_goals
    go_enter Try.func19, Try.ntmps19
    go_wp2_with (first | (go_at_call 18; (with_reducible refine (hcnt _).mono ?_); rintro e w' ⟨rfl, n, rfl⟩) | (go_at_call 33; (first | (with_reducible refine (M1 _).mono ?_) | (with_reducible refine (M2 _).mono ?_)); rintro e w' ⟨rfl, rfl⟩))
    refine bodyPost_ret (by simp [results, Try.results19, go_sem]; try rfl) rfl ?_
    refine ⟨ret_sg rfl rfl rfl, ?_⟩
    repeat (first | exact Gar.refl _ | refine Gar.drewN ?_ _ | refine Gar.alloc ?_ _)

theorem ret_ref {a b c d a' b' c' d' : Int} {k h s k' h' s' : Bool} (e1 : a = a') (e2 : b = b') (e3 : c = c') (e4 : d = d') (e5 : k = k') (e6 : h = h') (e7 : s = s') :
    Ending.returned (.agg #[.int .i64 a, .int .i64 b, .int .i64 c, .int .i64 d, .bool k, .bool h, .bool s]) = .returned (.agg #[.int .i64 a', .int .i64 b', .int .i64 c', .int .i64 d', .bool k', .bool h', .bool s']) := by
  rw [e1, e2, e3, e4, e5, e6, e7]
set_option maxHeartbeats 2000000 in
theorem rstep_new (c p ph ct er sl : Int) (kn hi a b z : Bool) (w0 w : World) (hb : Gar w0 w) :
    Calls Try.prog 21 #[.agg #[.int .i64 c, .int .i64 p], .agg #[.int .i64 ph, .int .i64 ct, .int .i64 er, .int .i64 sl, .bool kn, .bool hi, .bool false], .agg #[.bool a, .bool b, .bool z]] w fun e w' =>
      e = .returned (.agg #[.int .i64 (phs a b), .int .i64 0, .int .i64 0, .int .i64 0, .bool false, .bool z, .bool true]) ∧ Gar w0 w' := by
  refine on_gar hb ?_
  clear hb w0
  go_enter Try.func21, Try.ntmps21
  go_wp2_with (fail)
  go_region_with (go_at_call 34; (with_reducible refine (rphase_any _ _ _ _).mono ?_); rintro e w' ⟨rfl, rfl⟩)
  all_goals
    go_wp2_with (fail)
    refine bodyPost_ret (by simp [results, Try.results21, go_sem]; try rfl) rfl ?_
    refine ⟨rfl, ?_⟩
    repeat (first | exact Gar.refl _ | refine Gar.drewN ?_ _ | refine Gar.drew ?_ | refine Gar.alloc ?_ _)

/-- The middle of the count as an angle. -/
def agl (c ct : Int) : Int := nrm ((2 * clp ct (-1099511627776) 1099511627776 + 1) * 32768 / c)
theorem angle_ok (c p ph ct er sl : Int) (kn hi st : Bool) (h : chkB c p = true) (w0 w : World) (hb : Gar w0 w) :
    Calls Try.prog 20 #[.agg #[.int .i64 c, .int .i64 p], .agg #[.int .i64 ph, .int .i64 ct, .int .i64 er, .int .i64 sl, .bool kn, .bool hi, .bool st]] w fun e w' => e = .returned (.tuple #[.int .i64 (agl c ct), .nilIface]) ∧ Gar w0 w' := by
  refine on_gar hb ?_
  clear hb w0
  obtain ⟨h1, h2, h3, h4, h5⟩ := chk_in h
  have k1 := clp_bd ct (-1099511627776) 1099511627776 (by omega)
  unfold agl
  have C := eclip_any ct (-1099511627776) 1099511627776 (by omega)
  obtain ⟨K, hK⟩ : ∃ K, clp ct (-1099511627776) 1099511627776 = K := ⟨_, rfl⟩
  rw [hK] at k1 C ⊢
  have b2 := tdiv_le_abs ((2 * K + 1) * 32768) c 1152921504606846976 (by omega) (by omega)
  have t1 := tmod_lt (n := (2 * K + 1) * 32768) (t := c) (by omega)
  obtain ⟨d1, d2, d3⟩ := div_cases ((2 * K + 1) * 32768) c (by omega)
  have am := and_mask ((2 * K + 1) * 32768 / c)
  clear hK h3
  by_cases g : 0 ≤ (2 * K + 1) * 32768
  · obtain ⟨e1, e2⟩ := d3 g
    have g3 := Int.ediv_nonneg g (show 0 ≤ c by omega)
    have g4 : ¬ (2 * K + 1) * 32768 < 0 := by omega
    rw [e2] at b2
    clear d1 d2 d3 e1 e2 t1
    go_enter Try.func20, Try.ntmps20
    go_wp2_with (first | (go_at_call 12; (with_reducible refine (check_ok _ _ h _).mono ?_); rintro e w' ⟨rfl, rfl⟩) | (go_at_call 29; (with_reducible refine (C _).mono ?_); rintro e w' ⟨rfl, rfl⟩))
    go_returns
    exact ⟨rfl, by repeat (first | exact Gar.refl _ | refine Gar.drewN ?_ _ | refine Gar.alloc ?_ _)⟩
  · have g4 : (2 * K + 1) * 32768 < 0 := by omega
    clear d3
    obtain ⟨q, hq⟩ : ∃ q, ((2 * K + 1) * 32768).tdiv c = q := ⟨_, rfl⟩
    obtain ⟨r, hr⟩ : ∃ q, ((2 * K + 1) * 32768).tmod c = q := ⟨_, rfl⟩
    have t2 : r ≤ 0 := by
      rw [← hr]
      rcases tmod_cases ((2 * K + 1) * 32768) c (by omega) with ⟨a, b⟩ | ⟨a, b⟩
      · omega
      · have := Int.emod_nonneg (-((2 * K + 1) * 32768)) (show c ≠ 0 by omega); omega
    rw [hq] at b2 d1 d2
    rw [hr] at d1 d2 t1
    obtain ⟨Q, hQ⟩ : ∃ Q, (2 * K + 1) * 32768 / c = Q := ⟨_, rfl⟩
    rw [hQ] at d1 d2 am ⊢
    have g0 : ¬ 0 ≤ (2 * K + 1) * 32768 := g
    clear hQ g
    by_cases k : r < 0
    · have e := d1 k
      have n1 : (r == 0) = false := by simp; omega
      subst e
      clear d1 d2
      go_enter Try.func20, Try.ntmps20
      go_wp2_with (first | (go_at_call 12; (with_reducible refine (check_ok _ _ h _).mono ?_); rintro e w' ⟨rfl, rfl⟩) | (go_at_call 29; (with_reducible refine (C _).mono ?_); rintro e w' ⟨rfl, rfl⟩))
      go_returns
      exact ⟨rfl, by repeat (first | exact Gar.refl _ | refine Gar.drewN ?_ _ | refine Gar.alloc ?_ _)⟩
    · have e := d2 k
      obtain rfl : r = 0 := by omega
      subst e
      clear d1 d2
      go_enter Try.func20, Try.ntmps20
      go_wp2_with (first | (go_at_call 12; (with_reducible refine (check_ok _ _ h _).mono ?_); rintro e w' ⟨rfl, rfl⟩) | (go_at_call 29; (with_reducible refine (C _).mono ?_); rintro e w' ⟨rfl, rfl⟩))
      go_returns
      exact ⟨rfl, by repeat (first | exact Gar.refl _ | refine Gar.drewN ?_ _ | refine Gar.alloc ?_ _)⟩
theorem angle_bad (c p ph ct er sl : Int) (kn hi st : Bool) (h : chkB c p = false) (w0 w : World) (hb : Gar w0 w) :
    Calls Try.prog 20 #[.agg #[.int .i64 c, .int .i64 p], .agg #[.int .i64 ph, .int .i64 ct, .int .i64 er, .int .i64 sl, .bool kn, .bool hi, .bool st]] w fun e w' => e = .returned (.tuple #[.int .i64 0, .iface 64 (.int .i64 3)]) ∧ Gar w0 w' := by
  refine on_gar hb ?_
  clear hb w0
  go_enter Try.func20, Try.ntmps20
  go_wp2_with (first | (go_at_call 12; (with_reducible refine (check_bad _ _ h _).mono ?_); rintro e w' ⟨rfl, rfl⟩))
  go_returns
  exact ⟨rfl, by repeat (first | exact Gar.refl _ | refine Gar.drewN ?_ _ | refine Gar.alloc ?_ _)⟩
theorem rangle_ok (c p ph ct er sl : Int) (kn hi st : Bool) (h : chkB c p = true) (w0 w : World) (hb : Gar w0 w) :
    Calls Try.prog 22 #[.agg #[.int .i64 c, .int .i64 p], .agg #[.int .i64 ph, .int .i64 ct, .int .i64 er, .int .i64 sl, .bool kn, .bool hi, .bool st]] w fun e w' => e = .returned (.int .i64 (agl c ct)) ∧ Gar w0 w' := by
  refine on_gar hb ?_
  clear hb w0
  obtain ⟨h1, h2, h3, h4, h5⟩ := chk_in h
  have k1 := clp_bd ct (-1099511627776) 1099511627776 (by omega)
  unfold agl
  have C := rclip_any ct (-1099511627776) 1099511627776 (by omega)
  obtain ⟨K, hK⟩ : ∃ K, clp ct (-1099511627776) 1099511627776 = K := ⟨_, rfl⟩
  rw [hK] at k1 C ⊢
  have F := floor_any ((2 * K + 1) * 32768) c (by omega) (by omega)
  have M := mod_any ((2 * K + 1) * 32768 / c) 65536 (by omega) (by omega) (by
    have b2 := tdiv_le_abs ((2 * K + 1) * 32768) c 72057594037960704 (by omega) (by omega)
    obtain ⟨d1, d2, d3⟩ := div_cases ((2 * K + 1) * 32768) c (by omega)
    by_cases k : ((2 * K + 1) * 32768).tmod c < 0
    · have := d1 k; omega
    · have := d2 k; omega)
  clear hK h3
  go_enter Try.func22, Try.ntmps22
  go_wp2
  go_quiet ((first | (go_at_call 32; with_reducible exact quiet_eq (C _)) | (go_at_call 31; (first | with_reducible exact quiet_eq2 (F _) | with_reducible exact quiet_eq (F _))) | (go_at_call 33; (first | with_reducible exact quiet_eq2 (M _) | with_reducible exact quiet_eq (M _)))))
  go_wp2
  go_returns
  exact ⟨rfl, by repeat (first | exact Gar.refl _ | refine Gar.drewN ?_ _ | refine Gar.alloc ?_ _)⟩
end Go.Proofs.Ytfigdflhegdjfaa
