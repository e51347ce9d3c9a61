/- The contracts of the reference's active, agree, friends. -/
import Derived.Test.YtdincfemiignjaaVotL
import Derived.Test.YtdincfemiignjaaVotP
namespace Go.Proofs.Ytdincfemiignjaa
open Go.RowKit
set_option linter.unusedVariables false
set_option linter.unusedSimpArgs false
attribute [local go_sem ↓] Go.wp_at_zero Go.wp_at_succ

set_option maxHeartbeats 4000000 in
theorem ractive_any (s0 s1 s2 : Int) (m0 m1 m2 : Bool) (sp : Int) (a0 a1 a2 : Int) (r0 r1 r2 : Bool) (w0 w : World) (hb : Gar w0 w) :
    Calls Try.prog 29 #[.agg #[.int .i64 s0, .int .i64 s1, .int .i64 s2, .bool m0, .bool m1, .bool m2, .int .i64 sp], .agg #[.int .i64 a0, .int .i64 a1, .int .i64 a2, .bool r0, .bool r1, .bool r2]] w fun e w' => e = .returned (.tuple #[.agg #[.bool (r0 && !m0), .bool (r1 && !m1), .bool (r2 && !m2)], .int .i64 (b2i (r0 && !m0) + b2i (r1 && !m1) + b2i (r2 && !m2))]) ∧ Gar w0 w' := by
  refine on_gar hb ?_
  clear hb w0
  go_enter Try.func29, Try.ntmps29
  go_wp2_with (fail)
  go_loopw [7, 9] (fun c i wr => ∃ (k : Nat) (x0 x1 x2 : Bool) (ct : Int), c = .int .i64 ct ∧ i = .int .i64 k ∧ k ≤ 3 ∧ Gar ((((w.alloc (.cells #[.int .i64 s0, .int .i64 s1, .int .i64 s2, .bool m0, .bool m1, .bool m2, .int .i64 sp] 27)).alloc (.cells #[.int .i64 a0, .int .i64 a1, .int .i64 a2, .bool r0, .bool r1, .bool r2] 29)).alloc (.cells #[.bool false, .bool false, .bool false] 25)).alloc (.cells #[.bool x0, .bool x1, .bool x2] 25)) wr ∧ OnI (r0 && !m0) (r1 && !m1) (r2 && !m2) k x0 x1 x2 ct) (fun _ i _ => 3 - (intOf i).toNat)
  case atStart => exact ⟨0, false, false, false, 0, rfl, rfl, by omega, by repeat (first | exact Gar.refl _ | refine Gar.drewN ?_ _ | refine Gar.drew ?_ | refine Gar.alloc ?_ _ | refine Gar.allocs ?_ _), rfl, rfl, rfl, rfl⟩
  case round =>
    obtain ⟨k, x0, x1, x2, ct, rfl, rfl, hk, ⟨os, n1, rfl⟩, hI0⟩ := hrel
    have bc := OnI.bd hI0
    have hI := hide hI0
    clear hI0
    rcases (show k = 0 ∨ k = 1 ∨ k = 2 ∨ k = 3 by omega) with rfl | rfl | rfl | rfl
    · have hN := hide (OnI.next0 hI.out)
      clear hI
      cases r0 <;> cases m0
      all_goals
        go_wp2_with (fail)
        go_roundw
        case rel => exact ⟨1, _, _, _, _, rfl, rfl, by omega, by repeat (first | exact Gar.refl _ | refine Gar.drewN ?_ _ | refine Gar.drew ?_ | refine Gar.alloc ?_ _ | refine Gar.allocs ?_ _), by simpa [b2i] using hN.out⟩
        case measure => first | (simp; done) | (simp [intOf]; done) | (simp [intOf]; omega)
    · have hN := hide (OnI.next1 hI.out)
      clear hI
      cases r1 <;> cases m1
      all_goals
        go_wp2_with (fail)
        go_roundw
        case rel => exact ⟨2, _, _, _, _, rfl, rfl, by omega, by repeat (first | exact Gar.refl _ | refine Gar.drewN ?_ _ | refine Gar.drew ?_ | refine Gar.alloc ?_ _ | refine Gar.allocs ?_ _), by simpa [b2i] using hN.out⟩
        case measure => first | (simp; done) | (simp [intOf]; done) | (simp [intOf]; omega)
    · have hN := hide (OnI.next2 hI.out)
      clear hI
      cases r2 <;> cases m2
      all_goals
        go_wp2_with (fail)
        go_roundw
        case rel => exact ⟨3, _, _, _, _, rfl, rfl, by omega, by repeat (first | exact Gar.refl _ | refine Gar.drewN ?_ _ | refine Gar.drew ?_ | refine Gar.alloc ?_ _ | refine Gar.allocs ?_ _), by simpa [b2i] using hN.out⟩
        case measure => first | (simp; done) | (simp [intOf]; done) | (simp [intOf]; omega)
    · obtain ⟨q0, q1, q2, q3⟩ := hI.out
      simp only [show decide (0 < 3) = true from rfl, show decide (1 < 3) = true from rfl, show decide (2 < 3) = true from rfl, Bool.true_and] at q0 q1 q2 q3
      have hq := hide (And.intro q0 (And.intro q1 (And.intro q2 q3)))
      clear q0 q1 q2 q3 hI
      go_wp2_with (fail)
      refine bodyPost_ret (by simp [results, Try.results29, go_sem]; try rfl) rfl ?_
      obtain ⟨rfl, rfl, rfl, rfl⟩ := hq.out
      exact ⟨rfl, by repeat (first | exact Gar.refl _ | refine Gar.drewN ?_ _ | refine Gar.drew ?_ | refine Gar.alloc ?_ _ | refine Gar.allocs ?_ _)⟩
set_option maxHeartbeats 4000000 in
theorem ragree_00 (e0 e1 e2 p0 p1 p2 n : Int) (u0 u1 u2 : Bool) (a0 a1 a2 : Int) (r0 r1 r2 : Bool) (he : (0 ≤ e0 ∧ e0 ≤ 16384) ∧ (0 ≤ e1 ∧ e1 ≤ 16384) ∧ (0 ≤ e2 ∧ e2 ≤ 16384)) (w0 w : World) (hb : Gar w0 w) :
    Calls Try.prog 30 #[.agg #[.int .i64 e0, .int .i64 e1, .int .i64 e2, .int .i64 p0, .int .i64 p1, .int .i64 p2, .int .i64 n], .agg #[.bool u0, .bool u1, .bool u2], .agg #[.int .i64 a0, .int .i64 a1, .int .i64 a2, .bool r0, .bool r1, .bool r2], .int .i64 0, .int .i64 0] w fun e w' => e = .returned (.bool false) ∧ Gar w0 w' := by
  refine on_gar hb ?_
  clear hb w0
  obtain ⟨he0, he1, he2⟩ := he
  go_enter Try.func30, Try.ntmps30
  go_wp2_with (fail)
  go_quiet (fail)
  go_wp2_with (fail)
  go_returns
  exact ⟨ret_b rfl, by repeat (first | exact Gar.refl _ | refine Gar.drewN ?_ _ | refine Gar.drew ?_ | refine Gar.alloc ?_ _ | refine Gar.allocs ?_ _)⟩
set_option maxHeartbeats 4000000 in
theorem ragree_01 (e0 e1 e2 p0 p1 p2 n : Int) (u0 u1 u2 : Bool) (a0 a1 a2 : Int) (r0 r1 r2 : Bool) (he : (0 ≤ e0 ∧ e0 ≤ 16384) ∧ (0 ≤ e1 ∧ e1 ≤ 16384) ∧ (0 ≤ e2 ∧ e2 ≤ 16384)) (w0 w : World) (hb : Gar w0 w) :
    Calls Try.prog 30 #[.agg #[.int .i64 e0, .int .i64 e1, .int .i64 e2, .int .i64 p0, .int .i64 p1, .int .i64 p2, .int .i64 n], .agg #[.bool u0, .bool u1, .bool u2], .agg #[.int .i64 a0, .int .i64 a1, .int .i64 a2, .bool r0, .bool r1, .bool r2], .int .i64 0, .int .i64 1] w fun e w' => e = .returned (.bool (gg u0 u1 a0 a1 e0 e1)) ∧ Gar w0 w' := by
  refine on_gar hb ?_
  clear hb w0
  obtain ⟨he0, he1, he2⟩ := he
  rcases b_ways u0 u1 with rfl | ⟨rfl, rfl⟩ | ⟨rfl, rfl⟩
  · go_enter Try.func30, Try.ntmps30
    go_wp2_with (fail)
    go_quiet (fail)
    go_wp2_with (fail)
    go_returns
    exact ⟨ret_b (gg_f _ _ _ _ _).symm, by repeat (first | exact Gar.refl _ | refine Gar.drewN ?_ _ | refine Gar.drew ?_ | refine Gar.alloc ?_ _ | refine Gar.allocs ?_ _)⟩
  · go_enter Try.func30, Try.ntmps30
    go_wp2_with (fail)
    go_quiet (fail)
    go_wp2_with (fail)
    go_returns
    exact ⟨ret_b (gg_tf _ _ _ _).symm, by repeat (first | exact Gar.refl _ | refine Gar.drewN ?_ _ | refine Gar.drew ?_ | refine Gar.alloc ?_ _ | refine Gar.allocs ?_ _)⟩
  · rw [gg_tt]
    have LD := rdist_any a0 a1
    obtain ⟨D, hD⟩ : ∃ D, dst a0 a1 = D := ⟨_, rfl⟩
    rw [hD] at LD
    rw [hD]
    clear hD
    have s1 : IntKind.i64.wrap (e0 + e1) = e0 + e1 := IntWalk.i64_in _ (by omega)
    go_enter Try.func30, Try.ntmps30
    go_wp2_with (fail)
    go_quiet ((go_at_call 38; (first | with_reducible exact quiet_eq2 (LD _) | with_reducible exact quiet_eq (LD _))))
    go_wp2_with (fail)
    go_returns
    exact ⟨ret_b rfl, by repeat (first | exact Gar.refl _ | refine Gar.drewN ?_ _ | refine Gar.drew ?_ | refine Gar.alloc ?_ _ | refine Gar.allocs ?_ _)⟩
set_option maxHeartbeats 4000000 in
theorem ragree_02 (e0 e1 e2 p0 p1 p2 n : Int) (u0 u1 u2 : Bool) (a0 a1 a2 : Int) (r0 r1 r2 : Bool) (he : (0 ≤ e0 ∧ e0 ≤ 16384) ∧ (0 ≤ e1 ∧ e1 ≤ 16384) ∧ (0 ≤ e2 ∧ e2 ≤ 16384)) (w0 w : World) (hb : Gar w0 w) :
    Calls Try.prog 30 #[.agg #[.int .i64 e0, .int .i64 e1, .int .i64 e2, .int .i64 p0, .int .i64 p1, .int .i64 p2, .int .i64 n], .agg #[.bool u0, .bool u1, .bool u2], .agg #[.int .i64 a0, .int .i64 a1, .int .i64 a2, .bool r0, .bool r1, .bool r2], .int .i64 0, .int .i64 2] w fun e w' => e = .returned (.bool (gg u0 u2 a0 a2 e0 e2)) ∧ Gar w0 w' := by
  refine on_gar hb ?_
  clear hb w0
  obtain ⟨he0, he1, he2⟩ := he
  rcases b_ways u0 u2 with rfl | ⟨rfl, rfl⟩ | ⟨rfl, rfl⟩
  · go_enter Try.func30, Try.ntmps30
    go_wp2_with (fail)
    go_quiet (fail)
    go_wp2_with (fail)
    go_returns
    exact ⟨ret_b (gg_f _ _ _ _ _).symm, by repeat (first | exact Gar.refl _ | refine Gar.drewN ?_ _ | refine Gar.drew ?_ | refine Gar.alloc ?_ _ | refine Gar.allocs ?_ _)⟩
  · go_enter Try.func30, Try.ntmps30
    go_wp2_with (fail)
    go_quiet (fail)
    go_wp2_with (fail)
    go_returns
    exact ⟨ret_b (gg_tf _ _ _ _).symm, by repeat (first | exact Gar.refl _ | refine Gar.drewN ?_ _ | refine Gar.drew ?_ | refine Gar.alloc ?_ _ | refine Gar.allocs ?_ _)⟩
  · rw [gg_tt]
    have LD := rdist_any a0 a2
    obtain ⟨D, hD⟩ : ∃ D, dst a0 a2 = D := ⟨_, rfl⟩
    rw [hD] at LD
    rw [hD]
    clear hD
    have s1 : IntKind.i64.wrap (e0 + e2) = e0 + e2 := IntWalk.i64_in _ (by omega)
    go_enter Try.func30, Try.ntmps30
    go_wp2_with (fail)
    go_quiet ((go_at_call 38; (first | with_reducible exact quiet_eq2 (LD _) | with_reducible exact quiet_eq (LD _))))
    go_wp2_with (fail)
    go_returns
    exact ⟨ret_b rfl, by repeat (first | exact Gar.refl _ | refine Gar.drewN ?_ _ | refine Gar.drew ?_ | refine Gar.alloc ?_ _ | refine Gar.allocs ?_ _)⟩
set_option maxHeartbeats 4000000 in
theorem ragree_10 (e0 e1 e2 p0 p1 p2 n : Int) (u0 u1 u2 : Bool) (a0 a1 a2 : Int) (r0 r1 r2 : Bool) (he : (0 ≤ e0 ∧ e0 ≤ 16384) ∧ (0 ≤ e1 ∧ e1 ≤ 16384) ∧ (0 ≤ e2 ∧ e2 ≤ 16384)) (w0 w : World) (hb : Gar w0 w) :
    Calls Try.prog 30 #[.agg #[.int .i64 e0, .int .i64 e1, .int .i64 e2, .int .i64 p0, .int .i64 p1, .int .i64 p2, .int .i64 n], .agg #[.bool u0, .bool u1, .bool u2], .agg #[.int .i64 a0, .int .i64 a1, .int .i64 a2, .bool r0, .bool r1, .bool r2], .int .i64 1, .int .i64 0] w fun e w' => e = .returned (.bool (gg u1 u0 a1 a0 e1 e0)) ∧ Gar w0 w' := by
  refine on_gar hb ?_
  clear hb w0
  obtain ⟨he0, he1, he2⟩ := he
  rcases b_ways u1 u0 with rfl | ⟨rfl, rfl⟩ | ⟨rfl, rfl⟩
  · go_enter Try.func30, Try.ntmps30
    go_wp2_with (fail)
    go_quiet (fail)
    go_wp2_with (fail)
    go_returns
    exact ⟨ret_b (gg_f _ _ _ _ _).symm, by repeat (first | exact Gar.refl _ | refine Gar.drewN ?_ _ | refine Gar.drew ?_ | refine Gar.alloc ?_ _ | refine Gar.allocs ?_ _)⟩
  · go_enter Try.func30, Try.ntmps30
    go_wp2_with (fail)
    go_quiet (fail)
    go_wp2_with (fail)
    go_returns
    exact ⟨ret_b (gg_tf _ _ _ _).symm, by repeat (first | exact Gar.refl _ | refine Gar.drewN ?_ _ | refine Gar.drew ?_ | refine Gar.alloc ?_ _ | refine Gar.allocs ?_ _)⟩
  · rw [gg_tt]
    have LD := rdist_any a1 a0
    obtain ⟨D, hD⟩ : ∃ D, dst a1 a0 = D := ⟨_, rfl⟩
    rw [hD] at LD
    rw [hD]
    clear hD
    have s1 : IntKind.i64.wrap (e1 + e0) = e1 + e0 := IntWalk.i64_in _ (by omega)
    go_enter Try.func30, Try.ntmps30
    go_wp2_with (fail)
    go_quiet ((go_at_call 38; (first | with_reducible exact quiet_eq2 (LD _) | with_reducible exact quiet_eq (LD _))))
    go_wp2_with (fail)
    go_returns
    exact ⟨ret_b rfl, by repeat (first | exact Gar.refl _ | refine Gar.drewN ?_ _ | refine Gar.drew ?_ | refine Gar.alloc ?_ _ | refine Gar.allocs ?_ _)⟩
set_option maxHeartbeats 4000000 in
theorem ragree_11 (e0 e1 e2 p0 p1 p2 n : Int) (u0 u1 u2 : Bool) (a0 a1 a2 : Int) (r0 r1 r2 : Bool) (he : (0 ≤ e0 ∧ e0 ≤ 16384) ∧ (0 ≤ e1 ∧ e1 ≤ 16384) ∧ (0 ≤ e2 ∧ e2 ≤ 16384)) (w0 w : World) (hb : Gar w0 w) :
    Calls Try.prog 30 #[.agg #[.int .i64 e0, .int .i64 e1, .int .i64 e2, .int .i64 p0, .int .i64 p1, .int .i64 p2, .int .i64 n], .agg #[.bool u0, .bool u1, .bool u2], .agg #[.int .i64 a0, .int .i64 a1, .int .i64 a2, .bool r0, .bool r1, .bool r2], .int .i64 1, .int .i64 1] w fun e w' => e = .returned (.bool false) ∧ Gar w0 w' := by
  refine on_gar hb ?_
  clear hb w0
  obtain ⟨he0, he1, he2⟩ := he
  go_enter Try.func30, Try.ntmps30
  go_wp2_with (fail)
  go_quiet (fail)
  go_wp2_with (fail)
  go_returns
  exact ⟨ret_b rfl, by repeat (first | exact Gar.refl _ | refine Gar.drewN ?_ _ | refine Gar.drew ?_ | refine Gar.alloc ?_ _ | refine Gar.allocs ?_ _)⟩
set_option maxHeartbeats 4000000 in
theorem ragree_12 (e0 e1 e2 p0 p1 p2 n : Int) (u0 u1 u2 : Bool) (a0 a1 a2 : Int) (r0 r1 r2 : Bool) (he : (0 ≤ e0 ∧ e0 ≤ 16384) ∧ (0 ≤ e1 ∧ e1 ≤ 16384) ∧ (0 ≤ e2 ∧ e2 ≤ 16384)) (w0 w : World) (hb : Gar w0 w) :
    Calls Try.prog 30 #[.agg #[.int .i64 e0, .int .i64 e1, .int .i64 e2, .int .i64 p0, .int .i64 p1, .int .i64 p2, .int .i64 n], .agg #[.bool u0, .bool u1, .bool u2], .agg #[.int .i64 a0, .int .i64 a1, .int .i64 a2, .bool r0, .bool r1, .bool r2], .int .i64 1, .int .i64 2] w fun e w' => e = .returned (.bool (gg u1 u2 a1 a2 e1 e2)) ∧ Gar w0 w' := by
  refine on_gar hb ?_
  clear hb w0
  obtain ⟨he0, he1, he2⟩ := he
  rcases b_ways u1 u2 with rfl | ⟨rfl, rfl⟩ | ⟨rfl, rfl⟩
  · go_enter Try.func30, Try.ntmps30
    go_wp2_with (fail)
    go_quiet (fail)
    go_wp2_with (fail)
    go_returns
    exact ⟨ret_b (gg_f _ _ _ _ _).symm, by repeat (first | exact Gar.refl _ | refine Gar.drewN ?_ _ | refine Gar.drew ?_ | refine Gar.alloc ?_ _ | refine Gar.allocs ?_ _)⟩
  · go_enter Try.func30, Try.ntmps30
    go_wp2_with (fail)
    go_quiet (fail)
    go_wp2_with (fail)
    go_returns
    exact ⟨ret_b (gg_tf _ _ _ _).symm, by repeat (first | exact Gar.refl _ | refine Gar.drewN ?_ _ | refine Gar.drew ?_ | refine Gar.alloc ?_ _ | refine Gar.allocs ?_ _)⟩
  · rw [gg_tt]
    have LD := rdist_any a1 a2
    obtain ⟨D, hD⟩ : ∃ D, dst a1 a2 = D := ⟨_, rfl⟩
    rw [hD] at LD
    rw [hD]
    clear hD
    have s1 : IntKind.i64.wrap (e1 + e2) = e1 + e2 := IntWalk.i64_in _ (by omega)
    go_enter Try.func30, Try.ntmps30
    go_wp2_with (fail)
    go_quiet ((go_at_call 38; (first | with_reducible exact quiet_eq2 (LD _) | with_reducible exact quiet_eq (LD _))))
    go_wp2_with (fail)
    go_returns
    exact ⟨ret_b rfl, by repeat (first | exact Gar.refl _ | refine Gar.drewN ?_ _ | refine Gar.drew ?_ | refine Gar.alloc ?_ _ | refine Gar.allocs ?_ _)⟩
set_option maxHeartbeats 4000000 in
theorem ragree_20 (e0 e1 e2 p0 p1 p2 n : Int) (u0 u1 u2 : Bool) (a0 a1 a2 : Int) (r0 r1 r2 : Bool) (he : (0 ≤ e0 ∧ e0 ≤ 16384) ∧ (0 ≤ e1 ∧ e1 ≤ 16384) ∧ (0 ≤ e2 ∧ e2 ≤ 16384)) (w0 w : World) (hb : Gar w0 w) :
    Calls Try.prog 30 #[.agg #[.int .i64 e0, .int .i64 e1, .int .i64 e2, .int .i64 p0, .int .i64 p1, .int .i64 p2, .int .i64 n], .agg #[.bool u0, .bool u1, .bool u2], .agg #[.int .i64 a0, .int .i64 a1, .int .i64 a2, .bool r0, .bool r1, .bool r2], .int .i64 2, .int .i64 0] w fun e w' => e = .returned (.bool (gg u2 u0 a2 a0 e2 e0)) ∧ Gar w0 w' := by
  refine on_gar hb ?_
  clear hb w0
  obtain ⟨he0, he1, he2⟩ := he
  rcases b_ways u2 u0 with rfl | ⟨rfl, rfl⟩ | ⟨rfl, rfl⟩
  · go_enter Try.func30, Try.ntmps30
    go_wp2_with (fail)
    go_quiet (fail)
    go_wp2_with (fail)
    go_returns
    exact ⟨ret_b (gg_f _ _ _ _ _).symm, by repeat (first | exact Gar.refl _ | refine Gar.drewN ?_ _ | refine Gar.drew ?_ | refine Gar.alloc ?_ _ | refine Gar.allocs ?_ _)⟩
  · go_enter Try.func30, Try.ntmps30
    go_wp2_with (fail)
    go_quiet (fail)
    go_wp2_with (fail)
    go_returns
    exact ⟨ret_b (gg_tf _ _ _ _).symm, by repeat (first | exact Gar.refl _ | refine Gar.drewN ?_ _ | refine Gar.drew ?_ | refine Gar.alloc ?_ _ | refine Gar.allocs ?_ _)⟩
  · rw [gg_tt]
    have LD := rdist_any a2 a0
    obtain ⟨D, hD⟩ : ∃ D, dst a2 a0 = D := ⟨_, rfl⟩
    rw [hD] at LD
    rw [hD]
    clear hD
    have s1 : IntKind.i64.wrap (e2 + e0) = e2 + e0 := IntWalk.i64_in _ (by omega)
    go_enter Try.func30, Try.ntmps30
    go_wp2_with (fail)
    go_quiet ((go_at_call 38; (first | with_reducible exact quiet_eq2 (LD _) | with_reducible exact quiet_eq (LD _))))
    go_wp2_with (fail)
    go_returns
    exact ⟨ret_b rfl, by repeat (first | exact Gar.refl _ | refine Gar.drewN ?_ _ | refine Gar.drew ?_ | refine Gar.alloc ?_ _ | refine Gar.allocs ?_ _)⟩
set_option maxHeartbeats 4000000 in
theorem ragree_21 (e0 e1 e2 p0 p1 p2 n : Int) (u0 u1 u2 : Bool) (a0 a1 a2 : Int) (r0 r1 r2 : Bool) (he : (0 ≤ e0 ∧ e0 ≤ 16384) ∧ (0 ≤ e1 ∧ e1 ≤ 16384) ∧ (0 ≤ e2 ∧ e2 ≤ 16384)) (w0 w : World) (hb : Gar w0 w) :
    Calls Try.prog 30 #[.agg #[.int .i64 e0, .int .i64 e1, .int .i64 e2, .int .i64 p0, .int .i64 p1, .int .i64 p2, .int .i64 n], .agg #[.bool u0, .bool u1, .bool u2], .agg #[.int .i64 a0, .int .i64 a1, .int .i64 a2, .bool r0, .bool r1, .bool r2], .int .i64 2, .int .i64 1] w fun e w' => e = .returned (.bool (gg u2 u1 a2 a1 e2 e1)) ∧ Gar w0 w' := by
  refine on_gar hb ?_
  clear hb w0
  obtain ⟨he0, he1, he2⟩ := he
  rcases b_ways u2 u1 with rfl | ⟨rfl, rfl⟩ | ⟨rfl, rfl⟩
  · go_enter Try.func30, Try.ntmps30
    go_wp2_with (fail)
    go_quiet (fail)
    go_wp2_with (fail)
    go_returns
    exact ⟨ret_b (gg_f _ _ _ _ _).symm, by repeat (first | exact Gar.refl _ | refine Gar.drewN ?_ _ | refine Gar.drew ?_ | refine Gar.alloc ?_ _ | refine Gar.allocs ?_ _)⟩
  · go_enter Try.func30, Try.ntmps30
    go_wp2_with (fail)
    go_quiet (fail)
    go_wp2_with (fail)
    go_returns
    exact ⟨ret_b (gg_tf _ _ _ _).symm, by repeat (first | exact Gar.refl _ | refine Gar.drewN ?_ _ | refine Gar.drew ?_ | refine Gar.alloc ?_ _ | refine Gar.allocs ?_ _)⟩
  · rw [gg_tt]
    have LD := rdist_any a2 a1
    obtain ⟨D, hD⟩ : ∃ D, dst a2 a1 = D := ⟨_, rfl⟩
    rw [hD] at LD
    rw [hD]
    clear hD
    have s1 : IntKind.i64.wrap (e2 + e1) = e2 + e1 := IntWalk.i64_in _ (by omega)
    go_enter Try.func30, Try.ntmps30
    go_wp2_with (fail)
    go_quiet ((go_at_call 38; (first | with_reducible exact quiet_eq2 (LD _) | with_reducible exact quiet_eq (LD _))))
    go_wp2_with (fail)
    go_returns
    exact ⟨ret_b rfl, by repeat (first | exact Gar.refl _ | refine Gar.drewN ?_ _ | refine Gar.drew ?_ | refine Gar.alloc ?_ _ | refine Gar.allocs ?_ _)⟩
set_option maxHeartbeats 4000000 in
theorem ragree_22 (e0 e1 e2 p0 p1 p2 n : Int) (u0 u1 u2 : Bool) (a0 a1 a2 : Int) (r0 r1 r2 : Bool) (he : (0 ≤ e0 ∧ e0 ≤ 16384) ∧ (0 ≤ e1 ∧ e1 ≤ 16384) ∧ (0 ≤ e2 ∧ e2 ≤ 16384)) (w0 w : World) (hb : Gar w0 w) :
    Calls Try.prog 30 #[.agg #[.int .i64 e0, .int .i64 e1, .int .i64 e2, .int .i64 p0, .int .i64 p1, .int .i64 p2, .int .i64 n], .agg #[.bool u0, .bool u1, .bool u2], .agg #[.int .i64 a0, .int .i64 a1, .int .i64 a2, .bool r0, .bool r1, .bool r2], .int .i64 2, .int .i64 2] w fun e w' => e = .returned (.bool false) ∧ Gar w0 w' := by
  refine on_gar hb ?_
  clear hb w0
  obtain ⟨he0, he1, he2⟩ := he
  go_enter Try.func30, Try.ntmps30
  go_wp2_with (fail)
  go_quiet (fail)
  go_wp2_with (fail)
  go_returns
  exact ⟨ret_b rfl, by repeat (first | exact Gar.refl _ | refine Gar.drewN ?_ _ | refine Gar.drew ?_ | refine Gar.alloc ?_ _ | refine Gar.allocs ?_ _)⟩
set_option maxHeartbeats 4000000 in
theorem friends_0 (e0 e1 e2 p0 p1 p2 n : Int) (u0 u1 u2 : Bool) (a0 a1 a2 : Int) (r0 r1 r2 : Bool) (he : (0 ≤ e0 ∧ e0 ≤ 16384) ∧ (0 ≤ e1 ∧ e1 ≤ 16384) ∧ (0 ≤ e2 ∧ e2 ≤ 16384)) (w0 w : World) (hb : Gar w0 w) :
    Calls Try.prog 37 #[.agg #[.int .i64 e0, .int .i64 e1, .int .i64 e2, .int .i64 p0, .int .i64 p1, .int .i64 p2, .int .i64 n], .agg #[.bool u0, .bool u1, .bool u2], .agg #[.int .i64 a0, .int .i64 a1, .int .i64 a2, .bool r0, .bool r1, .bool r2], .int .i64 0] w fun e w' => e = .returned (.bool ((gg u0 u1 a0 a1 e0 e1) || (gg u0 u2 a0 a2 e0 e2))) ∧ Gar w0 w' := by
  refine on_gar hb ?_
  clear hb w0
  have K1 := fun w => ragree_01 e0 e1 e2 p0 p1 p2 n u0 u1 u2 a0 a1 a2 r0 r1 r2 he w w (Gar.refl _)
  have K2 := fun w => ragree_02 e0 e1 e2 p0 p1 p2 n u0 u1 u2 a0 a1 a2 r0 r1 r2 he w w (Gar.refl _)
  generalize (gg u0 u1 a0 a1 e0 e1) = g1 at *
  generalize (gg u0 u2 a0 a2 e0 e2) = g2 at *
  clear he
  cases g1
  all_goals
    go_enter Try.func37, Try.ntmps37
    go_wp2_with (first | (go_at_call 30; (first | (with_reducible refine (K1 _).mono ?_) | (with_reducible refine (K2 _).mono ?_)); rintro e w' ⟨rfl, os5, n5, rfl⟩))
    go_returns
    exact ⟨ret_b (by simp), by repeat (first | exact Gar.refl _ | refine Gar.drewN ?_ _ | refine Gar.drew ?_ | refine Gar.alloc ?_ _ | refine Gar.allocs ?_ _)⟩
set_option maxHeartbeats 4000000 in
theorem friends_1 (e0 e1 e2 p0 p1 p2 n : Int) (u0 u1 u2 : Bool) (a0 a1 a2 : Int) (r0 r1 r2 : Bool) (he : (0 ≤ e0 ∧ e0 ≤ 16384) ∧ (0 ≤ e1 ∧ e1 ≤ 16384) ∧ (0 ≤ e2 ∧ e2 ≤ 16384)) (w0 w : World) (hb : Gar w0 w) :
    Calls Try.prog 37 #[.agg #[.int .i64 e0, .int .i64 e1, .int .i64 e2, .int .i64 p0, .int .i64 p1, .int .i64 p2, .int .i64 n], .agg #[.bool u0, .bool u1, .bool u2], .agg #[.int .i64 a0, .int .i64 a1, .int .i64 a2, .bool r0, .bool r1, .bool r2], .int .i64 1] w fun e w' => e = .returned (.bool ((gg u1 u2 a1 a2 e1 e2) || (gg u1 u0 a1 a0 e1 e0))) ∧ Gar w0 w' := by
  refine on_gar hb ?_
  clear hb w0
  have K1 := fun w => ragree_12 e0 e1 e2 p0 p1 p2 n u0 u1 u2 a0 a1 a2 r0 r1 r2 he w w (Gar.refl _)
  have K2 := fun w => ragree_10 e0 e1 e2 p0 p1 p2 n u0 u1 u2 a0 a1 a2 r0 r1 r2 he w w (Gar.refl _)
  generalize (gg u1 u2 a1 a2 e1 e2) = g1 at *
  generalize (gg u1 u0 a1 a0 e1 e0) = g2 at *
  clear he
  cases g1
  all_goals
    go_enter Try.func37, Try.ntmps37
    go_wp2_with (first | (go_at_call 30; (first | (with_reducible refine (K1 _).mono ?_) | (with_reducible refine (K2 _).mono ?_)); rintro e w' ⟨rfl, os5, n5, rfl⟩))
    go_returns
    exact ⟨ret_b (by simp), by repeat (first | exact Gar.refl _ | refine Gar.drewN ?_ _ | refine Gar.drew ?_ | refine Gar.alloc ?_ _ | refine Gar.allocs ?_ _)⟩
set_option maxHeartbeats 4000000 in
theorem friends_2 (e0 e1 e2 p0 p1 p2 n : Int) (u0 u1 u2 : Bool) (a0 a1 a2 : Int) (r0 r1 r2 : Bool) (he : (0 ≤ e0 ∧ e0 ≤ 16384) ∧ (0 ≤ e1 ∧ e1 ≤ 16384) ∧ (0 ≤ e2 ∧ e2 ≤ 16384)) (w0 w : World) (hb : Gar w0 w) :
    Calls Try.prog 37 #[.agg #[.int .i64 e0, .int .i64 e1, .int .i64 e2, .int .i64 p0, .int .i64 p1, .int .i64 p2, .int .i64 n], .agg #[.bool u0, .bool u1, .bool u2], .agg #[.int .i64 a0, .int .i64 a1, .int .i64 a2, .bool r0, .bool r1, .bool r2], .int .i64 2] w fun e w' => e = .returned (.bool ((gg u2 u0 a2 a0 e2 e0) || (gg u2 u1 a2 a1 e2 e1))) ∧ Gar w0 w' := by
  refine on_gar hb ?_
  clear hb w0
  have K1 := fun w => ragree_20 e0 e1 e2 p0 p1 p2 n u0 u1 u2 a0 a1 a2 r0 r1 r2 he w w (Gar.refl _)
  have K2 := fun w => ragree_21 e0 e1 e2 p0 p1 p2 n u0 u1 u2 a0 a1 a2 r0 r1 r2 he w w (Gar.refl _)
  generalize (gg u2 u0 a2 a0 e2 e0) = g1 at *
  generalize (gg u2 u1 a2 a1 e2 e1) = g2 at *
  clear he
  cases g1
  all_goals
    go_enter Try.func37, Try.ntmps37
    go_wp2_with (first | (go_at_call 30; (first | (with_reducible refine (K1 _).mono ?_) | (with_reducible refine (K2 _).mono ?_)); rintro e w' ⟨rfl, os5, n5, rfl⟩))
    go_returns
    exact ⟨ret_b (by simp), by repeat (first | exact Gar.refl _ | refine Gar.drewN ?_ _ | refine Gar.drew ?_ | refine Gar.alloc ?_ _ | refine Gar.allocs ?_ _)⟩
end Go.Proofs.Ytdincfemiignjaa
