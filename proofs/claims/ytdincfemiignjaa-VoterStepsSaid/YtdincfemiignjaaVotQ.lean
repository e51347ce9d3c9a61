/- The contract of the reference's next. -/
import Derived.Test.YtdincfemiignjaaVotR
import Derived.Test.YtdincfemiignjaaVotV
import Derived.Test.YtdincfemiignjaaVotN
namespace Go.Proofs.Ytdincfemiignjaa
open Go.RowKit
set_option linter.unusedVariables false
set_option linter.unusedSimpArgs false
attribute [local go_sem ↓] Go.wp_at_zero Go.wp_at_succ

theorem nx_ways (u f g h : Bool) : (u = false) ∨ (u = true ∧ (f || g) = true) ∨ (u = true ∧ f = false ∧ g = false ∧ h = false) ∨ (u = true ∧ f = false ∧ g = false ∧ h = true) := by revert u f g h; decide
theorem sp_ways (T f g h : Bool) : (T = true ∧ f = false ∧ g = false ∧ h = false) ∨ (T = false) ∨ (T = true ∧ f = true) ∨ (T = true ∧ f = false ∧ g = true) ∨ (T = true ∧ f = false ∧ g = false ∧ h = true) := by revert T f g h; decide
theorem acc_f {u f g h : Bool} (e : (f || g) = true) : acc u f g h = false := by revert u f g h; decide
theorem cnt_no (s n : Int) : cnt false s n = 0 := rfl
set_option maxRecDepth 100000 in
set_option maxHeartbeats 8000000 in
theorem rnext_ok (e0 e1 e2 p0 p1 p2 n s0 s1 s2 : Int) (m0 m1 m2 : Bool) (sp a0 a1 a2 : Int) (r0 r1 r2 : Bool) (u0 u1 u2 g01 g02 g12 : Bool) (ct c0 c1 c2 cs : Int) (E0 E1 E2 : Bool) (ci cw : Int) (hv : VS e0 e1 e2 p0 p1 p2 n s0 s1 s2 m0 m1 m2 sp a0 a1 a2 r0 r1 r2 u0 u1 u2 g01 g02 g12 ct c0 c1 c2 cs E0 E1 E2 ci cw) (he : (0 ≤ e0 ∧ e0 ≤ 16384) ∧ (0 ≤ e1 ∧ e1 ≤ 16384) ∧ (0 ≤ e2 ∧ e2 ≤ 16384)) (hn : 1 ≤ n ∧ n ≤ 1024) (w0 w : World) (hb : Gar w0 w) :
    Calls Try.prog 27 #[.agg #[.int .i64 e0, .int .i64 e1, .int .i64 e2, .int .i64 p0, .int .i64 p1, .int .i64 p2, .int .i64 n], .agg #[.int .i64 s0, .int .i64 s1, .int .i64 s2, .bool m0, .bool m1, .bool m2, .int .i64 sp], .agg #[.int .i64 a0, .int .i64 a1, .int .i64 a2, .bool r0, .bool r1, .bool r2]] w fun e w' => e = .returned (.agg #[.int .i64 c0, .int .i64 c1, .int .i64 c2, .bool E0, .bool E1, .bool E2, .int .i64 cs]) ∧ Gar w0 w' := by
  refine on_gar hb ?_
  clear hb w0
  obtain ⟨hu0, hu1, hu2, hg01, hg02, hg12, hct, hc0, hc1, hc2, hcs, hE0, hE1, hE2, hch⟩ := hv
  clear hch
  have KA := fun w => ractive_any s0 s1 s2 m0 m1 m2 sp a0 a1 a2 r0 r1 r2 w w (Gar.refl _)
  rw [hu0, hu1, hu2, hct] at KA
  have F0 := fun w => friends_0 e0 e1 e2 p0 p1 p2 n u0 u1 u2 a0 a1 a2 r0 r1 r2 he w w (Gar.refl _)
  have F1 := fun w => friends_1 e0 e1 e2 p0 p1 p2 n u0 u1 u2 a0 a1 a2 r0 r1 r2 he w w (Gar.refl _)
  have F2 := fun w => friends_2 e0 e1 e2 p0 p1 p2 n u0 u1 u2 a0 a1 a2 r0 r1 r2 he w w (Gar.refl _)
  have P12 := fun w => ragree_12 e0 e1 e2 p0 p1 p2 n u0 u1 u2 a0 a1 a2 r0 r1 r2 he w w (Gar.refl _)
  have P20 := fun w => ragree_20 e0 e1 e2 p0 p1 p2 n u0 u1 u2 a0 a1 a2 r0 r1 r2 he w w (Gar.refl _)
  have P01 := fun w => ragree_01 e0 e1 e2 p0 p1 p2 n u0 u1 u2 a0 a1 a2 r0 r1 r2 he w w (Gar.refl _)
  have P02 := fun w => ragree_02 e0 e1 e2 p0 p1 p2 n u0 u1 u2 a0 a1 a2 r0 r1 r2 he w w (Gar.refl _)
  rw [hg01, hg02] at F0
  rw [hg12, gg_comm u1 u0, hg01] at F1
  rw [gg_comm u2 u0, hg02, gg_comm u2 u1, hg12] at F2
  rw [hg12] at P12
  rw [gg_comm u2 u0, hg02] at P20
  rw [hg01] at P01
  rw [hg02] at P02
  obtain ⟨A0, hA0⟩ : ∃ A, (acc u0 g01 g02 g12) = A := ⟨_, rfl⟩
  rw [hA0] at hc0
  obtain ⟨Q0, hQ0⟩ : ∃ Q, clp s0 0 n = Q := ⟨_, rfl⟩
  have bQ0 := clp_bd s0 0 n (by omega)
  rw [hQ0] at bQ0
  have KQ0 := clip_any s0 0 n
  rw [hQ0] at KQ0
  have sQ0 : IntKind.i64.wrap (Q0 + 1) = Q0 + 1 := IntWalk.i64_in _ (by omega)
  have mQ0 : A0 = true → ∀ (ts : Array TypeId) (t : TypeId) (w : World), (Builtin.min_ ts t #[.int .i64 (Q0 + 1), .int .i64 n]).run Try.prog w = .ok (.int .i64 c0) w := fun hA ts t w => by
    rw [← hc0, hA, cnt, ← hQ0]; simp [Builtin.min_, Builtin.min2] <;> (repeat' split) <;> omega
  have zQ0 : A0 = false → c0 = 0 := fun hA => by rw [← hc0, hA]; rfl
  have HA0 := hide hA0
  have HM0 := hide mQ0
  have HZ0 := hide zQ0
  clear hA0 mQ0 zQ0 hc0 hQ0
  obtain ⟨A1, hA1⟩ : ∃ A, (acc u1 g12 g01 g02) = A := ⟨_, rfl⟩
  rw [hA1] at hc1
  obtain ⟨Q1, hQ1⟩ : ∃ Q, clp s1 0 n = Q := ⟨_, rfl⟩
  have bQ1 := clp_bd s1 0 n (by omega)
  rw [hQ1] at bQ1
  have KQ1 := clip_any s1 0 n
  rw [hQ1] at KQ1
  have sQ1 : IntKind.i64.wrap (Q1 + 1) = Q1 + 1 := IntWalk.i64_in _ (by omega)
  have mQ1 : A1 = true → ∀ (ts : Array TypeId) (t : TypeId) (w : World), (Builtin.min_ ts t #[.int .i64 (Q1 + 1), .int .i64 n]).run Try.prog w = .ok (.int .i64 c1) w := fun hA ts t w => by
    rw [← hc1, hA, cnt, ← hQ1]; simp [Builtin.min_, Builtin.min2] <;> (repeat' split) <;> omega
  have zQ1 : A1 = false → c1 = 0 := fun hA => by rw [← hc1, hA]; rfl
  have HA1 := hide hA1
  have HM1 := hide mQ1
  have HZ1 := hide zQ1
  clear hA1 mQ1 zQ1 hc1 hQ1
  obtain ⟨A2, hA2⟩ : ∃ A, (acc u2 g02 g12 g01) = A := ⟨_, rfl⟩
  rw [hA2] at hc2
  obtain ⟨Q2, hQ2⟩ : ∃ Q, clp s2 0 n = Q := ⟨_, rfl⟩
  have bQ2 := clp_bd s2 0 n (by omega)
  rw [hQ2] at bQ2
  have KQ2 := clip_any s2 0 n
  rw [hQ2] at KQ2
  have sQ2 : IntKind.i64.wrap (Q2 + 1) = Q2 + 1 := IntWalk.i64_in _ (by omega)
  have mQ2 : A2 = true → ∀ (ts : Array TypeId) (t : TypeId) (w : World), (Builtin.min_ ts t #[.int .i64 (Q2 + 1), .int .i64 n]).run Try.prog w = .ok (.int .i64 c2) w := fun hA ts t w => by
    rw [← hc2, hA, cnt, ← hQ2]; simp [Builtin.min_, Builtin.min2] <;> (repeat' split) <;> omega
  have zQ2 : A2 = false → c2 = 0 := fun hA => by rw [← hc2, hA]; rfl
  have HA2 := hide hA2
  have HM2 := hide mQ2
  have HZ2 := hide zQ2
  clear hA2 mQ2 zQ2 hc2 hQ2
  obtain ⟨A3, hA3⟩ : ∃ A, (decide (ct = 2) && !g01 && !g12 && !g02) = A := ⟨_, rfl⟩
  rw [hA3] at hcs
  obtain ⟨Q3, hQ3⟩ : ∃ Q, clp sp 0 n = Q := ⟨_, rfl⟩
  have bQ3 := clp_bd sp 0 n (by omega)
  rw [hQ3] at bQ3
  have KQ3 := clip_any sp 0 n
  rw [hQ3] at KQ3
  have sQ3 : IntKind.i64.wrap (Q3 + 1) = Q3 + 1 := IntWalk.i64_in _ (by omega)
  have mQ3 : A3 = true → ∀ (ts : Array TypeId) (t : TypeId) (w : World), (Builtin.min_ ts t #[.int .i64 (Q3 + 1), .int .i64 n]).run Try.prog w = .ok (.int .i64 cs) w := fun hA ts t w => by
    rw [← hcs, hA, cnt, ← hQ3]; simp [Builtin.min_, Builtin.min2] <;> (repeat' split) <;> omega
  have zQ3 : A3 = false → cs = 0 := fun hA => by rw [← hcs, hA]; rfl
  have HA3 := hide hA3
  have HM3 := hide mQ3
  have HZ3 := hide zQ3
  clear hA3 mQ3 zQ3 hcs hQ3
  have HE0 := hide hE0
  have HE1 := hide hE1
  have HE2 := hide hE2
  clear hE0 hE1 hE2 hu0 hu1 hu2 hg01 hg02 hg12 hct he
  have hn1 := hn.1
  go_enter Try.func27, Try.ntmps27
  go_wp2_with (first | (go_at_call 29; (with_reducible refine (KA _).mono ?_); rintro e w' ⟨rfl, os1, n1, rfl⟩))
  go_loopw [20] (fun i wr => ∃ (k : Nat) (v0 v1 v2 : Int) (h0 h1 h2 : Bool), i = .int .i64 k ∧ k ≤ 3 ∧ Gar (((allocs ((((w.alloc (.cells #[.int .i64 e0, .int .i64 e1, .int .i64 e2, .int .i64 p0, .int .i64 p1, .int .i64 p2, .int .i64 n] 24)).alloc (.cells #[.int .i64 s0, .int .i64 s1, .int .i64 s2, .bool m0, .bool m1, .bool m2, .int .i64 sp] 27)).alloc (.cells #[.int .i64 a0, .int .i64 a1, .int .i64 a2, .bool r0, .bool r1, .bool r2] 29)).alloc (.cells #[.int .i64 0, .int .i64 0, .int .i64 0, .bool false, .bool false, .bool false, .int .i64 0] 27)) os1).alloc (.cells #[.bool u0, .bool u1, .bool u2] 25)).alloc (.cells #[.int .i64 v0, .int .i64 v1, .int .i64 v2, .bool h0, .bool h1, .bool h2, .int .i64 0] 27)) wr ∧ NxI k 0 0 0 m0 m1 m2 c0 c1 c2 E0 E1 E2 v0 v1 v2 h0 h1 h2) (fun i _ => 3 - (intOf i).toNat)
  case atStart => exact ⟨0, _, _, _, _, _, _, rfl, by omega, by repeat (first | exact Gar.refl _ | refine Gar.drewN ?_ _ | refine Gar.drew ?_ | refine Gar.alloc ?_ _ | refine Gar.allocs ?_ _), NxI.start _ _ _ _ _ _ _ _ _ _ _ _⟩
  case round =>
    obtain ⟨k, v0, v1, v2, h0, h1, h2, rfl, hk, ⟨os, n2, rfl⟩, hI0⟩ := hrel
    have hI := hide hI0
    clear hI0
    rcases (show k = 0 ∨ k = 1 ∨ k = 2 ∨ k = 3 by omega) with rfl | rfl | rfl | rfl
    · obtain ⟨e1, e2, hN0⟩ := NxI.next0 hI.out
      have hN := hide hN0
      clear hN0 hI
      subst e1
      subst e2
      rcases (show (u0 = false) ∨ (u0 = true ∧ (g01 || g02) = true) ∨ (u0 = true ∧ g01 = false ∧ g02 = false ∧ g12 = false) ∨ (u0 = true ∧ g01 = false ∧ g02 = false ∧ g12 = true) from nx_ways u0 g01 g02 g12) with rfl | ⟨rfl, hf⟩ | ⟨rfl, rfl, rfl, rfl⟩ | ⟨rfl, rfl, rfl, rfl⟩
      · obtain rfl : A0 = false := HA0.out.symm
        obtain rfl : c0 = 0 := HZ0.out rfl
        have hne : ((0 : Int) == n) = false := by simp; omega
        obtain rfl : E0 = h0 := HE0.out.symm.trans (by rw [decide_eq_false (by omega), Bool.or_false])
        go_wp2_with (first | (go_at_call 37; (with_reducible refine (F0 _).mono ?_); rintro e w' ⟨rfl, os3, n3, rfl⟩) | (go_at_call 30; (with_reducible refine (P12 _).mono ?_); rintro e w' ⟨rfl, os4, n4, rfl⟩))
        go_quiet (fail)
        go_wp2_with (fail)
        go_roundw
        case rel => exact ⟨1, _, _, _, _, _, _, rfl, by omega, by repeat (first | exact Gar.refl _ | refine Gar.drewN ?_ _ | refine Gar.drew ?_ | refine Gar.alloc ?_ _ | refine Gar.allocs ?_ _), hN.out⟩
        case measure => first | (simp; done) | (simp [intOf]; done) | (simp [intOf]; omega)
      · have hfb : (g01 || g02) = true := hf
        clear hf
        obtain rfl : A0 = false := HA0.out.symm.trans (acc_f hfb)
        obtain rfl : c0 = 0 := HZ0.out rfl
        have hne : ((0 : Int) == n) = false := by simp; omega
        obtain rfl : E0 = h0 := HE0.out.symm.trans (by rw [decide_eq_false (by omega), Bool.or_false])
        go_wp2_with (first | (go_at_call 37; (with_reducible refine (F0 _).mono ?_); rintro e w' ⟨rfl, os3, n3, rfl⟩) | (go_at_call 30; (with_reducible refine (P12 _).mono ?_); rintro e w' ⟨rfl, os4, n4, rfl⟩))
        go_quiet (fail)
        go_wp2_with (fail)
        go_roundw
        case rel => exact ⟨1, _, _, _, _, _, _, rfl, by omega, by repeat (first | exact Gar.refl _ | refine Gar.drewN ?_ _ | refine Gar.drew ?_ | refine Gar.alloc ?_ _ | refine Gar.allocs ?_ _), hN.out⟩
        case measure => first | (simp; done) | (simp [intOf]; done) | (simp [intOf]; omega)
      · obtain rfl : A0 = false := HA0.out.symm
        obtain rfl : c0 = 0 := HZ0.out rfl
        have hne : ((0 : Int) == n) = false := by simp; omega
        obtain rfl : E0 = h0 := HE0.out.symm.trans (by rw [decide_eq_false (by omega), Bool.or_false])
        go_wp2_with (first | (go_at_call 37; (with_reducible refine (F0 _).mono ?_); rintro e w' ⟨rfl, os3, n3, rfl⟩) | (go_at_call 30; (with_reducible refine (P12 _).mono ?_); rintro e w' ⟨rfl, os4, n4, rfl⟩))
        go_quiet (fail)
        go_wp2_with (fail)
        go_roundw
        case rel => exact ⟨1, _, _, _, _, _, _, rfl, by omega, by repeat (first | exact Gar.refl _ | refine Gar.drewN ?_ _ | refine Gar.drew ?_ | refine Gar.alloc ?_ _ | refine Gar.allocs ?_ _), hN.out⟩
        case measure => first | (simp; done) | (simp [intOf]; done) | (simp [intOf]; omega)
      · obtain rfl : A0 = true := HA0.out.symm
        have mq := HM0.out rfl
        go_wp2_with (first | (go_at_call 37; (with_reducible refine (F0 _).mono ?_); rintro e w' ⟨rfl, os3, n3, rfl⟩) | (go_at_call 30; (with_reducible refine (P12 _).mono ?_); rintro e w' ⟨rfl, os4, n4, rfl⟩))
        refine wp_region_tail 14 (by kernel_rfl) (by kernel_rfl) ?_
        simp only [List.take_succ_cons, List.take_zero, List.drop_succ_cons, List.drop_zero]
        repeat (first | go_big_quiet_skip | (go_big_quiet_want; go_big_quiet_op; (first | go_big_quiet_on | (apply Exists.intro; (refine And.intro ?_ ?_); (first | (go_at_call 20; with_reducible exact calls_here (KQ0 _))); go_big_quiet_on))))
        refine wpQuiet_nil ?_
        go_wp2_with (fail)
        have hE := HE0.out
        cases hd : decide (c0 = n)
        · rw [hd, Bool.or_false] at hE
          subst hE
          have hne : (c0 == n) = false := hd
          clear hd
          go_quiet (fail)
          go_wp2_with (fail)
          go_roundw
          case rel => exact ⟨1, _, _, _, _, _, _, rfl, by omega, by repeat (first | exact Gar.refl _ | refine Gar.drewN ?_ _ | refine Gar.drew ?_ | refine Gar.alloc ?_ _ | refine Gar.allocs ?_ _), hN.out⟩
          case measure => first | (simp; done) | (simp [intOf]; done) | (simp [intOf]; omega)
        · rw [hd, Bool.or_true] at hE
          subst hE
          have hne : (c0 == n) = true := hd
          clear hd
          go_quiet (fail)
          go_wp2_with (fail)
          go_roundw
          case rel => exact ⟨1, _, _, _, _, _, _, rfl, by omega, by repeat (first | exact Gar.refl _ | refine Gar.drewN ?_ _ | refine Gar.drew ?_ | refine Gar.alloc ?_ _ | refine Gar.allocs ?_ _), hN.out⟩
          case measure => first | (simp; done) | (simp [intOf]; done) | (simp [intOf]; omega)
    · obtain ⟨e1, e2, hN0⟩ := NxI.next1 hI.out
      have hN := hide hN0
      clear hN0 hI
      subst e1
      subst e2
      rcases (show (u1 = false) ∨ (u1 = true ∧ (g12 || g01) = true) ∨ (u1 = true ∧ g12 = false ∧ g01 = false ∧ g02 = false) ∨ (u1 = true ∧ g12 = false ∧ g01 = false ∧ g02 = true) from nx_ways u1 g12 g01 g02) with rfl | ⟨rfl, hf⟩ | ⟨rfl, rfl, rfl, rfl⟩ | ⟨rfl, rfl, rfl, rfl⟩
      · obtain rfl : A1 = false := HA1.out.symm
        obtain rfl : c1 = 0 := HZ1.out rfl
        have hne : ((0 : Int) == n) = false := by simp; omega
        obtain rfl : E1 = h1 := HE1.out.symm.trans (by rw [decide_eq_false (by omega), Bool.or_false])
        go_wp2_with (first | (go_at_call 37; (with_reducible refine (F1 _).mono ?_); rintro e w' ⟨rfl, os3, n3, rfl⟩) | (go_at_call 30; (with_reducible refine (P20 _).mono ?_); rintro e w' ⟨rfl, os4, n4, rfl⟩))
        go_quiet (fail)
        go_wp2_with (fail)
        go_roundw
        case rel => exact ⟨2, _, _, _, _, _, _, rfl, by omega, by repeat (first | exact Gar.refl _ | refine Gar.drewN ?_ _ | refine Gar.drew ?_ | refine Gar.alloc ?_ _ | refine Gar.allocs ?_ _), hN.out⟩
        case measure => first | (simp; done) | (simp [intOf]; done) | (simp [intOf]; omega)
      · have hfb : (g12 || g01) = true := hf
        clear hf
        obtain rfl : A1 = false := HA1.out.symm.trans (acc_f hfb)
        obtain rfl : c1 = 0 := HZ1.out rfl
        have hne : ((0 : Int) == n) = false := by simp; omega
        obtain rfl : E1 = h1 := HE1.out.symm.trans (by rw [decide_eq_false (by omega), Bool.or_false])
        go_wp2_with (first | (go_at_call 37; (with_reducible refine (F1 _).mono ?_); rintro e w' ⟨rfl, os3, n3, rfl⟩) | (go_at_call 30; (with_reducible refine (P20 _).mono ?_); rintro e w' ⟨rfl, os4, n4, rfl⟩))
        go_quiet (fail)
        go_wp2_with (fail)
        go_roundw
        case rel => exact ⟨2, _, _, _, _, _, _, rfl, by omega, by repeat (first | exact Gar.refl _ | refine Gar.drewN ?_ _ | refine Gar.drew ?_ | refine Gar.alloc ?_ _ | refine Gar.allocs ?_ _), hN.out⟩
        case measure => first | (simp; done) | (simp [intOf]; done) | (simp [intOf]; omega)
      · obtain rfl : A1 = false := HA1.out.symm
        obtain rfl : c1 = 0 := HZ1.out rfl
        have hne : ((0 : Int) == n) = false := by simp; omega
        obtain rfl : E1 = h1 := HE1.out.symm.trans (by rw [decide_eq_false (by omega), Bool.or_false])
        go_wp2_with (first | (go_at_call 37; (with_reducible refine (F1 _).mono ?_); rintro e w' ⟨rfl, os3, n3, rfl⟩) | (go_at_call 30; (with_reducible refine (P20 _).mono ?_); rintro e w' ⟨rfl, os4, n4, rfl⟩))
        go_quiet (fail)
        go_wp2_with (fail)
        go_roundw
        case rel => exact ⟨2, _, _, _, _, _, _, rfl, by omega, by repeat (first | exact Gar.refl _ | refine Gar.drewN ?_ _ | refine Gar.drew ?_ | refine Gar.alloc ?_ _ | refine Gar.allocs ?_ _), hN.out⟩
        case measure => first | (simp; done) | (simp [intOf]; done) | (simp [intOf]; omega)
      · obtain rfl : A1 = true := HA1.out.symm
        have mq := HM1.out rfl
        go_wp2_with (first | (go_at_call 37; (with_reducible refine (F1 _).mono ?_); rintro e w' ⟨rfl, os3, n3, rfl⟩) | (go_at_call 30; (with_reducible refine (P20 _).mono ?_); rintro e w' ⟨rfl, os4, n4, rfl⟩))
        refine wp_region_tail 14 (by kernel_rfl) (by kernel_rfl) ?_
        simp only [List.take_succ_cons, List.take_zero, List.drop_succ_cons, List.drop_zero]
        repeat (first | go_big_quiet_skip | (go_big_quiet_want; go_big_quiet_op; (first | go_big_quiet_on | (apply Exists.intro; (refine And.intro ?_ ?_); (first | (go_at_call 20; with_reducible exact calls_here (KQ1 _))); go_big_quiet_on))))
        refine wpQuiet_nil ?_
        go_wp2_with (fail)
        have hE := HE1.out
        cases hd : decide (c1 = n)
        · rw [hd, Bool.or_false] at hE
          subst hE
          have hne : (c1 == n) = false := hd
          clear hd
          go_quiet (fail)
          go_wp2_with (fail)
          go_roundw
          case rel => exact ⟨2, _, _, _, _, _, _, rfl, by omega, by repeat (first | exact Gar.refl _ | refine Gar.drewN ?_ _ | refine Gar.drew ?_ | refine Gar.alloc ?_ _ | refine Gar.allocs ?_ _), hN.out⟩
          case measure => first | (simp; done) | (simp [intOf]; done) | (simp [intOf]; omega)
        · rw [hd, Bool.or_true] at hE
          subst hE
          have hne : (c1 == n) = true := hd
          clear hd
          go_quiet (fail)
          go_wp2_with (fail)
          go_roundw
          case rel => exact ⟨2, _, _, _, _, _, _, rfl, by omega, by repeat (first | exact Gar.refl _ | refine Gar.drewN ?_ _ | refine Gar.drew ?_ | refine Gar.alloc ?_ _ | refine Gar.allocs ?_ _), hN.out⟩
          case measure => first | (simp; done) | (simp [intOf]; done) | (simp [intOf]; omega)
    · obtain ⟨e1, e2, hN0⟩ := NxI.next2 hI.out
      have hN := hide hN0
      clear hN0 hI
      subst e1
      subst e2
      rcases (show (u2 = false) ∨ (u2 = true ∧ (g02 || g12) = true) ∨ (u2 = true ∧ g02 = false ∧ g12 = false ∧ g01 = false) ∨ (u2 = true ∧ g02 = false ∧ g12 = false ∧ g01 = true) from nx_ways u2 g02 g12 g01) with rfl | ⟨rfl, hf⟩ | ⟨rfl, rfl, rfl, rfl⟩ | ⟨rfl, rfl, rfl, rfl⟩
      · obtain rfl : A2 = false := HA2.out.symm
        obtain rfl : c2 = 0 := HZ2.out rfl
        have hne : ((0 : Int) == n) = false := by simp; omega
        obtain rfl : E2 = h2 := HE2.out.symm.trans (by rw [decide_eq_false (by omega), Bool.or_false])
        go_wp2_with (first | (go_at_call 37; (with_reducible refine (F2 _).mono ?_); rintro e w' ⟨rfl, os3, n3, rfl⟩) | (go_at_call 30; (with_reducible refine (P01 _).mono ?_); rintro e w' ⟨rfl, os4, n4, rfl⟩))
        go_quiet (fail)
        go_wp2_with (fail)
        go_roundw
        case rel => exact ⟨3, _, _, _, _, _, _, rfl, by omega, by repeat (first | exact Gar.refl _ | refine Gar.drewN ?_ _ | refine Gar.drew ?_ | refine Gar.alloc ?_ _ | refine Gar.allocs ?_ _), hN.out⟩
        case measure => first | (simp; done) | (simp [intOf]; done) | (simp [intOf]; omega)
      · have hfb : (g02 || g12) = true := hf
        clear hf
        obtain rfl : A2 = false := HA2.out.symm.trans (acc_f hfb)
        obtain rfl : c2 = 0 := HZ2.out rfl
        have hne : ((0 : Int) == n) = false := by simp; omega
        obtain rfl : E2 = h2 := HE2.out.symm.trans (by rw [decide_eq_false (by omega), Bool.or_false])
        go_wp2_with (first | (go_at_call 37; (with_reducible refine (F2 _).mono ?_); rintro e w' ⟨rfl, os3, n3, rfl⟩) | (go_at_call 30; (with_reducible refine (P01 _).mono ?_); rintro e w' ⟨rfl, os4, n4, rfl⟩))
        go_quiet (fail)
        go_wp2_with (fail)
        go_roundw
        case rel => exact ⟨3, _, _, _, _, _, _, rfl, by omega, by repeat (first | exact Gar.refl _ | refine Gar.drewN ?_ _ | refine Gar.drew ?_ | refine Gar.alloc ?_ _ | refine Gar.allocs ?_ _), hN.out⟩
        case measure => first | (simp; done) | (simp [intOf]; done) | (simp [intOf]; omega)
      · obtain rfl : A2 = false := HA2.out.symm
        obtain rfl : c2 = 0 := HZ2.out rfl
        have hne : ((0 : Int) == n) = false := by simp; omega
        obtain rfl : E2 = h2 := HE2.out.symm.trans (by rw [decide_eq_false (by omega), Bool.or_false])
        go_wp2_with (first | (go_at_call 37; (with_reducible refine (F2 _).mono ?_); rintro e w' ⟨rfl, os3, n3, rfl⟩) | (go_at_call 30; (with_reducible refine (P01 _).mono ?_); rintro e w' ⟨rfl, os4, n4, rfl⟩))
        go_quiet (fail)
        go_wp2_with (fail)
        go_roundw
        case rel => exact ⟨3, _, _, _, _, _, _, rfl, by omega, by repeat (first | exact Gar.refl _ | refine Gar.drewN ?_ _ | refine Gar.drew ?_ | refine Gar.alloc ?_ _ | refine Gar.allocs ?_ _), hN.out⟩
        case measure => first | (simp; done) | (simp [intOf]; done) | (simp [intOf]; omega)
      · obtain rfl : A2 = true := HA2.out.symm
        have mq := HM2.out rfl
        go_wp2_with (first | (go_at_call 37; (with_reducible refine (F2 _).mono ?_); rintro e w' ⟨rfl, os3, n3, rfl⟩) | (go_at_call 30; (with_reducible refine (P01 _).mono ?_); rintro e w' ⟨rfl, os4, n4, rfl⟩))
        refine wp_region_tail 14 (by kernel_rfl) (by kernel_rfl) ?_
        simp only [List.take_succ_cons, List.take_zero, List.drop_succ_cons, List.drop_zero]
        repeat (first | go_big_quiet_skip | (go_big_quiet_want; go_big_quiet_op; (first | go_big_quiet_on | (apply Exists.intro; (refine And.intro ?_ ?_); (first | (go_at_call 20; with_reducible exact calls_here (KQ2 _))); go_big_quiet_on))))
        refine wpQuiet_nil ?_
        go_wp2_with (fail)
        have hE := HE2.out
        cases hd : decide (c2 = n)
        · rw [hd, Bool.or_false] at hE
          subst hE
          have hne : (c2 == n) = false := hd
          clear hd
          go_quiet (fail)
          go_wp2_with (fail)
          go_roundw
          case rel => exact ⟨3, _, _, _, _, _, _, rfl, by omega, by repeat (first | exact Gar.refl _ | refine Gar.drewN ?_ _ | refine Gar.drew ?_ | refine Gar.alloc ?_ _ | refine Gar.allocs ?_ _), hN.out⟩
          case measure => first | (simp; done) | (simp [intOf]; done) | (simp [intOf]; omega)
        · rw [hd, Bool.or_true] at hE
          subst hE
          have hne : (c2 == n) = true := hd
          clear hd
          go_quiet (fail)
          go_wp2_with (fail)
          go_roundw
          case rel => exact ⟨3, _, _, _, _, _, _, rfl, by omega, by repeat (first | exact Gar.refl _ | refine Gar.drewN ?_ _ | refine Gar.drew ?_ | refine Gar.alloc ?_ _ | refine Gar.allocs ?_ _), hN.out⟩
          case measure => first | (simp; done) | (simp [intOf]; done) | (simp [intOf]; omega)
    · obtain ⟨q0, q1, q2, q3, q4, q5⟩ := hI.out.done
      subst q0 q1 q2 q3 q4 q5
      obtain ⟨T, hT⟩ : ∃ T, decide (ct = 2) = T := ⟨_, rfl⟩
      have hT2 : (ct == 2) = T := hT
      have ha := HA3.out
      rw [hT] at ha
      have HA := hide ha
      clear ha hT HA3
      rcases (show (T = true ∧ g01 = false ∧ g02 = false ∧ g12 = false) ∨ (T = false) ∨ (T = true ∧ g01 = true) ∨ (T = true ∧ g01 = false ∧ g02 = true) ∨ (T = true ∧ g01 = false ∧ g02 = false ∧ g12 = true) from sp_ways T g01 g02 g12) with ⟨rfl, rfl, rfl, rfl⟩ | rfl | ⟨rfl, rfl⟩ | ⟨rfl, rfl, rfl⟩ | ⟨rfl, rfl, rfl, rfl⟩
      · obtain rfl : A3 = true := HA.out.symm
        have mq := HM3.out rfl
        go_wp2_with (first | (go_at_call 30; (first | (with_reducible refine (P01 _).mono ?_) | (with_reducible refine (P02 _).mono ?_) | (with_reducible refine (P12 _).mono ?_)); rintro e w' ⟨rfl, os4, n4, rfl⟩))
        refine wp_region_tail 10 (by kernel_rfl) (by kernel_rfl) ?_
        simp only [List.take_succ_cons, List.take_zero, List.drop_succ_cons, List.drop_zero]
        repeat (first | go_big_quiet_skip | (go_big_quiet_want; go_big_quiet_op; (first | go_big_quiet_on | (apply Exists.intro; (refine And.intro ?_ ?_); (first | (go_at_call 20; with_reducible exact calls_here (KQ3 _))); go_big_quiet_on))))
        refine wpQuiet_nil ?_
        go_wp2_with (fail)
        refine bodyPost_ret (by simp [results, Try.results27, go_sem]; try rfl) rfl ?_
        exact ⟨rfl, by repeat (first | exact Gar.refl _ | refine Gar.drewN ?_ _ | refine Gar.drew ?_ | refine Gar.alloc ?_ _ | refine Gar.allocs ?_ _)⟩
      · obtain rfl : A3 = false := HA.out.symm.trans (by simp)
        obtain rfl : cs = 0 := HZ3.out rfl
        go_wp2_with (first | (go_at_call 30; (first | (with_reducible refine (P01 _).mono ?_) | (with_reducible refine (P02 _).mono ?_) | (with_reducible refine (P12 _).mono ?_)); rintro e w' ⟨rfl, os4, n4, rfl⟩))
        refine bodyPost_ret (by simp [results, Try.results27, go_sem]; try rfl) rfl ?_
        exact ⟨rfl, by repeat (first | exact Gar.refl _ | refine Gar.drewN ?_ _ | refine Gar.drew ?_ | refine Gar.alloc ?_ _ | refine Gar.allocs ?_ _)⟩
      · obtain rfl : A3 = false := HA.out.symm.trans (by simp)
        obtain rfl : cs = 0 := HZ3.out rfl
        go_wp2_with (first | (go_at_call 30; (first | (with_reducible refine (P01 _).mono ?_) | (with_reducible refine (P02 _).mono ?_) | (with_reducible refine (P12 _).mono ?_)); rintro e w' ⟨rfl, os4, n4, rfl⟩))
        refine bodyPost_ret (by simp [results, Try.results27, go_sem]; try rfl) rfl ?_
        exact ⟨rfl, by repeat (first | exact Gar.refl _ | refine Gar.drewN ?_ _ | refine Gar.drew ?_ | refine Gar.alloc ?_ _ | refine Gar.allocs ?_ _)⟩
      · obtain rfl : A3 = false := HA.out.symm.trans (by simp)
        obtain rfl : cs = 0 := HZ3.out rfl
        go_wp2_with (first | (go_at_call 30; (first | (with_reducible refine (P01 _).mono ?_) | (with_reducible refine (P02 _).mono ?_) | (with_reducible refine (P12 _).mono ?_)); rintro e w' ⟨rfl, os4, n4, rfl⟩))
        refine bodyPost_ret (by simp [results, Try.results27, go_sem]; try rfl) rfl ?_
        exact ⟨rfl, by repeat (first | exact Gar.refl _ | refine Gar.drewN ?_ _ | refine Gar.drew ?_ | refine Gar.alloc ?_ _ | refine Gar.allocs ?_ _)⟩
      · obtain rfl : A3 = false := HA.out.symm.trans (by simp)
        obtain rfl : cs = 0 := HZ3.out rfl
        go_wp2_with (first | (go_at_call 30; (first | (with_reducible refine (P01 _).mono ?_) | (with_reducible refine (P02 _).mono ?_) | (with_reducible refine (P12 _).mono ?_)); rintro e w' ⟨rfl, os4, n4, rfl⟩))
        refine bodyPost_ret (by simp [results, Try.results27, go_sem]; try rfl) rfl ?_
        exact ⟨rfl, by repeat (first | exact Gar.refl _ | refine Gar.drewN ?_ _ | refine Gar.drew ?_ | refine Gar.alloc ?_ _ | refine Gar.allocs ?_ _)⟩
end Go.Proofs.Ytdincfemiignjaa
