/- The contract of the reference's Step. -/
import Derived.Test.YtlppolaoigbkeaaMonR
import Derived.Test.YtlppolaoigbkeaaMonP
import Derived.IntWalk
namespace Go.Proofs.Ytlppolaoigbkeaa
open Go.RowKit
set_option linter.unusedVariables false
attribute [local go_sem ↓] Go.wp_at_zero Go.wp_at_succ

set_option maxHeartbeats 8000000 in
theorem rstep_ok (c0 c1 c2 c3 c4 c5 c6 c7 c8 c9 : Int) (f0 f1 f2 f3 : Int) (g0 g1 g2 g3 : Bool) (x y z sp tq fi se : Int) (h : chkB c0 c1 c2 c3 c4 c5 c6 c7 c8 c9 = true) (w0 w : World) (hb : Gar w0 w) : Calls Try.prog 19 #[.agg #[.int .i64 c0, .int .i64 c1, .int .i64 c2, .int .i64 c3, .int .i64 c4, .int .i64 c5, .int .i64 c6, .int .i64 c7, .int .i64 c8, .int .i64 c9], .agg #[.int .i64 f0, .int .i64 f1, .int .i64 f2, .int .i64 f3, .bool g0, .bool g1, .bool g2, .bool g3], .agg #[.int .i64 x, .int .i64 y, .int .i64 z, .int .i64 sp, .int .i64 tq, .int .i64 fi, .int .i64 se]] w fun e w' => e = .returned (.agg #[.int .i64 (mF (q0 c0 x y z) f0 c6), .int .i64 (mF (lostB c1 c2 x y z) f1 c7), .int .i64 (mF (q2 c3 c4 sp tq) f2 c8), .int .i64 (mF (q3 c5 fi se) f3 c9), .bool (mG (q0 c0 x y z) g0 f0 c6), .bool (mG (lostB c1 c2 x y z) g1 f1 c7), .bool (mG (q2 c3 c4 sp tq) g2 f2 c8), .bool (mG (q3 c5 fi se) g3 f3 c9)]) ∧ Gar w0 w' := by
  refine on_gar hb ?_
  clear hb w0
  have K := fun w => rcond_ok c0 c1 c2 c3 c4 c5 c6 c7 c8 c9 x y z sp tq fi se w w (Gar.refl _)
  obtain ⟨-, -, -, -, -, -, h6, h7, h8, h9⟩ := chk_in h
  have t6 := wi_in h6
  have t7 := wi_in h7
  have t8 := wi_in h8
  have t9 := wi_in h9
  clear h h6 h7 h8 h9
  generalize q0 c0 x y z = b0 at *
  generalize lostB c1 c2 x y z = b1 at *
  generalize q2 c3 c4 sp tq = b2 at *
  generalize q3 c5 fi se = b3 at *
  go_enter Try.func19, Try.ntmps19
  go_wp2_with (go_at_call 15; (with_reducible refine (K _).mono ?_); rintro e w' ⟨rfl, os1, n1, rfl⟩)
  go_loopw [8] (fun i wr => ∃ (k : Nat) (v0 v1 v2 v3 : Int) (h0 h1 h2 h3 : Bool), i = .int .i64 k ∧ k ≤ 4 ∧ Gar ((allocs ((((w.alloc (.cells #[.int .i64 c0, .int .i64 c1, .int .i64 c2, .int .i64 c3, .int .i64 c4, .int .i64 c5, .int .i64 c6, .int .i64 c7, .int .i64 c8, .int .i64 c9] 24)).alloc (.cells #[.int .i64 v0, .int .i64 v1, .int .i64 v2, .int .i64 v3, .bool h0, .bool h1, .bool h2, .bool h3] 42)).alloc (.cells #[.int .i64 x, .int .i64 y, .int .i64 z, .int .i64 sp, .int .i64 tq, .int .i64 fi, .int .i64 se] 34)).alloc (.cells #[.int .i64 0, .int .i64 0, .int .i64 0, .int .i64 0, .bool false, .bool false, .bool false, .bool false] 42)) os1).alloc (.cells #[.bool b0, .bool b1, .bool b2, .bool b3] 35)) wr ∧ MonI k b0 b1 b2 b3 f0 f1 f2 f3 c6 c7 c8 c9 g0 g1 g2 g3 v0 v1 v2 v3 h0 h1 h2 h3) (fun i _ => 4 - (intOf i).toNat)
  case atStart => exact ⟨0, _, _, _, _, _, _, _, _, rfl, by omega, by repeat (first | exact Gar.refl _ | refine Gar.drewN ?_ _ | refine Gar.drew ?_ | refine Gar.alloc ?_ _ | refine Gar.allocs ?_ _), MonI.start _ _ _ _ _ _ _ _ _ _ _ _ _ _ _ _⟩
  case round =>
    clear K
    obtain ⟨k, v0, v1, v2, v3, h0, h1, h2, h3, rfl, hk, ⟨os, n, rfl⟩, hI0⟩ := hrel
    have hI := hide hI0
    clear hI0
    rcases (show k = 0 ∨ k = 1 ∨ k = 2 ∨ k = 3 ∨ k = 4 by omega) with rfl | rfl | rfl | rfl | rfl
    · obtain ⟨e1, e2, hN0⟩ := MonI.next0 hI.out
      have hN := hide hN0
      clear hN0
      subst e1
      subst e2
      have RC := rclip_any v0 0 c6 (by omega)
      obtain ⟨N2, hN2⟩ : ∃ N, clp v0 0 c6 = N := ⟨_, rfl⟩
      have bN2 : 0 ≤ N2 ∧ N2 ≤ 1048576 := by have := clp_bd v0 0 c6 (by omega); omega
      rw [hN2] at RC
      obtain ⟨N3, hN3⟩ : ∃ N, mF b0 v0 c6 = N := ⟨_, rfl⟩
      cases b0
      · obtain rfl : N3 = 0 := by rw [← hN3]; rfl
        have hz : ((0 : Int) == c6) = false := by simp; omega
        have hh := hide hN3
        clear hN3 hN2
        cases h0
        · go_wp2_with (fail)
          go_quiet ((go_at_call 26; (first | with_reducible exact quiet_eq2 (RC _) | with_reducible exact quiet_eq (RC _))))
          go_wp2_with (fail)
          go_roundw
          case rel => exact ⟨1, 0, _, _, _, false, _, _, _, rfl, by omega, by repeat (first | exact Gar.refl _ | refine Gar.drewN ?_ _ | refine Gar.drew ?_ | refine Gar.alloc ?_ _ | refine Gar.allocs ?_ _), hN.out _ _ (by simp [mF]) (by simp [mG, mF]; omega)⟩
          case measure => first | (simp; done) | (simp [intOf]; done) | (simp [intOf]; omega)
        · go_wp2_with (fail)
          go_quiet ((go_at_call 26; (first | with_reducible exact quiet_eq2 (RC _) | with_reducible exact quiet_eq (RC _))))
          go_wp2_with (fail)
          go_roundw
          case rel => exact ⟨1, 0, _, _, _, true, _, _, _, rfl, by omega, by repeat (first | exact Gar.refl _ | refine Gar.drewN ?_ _ | refine Gar.drew ?_ | refine Gar.alloc ?_ _ | refine Gar.allocs ?_ _), hN.out _ _ hh.out.symm (by simp [mG, hh.out])⟩
          case measure => first | (simp; done) | (simp [intOf]; done) | (simp [intOf]; omega)
      · have m3 : ∀ (ts : Array TypeId) (t : TypeId) (w : World), (Builtin.min_ ts t #[.int .i64 (N2 + 1), .int .i64 c6]).run Try.prog w = .ok (.int .i64 N3) w := fun ts t w => by
          rw [← hN3, ← hN2]; simp [Builtin.min_, Builtin.min2, mF] <;> (repeat' split) <;> omega
        obtain ⟨E, hE⟩ : ∃ E, decide (N3 = c6) = E := ⟨_, rfl⟩
        have hE' : (N3 == c6) = E := hE
        have hh2 := hide hE
        clear hE
        have hh := hide hN3
        clear hN3 hN2
        cases h0
        · go_wp2_with (fail)
          go_quiet ((go_at_call 26; (first | with_reducible exact quiet_eq2 (RC _) | with_reducible exact quiet_eq (RC _))))
          go_wp2_with (fail)
          go_roundw
          case rel => exact ⟨1, N3, _, _, _, E, _, _, _, rfl, by omega, by repeat (first | exact Gar.refl _ | refine Gar.drewN ?_ _ | refine Gar.drew ?_ | refine Gar.alloc ?_ _ | refine Gar.allocs ?_ _), hN.out _ _ hh.out.symm (by simp [mG, hh.out, hh2.out])⟩
          case measure => first | (simp; done) | (simp [intOf]; done) | (simp [intOf]; omega)
        · go_wp2_with (fail)
          go_quiet ((go_at_call 26; (first | with_reducible exact quiet_eq2 (RC _) | with_reducible exact quiet_eq (RC _))))
          go_wp2_with (fail)
          go_roundw
          case rel => exact ⟨1, N3, _, _, _, true, _, _, _, rfl, by omega, by repeat (first | exact Gar.refl _ | refine Gar.drewN ?_ _ | refine Gar.drew ?_ | refine Gar.alloc ?_ _ | refine Gar.allocs ?_ _), hN.out _ _ hh.out.symm (by simp [mG, hh.out])⟩
          case measure => first | (simp; done) | (simp [intOf]; done) | (simp [intOf]; omega)
    · obtain ⟨e1, e2, hN0⟩ := MonI.next1 hI.out
      have hN := hide hN0
      clear hN0
      subst e1
      subst e2
      have RC := rclip_any v1 0 c7 (by omega)
      obtain ⟨N2, hN2⟩ : ∃ N, clp v1 0 c7 = N := ⟨_, rfl⟩
      have bN2 : 0 ≤ N2 ∧ N2 ≤ 1048576 := by have := clp_bd v1 0 c7 (by omega); omega
      rw [hN2] at RC
      obtain ⟨N3, hN3⟩ : ∃ N, mF b1 v1 c7 = N := ⟨_, rfl⟩
      cases b1
      · obtain rfl : N3 = 0 := by rw [← hN3]; rfl
        have hz : ((0 : Int) == c7) = false := by simp; omega
        have hh := hide hN3
        clear hN3 hN2
        cases h1
        · go_wp2_with (fail)
          go_quiet ((go_at_call 26; (first | with_reducible exact quiet_eq2 (RC _) | with_reducible exact quiet_eq (RC _))))
          go_wp2_with (fail)
          go_roundw
          case rel => exact ⟨2, _, 0, _, _, _, false, _, _, rfl, by omega, by repeat (first | exact Gar.refl _ | refine Gar.drewN ?_ _ | refine Gar.drew ?_ | refine Gar.alloc ?_ _ | refine Gar.allocs ?_ _), hN.out _ _ (by simp [mF]) (by simp [mG, mF]; omega)⟩
          case measure => first | (simp; done) | (simp [intOf]; done) | (simp [intOf]; omega)
        · go_wp2_with (fail)
          go_quiet ((go_at_call 26; (first | with_reducible exact quiet_eq2 (RC _) | with_reducible exact quiet_eq (RC _))))
          go_wp2_with (fail)
          go_roundw
          case rel => exact ⟨2, _, 0, _, _, _, true, _, _, rfl, by omega, by repeat (first | exact Gar.refl _ | refine Gar.drewN ?_ _ | refine Gar.drew ?_ | refine Gar.alloc ?_ _ | refine Gar.allocs ?_ _), hN.out _ _ hh.out.symm (by simp [mG, hh.out])⟩
          case measure => first | (simp; done) | (simp [intOf]; done) | (simp [intOf]; omega)
      · have m3 : ∀ (ts : Array TypeId) (t : TypeId) (w : World), (Builtin.min_ ts t #[.int .i64 (N2 + 1), .int .i64 c7]).run Try.prog w = .ok (.int .i64 N3) w := fun ts t w => by
          rw [← hN3, ← hN2]; simp [Builtin.min_, Builtin.min2, mF] <;> (repeat' split) <;> omega
        obtain ⟨E, hE⟩ : ∃ E, decide (N3 = c7) = E := ⟨_, rfl⟩
        have hE' : (N3 == c7) = E := hE
        have hh2 := hide hE
        clear hE
        have hh := hide hN3
        clear hN3 hN2
        cases h1
        · go_wp2_with (fail)
          go_quiet ((go_at_call 26; (first | with_reducible exact quiet_eq2 (RC _) | with_reducible exact quiet_eq (RC _))))
          go_wp2_with (fail)
          go_roundw
          case rel => exact ⟨2, _, N3, _, _, _, E, _, _, rfl, by omega, by repeat (first | exact Gar.refl _ | refine Gar.drewN ?_ _ | refine Gar.drew ?_ | refine Gar.alloc ?_ _ | refine Gar.allocs ?_ _), hN.out _ _ hh.out.symm (by simp [mG, hh.out, hh2.out])⟩
          case measure => first | (simp; done) | (simp [intOf]; done) | (simp [intOf]; omega)
        · go_wp2_with (fail)
          go_quiet ((go_at_call 26; (first | with_reducible exact quiet_eq2 (RC _) | with_reducible exact quiet_eq (RC _))))
          go_wp2_with (fail)
          go_roundw
          case rel => exact ⟨2, _, N3, _, _, _, true, _, _, rfl, by omega, by repeat (first | exact Gar.refl _ | refine Gar.drewN ?_ _ | refine Gar.drew ?_ | refine Gar.alloc ?_ _ | refine Gar.allocs ?_ _), hN.out _ _ hh.out.symm (by simp [mG, hh.out])⟩
          case measure => first | (simp; done) | (simp [intOf]; done) | (simp [intOf]; omega)
    · obtain ⟨e1, e2, hN0⟩ := MonI.next2 hI.out
      have hN := hide hN0
      clear hN0
      subst e1
      subst e2
      have RC := rclip_any v2 0 c8 (by omega)
      obtain ⟨N2, hN2⟩ : ∃ N, clp v2 0 c8 = N := ⟨_, rfl⟩
      have bN2 : 0 ≤ N2 ∧ N2 ≤ 1048576 := by have := clp_bd v2 0 c8 (by omega); omega
      rw [hN2] at RC
      obtain ⟨N3, hN3⟩ : ∃ N, mF b2 v2 c8 = N := ⟨_, rfl⟩
      cases b2
      · obtain rfl : N3 = 0 := by rw [← hN3]; rfl
        have hz : ((0 : Int) == c8) = false := by simp; omega
        have hh := hide hN3
        clear hN3 hN2
        cases h2
        · go_wp2_with (fail)
          go_quiet ((go_at_call 26; (first | with_reducible exact quiet_eq2 (RC _) | with_reducible exact quiet_eq (RC _))))
          go_wp2_with (fail)
          go_roundw
          case rel => exact ⟨3, _, _, 0, _, _, _, false, _, rfl, by omega, by repeat (first | exact Gar.refl _ | refine Gar.drewN ?_ _ | refine Gar.drew ?_ | refine Gar.alloc ?_ _ | refine Gar.allocs ?_ _), hN.out _ _ (by simp [mF]) (by simp [mG, mF]; omega)⟩
          case measure => first | (simp; done) | (simp [intOf]; done) | (simp [intOf]; omega)
        · go_wp2_with (fail)
          go_quiet ((go_at_call 26; (first | with_reducible exact quiet_eq2 (RC _) | with_reducible exact quiet_eq (RC _))))
          go_wp2_with (fail)
          go_roundw
          case rel => exact ⟨3, _, _, 0, _, _, _, true, _, rfl, by omega, by repeat (first | exact Gar.refl _ | refine Gar.drewN ?_ _ | refine Gar.drew ?_ | refine Gar.alloc ?_ _ | refine Gar.allocs ?_ _), hN.out _ _ hh.out.symm (by simp [mG, hh.out])⟩
          case measure => first | (simp; done) | (simp [intOf]; done) | (simp [intOf]; omega)
      · have m3 : ∀ (ts : Array TypeId) (t : TypeId) (w : World), (Builtin.min_ ts t #[.int .i64 (N2 + 1), .int .i64 c8]).run Try.prog w = .ok (.int .i64 N3) w := fun ts t w => by
          rw [← hN3, ← hN2]; simp [Builtin.min_, Builtin.min2, mF] <;> (repeat' split) <;> omega
        obtain ⟨E, hE⟩ : ∃ E, decide (N3 = c8) = E := ⟨_, rfl⟩
        have hE' : (N3 == c8) = E := hE
        have hh2 := hide hE
        clear hE
        have hh := hide hN3
        clear hN3 hN2
        cases h2
        · go_wp2_with (fail)
          go_quiet ((go_at_call 26; (first | with_reducible exact quiet_eq2 (RC _) | with_reducible exact quiet_eq (RC _))))
          go_wp2_with (fail)
          go_roundw
          case rel => exact ⟨3, _, _, N3, _, _, _, E, _, rfl, by omega, by repeat (first | exact Gar.refl _ | refine Gar.drewN ?_ _ | refine Gar.drew ?_ | refine Gar.alloc ?_ _ | refine Gar.allocs ?_ _), hN.out _ _ hh.out.symm (by simp [mG, hh.out, hh2.out])⟩
          case measure => first | (simp; done) | (simp [intOf]; done) | (simp [intOf]; omega)
        · go_wp2_with (fail)
          go_quiet ((go_at_call 26; (first | with_reducible exact quiet_eq2 (RC _) | with_reducible exact quiet_eq (RC _))))
          go_wp2_with (fail)
          go_roundw
          case rel => exact ⟨3, _, _, N3, _, _, _, true, _, rfl, by omega, by repeat (first | exact Gar.refl _ | refine Gar.drewN ?_ _ | refine Gar.drew ?_ | refine Gar.alloc ?_ _ | refine Gar.allocs ?_ _), hN.out _ _ hh.out.symm (by simp [mG, hh.out])⟩
          case measure => first | (simp; done) | (simp [intOf]; done) | (simp [intOf]; omega)
    · obtain ⟨e1, e2, hN0⟩ := MonI.next3 hI.out
      have hN := hide hN0
      clear hN0
      subst e1
      subst e2
      have RC := rclip_any v3 0 c9 (by omega)
      obtain ⟨N2, hN2⟩ : ∃ N, clp v3 0 c9 = N := ⟨_, rfl⟩
      have bN2 : 0 ≤ N2 ∧ N2 ≤ 1048576 := by have := clp_bd v3 0 c9 (by omega); omega
      rw [hN2] at RC
      obtain ⟨N3, hN3⟩ : ∃ N, mF b3 v3 c9 = N := ⟨_, rfl⟩
      cases b3
      · obtain rfl : N3 = 0 := by rw [← hN3]; rfl
        have hz : ((0 : Int) == c9) = false := by simp; omega
        have hh := hide hN3
        clear hN3 hN2
        cases h3
        · go_wp2_with (fail)
          go_quiet ((go_at_call 26; (first | with_reducible exact quiet_eq2 (RC _) | with_reducible exact quiet_eq (RC _))))
          go_wp2_with (fail)
          go_roundw
          case rel => exact ⟨4, _, _, _, 0, _, _, _, false, rfl, by omega, by repeat (first | exact Gar.refl _ | refine Gar.drewN ?_ _ | refine Gar.drew ?_ | refine Gar.alloc ?_ _ | refine Gar.allocs ?_ _), hN.out _ _ (by simp [mF]) (by simp [mG, mF]; omega)⟩
          case measure => first | (simp; done) | (simp [intOf]; done) | (simp [intOf]; omega)
        · go_wp2_with (fail)
          go_quiet ((go_at_call 26; (first | with_reducible exact quiet_eq2 (RC _) | with_reducible exact quiet_eq (RC _))))
          go_wp2_with (fail)
          go_roundw
          case rel => exact ⟨4, _, _, _, 0, _, _, _, true, rfl, by omega, by repeat (first | exact Gar.refl _ | refine Gar.drewN ?_ _ | refine Gar.drew ?_ | refine Gar.alloc ?_ _ | refine Gar.allocs ?_ _), hN.out _ _ hh.out.symm (by simp [mG, hh.out])⟩
          case measure => first | (simp; done) | (simp [intOf]; done) | (simp [intOf]; omega)
      · have m3 : ∀ (ts : Array TypeId) (t : TypeId) (w : World), (Builtin.min_ ts t #[.int .i64 (N2 + 1), .int .i64 c9]).run Try.prog w = .ok (.int .i64 N3) w := fun ts t w => by
          rw [← hN3, ← hN2]; simp [Builtin.min_, Builtin.min2, mF] <;> (repeat' split) <;> omega
        obtain ⟨E, hE⟩ : ∃ E, decide (N3 = c9) = E := ⟨_, rfl⟩
        have hE' : (N3 == c9) = E := hE
        have hh2 := hide hE
        clear hE
        have hh := hide hN3
        clear hN3 hN2
        cases h3
        · go_wp2_with (fail)
          go_quiet ((go_at_call 26; (first | with_reducible exact quiet_eq2 (RC _) | with_reducible exact quiet_eq (RC _))))
          go_wp2_with (fail)
          go_roundw
          case rel => exact ⟨4, _, _, _, N3, _, _, _, E, rfl, by omega, by repeat (first | exact Gar.refl _ | refine Gar.drewN ?_ _ | refine Gar.drew ?_ | refine Gar.alloc ?_ _ | refine Gar.allocs ?_ _), hN.out _ _ hh.out.symm (by simp [mG, hh.out, hh2.out])⟩
          case measure => first | (simp; done) | (simp [intOf]; done) | (simp [intOf]; omega)
        · go_wp2_with (fail)
          go_quiet ((go_at_call 26; (first | with_reducible exact quiet_eq2 (RC _) | with_reducible exact quiet_eq (RC _))))
          go_wp2_with (fail)
          go_roundw
          case rel => exact ⟨4, _, _, _, N3, _, _, _, true, rfl, by omega, by repeat (first | exact Gar.refl _ | refine Gar.drewN ?_ _ | refine Gar.drew ?_ | refine Gar.alloc ?_ _ | refine Gar.allocs ?_ _), hN.out _ _ hh.out.symm (by simp [mG, hh.out])⟩
          case measure => first | (simp; done) | (simp [intOf]; done) | (simp [intOf]; omega)
    · obtain ⟨r0, r1, r2, r3, r4, r5, r6, r7⟩ := hI.out.done
      go_wp2_with (fail)
      refine bodyPost_ret (by simp [results, Try.results19, go_sem]; try rfl) rfl ?_
      refine ⟨rfl, ?_⟩
      repeat (first | exact Gar.refl _ | refine Gar.drewN ?_ _ | refine Gar.drew ?_ | refine Gar.alloc ?_ _ | refine Gar.allocs ?_ _)
end Go.Proofs.Ytlppolaoigbkeaa
