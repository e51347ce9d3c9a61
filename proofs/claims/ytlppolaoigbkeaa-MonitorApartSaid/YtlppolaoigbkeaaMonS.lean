/- The contracts of monitor.Step and Clear. -/
import Derived.Test.YtlppolaoigbkeaaMonP
import Derived.Test.YtlppolaoigbkeaaMrg
import Derived.Test.YtlppolaoigbkeaaLtt
import Derived.Deep.RegionHeld3
import Derived.IntWalk
import Derived.Deep.DrawnRows
namespace Go.Proofs.Ytlppolaoigbkeaa
open Go.RowKit
set_option linter.unusedVariables false
attribute [local go_sem ↓] Go.wp_at_zero Go.wp_at_succ

theorem clear_any (f0 f1 f2 f3 : Int) (g0 g1 g2 g3 : Bool) (w0 w : World) (hb : Gar w0 w) : Calls Try.prog 18 #[.agg #[.int .i64 f0, .int .i64 f1, .int .i64 f2, .int .i64 f3, .bool g0, .bool g1, .bool g2, .bool g3]] w fun e w' => e = .returned (.agg #[.int .i64 0, .int .i64 0, .int .i64 0, .int .i64 0, .bool false, .bool false, .bool false, .bool false]) ∧ Gar w0 w' := by
  refine on_gar hb ?_
  clear hb w0
  go_enter Try.func18, Try.ntmps18
  go_wp2
  refine bodyPost_ret (by simp [results, Try.results18, go_sem]; try rfl) rfl ?_
  refine ⟨rfl, ?_⟩
  repeat (first | exact Gar.refl _ | refine Gar.drewN ?_ _ | refine Gar.drew ?_ | refine Gar.alloc ?_ _ | refine Gar.allocs ?_ _)
theorem step_bad (c0 c1 c2 c3 c4 c5 c6 c7 c8 c9 : Int) (f0 f1 f2 f3 : Int) (g0 g1 g2 g3 : Bool) (x y z sp tq fi se : Int) (h : chkB c0 c1 c2 c3 c4 c5 c6 c7 c8 c9 = false) (w0 w : World) (hb : Gar w0 w) : Calls Try.prog 16 #[.agg #[.int .i64 c0, .int .i64 c1, .int .i64 c2, .int .i64 c3, .int .i64 c4, .int .i64 c5, .int .i64 c6, .int .i64 c7, .int .i64 c8, .int .i64 c9], .agg #[.int .i64 f0, .int .i64 f1, .int .i64 f2, .int .i64 f3, .bool g0, .bool g1, .bool g2, .bool g3], .agg #[.int .i64 x, .int .i64 y, .int .i64 z, .int .i64 sp, .int .i64 tq, .int .i64 fi, .int .i64 se]] w fun e w' => e = .returned (.tuple #[.agg #[.int .i64 0, .int .i64 0, .int .i64 0, .int .i64 0, .bool false, .bool false, .bool false, .bool false], .iface 59 (.int .i64 3)]) ∧ Gar w0 w' := by
  refine on_gar hb ?_
  clear hb w0
  have K := fun w => cond_bad c0 c1 c2 c3 c4 c5 c6 c7 c8 c9 x y z sp tq fi se h w w (Gar.refl _)
  clear h
  go_enter Try.func16, Try.ntmps16
  go_wp2_with (go_at_call 14; (with_reducible refine (K _).mono ?_); rintro e w' ⟨rfl, os, n, rfl⟩)
  refine bodyPost_ret (by simp [results, Try.results16, go_sem]; try rfl) rfl ?_
  refine ⟨rfl, ?_⟩
  repeat (first | exact Gar.refl _ | refine Gar.drewN ?_ _ | refine Gar.drew ?_ | refine Gar.alloc ?_ _ | refine Gar.allocs ?_ _)

set_option maxHeartbeats 8000000 in
theorem step_ok (c0 c1 c2 c3 c4 c5 c6 c7 c8 c9 : Int) (f0 f1 f2 f3 : Int) (g0 g1 g2 g3 : Bool) (x y z sp tq fi se : Int) (h : chkB c0 c1 c2 c3 c4 c5 c6 c7 c8 c9 = true) (w0 w : World) (hb : Gar w0 w) : Calls Try.prog 16 #[.agg #[.int .i64 c0, .int .i64 c1, .int .i64 c2, .int .i64 c3, .int .i64 c4, .int .i64 c5, .int .i64 c6, .int .i64 c7, .int .i64 c8, .int .i64 c9], .agg #[.int .i64 f0, .int .i64 f1, .int .i64 f2, .int .i64 f3, .bool g0, .bool g1, .bool g2, .bool g3], .agg #[.int .i64 x, .int .i64 y, .int .i64 z, .int .i64 sp, .int .i64 tq, .int .i64 fi, .int .i64 se]] w fun e w' => e = .returned (.tuple #[.agg #[.int .i64 (mF (q0 c0 x y z) f0 c6), .int .i64 (mF (lostB c1 c2 x y z) f1 c7), .int .i64 (mF (q2 c3 c4 sp tq) f2 c8), .int .i64 (mF (q3 c5 fi se) f3 c9), .bool (mG (q0 c0 x y z) g0 f0 c6), .bool (mG (lostB c1 c2 x y z) g1 f1 c7), .bool (mG (q2 c3 c4 sp tq) g2 f2 c8), .bool (mG (q3 c5 fi se) g3 f3 c9)], .nilIface]) ∧ Gar w0 w' := by
  refine on_gar hb ?_
  clear hb w0
  have K := fun w => cond_ok c0 c1 c2 c3 c4 c5 c6 c7 c8 c9 x y z sp tq fi se h w w (Gar.refl _)
  obtain ⟨-, -, -, -, -, -, h6, h7, h8, h9⟩ := chk_in h
  have t6 := wi_in h6
  have t7 := wi_in h7
  have t8 := wi_in h8
  have t9 := wi_in h9
  clear h h6 h7 h8 h9
  generalize q0 c0 x y z = b0 at *
  generalize lostB c1 c2 x y z = b1 at *
  generalize q2 c3 c4 sp tq = b2 at *
  generalize q3 c5 fi se = b3 at *
  have i0 : ∀ w, (Instr.index 35 (.agg #[.bool b0, .bool b1, .bool b2, .bool b3]) (.int .i64 0)).run Try.prog w = .ok (.bool b0) w := fun _ => by kernel_rfl
  have i1 : ∀ w, (Instr.index 35 (.agg #[.bool b0, .bool b1, .bool b2, .bool b3]) (.int .i64 1)).run Try.prog w = .ok (.bool b1) w := fun _ => by kernel_rfl
  have i2 : ∀ w, (Instr.index 35 (.agg #[.bool b0, .bool b1, .bool b2, .bool b3]) (.int .i64 2)).run Try.prog w = .ok (.bool b2) w := fun _ => by kernel_rfl
  have i3 : ∀ w, (Instr.index 35 (.agg #[.bool b0, .bool b1, .bool b2, .bool b3]) (.int .i64 3)).run Try.prog w = .ok (.bool b3) w := fun _ => by kernel_rfl
  go_enter Try.func16, Try.ntmps16
  go_wp2_with (go_at_call 14; (with_reducible refine (K _).mono ?_); rintro e w' ⟨rfl, os, n, rfl⟩)
  go_loopw [23] (fun i wr => ∃ (k : Nat) (v0 v1 v2 v3 : Int) (h0 h1 h2 h3 : Bool), i = .int .i64 k ∧ k ≤ 4 ∧ Gar ((((w.alloc (.cells #[.int .i64 c0, .int .i64 c1, .int .i64 c2, .int .i64 c3, .int .i64 c4, .int .i64 c5, .int .i64 c6, .int .i64 c7, .int .i64 c8, .int .i64 c9] 24)).alloc (.cells #[.int .i64 v0, .int .i64 v1, .int .i64 v2, .int .i64 v3, .bool h0, .bool h1, .bool h2, .bool h3] 42)).alloc (.cells #[.int .i64 x, .int .i64 y, .int .i64 z, .int .i64 sp, .int .i64 tq, .int .i64 fi, .int .i64 se] 34)).alloc (.cells #[.int .i64 0, .int .i64 0, .int .i64 0, .int .i64 0, .bool false, .bool false, .bool false, .bool false] 42)) wr ∧ MonI k b0 b1 b2 b3 f0 f1 f2 f3 c6 c7 c8 c9 g0 g1 g2 g3 v0 v1 v2 v3 h0 h1 h2 h3) (fun i _ => 4 - (intOf i).toNat)
  case atStart => exact ⟨0, _, _, _, _, _, _, _, _, rfl, by omega, by repeat (first | exact Gar.refl _ | refine Gar.drewN ?_ _ | refine Gar.drew ?_ | refine Gar.alloc ?_ _ | refine Gar.allocs ?_ _), MonI.start _ _ _ _ _ _ _ _ _ _ _ _ _ _ _ _⟩
  case round =>
    clear K
    obtain ⟨k, v0, v1, v2, v3, h0, h1, h2, h3, rfl, hk, ⟨os, n, rfl⟩, hI0⟩ := hrel
    have hI := hide hI0
    clear hI0
    rcases (show k = 0 ∨ k = 1 ∨ k = 2 ∨ k = 3 ∨ k = 4 by omega) with rfl | rfl | rfl | rfl | rfl
    · obtain ⟨e1, e2, hN0⟩ := MonI.next0 hI.out
      have hN := hide hN0
      clear hN0
      subst e1
      subst e2
      cases b0
      · go_wp2_with (fail)
        go_roundw
        case rel => exact ⟨1, 0, _, _, _, _, _, _, _, rfl, by omega, by repeat (first | exact Gar.refl _ | refine Gar.drewN ?_ _ | refine Gar.drew ?_ | refine Gar.alloc ?_ _ | refine Gar.allocs ?_ _), hN.out _ _ (by simp [mF]) (by simp [mG, mF] <;> omega)⟩
        case measure => first | (simp; done) | (simp [intOf]; done) | (simp [intOf]; omega)
      · obtain ⟨N1, hN1⟩ : ∃ N, (if v0 < 0 then 0 else v0) = N := ⟨_, rfl⟩
        obtain ⟨N2, hN2⟩ : ∃ N, clp v0 0 c6 = N := ⟨_, rfl⟩
        obtain ⟨N3, hN3⟩ : ∃ N, mF true v0 c6 = N := ⟨_, rfl⟩
        have m1 : ∀ (ts : Array TypeId) (t : TypeId) (w : World), (Builtin.max_ ts t #[.int .i64 v0, .int .i64 0]).run Try.prog w = .ok (.int .i64 N1) w := fun ts t w => by
          rw [← hN1]; simp [Builtin.max_, Builtin.max2] <;> (repeat' split) <;> omega
        have m2 : ∀ (ts : Array TypeId) (t : TypeId) (w : World), (Builtin.min_ ts t #[.int .i64 N1, .int .i64 c6]).run Try.prog w = .ok (.int .i64 N2) w := fun ts t w => by
          rw [← hN2, ← hN1]; simp [Builtin.min_, Builtin.min2, clp] <;> (repeat' split) <;> omega
        have bN2 : 0 ≤ N2 ∧ N2 ≤ 1048576 := by have := clp_bd v0 0 c6 (by omega); omega
        have s1 : IntKind.i64.wrap (N2 + 1) = N2 + 1 := IntWalk.i64_in _ (by omega)
        have m3 : ∀ (ts : Array TypeId) (t : TypeId) (w : World), (Builtin.min_ ts t #[.int .i64 (N2 + 1), .int .i64 c6]).run Try.prog w = .ok (.int .i64 N3) w := fun ts t w => by
          rw [← hN3, ← hN2]; simp [Builtin.min_, Builtin.min2, mF] <;> (repeat' split) <;> omega
        obtain ⟨E, hE⟩ : ∃ E, decide (N3 = c6) = E := ⟨_, rfl⟩
        have hE' : (N3 == c6) = E := hE
        have hh := hide (And.intro hN3 hE)
        clear hN1 hN2 hN3
        go_wp2_with (fail)
        apply merge
        · intro hx
          go_region
          all_goals with_reducible exact hx.out
        go_wp2_with (fail)
        cases h0
        · apply merge
          · intro hx
            go_region
            all_goals with_reducible exact hx.out
          go_wp2_with (fail)
          go_roundw
          case rel => exact ⟨1, N3, _, _, _, E, _, _, _, rfl, by omega, by repeat (first | exact Gar.refl _ | refine Gar.drewN ?_ _ | refine Gar.drew ?_ | refine Gar.alloc ?_ _ | refine Gar.allocs ?_ _), hN.out _ _ hh.out.1.symm (by simp [mG, hh.out.1, hh.out.2])⟩
          case measure => first | (simp; done) | (simp [intOf]; done) | (simp [intOf]; omega)
        · apply merge
          · intro hx
            go_region
            all_goals with_reducible exact hx.out
          go_wp2_with (fail)
          go_roundw
          case rel => exact ⟨1, N3, _, _, _, true, _, _, _, rfl, by omega, by repeat (first | exact Gar.refl _ | refine Gar.drewN ?_ _ | refine Gar.drew ?_ | refine Gar.alloc ?_ _ | refine Gar.allocs ?_ _), hN.out _ _ hh.out.1.symm (by simp [mG])⟩
          case measure => first | (simp; done) | (simp [intOf]; done) | (simp [intOf]; omega)
    · obtain ⟨e1, e2, hN0⟩ := MonI.next1 hI.out
      have hN := hide hN0
      clear hN0
      subst e1
      subst e2
      cases b1
      · go_wp2_with (fail)
        go_roundw
        case rel => exact ⟨2, _, 0, _, _, _, _, _, _, rfl, by omega, by repeat (first | exact Gar.refl _ | refine Gar.drewN ?_ _ | refine Gar.drew ?_ | refine Gar.alloc ?_ _ | refine Gar.allocs ?_ _), hN.out _ _ (by simp [mF]) (by simp [mG, mF] <;> omega)⟩
        case measure => first | (simp; done) | (simp [intOf]; done) | (simp [intOf]; omega)
      · obtain ⟨N1, hN1⟩ : ∃ N, (if v1 < 0 then 0 else v1) = N := ⟨_, rfl⟩
        obtain ⟨N2, hN2⟩ : ∃ N, clp v1 0 c7 = N := ⟨_, rfl⟩
        obtain ⟨N3, hN3⟩ : ∃ N, mF true v1 c7 = N := ⟨_, rfl⟩
        have m1 : ∀ (ts : Array TypeId) (t : TypeId) (w : World), (Builtin.max_ ts t #[.int .i64 v1, .int .i64 0]).run Try.prog w = .ok (.int .i64 N1) w := fun ts t w => by
          rw [← hN1]; simp [Builtin.max_, Builtin.max2] <;> (repeat' split) <;> omega
        have m2 : ∀ (ts : Array TypeId) (t : TypeId) (w : World), (Builtin.min_ ts t #[.int .i64 N1, .int .i64 c7]).run Try.prog w = .ok (.int .i64 N2) w := fun ts t w => by
          rw [← hN2, ← hN1]; simp [Builtin.min_, Builtin.min2, clp] <;> (repeat' split) <;> omega
        have bN2 : 0 ≤ N2 ∧ N2 ≤ 1048576 := by have := clp_bd v1 0 c7 (by omega); omega
        have s1 : IntKind.i64.wrap (N2 + 1) = N2 + 1 := IntWalk.i64_in _ (by omega)
        have m3 : ∀ (ts : Array TypeId) (t : TypeId) (w : World), (Builtin.min_ ts t #[.int .i64 (N2 + 1), .int .i64 c7]).run Try.prog w = .ok (.int .i64 N3) w := fun ts t w => by
          rw [← hN3, ← hN2]; simp [Builtin.min_, Builtin.min2, mF] <;> (repeat' split) <;> omega
        obtain ⟨E, hE⟩ : ∃ E, decide (N3 = c7) = E := ⟨_, rfl⟩
        have hE' : (N3 == c7) = E := hE
        have hh := hide (And.intro hN3 hE)
        clear hN1 hN2 hN3
        go_wp2_with (fail)
        apply merge
        · intro hx
          go_region
          all_goals with_reducible exact hx.out
        go_wp2_with (fail)
        cases h1
        · apply merge
          · intro hx
            go_region
            all_goals with_reducible exact hx.out
          go_wp2_with (fail)
          go_roundw
          case rel => exact ⟨2, _, N3, _, _, _, E, _, _, rfl, by omega, by repeat (first | exact Gar.refl _ | refine Gar.drewN ?_ _ | refine Gar.drew ?_ | refine Gar.alloc ?_ _ | refine Gar.allocs ?_ _), hN.out _ _ hh.out.1.symm (by simp [mG, hh.out.1, hh.out.2])⟩
          case measure => first | (simp; done) | (simp [intOf]; done) | (simp [intOf]; omega)
        · apply merge
          · intro hx
            go_region
            all_goals with_reducible exact hx.out
          go_wp2_with (fail)
          go_roundw
          case rel => exact ⟨2, _, N3, _, _, _, true, _, _, rfl, by omega, by repeat (first | exact Gar.refl _ | refine Gar.drewN ?_ _ | refine Gar.drew ?_ | refine Gar.alloc ?_ _ | refine Gar.allocs ?_ _), hN.out _ _ hh.out.1.symm (by simp [mG])⟩
          case measure => first | (simp; done) | (simp [intOf]; done) | (simp [intOf]; omega)
    · obtain ⟨e1, e2, hN0⟩ := MonI.next2 hI.out
      have hN := hide hN0
      clear hN0
      subst e1
      subst e2
      cases b2
      · go_wp2_with (fail)
        go_roundw
        case rel => exact ⟨3, _, _, 0, _, _, _, _, _, rfl, by omega, by repeat (first | exact Gar.refl _ | refine Gar.drewN ?_ _ | refine Gar.drew ?_ | refine Gar.alloc ?_ _ | refine Gar.allocs ?_ _), hN.out _ _ (by simp [mF]) (by simp [mG, mF] <;> omega)⟩
        case measure => first | (simp; done) | (simp [intOf]; done) | (simp [intOf]; omega)
      · obtain ⟨N1, hN1⟩ : ∃ N, (if v2 < 0 then 0 else v2) = N := ⟨_, rfl⟩
        obtain ⟨N2, hN2⟩ : ∃ N, clp v2 0 c8 = N := ⟨_, rfl⟩
        obtain ⟨N3, hN3⟩ : ∃ N, mF true v2 c8 = N := ⟨_, rfl⟩
        have m1 : ∀ (ts : Array TypeId) (t : TypeId) (w : World), (Builtin.max_ ts t #[.int .i64 v2, .int .i64 0]).run Try.prog w = .ok (.int .i64 N1) w := fun ts t w => by
          rw [← hN1]; simp [Builtin.max_, Builtin.max2] <;> (repeat' split) <;> omega
        have m2 : ∀ (ts : Array TypeId) (t : TypeId) (w : World), (Builtin.min_ ts t #[.int .i64 N1, .int .i64 c8]).run Try.prog w = .ok (.int .i64 N2) w := fun ts t w => by
          rw [← hN2, ← hN1]; simp [Builtin.min_, Builtin.min2, clp] <;> (repeat' split) <;> omega
        have bN2 : 0 ≤ N2 ∧ N2 ≤ 1048576 := by have := clp_bd v2 0 c8 (by omega); omega
        have s1 : IntKind.i64.wrap (N2 + 1) = N2 + 1 := IntWalk.i64_in _ (by omega)
        have m3 : ∀ (ts : Array TypeId) (t : TypeId) (w : World), (Builtin.min_ ts t #[.int .i64 (N2 + 1), .int .i64 c8]).run Try.prog w = .ok (.int .i64 N3) w := fun ts t w => by
          rw [← hN3, ← hN2]; simp [Builtin.min_, Builtin.min2, mF] <;> (repeat' split) <;> omega
        obtain ⟨E, hE⟩ : ∃ E, decide (N3 = c8) = E := ⟨_, rfl⟩
        have hE' : (N3 == c8) = E := hE
        have hh := hide (And.intro hN3 hE)
        clear hN1 hN2 hN3
        go_wp2_with (fail)
        apply merge
        · intro hx
          go_region
          all_goals with_reducible exact hx.out
        go_wp2_with (fail)
        cases h2
        · apply merge
          · intro hx
            go_region
            all_goals with_reducible exact hx.out
          go_wp2_with (fail)
          go_roundw
          case rel => exact ⟨3, _, _, N3, _, _, _, E, _, rfl, by omega, by repeat (first | exact Gar.refl _ | refine Gar.drewN ?_ _ | refine Gar.drew ?_ | refine Gar.alloc ?_ _ | refine Gar.allocs ?_ _), hN.out _ _ hh.out.1.symm (by simp [mG, hh.out.1, hh.out.2])⟩
          case measure => first | (simp; done) | (simp [intOf]; done) | (simp [intOf]; omega)
        · apply merge
          · intro hx
            go_region
            all_goals with_reducible exact hx.out
          go_wp2_with (fail)
          go_roundw
          case rel => exact ⟨3, _, _, N3, _, _, _, true, _, rfl, by omega, by repeat (first | exact Gar.refl _ | refine Gar.drewN ?_ _ | refine Gar.drew ?_ | refine Gar.alloc ?_ _ | refine Gar.allocs ?_ _), hN.out _ _ hh.out.1.symm (by simp [mG])⟩
          case measure => first | (simp; done) | (simp [intOf]; done) | (simp [intOf]; omega)
    · obtain ⟨e1, e2, hN0⟩ := MonI.next3 hI.out
      have hN := hide hN0
      clear hN0
      subst e1
      subst e2
      cases b3
      · go_wp2_with (fail)
        go_roundw
        case rel => exact ⟨4, _, _, _, 0, _, _, _, _, rfl, by omega, by repeat (first | exact Gar.refl _ | refine Gar.drewN ?_ _ | refine Gar.drew ?_ | refine Gar.alloc ?_ _ | refine Gar.allocs ?_ _), hN.out _ _ (by simp [mF]) (by simp [mG, mF] <;> omega)⟩
        case measure => first | (simp; done) | (simp [intOf]; done) | (simp [intOf]; omega)
      · obtain ⟨N1, hN1⟩ : ∃ N, (if v3 < 0 then 0 else v3) = N := ⟨_, rfl⟩
        obtain ⟨N2, hN2⟩ : ∃ N, clp v3 0 c9 = N := ⟨_, rfl⟩
        obtain ⟨N3, hN3⟩ : ∃ N, mF true v3 c9 = N := ⟨_, rfl⟩
        have m1 : ∀ (ts : Array TypeId) (t : TypeId) (w : World), (Builtin.max_ ts t #[.int .i64 v3, .int .i64 0]).run Try.prog w = .ok (.int .i64 N1) w := fun ts t w => by
          rw [← hN1]; simp [Builtin.max_, Builtin.max2] <;> (repeat' split) <;> omega
        have m2 : ∀ (ts : Array TypeId) (t : TypeId) (w : World), (Builtin.min_ ts t #[.int .i64 N1, .int .i64 c9]).run Try.prog w = .ok (.int .i64 N2) w := fun ts t w => by
          rw [← hN2, ← hN1]; simp [Builtin.min_, Builtin.min2, clp] <;> (repeat' split) <;> omega
        have bN2 : 0 ≤ N2 ∧ N2 ≤ 1048576 := by have := clp_bd v3 0 c9 (by omega); omega
        have s1 : IntKind.i64.wrap (N2 + 1) = N2 + 1 := IntWalk.i64_in _ (by omega)
        have m3 : ∀ (ts : Array TypeId) (t : TypeId) (w : World), (Builtin.min_ ts t #[.int .i64 (N2 + 1), .int .i64 c9]).run Try.prog w = .ok (.int .i64 N3) w := fun ts t w => by
          rw [← hN3, ← hN2]; simp [Builtin.min_, Builtin.min2, mF] <;> (repeat' split) <;> omega
        obtain ⟨E, hE⟩ : ∃ E, decide (N3 = c9) = E := ⟨_, rfl⟩
        have hE' : (N3 == c9) = E := hE
        have hh := hide (And.intro hN3 hE)
        clear hN1 hN2 hN3
        go_wp2_with (fail)
        apply merge
        · intro hx
          go_region
          all_goals with_reducible exact hx.out
        go_wp2_with (fail)
        cases h3
        · apply merge
          · intro hx
            go_region
            all_goals with_reducible exact hx.out
          go_wp2_with (fail)
          go_roundw
          case rel => exact ⟨4, _, _, _, N3, _, _, _, E, rfl, by omega, by repeat (first | exact Gar.refl _ | refine Gar.drewN ?_ _ | refine Gar.drew ?_ | refine Gar.alloc ?_ _ | refine Gar.allocs ?_ _), hN.out _ _ hh.out.1.symm (by simp [mG, hh.out.1, hh.out.2])⟩
          case measure => first | (simp; done) | (simp [intOf]; done) | (simp [intOf]; omega)
        · apply merge
          · intro hx
            go_region
            all_goals with_reducible exact hx.out
          go_wp2_with (fail)
          go_roundw
          case rel => exact ⟨4, _, _, _, N3, _, _, _, true, rfl, by omega, by repeat (first | exact Gar.refl _ | refine Gar.drewN ?_ _ | refine Gar.drew ?_ | refine Gar.alloc ?_ _ | refine Gar.allocs ?_ _), hN.out _ _ hh.out.1.symm (by simp [mG])⟩
          case measure => first | (simp; done) | (simp [intOf]; done) | (simp [intOf]; omega)
    · obtain ⟨r0, r1, r2, r3, r4, r5, r6, r7⟩ := hI.out.done
      go_wp2_with (fail)
      refine bodyPost_ret (by simp [results, Try.results16, go_sem]; try rfl) rfl ?_
      refine ⟨rfl, ?_⟩
      repeat (first | exact Gar.refl _ | refine Gar.drewN ?_ _ | refine Gar.drew ?_ | refine Gar.alloc ?_ _ | refine Gar.allocs ?_ _)
end Go.Proofs.Ytlppolaoigbkeaa
