/- The walk of the law MonitorCounts. -/
import Derived.Test.YtlppolaoigbkeaaMonA
import Derived.Test.YtlppolaoigbkeaaFlat
import Derived.Test.YtlppolaoigbkeaaMonK
import Derived.Test.YtlppolaoigbkeaaLtA
import Derived.Test.YtlppolaoigbkeaaLtB
import Derived.Test.YtlppolaoigbkeaaRowN
import Derived.BigQuiet
import Derived.IntWalk
import Derived.Test.YtlppolaoigbkeaaTail
namespace Go.Proofs.Ytlppolaoigbkeaa
open Go.RowKit
set_option linter.unusedVariables false
attribute [local go_sem ↓] Go.wp_at_zero Go.wp_at_succ

set_option maxRecDepth 100000 in
set_option maxHeartbeats 8000000 in
theorem monitorCounts_walk (a0x0 a0x1 a0x2 a0x3 a0x4 a0x5 a0x6 a0x7 a0x8 a0x9 : Int) (a1 : Option Addr) (len1 cap1 : Nat) (D1 : Nat → List Value) (w : World) (w0x0 : (Lit.int .i64 a0x0).wf = true) (w0x1 : (Lit.int .i64 a0x1).wf = true) (w0x2 : (Lit.int .i64 a0x2).wf = true) (w0x3 : (Lit.int .i64 a0x3).wf = true) (w0x4 : (Lit.int .i64 a0x4).wf = true) (w0x5 : (Lit.int .i64 a0x5).wf = true) (w0x6 : (Lit.int .i64 a0x6).wf = true) (w0x7 : (Lit.int .i64 a0x7).wf = true) (w0x8 : (Lit.int .i64 a0x8).wf = true) (w0x9 : (Lit.int .i64 a0x9).wf = true) (r1 : IsRows [some .i64, some .i64, some .i64, some .i64, some .i64, some .i64, some .i64] w a1 len1 cap1 D1) :
    Calls Try.prog 5 #[.agg #[.int .i64 a0x0, .int .i64 a0x1, .int .i64 a0x2, .int .i64 a0x3, .int .i64 a0x4, .int .i64 a0x5, .int .i64 a0x6, .int .i64 a0x7, .int .i64 a0x8, .int .i64 a0x9], .slice a1 len1 cap1] w fun e w' => e = .returned (.bool true) ∧ Below w.heap.size w w' := by
  clear w0x0 w0x1 w0x2 w0x3 w0x4 w0x5 w0x6 w0x7 w0x8 w0x9
  obtain ⟨hl, hm⟩ := rows_nil r1
  unfold maxLen at hm
  obtain ⟨b, h⟩ : ∃ b, chkB a0x0 a0x1 a0x2 a0x3 a0x4 a0x5 a0x6 a0x7 a0x8 a0x9 = b := ⟨_, rfl⟩
  have hR := hide r1
  clear r1
  cases b
  · have KC := check_bad a0x0 a0x1 a0x2 a0x3 a0x4 a0x5 a0x6 a0x7 a0x8 a0x9 h
    clear h
    go_enter Try.func5, Try.ntmps5
    go_wp2_with (first | (go_at_call 10; (with_reducible refine (awake_true _ _ (Gar.refl _)).mono ?_); rintro e w' ⟨rfl, os1, n1, rfl⟩) | (go_at_call 12; (with_reducible refine (KC _).mono ?_); rintro e w' ⟨rfl, rfl⟩))
    go_returns
    exact ⟨rfl, show Bel _ _ from Gar.bel (by repeat (first | exact Gar.refl _ | refine Gar.drewN ?_ _ | refine Gar.drew ?_ | refine Gar.alloc ?_ _ | refine Gar.allocs ?_ _))⟩
  have KC := check_ok a0x0 a0x1 a0x2 a0x3 a0x4 a0x5 a0x6 a0x7 a0x8 a0x9 h
  by_cases hlen : 300 < len1
  · clear h
    go_enter Try.func5, Try.ntmps5
    go_wp2_with (first | (go_at_call 10; (with_reducible refine (awake_true _ _ (Gar.refl _)).mono ?_); rintro e w' ⟨rfl, os1, n1, rfl⟩) | (go_at_call 12; (with_reducible refine (KC _).mono ?_); rintro e w' ⟨rfl, rfl⟩))
    go_returns
    exact ⟨rfl, show Bel _ _ from Gar.bel (by repeat (first | exact Gar.refl _ | refine Gar.drewN ?_ _ | refine Gar.drew ?_ | refine Gar.alloc ?_ _ | refine Gar.allocs ?_ _))⟩
  have hlen2 : len1 ≤ 300 := by omega
  have hdl : decide ((300 : Int) < (len1 : Int)) = false := decide_eq_false (by omega)
  clear hlen
  obtain ⟨-, -, -, -, -, -, hc6, hc7, hc8, hc9⟩ := chk_in h
  have b6 := wi_in hc6
  have b7 := wi_in hc7
  have b8 := wi_in hc8
  have b9 := wi_in hc9
  clear hc6 hc7 hc8 hc9
  go_enter Try.func5, Try.ntmps5
  go_wp2_with (first | (go_at_call 10; (with_reducible refine (awake_true _ _ (Gar.refl _)).mono ?_); rintro e w' ⟨rfl, os1, n1, rfl⟩) | (go_at_call 12; (with_reducible refine (KC _).mono ?_); rintro e w' ⟨rfl, rfl⟩))
  go_loopw [8] (fun i wr => ∃ (k : Nat) (r0 r1 r2 r3 f0 f1 f2 f3 : Int) (u0 u1 u2 u3 : Bool), i = .int .i64 k ∧ k ≤ len1 ∧ Gar (((((allocs (w.alloc (.cells #[.int .i64 a0x0, .int .i64 a0x1, .int .i64 a0x2, .int .i64 a0x3, .int .i64 a0x4, .int .i64 a0x5, .int .i64 a0x6, .int .i64 a0x7, .int .i64 a0x8, .int .i64 a0x9] 24)) os1).alloc (.cells #[.int .i64 a0x0, .int .i64 a0x1, .int .i64 a0x2, .int .i64 a0x3, .int .i64 a0x4, .int .i64 a0x5, .int .i64 a0x6, .int .i64 a0x7, .int .i64 a0x8, .int .i64 a0x9] 24)).alloc (.cells #[.int .i64 f0, .int .i64 f1, .int .i64 f2, .int .i64 f3, .bool u0, .bool u1, .bool u2, .bool u3] 42)).alloc (.cells #[.int .i64 r0, .int .i64 r1, .int .i64 r2, .int .i64 r3] 22)).alloc (.cells #[.bool u0, .bool u1, .bool u2, .bool u3] 35)) wr ∧ CntI k a0x6 a0x7 a0x8 a0x9 r0 r1 r2 r3 f0 f1 f2 f3) (fun i _ => len1 - (intOf i).toNat)
  case atStart => exact ⟨0, 0, 0, 0, 0, 0, 0, 0, 0, false, false, false, false, rfl, Nat.zero_le _, by repeat (first | exact Gar.refl _ | refine Gar.drewN ?_ _ | refine Gar.drew ?_ | refine Gar.alloc ?_ _ | refine Gar.allocs ?_ _), CntI.start b6.1 b7.1 b8.1 b9.1⟩
  case round =>
    obtain ⟨k, r0, r1, r2, r3, f0, f1, f2, f3, u0, u1, u2, u3, rfl, hk, ⟨os, n, rfl⟩, hI0⟩ := hrel
    by_cases hlt : k < len1
    · obtain ⟨b, off, rfl, hrow⟩ := rows_7i hR.out (by omega)
      obtain ⟨d0, d1, d2, d3, d4, d5, d6, w0, w1, w2, w3, w4, w5, w6⟩ := hrow k hlt
      clear hrow hR
      have hbb := World.block_lt_of_cell? w _ w0
      obtain ⟨l1, l2, l3, l4, l5, l6, l7, l8⟩ := lt_all hbb
      obtain ⟨l9, l10, l11, l12, l13, l14, l15, l16⟩ := lt_more hbb
      have j1 : (0 : Int) ≤ (k : Int) := by omega
      have j2 : (k : Int) < (len1 : Int) := by omega
      have j3 : (k : Int) < (cap1 : Int) := by omega
      obtain ⟨p0, p1, p2, p3⟩ := CntI.bd hI0 (by omega)
      have K1 := fun w => cond_ok a0x0 a0x1 a0x2 a0x3 a0x4 a0x5 a0x6 a0x7 a0x8 a0x9 d0 d1 d2 d3 d4 d5 d6 h w w (Gar.refl _)
      have KS := fun w => step_ok a0x0 a0x1 a0x2 a0x3 a0x4 a0x5 a0x6 a0x7 a0x8 a0x9 f0 f1 f2 f3 u0 u1 u2 u3 d0 d1 d2 d3 d4 d5 d6 h w w (Gar.refl _)
      clear h
      generalize q0 a0x0 d0 d1 d2 = b0 at *
      generalize lostB a0x1 a0x2 d0 d1 d2 = b1 at *
      generalize q2 a0x3 a0x4 d3 d4 = b2 at *
      generalize q3 a0x5 d5 d6 = b3 at *
      have hN0 := hI0.next b0 b1 b2 b3
      obtain ⟨-, y0, y1, y2, y3⟩ := hI0
      have t0 := cnt_f p0.1 b6.1 y0 b0
      have t1 := cnt_f p1.1 b7.1 y1 b1
      have t2 := cnt_f p2.1 b8.1 y2 b2
      have t3 := cnt_f p3.1 b9.1 y3 b3
      have s0 := cnt_g p0.1 b6.1 y0 b0 u0
      have s1 := cnt_g p1.1 b7.1 y1 b1 u1
      have s2 := cnt_g p2.1 b8.1 y2 b2 u2
      have s3 := cnt_g p3.1 b9.1 y3 b3 u3
      rw [t0, t1, t2, t3, s0, s1, s2, s3] at KS
      clear t0 t1 t2 t3 s0 s1 s2 s3 y0 y1 y2 y3
      obtain ⟨F0, hF0⟩ : ∃ F, cap (nr b0 r0) a0x6 = F := ⟨_, rfl⟩
      obtain ⟨F1, hF1⟩ : ∃ F, cap (nr b1 r1) a0x7 = F := ⟨_, rfl⟩
      obtain ⟨F2, hF2⟩ : ∃ F, cap (nr b2 r2) a0x8 = F := ⟨_, rfl⟩
      obtain ⟨F3, hF3⟩ : ∃ F, cap (nr b3 r3) a0x9 = F := ⟨_, rfl⟩
      rw [hF0, hF1, hF2, hF3] at KS hN0
      clear hF0 hF1 hF2 hF3
      obtain ⟨R0, hR0⟩ : ∃ R, nr b0 r0 = R := ⟨_, rfl⟩
      obtain ⟨E0, hE0⟩ : ∃ E, nu b0 u0 r0 a0x6 = E := ⟨_, rfl⟩
      obtain ⟨R1, hR1⟩ : ∃ R, nr b1 r1 = R := ⟨_, rfl⟩
      obtain ⟨E1, hE1⟩ : ∃ E, nu b1 u1 r1 a0x7 = E := ⟨_, rfl⟩
      obtain ⟨R2, hR2⟩ : ∃ R, nr b2 r2 = R := ⟨_, rfl⟩
      obtain ⟨E2, hE2⟩ : ∃ E, nu b2 u2 r2 a0x8 = E := ⟨_, rfl⟩
      obtain ⟨R3, hR3⟩ : ∃ R, nr b3 r3 = R := ⟨_, rfl⟩
      obtain ⟨E3, hE3⟩ : ∃ E, nu b3 u3 r3 a0x9 = E := ⟨_, rfl⟩
      rw [hR0, hR1, hR2, hR3] at hN0
      rw [hE0, hE1, hE2, hE3] at KS
      have hn0 := hide (And.intro hR0 hE0)
      have hn1 := hide (And.intro hR1 hE1)
      have hn2 := hide (And.intro hR2 hE2)
      have hn3 := hide (And.intro hR3 hE3)
      clear hR0 hE0 hR1 hE1 hR2 hE2 hR3 hE3
      have hNext := hide hN0
      clear hN0
      go_wp2_with (fail)
      go_region_held3 (fun w' => w'.cell? ⟨w.heap.size, 0, none⟩ = some (.int .i64 a0x0) ∧ w'.cell? ⟨w.heap.size, 1, none⟩ = some (.int .i64 a0x1) ∧ w'.cell? ⟨w.heap.size, 2, none⟩ = some (.int .i64 a0x2) ∧ w'.cell? ⟨w.heap.size, 3, none⟩ = some (.int .i64 a0x3) ∧ w'.cell? ⟨w.heap.size, 4, none⟩ = some (.int .i64 a0x4) ∧ w'.cell? ⟨w.heap.size, 5, none⟩ = some (.int .i64 a0x5) ∧ w'.cell? ⟨w.heap.size, 6, none⟩ = some (.int .i64 a0x6) ∧ w'.cell? ⟨w.heap.size, 7, none⟩ = some (.int .i64 a0x7) ∧ w'.cell? ⟨w.heap.size, 8, none⟩ = some (.int .i64 a0x8) ∧ w'.cell? ⟨w.heap.size, 9, none⟩ = some (.int .i64 a0x9) ∧ w'.cell? ⟨b, off + k * 7, none⟩ = some (.int .i64 d0) ∧ w'.cell? ⟨b, off + k * 7 + 1, none⟩ = some (.int .i64 d1) ∧ w'.cell? ⟨b, off + k * 7 + 2, none⟩ = some (.int .i64 d2) ∧ w'.cell? ⟨b, off + k * 7 + 3, none⟩ = some (.int .i64 d3) ∧ w'.cell? ⟨b, off + k * 7 + 4, none⟩ = some (.int .i64 d4) ∧ w'.cell? ⟨b, off + k * 7 + 5, none⟩ = some (.int .i64 d5) ∧ w'.cell? ⟨b, off + k * 7 + 6, none⟩ = some (.int .i64 d6))
        ((refine ⟨?_, ?_, ?_, ?_, ?_, ?_, ?_, ?_, ?_, ?_, ?_, ?_, ?_, ?_, ?_, ?_, ?_⟩ <;> first | assumption | (simp; done) | go_simp))
        (first
          | (go_at_call 14; (with_reducible refine (K1 _).mono ?_); rintro e w' ⟨rfl, os5, n5, rfl⟩)
        )
      all_goals
        go_wp2_with (fail)
        go_region_held3 (fun w' => w'.cell? ⟨w.heap.size, 0, none⟩ = some (.int .i64 a0x0) ∧ w'.cell? ⟨w.heap.size, 1, none⟩ = some (.int .i64 a0x1) ∧ w'.cell? ⟨w.heap.size, 2, none⟩ = some (.int .i64 a0x2) ∧ w'.cell? ⟨w.heap.size, 3, none⟩ = some (.int .i64 a0x3) ∧ w'.cell? ⟨w.heap.size, 4, none⟩ = some (.int .i64 a0x4) ∧ w'.cell? ⟨w.heap.size, 5, none⟩ = some (.int .i64 a0x5) ∧ w'.cell? ⟨w.heap.size, 6, none⟩ = some (.int .i64 a0x6) ∧ w'.cell? ⟨w.heap.size, 7, none⟩ = some (.int .i64 a0x7) ∧ w'.cell? ⟨w.heap.size, 8, none⟩ = some (.int .i64 a0x8) ∧ w'.cell? ⟨w.heap.size, 9, none⟩ = some (.int .i64 a0x9) ∧ w'.cell? ⟨w.heap.size + 1 + os1.length + 1, 0, none⟩ = some (.int .i64 f0) ∧ w'.cell? ⟨w.heap.size + 1 + os1.length + 1, 1, none⟩ = some (.int .i64 f1) ∧ w'.cell? ⟨w.heap.size + 1 + os1.length + 1, 2, none⟩ = some (.int .i64 f2) ∧ w'.cell? ⟨w.heap.size + 1 + os1.length + 1, 3, none⟩ = some (.int .i64 f3) ∧ w'.cell? ⟨w.heap.size + 1 + os1.length + 1, 4, none⟩ = some (.bool u0) ∧ w'.cell? ⟨w.heap.size + 1 + os1.length + 1, 5, none⟩ = some (.bool u1) ∧ w'.cell? ⟨w.heap.size + 1 + os1.length + 1, 6, none⟩ = some (.bool u2) ∧ w'.cell? ⟨w.heap.size + 1 + os1.length + 1, 7, none⟩ = some (.bool u3) ∧ w'.cell? ⟨b, off + k * 7, none⟩ = some (.int .i64 d0) ∧ w'.cell? ⟨b, off + k * 7 + 1, none⟩ = some (.int .i64 d1) ∧ w'.cell? ⟨b, off + k * 7 + 2, none⟩ = some (.int .i64 d2) ∧ w'.cell? ⟨b, off + k * 7 + 3, none⟩ = some (.int .i64 d3) ∧ w'.cell? ⟨b, off + k * 7 + 4, none⟩ = some (.int .i64 d4) ∧ w'.cell? ⟨b, off + k * 7 + 5, none⟩ = some (.int .i64 d5) ∧ w'.cell? ⟨b, off + k * 7 + 6, none⟩ = some (.int .i64 d6))
          ((refine ⟨?_, ?_, ?_, ?_, ?_, ?_, ?_, ?_, ?_, ?_, ?_, ?_, ?_, ?_, ?_, ?_, ?_, ?_, ?_, ?_, ?_, ?_, ?_, ?_, ?_⟩ <;> first | assumption | (simp; done) | go_simp))
          (first
            | (go_at_call 16; (with_reducible refine (KS _).mono ?_); rintro e w' ⟨rfl, os6, n6, rfl⟩)
          )
      · go_wp2_with (fail)
        go_loopw [13] (fun i wr => ∃ (m : Nat) (v0 v1 v2 v3 : Int) (h0 h1 h2 h3 : Bool), i = .int .i64 m ∧ m ≤ 4 ∧ Gar ((allocs ((allocs (allocs (((((allocs (w.alloc (.cells #[.int .i64 a0x0, .int .i64 a0x1, .int .i64 a0x2, .int .i64 a0x3, .int .i64 a0x4, .int .i64 a0x5, .int .i64 a0x6, .int .i64 a0x7, .int .i64 a0x8, .int .i64 a0x9] 24)) os1).alloc (.cells #[.int .i64 a0x0, .int .i64 a0x1, .int .i64 a0x2, .int .i64 a0x3, .int .i64 a0x4, .int .i64 a0x5, .int .i64 a0x6, .int .i64 a0x7, .int .i64 a0x8, .int .i64 a0x9] 24)).alloc (.cells #[.int .i64 f0, .int .i64 f1, .int .i64 f2, .int .i64 f3, .bool u0, .bool u1, .bool u2, .bool u3] 42)).alloc (.cells #[.int .i64 v0, .int .i64 v1, .int .i64 v2, .int .i64 v3] 22)).alloc (.cells #[.bool h0, .bool h1, .bool h2, .bool h3] 35)) os) os5).alloc (.cells #[.bool b0, .bool b1, .bool b2, .bool b3] 35)) os6).alloc (.cells #[.int .i64 F0, .int .i64 F1, .int .i64 F2, .int .i64 F3, .bool E0, .bool E1, .bool E2, .bool E3] 42)) wr ∧ SwI m r0 r1 r2 r3 u0 u1 u2 u3 R0 R1 R2 R3 E0 E1 E2 E3 v0 v1 v2 v3 h0 h1 h2 h3) (fun i _ => 4 - (intOf i).toNat)
        case atStart => exact ⟨0, r0, r1, r2, r3, u0, u1, u2, u3, rfl, by omega, by repeat (first | exact Gar.refl _ | refine Gar.drewN ?_ _ | refine Gar.drew ?_ | refine Gar.alloc ?_ _ | refine Gar.allocs ?_ _), SwI.start _ _ _ _ _ _ _ _ _ _ _ _ _ _ _ _⟩
        case round =>
          obtain ⟨m, v0, v1, v2, v3, h0, h1, h2, h3, rfl, hm4, ⟨os3, n3, rfl⟩, hJ0⟩ := hrel
          have hJ := hide hJ0
          clear hJ0
          rcases (show m = 0 ∨ m = 1 ∨ m = 2 ∨ m = 3 ∨ m = 4 by omega) with rfl | rfl | rfl | rfl | rfl
          · obtain ⟨e1, e2, hN0⟩ := SwI.next0 hJ.out
            have hN := hide hN0
            clear hN0 hJ
            subst e1
            subst e2
            cases b0
            · obtain rfl : R0 = 0 := by rw [← hn0.out.1]; rfl
              obtain rfl : E0 = h0 := by rw [← hn0.out.2]; exact nu_no (by omega)
              have hz : decide (a0x6 ≤ 0) = false := decide_eq_false (by omega)
              go_wp2_with (fail)
              cases E0
              all_goals
                refine wp_region_tail 15 (by kernel_rfl) (by kernel_rfl) ?_
                simp only [List.take_succ_cons, List.take_zero, List.drop_succ_cons, List.drop_zero]
                repeat (first | go_big_quiet_skip | (go_big_quiet_want; go_big_quiet_op; (first | go_big_quiet_on | (apply Exists.intro; (refine And.intro ?_ ?_); fail; go_big_quiet_on))))
                refine wpQuiet_nil ?_
                go_wp2_with (fail)
                go_quiet (fail)
                go_wp2_with (fail)
                go_roundw
                case rel => exact ⟨1, _, _, _, _, _, _, _, _, rfl, by omega, by repeat (first | exact Gar.refl _ | refine Gar.drewN ?_ _ | refine Gar.drew ?_ | refine Gar.alloc ?_ _ | refine Gar.allocs ?_ _), hN.out⟩
                case measure => first | (simp; done) | (simp [intOf]; done) | (simp [intOf]; omega)
            · obtain rfl : R0 = v0 + 1 := by rw [← hn0.out.1]; rfl
              cases h0
              · have hE : decide (a0x6 ≤ v0 + 1) = E0 := hn0.out.2
                go_wp2_with (fail)
                refine wp_region_tail 15 (by kernel_rfl) (by kernel_rfl) ?_
                simp only [List.take_succ_cons, List.take_zero, List.drop_succ_cons, List.drop_zero]
                repeat (first | go_big_quiet_skip | (go_big_quiet_want; go_big_quiet_op; (first | go_big_quiet_on | (apply Exists.intro; (refine And.intro ?_ ?_); fail; go_big_quiet_on))))
                refine wpQuiet_nil ?_
                go_wp2_with (fail)
                go_quiet (fail)
                go_wp2_with (fail)
                go_roundw
                case rel => exact ⟨1, _, _, _, _, _, _, _, _, rfl, by omega, by repeat (first | exact Gar.refl _ | refine Gar.drewN ?_ _ | refine Gar.drew ?_ | refine Gar.alloc ?_ _ | refine Gar.allocs ?_ _), hN.out⟩
                case measure => first | (simp; done) | (simp [intOf]; done) | (simp [intOf]; omega)
              · obtain rfl : E0 = true := by rw [← hn0.out.2]; rfl
                go_wp2_with (fail)
                refine wp_region_tail 15 (by kernel_rfl) (by kernel_rfl) ?_
                simp only [List.take_succ_cons, List.take_zero, List.drop_succ_cons, List.drop_zero]
                repeat (first | go_big_quiet_skip | (go_big_quiet_want; go_big_quiet_op; (first | go_big_quiet_on | (apply Exists.intro; (refine And.intro ?_ ?_); fail; go_big_quiet_on))))
                refine wpQuiet_nil ?_
                go_wp2_with (fail)
                go_quiet (fail)
                go_wp2_with (fail)
                go_roundw
                case rel => exact ⟨1, _, _, _, _, _, _, _, _, rfl, by omega, by repeat (first | exact Gar.refl _ | refine Gar.drewN ?_ _ | refine Gar.drew ?_ | refine Gar.alloc ?_ _ | refine Gar.allocs ?_ _), hN.out⟩
                case measure => first | (simp; done) | (simp [intOf]; done) | (simp [intOf]; omega)
          · obtain ⟨e1, e2, hN0⟩ := SwI.next1 hJ.out
            have hN := hide hN0
            clear hN0 hJ
            subst e1
            subst e2
            cases b1
            · obtain rfl : R1 = 0 := by rw [← hn1.out.1]; rfl
              obtain rfl : E1 = h1 := by rw [← hn1.out.2]; exact nu_no (by omega)
              have hz : decide (a0x7 ≤ 0) = false := decide_eq_false (by omega)
              go_wp2_with (fail)
              cases E1
              all_goals
                refine wp_region_tail 15 (by kernel_rfl) (by kernel_rfl) ?_
                simp only [List.take_succ_cons, List.take_zero, List.drop_succ_cons, List.drop_zero]
                repeat (first | go_big_quiet_skip | (go_big_quiet_want; go_big_quiet_op; (first | go_big_quiet_on | (apply Exists.intro; (refine And.intro ?_ ?_); fail; go_big_quiet_on))))
                refine wpQuiet_nil ?_
                go_wp2_with (fail)
                go_quiet (fail)
                go_wp2_with (fail)
                go_roundw
                case rel => exact ⟨2, _, _, _, _, _, _, _, _, rfl, by omega, by repeat (first | exact Gar.refl _ | refine Gar.drewN ?_ _ | refine Gar.drew ?_ | refine Gar.alloc ?_ _ | refine Gar.allocs ?_ _), hN.out⟩
                case measure => first | (simp; done) | (simp [intOf]; done) | (simp [intOf]; omega)
            · obtain rfl : R1 = v1 + 1 := by rw [← hn1.out.1]; rfl
              cases h1
              · have hE : decide (a0x7 ≤ v1 + 1) = E1 := hn1.out.2
                go_wp2_with (fail)
                refine wp_region_tail 15 (by kernel_rfl) (by kernel_rfl) ?_
                simp only [List.take_succ_cons, List.take_zero, List.drop_succ_cons, List.drop_zero]
                repeat (first | go_big_quiet_skip | (go_big_quiet_want; go_big_quiet_op; (first | go_big_quiet_on | (apply Exists.intro; (refine And.intro ?_ ?_); fail; go_big_quiet_on))))
                refine wpQuiet_nil ?_
                go_wp2_with (fail)
                go_quiet (fail)
                go_wp2_with (fail)
                go_roundw
                case rel => exact ⟨2, _, _, _, _, _, _, _, _, rfl, by omega, by repeat (first | exact Gar.refl _ | refine Gar.drewN ?_ _ | refine Gar.drew ?_ | refine Gar.alloc ?_ _ | refine Gar.allocs ?_ _), hN.out⟩
                case measure => first | (simp; done) | (simp [intOf]; done) | (simp [intOf]; omega)
              · obtain rfl : E1 = true := by rw [← hn1.out.2]; rfl
                go_wp2_with (fail)
                refine wp_region_tail 15 (by kernel_rfl) (by kernel_rfl) ?_
                simp only [List.take_succ_cons, List.take_zero, List.drop_succ_cons, List.drop_zero]
                repeat (first | go_big_quiet_skip | (go_big_quiet_want; go_big_quiet_op; (first | go_big_quiet_on | (apply Exists.intro; (refine And.intro ?_ ?_); fail; go_big_quiet_on))))
                refine wpQuiet_nil ?_
                go_wp2_with (fail)
                go_quiet (fail)
                go_wp2_with (fail)
                go_roundw
                case rel => exact ⟨2, _, _, _, _, _, _, _, _, rfl, by omega, by repeat (first | exact Gar.refl _ | refine Gar.drewN ?_ _ | refine Gar.drew ?_ | refine Gar.alloc ?_ _ | refine Gar.allocs ?_ _), hN.out⟩
                case measure => first | (simp; done) | (simp [intOf]; done) | (simp [intOf]; omega)
          · obtain ⟨e1, e2, hN0⟩ := SwI.next2 hJ.out
            have hN := hide hN0
            clear hN0 hJ
            subst e1
            subst e2
            cases b2
            · obtain rfl : R2 = 0 := by rw [← hn2.out.1]; rfl
              obtain rfl : E2 = h2 := by rw [← hn2.out.2]; exact nu_no (by omega)
              have hz : decide (a0x8 ≤ 0) = false := decide_eq_false (by omega)
              go_wp2_with (fail)
              cases E2
              all_goals
                refine wp_region_tail 15 (by kernel_rfl) (by kernel_rfl) ?_
                simp only [List.take_succ_cons, List.take_zero, List.drop_succ_cons, List.drop_zero]
                repeat (first | go_big_quiet_skip | (go_big_quiet_want; go_big_quiet_op; (first | go_big_quiet_on | (apply Exists.intro; (refine And.intro ?_ ?_); fail; go_big_quiet_on))))
                refine wpQuiet_nil ?_
                go_wp2_with (fail)
                go_quiet (fail)
                go_wp2_with (fail)
                go_roundw
                case rel => exact ⟨3, _, _, _, _, _, _, _, _, rfl, by omega, by repeat (first | exact Gar.refl _ | refine Gar.drewN ?_ _ | refine Gar.drew ?_ | refine Gar.alloc ?_ _ | refine Gar.allocs ?_ _), hN.out⟩
                case measure => first | (simp; done) | (simp [intOf]; done) | (simp [intOf]; omega)
            · obtain rfl : R2 = v2 + 1 := by rw [← hn2.out.1]; rfl
              cases h2
              · have hE : decide (a0x8 ≤ v2 + 1) = E2 := hn2.out.2
                go_wp2_with (fail)
                refine wp_region_tail 15 (by kernel_rfl) (by kernel_rfl) ?_
                simp only [List.take_succ_cons, List.take_zero, List.drop_succ_cons, List.drop_zero]
                repeat (first | go_big_quiet_skip | (go_big_quiet_want; go_big_quiet_op; (first | go_big_quiet_on | (apply Exists.intro; (refine And.intro ?_ ?_); fail; go_big_quiet_on))))
                refine wpQuiet_nil ?_
                go_wp2_with (fail)
                go_quiet (fail)
                go_wp2_with (fail)
                go_roundw
                case rel => exact ⟨3, _, _, _, _, _, _, _, _, rfl, by omega, by repeat (first | exact Gar.refl _ | refine Gar.drewN ?_ _ | refine Gar.drew ?_ | refine Gar.alloc ?_ _ | refine Gar.allocs ?_ _), hN.out⟩
                case measure => first | (simp; done) | (simp [intOf]; done) | (simp [intOf]; omega)
              · obtain rfl : E2 = true := by rw [← hn2.out.2]; rfl
                go_wp2_with (fail)
                refine wp_region_tail 15 (by kernel_rfl) (by kernel_rfl) ?_
                simp only [List.take_succ_cons, List.take_zero, List.drop_succ_cons, List.drop_zero]
                repeat (first | go_big_quiet_skip | (go_big_quiet_want; go_big_quiet_op; (first | go_big_quiet_on | (apply Exists.intro; (refine And.intro ?_ ?_); fail; go_big_quiet_on))))
                refine wpQuiet_nil ?_
                go_wp2_with (fail)
                go_quiet (fail)
                go_wp2_with (fail)
                go_roundw
                case rel => exact ⟨3, _, _, _, _, _, _, _, _, rfl, by omega, by repeat (first | exact Gar.refl _ | refine Gar.drewN ?_ _ | refine Gar.drew ?_ | refine Gar.alloc ?_ _ | refine Gar.allocs ?_ _), hN.out⟩
                case measure => first | (simp; done) | (simp [intOf]; done) | (simp [intOf]; omega)
          · obtain ⟨e1, e2, hN0⟩ := SwI.next3 hJ.out
            have hN := hide hN0
            clear hN0 hJ
            subst e1
            subst e2
            cases b3
            · obtain rfl : R3 = 0 := by rw [← hn3.out.1]; rfl
              obtain rfl : E3 = h3 := by rw [← hn3.out.2]; exact nu_no (by omega)
              have hz : decide (a0x9 ≤ 0) = false := decide_eq_false (by omega)
              go_wp2_with (fail)
              cases E3
              all_goals
                refine wp_region_tail 15 (by kernel_rfl) (by kernel_rfl) ?_
                simp only [List.take_succ_cons, List.take_zero, List.drop_succ_cons, List.drop_zero]
                repeat (first | go_big_quiet_skip | (go_big_quiet_want; go_big_quiet_op; (first | go_big_quiet_on | (apply Exists.intro; (refine And.intro ?_ ?_); fail; go_big_quiet_on))))
                refine wpQuiet_nil ?_
                go_wp2_with (fail)
                go_quiet (fail)
                go_wp2_with (fail)
                go_roundw
                case rel => exact ⟨4, _, _, _, _, _, _, _, _, rfl, by omega, by repeat (first | exact Gar.refl _ | refine Gar.drewN ?_ _ | refine Gar.drew ?_ | refine Gar.alloc ?_ _ | refine Gar.allocs ?_ _), hN.out⟩
                case measure => first | (simp; done) | (simp [intOf]; done) | (simp [intOf]; omega)
            · obtain rfl : R3 = v3 + 1 := by rw [← hn3.out.1]; rfl
              cases h3
              · have hE : decide (a0x9 ≤ v3 + 1) = E3 := hn3.out.2
                go_wp2_with (fail)
                refine wp_region_tail 15 (by kernel_rfl) (by kernel_rfl) ?_
                simp only [List.take_succ_cons, List.take_zero, List.drop_succ_cons, List.drop_zero]
                repeat (first | go_big_quiet_skip | (go_big_quiet_want; go_big_quiet_op; (first | go_big_quiet_on | (apply Exists.intro; (refine And.intro ?_ ?_); fail; go_big_quiet_on))))
                refine wpQuiet_nil ?_
                go_wp2_with (fail)
                go_quiet (fail)
                go_wp2_with (fail)
                go_roundw
                case rel => exact ⟨4, _, _, _, _, _, _, _, _, rfl, by omega, by repeat (first | exact Gar.refl _ | refine Gar.drewN ?_ _ | refine Gar.drew ?_ | refine Gar.alloc ?_ _ | refine Gar.allocs ?_ _), hN.out⟩
                case measure => first | (simp; done) | (simp [intOf]; done) | (simp [intOf]; omega)
              · obtain rfl : E3 = true := by rw [← hn3.out.2]; rfl
                go_wp2_with (fail)
                refine wp_region_tail 15 (by kernel_rfl) (by kernel_rfl) ?_
                simp only [List.take_succ_cons, List.take_zero, List.drop_succ_cons, List.drop_zero]
                repeat (first | go_big_quiet_skip | (go_big_quiet_want; go_big_quiet_op; (first | go_big_quiet_on | (apply Exists.intro; (refine And.intro ?_ ?_); fail; go_big_quiet_on))))
                refine wpQuiet_nil ?_
                go_wp2_with (fail)
                go_quiet (fail)
                go_wp2_with (fail)
                go_roundw
                case rel => exact ⟨4, _, _, _, _, _, _, _, _, rfl, by omega, by repeat (first | exact Gar.refl _ | refine Gar.drewN ?_ _ | refine Gar.drew ?_ | refine Gar.alloc ?_ _ | refine Gar.allocs ?_ _), hN.out⟩
                case measure => first | (simp; done) | (simp [intOf]; done) | (simp [intOf]; omega)
          · obtain ⟨rfl, rfl, rfl, rfl, rfl, rfl, rfl, rfl⟩ := hJ.out.done
            go_wp2_with (fail)
            go_roundw
            case rel => exact ⟨k + 1, _, _, _, _, _, _, _, _, _, _, _, _, by go_num, by omega, by repeat (first | exact Gar.refl _ | refine Gar.drewN ?_ _ | refine Gar.drew ?_ | refine Gar.alloc ?_ _ | refine Gar.allocs ?_ _), hNext.out⟩
            case measure => simp [intOf]; omega
      · go_wp2_with (fail)
        go_loopw [13] (fun i wr => ∃ (m : Nat) (v0 v1 v2 v3 : Int) (h0 h1 h2 h3 : Bool), i = .int .i64 m ∧ m ≤ 4 ∧ Gar (allocs (((allocs (allocs (((((allocs (w.alloc (.cells #[.int .i64 a0x0, .int .i64 a0x1, .int .i64 a0x2, .int .i64 a0x3, .int .i64 a0x4, .int .i64 a0x5, .int .i64 a0x6, .int .i64 a0x7, .int .i64 a0x8, .int .i64 a0x9] 24)) os1).alloc (.cells #[.int .i64 a0x0, .int .i64 a0x1, .int .i64 a0x2, .int .i64 a0x3, .int .i64 a0x4, .int .i64 a0x5, .int .i64 a0x6, .int .i64 a0x7, .int .i64 a0x8, .int .i64 a0x9] 24)).alloc (.cells #[.int .i64 f0, .int .i64 f1, .int .i64 f2, .int .i64 f3, .bool u0, .bool u1, .bool u2, .bool u3] 42)).alloc (.cells #[.int .i64 v0, .int .i64 v1, .int .i64 v2, .int .i64 v3] 22)).alloc (.cells #[.bool h0, .bool h1, .bool h2, .bool h3] 35)) os) os5).alloc (.cells #[.bool b0, .bool b1, .bool b2, .bool b3] 35)).alloc (.cells #[.int .i64 F0, .int .i64 F1, .int .i64 F2, .int .i64 F3, .bool E0, .bool E1, .bool E2, .bool E3] 42)) os6) wr ∧ SwI m r0 r1 r2 r3 u0 u1 u2 u3 R0 R1 R2 R3 E0 E1 E2 E3 v0 v1 v2 v3 h0 h1 h2 h3) (fun i _ => 4 - (intOf i).toNat)
        case atStart => exact ⟨0, r0, r1, r2, r3, u0, u1, u2, u3, rfl, by omega, by repeat (first | exact Gar.refl _ | refine Gar.drewN ?_ _ | refine Gar.drew ?_ | refine Gar.alloc ?_ _ | refine Gar.allocs ?_ _), SwI.start _ _ _ _ _ _ _ _ _ _ _ _ _ _ _ _⟩
        case round =>
          obtain ⟨m, v0, v1, v2, v3, h0, h1, h2, h3, rfl, hm4, ⟨os3, n3, rfl⟩, hJ0⟩ := hrel
          have hJ := hide hJ0
          clear hJ0
          rcases (show m = 0 ∨ m = 1 ∨ m = 2 ∨ m = 3 ∨ m = 4 by omega) with rfl | rfl | rfl | rfl | rfl
          · obtain ⟨e1, e2, hN0⟩ := SwI.next0 hJ.out
            have hN := hide hN0
            clear hN0 hJ
            subst e1
            subst e2
            cases b0
            · obtain rfl : R0 = 0 := by rw [← hn0.out.1]; rfl
              obtain rfl : E0 = h0 := by rw [← hn0.out.2]; exact nu_no (by omega)
              have hz : decide (a0x6 ≤ 0) = false := decide_eq_false (by omega)
              go_wp2_with (fail)
              cases E0
              all_goals
                refine wp_region_tail 15 (by kernel_rfl) (by kernel_rfl) ?_
                simp only [List.take_succ_cons, List.take_zero, List.drop_succ_cons, List.drop_zero]
                repeat (first | go_big_quiet_skip | (go_big_quiet_want; go_big_quiet_op; (first | go_big_quiet_on | (apply Exists.intro; (refine And.intro ?_ ?_); fail; go_big_quiet_on))))
                refine wpQuiet_nil ?_
                go_wp2_with (fail)
                go_quiet (fail)
                go_wp2_with (fail)
                go_roundw
                case rel => exact ⟨1, _, _, _, _, _, _, _, _, rfl, by omega, by repeat (first | exact Gar.refl _ | refine Gar.drewN ?_ _ | refine Gar.drew ?_ | refine Gar.alloc ?_ _ | refine Gar.allocs ?_ _), hN.out⟩
                case measure => first | (simp; done) | (simp [intOf]; done) | (simp [intOf]; omega)
            · obtain rfl : R0 = v0 + 1 := by rw [← hn0.out.1]; rfl
              cases h0
              · have hE : decide (a0x6 ≤ v0 + 1) = E0 := hn0.out.2
                go_wp2_with (fail)
                refine wp_region_tail 15 (by kernel_rfl) (by kernel_rfl) ?_
                simp only [List.take_succ_cons, List.take_zero, List.drop_succ_cons, List.drop_zero]
                repeat (first | go_big_quiet_skip | (go_big_quiet_want; go_big_quiet_op; (first | go_big_quiet_on | (apply Exists.intro; (refine And.intro ?_ ?_); fail; go_big_quiet_on))))
                refine wpQuiet_nil ?_
                go_wp2_with (fail)
                go_quiet (fail)
                go_wp2_with (fail)
                go_roundw
                case rel => exact ⟨1, _, _, _, _, _, _, _, _, rfl, by omega, by repeat (first | exact Gar.refl _ | refine Gar.drewN ?_ _ | refine Gar.drew ?_ | refine Gar.alloc ?_ _ | refine Gar.allocs ?_ _), hN.out⟩
                case measure => first | (simp; done) | (simp [intOf]; done) | (simp [intOf]; omega)
              · obtain rfl : E0 = true := by rw [← hn0.out.2]; rfl
                go_wp2_with (fail)
                refine wp_region_tail 15 (by kernel_rfl) (by kernel_rfl) ?_
                simp only [List.take_succ_cons, List.take_zero, List.drop_succ_cons, List.drop_zero]
                repeat (first | go_big_quiet_skip | (go_big_quiet_want; go_big_quiet_op; (first | go_big_quiet_on | (apply Exists.intro; (refine And.intro ?_ ?_); fail; go_big_quiet_on))))
                refine wpQuiet_nil ?_
                go_wp2_with (fail)
                go_quiet (fail)
                go_wp2_with (fail)
                go_roundw
                case rel => exact ⟨1, _, _, _, _, _, _, _, _, rfl, by omega, by repeat (first | exact Gar.refl _ | refine Gar.drewN ?_ _ | refine Gar.drew ?_ | refine Gar.alloc ?_ _ | refine Gar.allocs ?_ _), hN.out⟩
                case measure => first | (simp; done) | (simp [intOf]; done) | (simp [intOf]; omega)
          · obtain ⟨e1, e2, hN0⟩ := SwI.next1 hJ.out
            have hN := hide hN0
            clear hN0 hJ
            subst e1
            subst e2
            cases b1
            · obtain rfl : R1 = 0 := by rw [← hn1.out.1]; rfl
              obtain rfl : E1 = h1 := by rw [← hn1.out.2]; exact nu_no (by omega)
              have hz : decide (a0x7 ≤ 0) = false := decide_eq_false (by omega)
              go_wp2_with (fail)
              cases E1
              all_goals
                refine wp_region_tail 15 (by kernel_rfl) (by kernel_rfl) ?_
                simp only [List.take_succ_cons, List.take_zero, List.drop_succ_cons, List.drop_zero]
                repeat (first | go_big_quiet_skip | (go_big_quiet_want; go_big_quiet_op; (first | go_big_quiet_on | (apply Exists.intro; (refine And.intro ?_ ?_); fail; go_big_quiet_on))))
                refine wpQuiet_nil ?_
                go_wp2_with (fail)
                go_quiet (fail)
                go_wp2_with (fail)
                go_roundw
                case rel => exact ⟨2, _, _, _, _, _, _, _, _, rfl, by omega, by repeat (first | exact Gar.refl _ | refine Gar.drewN ?_ _ | refine Gar.drew ?_ | refine Gar.alloc ?_ _ | refine Gar.allocs ?_ _), hN.out⟩
                case measure => first | (simp; done) | (simp [intOf]; done) | (simp [intOf]; omega)
            · obtain rfl : R1 = v1 + 1 := by rw [← hn1.out.1]; rfl
              cases h1
              · have hE : decide (a0x7 ≤ v1 + 1) = E1 := hn1.out.2
                go_wp2_with (fail)
                refine wp_region_tail 15 (by kernel_rfl) (by kernel_rfl) ?_
                simp only [List.take_succ_cons, List.take_zero, List.drop_succ_cons, List.drop_zero]
                repeat (first | go_big_quiet_skip | (go_big_quiet_want; go_big_quiet_op; (first | go_big_quiet_on | (apply Exists.intro; (refine And.intro ?_ ?_); fail; go_big_quiet_on))))
                refine wpQuiet_nil ?_
                go_wp2_with (fail)
                go_quiet (fail)
                go_wp2_with (fail)
                go_roundw
                case rel => exact ⟨2, _, _, _, _, _, _, _, _, rfl, by omega, by repeat (first | exact Gar.refl _ | refine Gar.drewN ?_ _ | refine Gar.drew ?_ | refine Gar.alloc ?_ _ | refine Gar.allocs ?_ _), hN.out⟩
                case measure => first | (simp; done) | (simp [intOf]; done) | (simp [intOf]; omega)
              · obtain rfl : E1 = true := by rw [← hn1.out.2]; rfl
                go_wp2_with (fail)
                refine wp_region_tail 15 (by kernel_rfl) (by kernel_rfl) ?_
                simp only [List.take_succ_cons, List.take_zero, List.drop_succ_cons, List.drop_zero]
                repeat (first | go_big_quiet_skip | (go_big_quiet_want; go_big_quiet_op; (first | go_big_quiet_on | (apply Exists.intro; (refine And.intro ?_ ?_); fail; go_big_quiet_on))))
                refine wpQuiet_nil ?_
                go_wp2_with (fail)
                go_quiet (fail)
                go_wp2_with (fail)
                go_roundw
                case rel => exact ⟨2, _, _, _, _, _, _, _, _, rfl, by omega, by repeat (first | exact Gar.refl _ | refine Gar.drewN ?_ _ | refine Gar.drew ?_ | refine Gar.alloc ?_ _ | refine Gar.allocs ?_ _), hN.out⟩
                case measure => first | (simp; done) | (simp [intOf]; done) | (simp [intOf]; omega)
          · obtain ⟨e1, e2, hN0⟩ := SwI.next2 hJ.out
            have hN := hide hN0
            clear hN0 hJ
            subst e1
            subst e2
            cases b2
            · obtain rfl : R2 = 0 := by rw [← hn2.out.1]; rfl
              obtain rfl : E2 = h2 := by rw [← hn2.out.2]; exact nu_no (by omega)
              have hz : decide (a0x8 ≤ 0) = false := decide_eq_false (by omega)
              go_wp2_with (fail)
              cases E2
              all_goals
                refine wp_region_tail 15 (by kernel_rfl) (by kernel_rfl) ?_
                simp only [List.take_succ_cons, List.take_zero, List.drop_succ_cons, List.drop_zero]
                repeat (first | go_big_quiet_skip | (go_big_quiet_want; go_big_quiet_op; (first | go_big_quiet_on | (apply Exists.intro; (refine And.intro ?_ ?_); fail; go_big_quiet_on))))
                refine wpQuiet_nil ?_
                go_wp2_with (fail)
                go_quiet (fail)
                go_wp2_with (fail)
                go_roundw
                case rel => exact ⟨3, _, _, _, _, _, _, _, _, rfl, by omega, by repeat (first | exact Gar.refl _ | refine Gar.drewN ?_ _ | refine Gar.drew ?_ | refine Gar.alloc ?_ _ | refine Gar.allocs ?_ _), hN.out⟩
                case measure => first | (simp; done) | (simp [intOf]; done) | (simp [intOf]; omega)
            · obtain rfl : R2 = v2 + 1 := by rw [← hn2.out.1]; rfl
              cases h2
              · have hE : decide (a0x8 ≤ v2 + 1) = E2 := hn2.out.2
                go_wp2_with (fail)
                refine wp_region_tail 15 (by kernel_rfl) (by kernel_rfl) ?_
                simp only [List.take_succ_cons, List.take_zero, List.drop_succ_cons, List.drop_zero]
                repeat (first | go_big_quiet_skip | (go_big_quiet_want; go_big_quiet_op; (first | go_big_quiet_on | (apply Exists.intro; (refine And.intro ?_ ?_); fail; go_big_quiet_on))))
                refine wpQuiet_nil ?_
                go_wp2_with (fail)
                go_quiet (fail)
                go_wp2_with (fail)
                go_roundw
                case rel => exact ⟨3, _, _, _, _, _, _, _, _, rfl, by omega, by repeat (first | exact Gar.refl _ | refine Gar.drewN ?_ _ | refine Gar.drew ?_ | refine Gar.alloc ?_ _ | refine Gar.allocs ?_ _), hN.out⟩
                case measure => first | (simp; done) | (simp [intOf]; done) | (simp [intOf]; omega)
              · obtain rfl : E2 = true := by rw [← hn2.out.2]; rfl
                go_wp2_with (fail)
                refine wp_region_tail 15 (by kernel_rfl) (by kernel_rfl) ?_
                simp only [List.take_succ_cons, List.take_zero, List.drop_succ_cons, List.drop_zero]
                repeat (first | go_big_quiet_skip | (go_big_quiet_want; go_big_quiet_op; (first | go_big_quiet_on | (apply Exists.intro; (refine And.intro ?_ ?_); fail; go_big_quiet_on))))
                refine wpQuiet_nil ?_
                go_wp2_with (fail)
                go_quiet (fail)
                go_wp2_with (fail)
                go_roundw
                case rel => exact ⟨3, _, _, _, _, _, _, _, _, rfl, by omega, by repeat (first | exact Gar.refl _ | refine Gar.drewN ?_ _ | refine Gar.drew ?_ | refine Gar.alloc ?_ _ | refine Gar.allocs ?_ _), hN.out⟩
                case measure => first | (simp; done) | (simp [intOf]; done) | (simp [intOf]; omega)
          · obtain ⟨e1, e2, hN0⟩ := SwI.next3 hJ.out
            have hN := hide hN0
            clear hN0 hJ
            subst e1
            subst e2
            cases b3
            · obtain rfl : R3 = 0 := by rw [← hn3.out.1]; rfl
              obtain rfl : E3 = h3 := by rw [← hn3.out.2]; exact nu_no (by omega)
              have hz : decide (a0x9 ≤ 0) = false := decide_eq_false (by omega)
              go_wp2_with (fail)
              cases E3
              all_goals
                refine wp_region_tail 15 (by kernel_rfl) (by kernel_rfl) ?_
                simp only [List.take_succ_cons, List.take_zero, List.drop_succ_cons, List.drop_zero]
                repeat (first | go_big_quiet_skip | (go_big_quiet_want; go_big_quiet_op; (first | go_big_quiet_on | (apply Exists.intro; (refine And.intro ?_ ?_); fail; go_big_quiet_on))))
                refine wpQuiet_nil ?_
                go_wp2_with (fail)
                go_quiet (fail)
                go_wp2_with (fail)
                go_roundw
                case rel => exact ⟨4, _, _, _, _, _, _, _, _, rfl, by omega, by repeat (first | exact Gar.refl _ | refine Gar.drewN ?_ _ | refine Gar.drew ?_ | refine Gar.alloc ?_ _ | refine Gar.allocs ?_ _), hN.out⟩
                case measure => first | (simp; done) | (simp [intOf]; done) | (simp [intOf]; omega)
            · obtain rfl : R3 = v3 + 1 := by rw [← hn3.out.1]; rfl
              cases h3
              · have hE : decide (a0x9 ≤ v3 + 1) = E3 := hn3.out.2
                go_wp2_with (fail)
                refine wp_region_tail 15 (by kernel_rfl) (by kernel_rfl) ?_
                simp only [List.take_succ_cons, List.take_zero, List.drop_succ_cons, List.drop_zero]
                repeat (first | go_big_quiet_skip | (go_big_quiet_want; go_big_quiet_op; (first | go_big_quiet_on | (apply Exists.intro; (refine And.intro ?_ ?_); fail; go_big_quiet_on))))
                refine wpQuiet_nil ?_
                go_wp2_with (fail)
                go_quiet (fail)
                go_wp2_with (fail)
                go_roundw
                case rel => exact ⟨4, _, _, _, _, _, _, _, _, rfl, by omega, by repeat (first | exact Gar.refl _ | refine Gar.drewN ?_ _ | refine Gar.drew ?_ | refine Gar.alloc ?_ _ | refine Gar.allocs ?_ _), hN.out⟩
                case measure => first | (simp; done) | (simp [intOf]; done) | (simp [intOf]; omega)
              · obtain rfl : E3 = true := by rw [← hn3.out.2]; rfl
                go_wp2_with (fail)
                refine wp_region_tail 15 (by kernel_rfl) (by kernel_rfl) ?_
                simp only [List.take_succ_cons, List.take_zero, List.drop_succ_cons, List.drop_zero]
                repeat (first | go_big_quiet_skip | (go_big_quiet_want; go_big_quiet_op; (first | go_big_quiet_on | (apply Exists.intro; (refine And.intro ?_ ?_); fail; go_big_quiet_on))))
                refine wpQuiet_nil ?_
                go_wp2_with (fail)
                go_quiet (fail)
                go_wp2_with (fail)
                go_roundw
                case rel => exact ⟨4, _, _, _, _, _, _, _, _, rfl, by omega, by repeat (first | exact Gar.refl _ | refine Gar.drewN ?_ _ | refine Gar.drew ?_ | refine Gar.alloc ?_ _ | refine Gar.allocs ?_ _), hN.out⟩
                case measure => first | (simp; done) | (simp [intOf]; done) | (simp [intOf]; omega)
          · obtain ⟨rfl, rfl, rfl, rfl, rfl, rfl, rfl, rfl⟩ := hJ.out.done
            go_wp2_with (fail)
            go_roundw
            case rel => exact ⟨k + 1, _, _, _, _, _, _, _, _, _, _, _, _, by go_num, by omega, by repeat (first | exact Gar.refl _ | refine Gar.drewN ?_ _ | refine Gar.drew ?_ | refine Gar.alloc ?_ _ | refine Gar.allocs ?_ _), hNext.out⟩
            case measure => simp [intOf]; omega
      · go_wp2_with (fail)
        go_loopw [13] (fun i wr => ∃ (m : Nat) (v0 v1 v2 v3 : Int) (h0 h1 h2 h3 : Bool), i = .int .i64 m ∧ m ≤ 4 ∧ Gar ((allocs (allocs ((allocs (((((allocs (w.alloc (.cells #[.int .i64 a0x0, .int .i64 a0x1, .int .i64 a0x2, .int .i64 a0x3, .int .i64 a0x4, .int .i64 a0x5, .int .i64 a0x6, .int .i64 a0x7, .int .i64 a0x8, .int .i64 a0x9] 24)) os1).alloc (.cells #[.int .i64 a0x0, .int .i64 a0x1, .int .i64 a0x2, .int .i64 a0x3, .int .i64 a0x4, .int .i64 a0x5, .int .i64 a0x6, .int .i64 a0x7, .int .i64 a0x8, .int .i64 a0x9] 24)).alloc (.cells #[.int .i64 f0, .int .i64 f1, .int .i64 f2, .int .i64 f3, .bool u0, .bool u1, .bool u2, .bool u3] 42)).alloc (.cells #[.int .i64 v0, .int .i64 v1, .int .i64 v2, .int .i64 v3] 22)).alloc (.cells #[.bool h0, .bool h1, .bool h2, .bool h3] 35)) os).alloc (.cells #[.bool b0, .bool b1, .bool b2, .bool b3] 35)) os5) os6).alloc (.cells #[.int .i64 F0, .int .i64 F1, .int .i64 F2, .int .i64 F3, .bool E0, .bool E1, .bool E2, .bool E3] 42)) wr ∧ SwI m r0 r1 r2 r3 u0 u1 u2 u3 R0 R1 R2 R3 E0 E1 E2 E3 v0 v1 v2 v3 h0 h1 h2 h3) (fun i _ => 4 - (intOf i).toNat)
        case atStart => exact ⟨0, r0, r1, r2, r3, u0, u1, u2, u3, rfl, by omega, by repeat (first | exact Gar.refl _ | refine Gar.drewN ?_ _ | refine Gar.drew ?_ | refine Gar.alloc ?_ _ | refine Gar.allocs ?_ _), SwI.start _ _ _ _ _ _ _ _ _ _ _ _ _ _ _ _⟩
        case round =>
          obtain ⟨m, v0, v1, v2, v3, h0, h1, h2, h3, rfl, hm4, ⟨os3, n3, rfl⟩, hJ0⟩ := hrel
          have hJ := hide hJ0
          clear hJ0
          rcases (show m = 0 ∨ m = 1 ∨ m = 2 ∨ m = 3 ∨ m = 4 by omega) with rfl | rfl | rfl | rfl | rfl
          · obtain ⟨e1, e2, hN0⟩ := SwI.next0 hJ.out
            have hN := hide hN0
            clear hN0 hJ
            subst e1
            subst e2
            cases b0
            · obtain rfl : R0 = 0 := by rw [← hn0.out.1]; rfl
              obtain rfl : E0 = h0 := by rw [← hn0.out.2]; exact nu_no (by omega)
              have hz : decide (a0x6 ≤ 0) = false := decide_eq_false (by omega)
              go_wp2_with (fail)
              cases E0
              all_goals
                refine wp_region_tail 15 (by kernel_rfl) (by kernel_rfl) ?_
                simp only [List.take_succ_cons, List.take_zero, List.drop_succ_cons, List.drop_zero]
                repeat (first | go_big_quiet_skip | (go_big_quiet_want; go_big_quiet_op; (first | go_big_quiet_on | (apply Exists.intro; (refine And.intro ?_ ?_); fail; go_big_quiet_on))))
                refine wpQuiet_nil ?_
                go_wp2_with (fail)
                go_quiet (fail)
                go_wp2_with (fail)
                go_roundw
                case rel => exact ⟨1, _, _, _, _, _, _, _, _, rfl, by omega, by repeat (first | exact Gar.refl _ | refine Gar.drewN ?_ _ | refine Gar.drew ?_ | refine Gar.alloc ?_ _ | refine Gar.allocs ?_ _), hN.out⟩
                case measure => first | (simp; done) | (simp [intOf]; done) | (simp [intOf]; omega)
            · obtain rfl : R0 = v0 + 1 := by rw [← hn0.out.1]; rfl
              cases h0
              · have hE : decide (a0x6 ≤ v0 + 1) = E0 := hn0.out.2
                go_wp2_with (fail)
                refine wp_region_tail 15 (by kernel_rfl) (by kernel_rfl) ?_
                simp only [List.take_succ_cons, List.take_zero, List.drop_succ_cons, List.drop_zero]
                repeat (first | go_big_quiet_skip | (go_big_quiet_want; go_big_quiet_op; (first | go_big_quiet_on | (apply Exists.intro; (refine And.intro ?_ ?_); fail; go_big_quiet_on))))
                refine wpQuiet_nil ?_
                go_wp2_with (fail)
                go_quiet (fail)
                go_wp2_with (fail)
                go_roundw
                case rel => exact ⟨1, _, _, _, _, _, _, _, _, rfl, by omega, by repeat (first | exact Gar.refl _ | refine Gar.drewN ?_ _ | refine Gar.drew ?_ | refine Gar.alloc ?_ _ | refine Gar.allocs ?_ _), hN.out⟩
                case measure => first | (simp; done) | (simp [intOf]; done) | (simp [intOf]; omega)
              · obtain rfl : E0 = true := by rw [← hn0.out.2]; rfl
                go_wp2_with (fail)
                refine wp_region_tail 15 (by kernel_rfl) (by kernel_rfl) ?_
                simp only [List.take_succ_cons, List.take_zero, List.drop_succ_cons, List.drop_zero]
                repeat (first | go_big_quiet_skip | (go_big_quiet_want; go_big_quiet_op; (first | go_big_quiet_on | (apply Exists.intro; (refine And.intro ?_ ?_); fail; go_big_quiet_on))))
                refine wpQuiet_nil ?_
                go_wp2_with (fail)
                go_quiet (fail)
                go_wp2_with (fail)
                go_roundw
                case rel => exact ⟨1, _, _, _, _, _, _, _, _, rfl, by omega, by repeat (first | exact Gar.refl _ | refine Gar.drewN ?_ _ | refine Gar.drew ?_ | refine Gar.alloc ?_ _ | refine Gar.allocs ?_ _), hN.out⟩
                case measure => first | (simp; done) | (simp [intOf]; done) | (simp [intOf]; omega)
          · obtain ⟨e1, e2, hN0⟩ := SwI.next1 hJ.out
            have hN := hide hN0
            clear hN0 hJ
            subst e1
            subst e2
            cases b1
            · obtain rfl : R1 = 0 := by rw [← hn1.out.1]; rfl
              obtain rfl : E1 = h1 := by rw [← hn1.out.2]; exact nu_no (by omega)
              have hz : decide (a0x7 ≤ 0) = false := decide_eq_false (by omega)
              go_wp2_with (fail)
              cases E1
              all_goals
                refine wp_region_tail 15 (by kernel_rfl) (by kernel_rfl) ?_
                simp only [List.take_succ_cons, List.take_zero, List.drop_succ_cons, List.drop_zero]
                repeat (first | go_big_quiet_skip | (go_big_quiet_want; go_big_quiet_op; (first | go_big_quiet_on | (apply Exists.intro; (refine And.intro ?_ ?_); fail; go_big_quiet_on))))
                refine wpQuiet_nil ?_
                go_wp2_with (fail)
                go_quiet (fail)
                go_wp2_with (fail)
                go_roundw
                case rel => exact ⟨2, _, _, _, _, _, _, _, _, rfl, by omega, by repeat (first | exact Gar.refl _ | refine Gar.drewN ?_ _ | refine Gar.drew ?_ | refine Gar.alloc ?_ _ | refine Gar.allocs ?_ _), hN.out⟩
                case measure => first | (simp; done) | (simp [intOf]; done) | (simp [intOf]; omega)
            · obtain rfl : R1 = v1 + 1 := by rw [← hn1.out.1]; rfl
              cases h1
              · have hE : decide (a0x7 ≤ v1 + 1) = E1 := hn1.out.2
                go_wp2_with (fail)
                refine wp_region_tail 15 (by kernel_rfl) (by kernel_rfl) ?_
                simp only [List.take_succ_cons, List.take_zero, List.drop_succ_cons, List.drop_zero]
                repeat (first | go_big_quiet_skip | (go_big_quiet_want; go_big_quiet_op; (first | go_big_quiet_on | (apply Exists.intro; (refine And.intro ?_ ?_); fail; go_big_quiet_on))))
                refine wpQuiet_nil ?_
                go_wp2_with (fail)
                go_quiet (fail)
                go_wp2_with (fail)
                go_roundw
                case rel => exact ⟨2, _, _, _, _, _, _, _, _, rfl, by omega, by repeat (first | exact Gar.refl _ | refine Gar.drewN ?_ _ | refine Gar.drew ?_ | refine Gar.alloc ?_ _ | refine Gar.allocs ?_ _), hN.out⟩
                case measure => first | (simp; done) | (simp [intOf]; done) | (simp [intOf]; omega)
              · obtain rfl : E1 = true := by rw [← hn1.out.2]; rfl
                go_wp2_with (fail)
                refine wp_region_tail 15 (by kernel_rfl) (by kernel_rfl) ?_
                simp only [List.take_succ_cons, List.take_zero, List.drop_succ_cons, List.drop_zero]
                repeat (first | go_big_quiet_skip | (go_big_quiet_want; go_big_quiet_op; (first | go_big_quiet_on | (apply Exists.intro; (refine And.intro ?_ ?_); fail; go_big_quiet_on))))
                refine wpQuiet_nil ?_
                go_wp2_with (fail)
                go_quiet (fail)
                go_wp2_with (fail)
                go_roundw
                case rel => exact ⟨2, _, _, _, _, _, _, _, _, rfl, by omega, by repeat (first | exact Gar.refl _ | refine Gar.drewN ?_ _ | refine Gar.drew ?_ | refine Gar.alloc ?_ _ | refine Gar.allocs ?_ _), hN.out⟩
                case measure => first | (simp; done) | (simp [intOf]; done) | (simp [intOf]; omega)
          · obtain ⟨e1, e2, hN0⟩ := SwI.next2 hJ.out
            have hN := hide hN0
            clear hN0 hJ
            subst e1
            subst e2
            cases b2
            · obtain rfl : R2 = 0 := by rw [← hn2.out.1]; rfl
              obtain rfl : E2 = h2 := by rw [← hn2.out.2]; exact nu_no (by omega)
              have hz : decide (a0x8 ≤ 0) = false := decide_eq_false (by omega)
              go_wp2_with (fail)
              cases E2
              all_goals
                refine wp_region_tail 15 (by kernel_rfl) (by kernel_rfl) ?_
                simp only [List.take_succ_cons, List.take_zero, List.drop_succ_cons, List.drop_zero]
                repeat (first | go_big_quiet_skip | (go_big_quiet_want; go_big_quiet_op; (first | go_big_quiet_on | (apply Exists.intro; (refine And.intro ?_ ?_); fail; go_big_quiet_on))))
                refine wpQuiet_nil ?_
                go_wp2_with (fail)
                go_quiet (fail)
                go_wp2_with (fail)
                go_roundw
                case rel => exact ⟨3, _, _, _, _, _, _, _, _, rfl, by omega, by repeat (first | exact Gar.refl _ | refine Gar.drewN ?_ _ | refine Gar.drew ?_ | refine Gar.alloc ?_ _ | refine Gar.allocs ?_ _), hN.out⟩
                case measure => first | (simp; done) | (simp [intOf]; done) | (simp [intOf]; omega)
            · obtain rfl : R2 = v2 + 1 := by rw [← hn2.out.1]; rfl
              cases h2
              · have hE : decide (a0x8 ≤ v2 + 1) = E2 := hn2.out.2
                go_wp2_with (fail)
                refine wp_region_tail 15 (by kernel_rfl) (by kernel_rfl) ?_
                simp only [List.take_succ_cons, List.take_zero, List.drop_succ_cons, List.drop_zero]
                repeat (first | go_big_quiet_skip | (go_big_quiet_want; go_big_quiet_op; (first | go_big_quiet_on | (apply Exists.intro; (refine And.intro ?_ ?_); fail; go_big_quiet_on))))
                refine wpQuiet_nil ?_
                go_wp2_with (fail)
                go_quiet (fail)
                go_wp2_with (fail)
                go_roundw
                case rel => exact ⟨3, _, _, _, _, _, _, _, _, rfl, by omega, by repeat (first | exact Gar.refl _ | refine Gar.drewN ?_ _ | refine Gar.drew ?_ | refine Gar.alloc ?_ _ | refine Gar.allocs ?_ _), hN.out⟩
                case measure => first | (simp; done) | (simp [intOf]; done) | (simp [intOf]; omega)
              · obtain rfl : E2 = true := by rw [← hn2.out.2]; rfl
                go_wp2_with (fail)
                refine wp_region_tail 15 (by kernel_rfl) (by kernel_rfl) ?_
                simp only [List.take_succ_cons, List.take_zero, List.drop_succ_cons, List.drop_zero]
                repeat (first | go_big_quiet_skip | (go_big_quiet_want; go_big_quiet_op; (first | go_big_quiet_on | (apply Exists.intro; (refine And.intro ?_ ?_); fail; go_big_quiet_on))))
                refine wpQuiet_nil ?_
                go_wp2_with (fail)
                go_quiet (fail)
                go_wp2_with (fail)
                go_roundw
                case rel => exact ⟨3, _, _, _, _, _, _, _, _, rfl, by omega, by repeat (first | exact Gar.refl _ | refine Gar.drewN ?_ _ | refine Gar.drew ?_ | refine Gar.alloc ?_ _ | refine Gar.allocs ?_ _), hN.out⟩
                case measure => first | (simp; done) | (simp [intOf]; done) | (simp [intOf]; omega)
          · obtain ⟨e1, e2, hN0⟩ := SwI.next3 hJ.out
            have hN := hide hN0
            clear hN0 hJ
            subst e1
            subst e2
            cases b3
            · obtain rfl : R3 = 0 := by rw [← hn3.out.1]; rfl
              obtain rfl : E3 = h3 := by rw [← hn3.out.2]; exact nu_no (by omega)
              have hz : decide (a0x9 ≤ 0) = false := decide_eq_false (by omega)
              go_wp2_with (fail)
              cases E3
              all_goals
                refine wp_region_tail 15 (by kernel_rfl) (by kernel_rfl) ?_
                simp only [List.take_succ_cons, List.take_zero, List.drop_succ_cons, List.drop_zero]
                repeat (first | go_big_quiet_skip | (go_big_quiet_want; go_big_quiet_op; (first | go_big_quiet_on | (apply Exists.intro; (refine And.intro ?_ ?_); fail; go_big_quiet_on))))
                refine wpQuiet_nil ?_
                go_wp2_with (fail)
                go_quiet (fail)
                go_wp2_with (fail)
                go_roundw
                case rel => exact ⟨4, _, _, _, _, _, _, _, _, rfl, by omega, by repeat (first | exact Gar.refl _ | refine Gar.drewN ?_ _ | refine Gar.drew ?_ | refine Gar.alloc ?_ _ | refine Gar.allocs ?_ _), hN.out⟩
                case measure => first | (simp; done) | (simp [intOf]; done) | (simp [intOf]; omega)
            · obtain rfl : R3 = v3 + 1 := by rw [← hn3.out.1]; rfl
              cases h3
              · have hE : decide (a0x9 ≤ v3 + 1) = E3 := hn3.out.2
                go_wp2_with (fail)
                refine wp_region_tail 15 (by kernel_rfl) (by kernel_rfl) ?_
                simp only [List.take_succ_cons, List.take_zero, List.drop_succ_cons, List.drop_zero]
                repeat (first | go_big_quiet_skip | (go_big_quiet_want; go_big_quiet_op; (first | go_big_quiet_on | (apply Exists.intro; (refine And.intro ?_ ?_); fail; go_big_quiet_on))))
                refine wpQuiet_nil ?_
                go_wp2_with (fail)
                go_quiet (fail)
                go_wp2_with (fail)
                go_roundw
                case rel => exact ⟨4, _, _, _, _, _, _, _, _, rfl, by omega, by repeat (first | exact Gar.refl _ | refine Gar.drewN ?_ _ | refine Gar.drew ?_ | refine Gar.alloc ?_ _ | refine Gar.allocs ?_ _), hN.out⟩
                case measure => first | (simp; done) | (simp [intOf]; done) | (simp [intOf]; omega)
              · obtain rfl : E3 = true := by rw [← hn3.out.2]; rfl
                go_wp2_with (fail)
                refine wp_region_tail 15 (by kernel_rfl) (by kernel_rfl) ?_
                simp only [List.take_succ_cons, List.take_zero, List.drop_succ_cons, List.drop_zero]
                repeat (first | go_big_quiet_skip | (go_big_quiet_want; go_big_quiet_op; (first | go_big_quiet_on | (apply Exists.intro; (refine And.intro ?_ ?_); fail; go_big_quiet_on))))
                refine wpQuiet_nil ?_
                go_wp2_with (fail)
                go_quiet (fail)
                go_wp2_with (fail)
                go_roundw
                case rel => exact ⟨4, _, _, _, _, _, _, _, _, rfl, by omega, by repeat (first | exact Gar.refl _ | refine Gar.drewN ?_ _ | refine Gar.drew ?_ | refine Gar.alloc ?_ _ | refine Gar.allocs ?_ _), hN.out⟩
                case measure => first | (simp; done) | (simp [intOf]; done) | (simp [intOf]; omega)
          · obtain ⟨rfl, rfl, rfl, rfl, rfl, rfl, rfl, rfl⟩ := hJ.out.done
            go_wp2_with (fail)
            go_roundw
            case rel => exact ⟨k + 1, _, _, _, _, _, _, _, _, _, _, _, _, by go_num, by omega, by repeat (first | exact Gar.refl _ | refine Gar.drewN ?_ _ | refine Gar.drew ?_ | refine Gar.alloc ?_ _ | refine Gar.allocs ?_ _), hNext.out⟩
            case measure => simp [intOf]; omega
      · go_wp2_with (fail)
        go_loopw [13] (fun i wr => ∃ (m : Nat) (v0 v1 v2 v3 : Int) (h0 h1 h2 h3 : Bool), i = .int .i64 m ∧ m ≤ 4 ∧ Gar (allocs ((allocs ((allocs (((((allocs (w.alloc (.cells #[.int .i64 a0x0, .int .i64 a0x1, .int .i64 a0x2, .int .i64 a0x3, .int .i64 a0x4, .int .i64 a0x5, .int .i64 a0x6, .int .i64 a0x7, .int .i64 a0x8, .int .i64 a0x9] 24)) os1).alloc (.cells #[.int .i64 a0x0, .int .i64 a0x1, .int .i64 a0x2, .int .i64 a0x3, .int .i64 a0x4, .int .i64 a0x5, .int .i64 a0x6, .int .i64 a0x7, .int .i64 a0x8, .int .i64 a0x9] 24)).alloc (.cells #[.int .i64 f0, .int .i64 f1, .int .i64 f2, .int .i64 f3, .bool u0, .bool u1, .bool u2, .bool u3] 42)).alloc (.cells #[.int .i64 v0, .int .i64 v1, .int .i64 v2, .int .i64 v3] 22)).alloc (.cells #[.bool h0, .bool h1, .bool h2, .bool h3] 35)) os).alloc (.cells #[.bool b0, .bool b1, .bool b2, .bool b3] 35)) os5).alloc (.cells #[.int .i64 F0, .int .i64 F1, .int .i64 F2, .int .i64 F3, .bool E0, .bool E1, .bool E2, .bool E3] 42)) os6) wr ∧ SwI m r0 r1 r2 r3 u0 u1 u2 u3 R0 R1 R2 R3 E0 E1 E2 E3 v0 v1 v2 v3 h0 h1 h2 h3) (fun i _ => 4 - (intOf i).toNat)
        case atStart => exact ⟨0, r0, r1, r2, r3, u0, u1, u2, u3, rfl, by omega, by repeat (first | exact Gar.refl _ | refine Gar.drewN ?_ _ | refine Gar.drew ?_ | refine Gar.alloc ?_ _ | refine Gar.allocs ?_ _), SwI.start _ _ _ _ _ _ _ _ _ _ _ _ _ _ _ _⟩
        case round =>
          obtain ⟨m, v0, v1, v2, v3, h0, h1, h2, h3, rfl, hm4, ⟨os3, n3, rfl⟩, hJ0⟩ := hrel
          have hJ := hide hJ0
          clear hJ0
          rcases (show m = 0 ∨ m = 1 ∨ m = 2 ∨ m = 3 ∨ m = 4 by omega) with rfl | rfl | rfl | rfl | rfl
          · obtain ⟨e1, e2, hN0⟩ := SwI.next0 hJ.out
            have hN := hide hN0
            clear hN0 hJ
            subst e1
            subst e2
            cases b0
            · obtain rfl : R0 = 0 := by rw [← hn0.out.1]; rfl
              obtain rfl : E0 = h0 := by rw [← hn0.out.2]; exact nu_no (by omega)
              have hz : decide (a0x6 ≤ 0) = false := decide_eq_false (by omega)
              go_wp2_with (fail)
              cases E0
              all_goals
                refine wp_region_tail 15 (by kernel_rfl) (by kernel_rfl) ?_
                simp only [List.take_succ_cons, List.take_zero, List.drop_succ_cons, List.drop_zero]
                repeat (first | go_big_quiet_skip | (go_big_quiet_want; go_big_quiet_op; (first | go_big_quiet_on | (apply Exists.intro; (refine And.intro ?_ ?_); fail; go_big_quiet_on))))
                refine wpQuiet_nil ?_
                go_wp2_with (fail)
                go_quiet (fail)
                go_wp2_with (fail)
                go_roundw
                case rel => exact ⟨1, _, _, _, _, _, _, _, _, rfl, by omega, by repeat (first | exact Gar.refl _ | refine Gar.drewN ?_ _ | refine Gar.drew ?_ | refine Gar.alloc ?_ _ | refine Gar.allocs ?_ _), hN.out⟩
                case measure => first | (simp; done) | (simp [intOf]; done) | (simp [intOf]; omega)
            · obtain rfl : R0 = v0 + 1 := by rw [← hn0.out.1]; rfl
              cases h0
              · have hE : decide (a0x6 ≤ v0 + 1) = E0 := hn0.out.2
                go_wp2_with (fail)
                refine wp_region_tail 15 (by kernel_rfl) (by kernel_rfl) ?_
                simp only [List.take_succ_cons, List.take_zero, List.drop_succ_cons, List.drop_zero]
                repeat (first | go_big_quiet_skip | (go_big_quiet_want; go_big_quiet_op; (first | go_big_quiet_on | (apply Exists.intro; (refine And.intro ?_ ?_); fail; go_big_quiet_on))))
                refine wpQuiet_nil ?_
                go_wp2_with (fail)
                go_quiet (fail)
                go_wp2_with (fail)
                go_roundw
                case rel => exact ⟨1, _, _, _, _, _, _, _, _, rfl, by omega, by repeat (first | exact Gar.refl _ | refine Gar.drewN ?_ _ | refine Gar.drew ?_ | refine Gar.alloc ?_ _ | refine Gar.allocs ?_ _), hN.out⟩
                case measure => first | (simp; done) | (simp [intOf]; done) | (simp [intOf]; omega)
              · obtain rfl : E0 = true := by rw [← hn0.out.2]; rfl
                go_wp2_with (fail)
                refine wp_region_tail 15 (by kernel_rfl) (by kernel_rfl) ?_
                simp only [List.take_succ_cons, List.take_zero, List.drop_succ_cons, List.drop_zero]
                repeat (first | go_big_quiet_skip | (go_big_quiet_want; go_big_quiet_op; (first | go_big_quiet_on | (apply Exists.intro; (refine And.intro ?_ ?_); fail; go_big_quiet_on))))
                refine wpQuiet_nil ?_
                go_wp2_with (fail)
                go_quiet (fail)
                go_wp2_with (fail)
                go_roundw
                case rel => exact ⟨1, _, _, _, _, _, _, _, _, rfl, by omega, by repeat (first | exact Gar.refl _ | refine Gar.drewN ?_ _ | refine Gar.drew ?_ | refine Gar.alloc ?_ _ | refine Gar.allocs ?_ _), hN.out⟩
                case measure => first | (simp; done) | (simp [intOf]; done) | (simp [intOf]; omega)
          · obtain ⟨e1, e2, hN0⟩ := SwI.next1 hJ.out
            have hN := hide hN0
            clear hN0 hJ
            subst e1
            subst e2
            cases b1
            · obtain rfl : R1 = 0 := by rw [← hn1.out.1]; rfl
              obtain rfl : E1 = h1 := by rw [← hn1.out.2]; exact nu_no (by omega)
              have hz : decide (a0x7 ≤ 0) = false := decide_eq_false (by omega)
              go_wp2_with (fail)
              cases E1
              all_goals
                refine wp_region_tail 15 (by kernel_rfl) (by kernel_rfl) ?_
                simp only [List.take_succ_cons, List.take_zero, List.drop_succ_cons, List.drop_zero]
                repeat (first | go_big_quiet_skip | (go_big_quiet_want; go_big_quiet_op; (first | go_big_quiet_on | (apply Exists.intro; (refine And.intro ?_ ?_); fail; go_big_quiet_on))))
                refine wpQuiet_nil ?_
                go_wp2_with (fail)
                go_quiet (fail)
                go_wp2_with (fail)
                go_roundw
                case rel => exact ⟨2, _, _, _, _, _, _, _, _, rfl, by omega, by repeat (first | exact Gar.refl _ | refine Gar.drewN ?_ _ | refine Gar.drew ?_ | refine Gar.alloc ?_ _ | refine Gar.allocs ?_ _), hN.out⟩
                case measure => first | (simp; done) | (simp [intOf]; done) | (simp [intOf]; omega)
            · obtain rfl : R1 = v1 + 1 := by rw [← hn1.out.1]; rfl
              cases h1
              · have hE : decide (a0x7 ≤ v1 + 1) = E1 := hn1.out.2
                go_wp2_with (fail)
                refine wp_region_tail 15 (by kernel_rfl) (by kernel_rfl) ?_
                simp only [List.take_succ_cons, List.take_zero, List.drop_succ_cons, List.drop_zero]
                repeat (first | go_big_quiet_skip | (go_big_quiet_want; go_big_quiet_op; (first | go_big_quiet_on | (apply Exists.intro; (refine And.intro ?_ ?_); fail; go_big_quiet_on))))
                refine wpQuiet_nil ?_
                go_wp2_with (fail)
                go_quiet (fail)
                go_wp2_with (fail)
                go_roundw
                case rel => exact ⟨2, _, _, _, _, _, _, _, _, rfl, by omega, by repeat (first | exact Gar.refl _ | refine Gar.drewN ?_ _ | refine Gar.drew ?_ | refine Gar.alloc ?_ _ | refine Gar.allocs ?_ _), hN.out⟩
                case measure => first | (simp; done) | (simp [intOf]; done) | (simp [intOf]; omega)
              · obtain rfl : E1 = true := by rw [← hn1.out.2]; rfl
                go_wp2_with (fail)
                refine wp_region_tail 15 (by kernel_rfl) (by kernel_rfl) ?_
                simp only [List.take_succ_cons, List.take_zero, List.drop_succ_cons, List.drop_zero]
                repeat (first | go_big_quiet_skip | (go_big_quiet_want; go_big_quiet_op; (first | go_big_quiet_on | (apply Exists.intro; (refine And.intro ?_ ?_); fail; go_big_quiet_on))))
                refine wpQuiet_nil ?_
                go_wp2_with (fail)
                go_quiet (fail)
                go_wp2_with (fail)
                go_roundw
                case rel => exact ⟨2, _, _, _, _, _, _, _, _, rfl, by omega, by repeat (first | exact Gar.refl _ | refine Gar.drewN ?_ _ | refine Gar.drew ?_ | refine Gar.alloc ?_ _ | refine Gar.allocs ?_ _), hN.out⟩
                case measure => first | (simp; done) | (simp [intOf]; done) | (simp [intOf]; omega)
          · obtain ⟨e1, e2, hN0⟩ := SwI.next2 hJ.out
            have hN := hide hN0
            clear hN0 hJ
            subst e1
            subst e2
            cases b2
            · obtain rfl : R2 = 0 := by rw [← hn2.out.1]; rfl
              obtain rfl : E2 = h2 := by rw [← hn2.out.2]; exact nu_no (by omega)
              have hz : decide (a0x8 ≤ 0) = false := decide_eq_false (by omega)
              go_wp2_with (fail)
              cases E2
              all_goals
                refine wp_region_tail 15 (by kernel_rfl) (by kernel_rfl) ?_
                simp only [List.take_succ_cons, List.take_zero, List.drop_succ_cons, List.drop_zero]
                repeat (first | go_big_quiet_skip | (go_big_quiet_want; go_big_quiet_op; (first | go_big_quiet_on | (apply Exists.intro; (refine And.intro ?_ ?_); fail; go_big_quiet_on))))
                refine wpQuiet_nil ?_
                go_wp2_with (fail)
                go_quiet (fail)
                go_wp2_with (fail)
                go_roundw
                case rel => exact ⟨3, _, _, _, _, _, _, _, _, rfl, by omega, by repeat (first | exact Gar.refl _ | refine Gar.drewN ?_ _ | refine Gar.drew ?_ | refine Gar.alloc ?_ _ | refine Gar.allocs ?_ _), hN.out⟩
                case measure => first | (simp; done) | (simp [intOf]; done) | (simp [intOf]; omega)
            · obtain rfl : R2 = v2 + 1 := by rw [← hn2.out.1]; rfl
              cases h2
              · have hE : decide (a0x8 ≤ v2 + 1) = E2 := hn2.out.2
                go_wp2_with (fail)
                refine wp_region_tail 15 (by kernel_rfl) (by kernel_rfl) ?_
                simp only [List.take_succ_cons, List.take_zero, List.drop_succ_cons, List.drop_zero]
                repeat (first | go_big_quiet_skip | (go_big_quiet_want; go_big_quiet_op; (first | go_big_quiet_on | (apply Exists.intro; (refine And.intro ?_ ?_); fail; go_big_quiet_on))))
                refine wpQuiet_nil ?_
                go_wp2_with (fail)
                go_quiet (fail)
                go_wp2_with (fail)
                go_roundw
                case rel => exact ⟨3, _, _, _, _, _, _, _, _, rfl, by omega, by repeat (first | exact Gar.refl _ | refine Gar.drewN ?_ _ | refine Gar.drew ?_ | refine Gar.alloc ?_ _ | refine Gar.allocs ?_ _), hN.out⟩
                case measure => first | (simp; done) | (simp [intOf]; done) | (simp [intOf]; omega)
              · obtain rfl : E2 = true := by rw [← hn2.out.2]; rfl
                go_wp2_with (fail)
                refine wp_region_tail 15 (by kernel_rfl) (by kernel_rfl) ?_
                simp only [List.take_succ_cons, List.take_zero, List.drop_succ_cons, List.drop_zero]
                repeat (first | go_big_quiet_skip | (go_big_quiet_want; go_big_quiet_op; (first | go_big_quiet_on | (apply Exists.intro; (refine And.intro ?_ ?_); fail; go_big_quiet_on))))
                refine wpQuiet_nil ?_
                go_wp2_with (fail)
                go_quiet (fail)
                go_wp2_with (fail)
                go_roundw
                case rel => exact ⟨3, _, _, _, _, _, _, _, _, rfl, by omega, by repeat (first | exact Gar.refl _ | refine Gar.drewN ?_ _ | refine Gar.drew ?_ | refine Gar.alloc ?_ _ | refine Gar.allocs ?_ _), hN.out⟩
                case measure => first | (simp; done) | (simp [intOf]; done) | (simp [intOf]; omega)
          · obtain ⟨e1, e2, hN0⟩ := SwI.next3 hJ.out
            have hN := hide hN0
            clear hN0 hJ
            subst e1
            subst e2
            cases b3
            · obtain rfl : R3 = 0 := by rw [← hn3.out.1]; rfl
              obtain rfl : E3 = h3 := by rw [← hn3.out.2]; exact nu_no (by omega)
              have hz : decide (a0x9 ≤ 0) = false := decide_eq_false (by omega)
              go_wp2_with (fail)
              cases E3
              all_goals
                refine wp_region_tail 15 (by kernel_rfl) (by kernel_rfl) ?_
                simp only [List.take_succ_cons, List.take_zero, List.drop_succ_cons, List.drop_zero]
                repeat (first | go_big_quiet_skip | (go_big_quiet_want; go_big_quiet_op; (first | go_big_quiet_on | (apply Exists.intro; (refine And.intro ?_ ?_); fail; go_big_quiet_on))))
                refine wpQuiet_nil ?_
                go_wp2_with (fail)
                go_quiet (fail)
                go_wp2_with (fail)
                go_roundw
                case rel => exact ⟨4, _, _, _, _, _, _, _, _, rfl, by omega, by repeat (first | exact Gar.refl _ | refine Gar.drewN ?_ _ | refine Gar.drew ?_ | refine Gar.alloc ?_ _ | refine Gar.allocs ?_ _), hN.out⟩
                case measure => first | (simp; done) | (simp [intOf]; done) | (simp [intOf]; omega)
            · obtain rfl : R3 = v3 + 1 := by rw [← hn3.out.1]; rfl
              cases h3
              · have hE : decide (a0x9 ≤ v3 + 1) = E3 := hn3.out.2
                go_wp2_with (fail)
                refine wp_region_tail 15 (by kernel_rfl) (by kernel_rfl) ?_
                simp only [List.take_succ_cons, List.take_zero, List.drop_succ_cons, List.drop_zero]
                repeat (first | go_big_quiet_skip | (go_big_quiet_want; go_big_quiet_op; (first | go_big_quiet_on | (apply Exists.intro; (refine And.intro ?_ ?_); fail; go_big_quiet_on))))
                refine wpQuiet_nil ?_
                go_wp2_with (fail)
                go_quiet (fail)
                go_wp2_with (fail)
                go_roundw
                case rel => exact ⟨4, _, _, _, _, _, _, _, _, rfl, by omega, by repeat (first | exact Gar.refl _ | refine Gar.drewN ?_ _ | refine Gar.drew ?_ | refine Gar.alloc ?_ _ | refine Gar.allocs ?_ _), hN.out⟩
                case measure => first | (simp; done) | (simp [intOf]; done) | (simp [intOf]; omega)
              · obtain rfl : E3 = true := by rw [← hn3.out.2]; rfl
                go_wp2_with (fail)
                refine wp_region_tail 15 (by kernel_rfl) (by kernel_rfl) ?_
                simp only [List.take_succ_cons, List.take_zero, List.drop_succ_cons, List.drop_zero]
                repeat (first | go_big_quiet_skip | (go_big_quiet_want; go_big_quiet_op; (first | go_big_quiet_on | (apply Exists.intro; (refine And.intro ?_ ?_); fail; go_big_quiet_on))))
                refine wpQuiet_nil ?_
                go_wp2_with (fail)
                go_quiet (fail)
                go_wp2_with (fail)
                go_roundw
                case rel => exact ⟨4, _, _, _, _, _, _, _, _, rfl, by omega, by repeat (first | exact Gar.refl _ | refine Gar.drewN ?_ _ | refine Gar.drew ?_ | refine Gar.alloc ?_ _ | refine Gar.allocs ?_ _), hN.out⟩
                case measure => first | (simp; done) | (simp [intOf]; done) | (simp [intOf]; omega)
          · obtain ⟨rfl, rfl, rfl, rfl, rfl, rfl, rfl, rfl⟩ := hJ.out.done
            go_wp2_with (fail)
            go_roundw
            case rel => exact ⟨k + 1, _, _, _, _, _, _, _, _, _, _, _, _, by go_num, by omega, by repeat (first | exact Gar.refl _ | refine Gar.drewN ?_ _ | refine Gar.drew ?_ | refine Gar.alloc ?_ _ | refine Gar.allocs ?_ _), hNext.out⟩
            case measure => simp [intOf]; omega
    · clear hR
      go_wp2_with (fail)
      go_returns
      exact ⟨rfl, show Bel _ _ from Gar.bel (by repeat (first | exact Gar.refl _ | refine Gar.drewN ?_ _ | refine Gar.drew ?_ | refine Gar.alloc ?_ _ | refine Gar.allocs ?_ _))⟩
end Go.Proofs.Ytlppolaoigbkeaa
