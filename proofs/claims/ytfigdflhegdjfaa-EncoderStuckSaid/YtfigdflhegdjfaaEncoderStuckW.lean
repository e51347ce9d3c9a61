/- The walk of the law EncoderStuck. -/
import Derived.Test.YtfigdflhegdjfaaEncA
import Derived.Test.YtfigdflhegdjfaaEncV
import Derived.Test.YtfigdflhegdjfaaFlat
import Derived.Test.YtfigdflhegdjfaaRowAt
import Derived.Deep.DrawnRows
import Derived.BigQuiet
namespace Go.Proofs.Ytfigdflhegdjfaa
open Go.RowKit
set_option linter.unusedVariables false
attribute [local go_sem ↓] Go.wp_at_zero Go.wp_at_succ

set_option maxRecDepth 100000 in
set_option maxHeartbeats 8000000 in
theorem encoderStuck_walk (a0x0 a0x1 : Int) (a1x0 a1x1 a1x2 a1x3 : Int) (a1x4 a1x5 a1x6 : Bool) (l2 : Int) (v2b : Bool) (a2 : Option Addr) (len2 cap2 : Nat) (D2 : Nat → List Value) (w : World) (w0x0 : (Lit.int .i64 a0x0).wf = true) (w0x1 : (Lit.int .i64 a0x1).wf = true) (w1x0 : (Lit.int .i64 a1x0).wf = true) (w1x1 : (Lit.int .i64 a1x1).wf = true) (w1x2 : (Lit.int .i64 a1x2).wf = true) (w1x3 : (Lit.int .i64 a1x3).wf = true) (w2 : (Lit.int .u8 l2).wf = true) (r2 : IsRows [none] w a2 len2 cap2 D2) :
    Calls Try.prog 8 #[.agg #[.int .i64 a0x0, .int .i64 a0x1], .agg #[.int .i64 a1x0, .int .i64 a1x1, .int .i64 a1x2, .int .i64 a1x3, .bool a1x4, .bool a1x5, .bool a1x6], .agg #[.int .u8 l2, .bool v2b, .slice a2 len2 cap2]] w fun e w' => e = .returned (.bool true) ∧ Below w.heap.size w w' := by
  clear w0x0 w0x1 w1x1 w1x2 w1x3
  obtain ⟨hl, hm⟩ := rows_nil r2
  unfold maxLen at hm
  have bl := bounds_u8 w2
  clear w2
  obtain ⟨b, h⟩ : ∃ b, chkB a0x0 a0x1 = b := ⟨_, rfl⟩
  have hR := hide r2
  clear r2
  cases b
  · clear w1x0
    go_enter Try.func8, Try.ntmps8
    go_wp2_with (first | (go_at_call 10; (with_reducible refine (awake_true _ _ (Gar.refl _)).mono ?_); rintro e w' ⟨rfl, os1, n1, rfl⟩) | (go_at_call 12; (with_reducible refine (check_bad _ _ h _).mono ?_); rintro e w' ⟨rfl, rfl⟩))
    go_returns
    exact ⟨rfl, (show Bel _ _ from Gar.bel (by repeat (first | exact Gar.refl _ | refine Gar.drewN ?_ _ | refine Gar.drew ?_ | refine Gar.alloc ?_ _ | refine Gar.allocs ?_ _)))⟩
  by_cases hlen : 500 < len2
  · clear w1x0
    go_enter Try.func8, Try.ntmps8
    go_wp2_with (first | (go_at_call 10; (with_reducible refine (awake_true _ _ (Gar.refl _)).mono ?_); rintro e w' ⟨rfl, os1, n1, rfl⟩) | (go_at_call 12; (with_reducible refine (check_ok _ _ h _).mono ?_); rintro e w' ⟨rfl, rfl⟩))
    go_returns
    exact ⟨rfl, (show Bel _ _ from Gar.bel (by repeat (first | exact Gar.refl _ | refine Gar.drewN ?_ _ | refine Gar.drew ?_ | refine Gar.alloc ?_ _ | refine Gar.allocs ?_ _)))⟩
  have hlen' : len2 ≤ 500 := by omega
  have hdl : decide ((500 : Int) < (len2 : Int)) = false := decide_eq_false (by omega)
  have bE := clp_bd a1x1 (-549755813888) 549755813888 (by omega)
  have CE := clip_any a1x1 (-549755813888) 549755813888
  obtain ⟨E, hE⟩ : ∃ E, clp a1x1 (-549755813888) 549755813888 = E := ⟨_, rfl⟩
  rw [hE] at bE CE
  have W0 := hide w1x0
  clear w1x0 hE hlen
  rcases (show l2 % 2 = 0 ∨ l2 % 2 = 1 by omega) with hl2 | hl2
  · have hl3 : Int.tmod l2 2 = 0 := by rw [Int.tmod_eq_emod_of_nonneg bl.1]; exact hl2
    go_enter Try.func8, Try.ntmps8
    go_wp2_with (first | (go_at_call 10; (with_reducible refine (awake_true _ _ (Gar.refl _)).mono ?_); rintro e w' ⟨rfl, os1, n1, rfl⟩) | (go_at_call 12; (with_reducible refine (check_ok _ _ h _).mono ?_); rintro e w' ⟨rfl, rfl⟩) | (go_at_call 14; (with_reducible refine (CE _).mono ?_); rintro e w' ⟨rfl, rfl⟩))
    go_loopw [8, 9, 10] (fun fs fr i wr => ∃ (k : Nat) (fb : Bool) (F ph ct er sl : Int) (kn hi st : Bool), i = .int .i64 k ∧ k ≤ len2 ∧ fs = .bool fb ∧ fr = .int .i64 F ∧ Gar (((w.alloc (.cells #[.int .i64 a0x0, .int .i64 a0x1] 23)).alloc (.cells #[.int .i64 ph, .int .i64 ct, .int .i64 er, .int .i64 sl, .bool kn, .bool hi, .bool st] 32)).alloc (.cells #[.int .u8 l2, .bool v2b, .slice a2 len2 cap2] 52)) wr ∧ StkI false v2b fb F ph ct st) (fun _ _ i _ => len2 - (intOf i).toNat)
    case atStart => exact ⟨0, true, 0, _, _, _, _, _, _, _, rfl, Nat.zero_le _, rfl, rfl, by repeat (first | exact Gar.refl _ | refine Gar.drewN ?_ _ | refine Gar.drew ?_ | refine Gar.alloc ?_ _ | refine Gar.allocs ?_ _), .inl ⟨rfl, rfl, bE.1, bE.2, W0.out⟩⟩
    case round =>
      obtain ⟨k, fb, F, ph, ct, er, sl, kn, hi, st, rfl, hk, rfl, rfl, ⟨os, n, rfl⟩, hI0⟩ := hrel
      have hI := hide hI0
      clear hI0
      by_cases hlt : k < len2
      · obtain ⟨b, off, rfl, hc⟩ := rows_bools hR.out (by omega)
        have hc1 := hc k hlt
        clear hc
        obtain ⟨o, ho⟩ : ∃ o, bool1 (D2 k) = o := ⟨_, rfl⟩
        rw [ho] at hc1
        clear ho hR
        have hbb := World.block_lt_of_cell? w _ hc1
        obtain ⟨q1, q2, q3, q4, q5, q6, q7, q8⟩ := lt_all hbb
        have i1 : (0 : Int) ≤ (k : Int) := by omega
        have i2 : (k : Int) < (len2 : Int) := by omega
        have i3 : (k : Int) < (cap2 : Int) := by omega
        cases fb
        · obtain ⟨wph, hb⟩ : (Lit.int .i64 ph).wf = true ∧ _ := stk_next o (a0x0 * a0x1) kn hi hI.out
          obtain ⟨f1, f2, f3, f4, hI1⟩ := hb
          have hI2 := hide hI1
          clear hI1
          clear hI
          have hD : sA false v2b o = v2b ∧ sB false v2b o = o := ⟨rfl, rfl⟩
          rw [hD.1, hD.2] at hI2 f3 f4
          clear hD
          have P1 := fun w => step_ok a0x0 a0x1 ph ct er sl kn hi st v2b o false h wph w w (Gar.refl _)
          clear wph
          generalize stC (a0x0 * a0x1) ph ct kn hi st v2b o false = T at *
          generalize stE ph er st v2b o = E1 at *
          generalize stS (a0x0 * a0x1) ph ct sl kn hi st v2b o false = S1 at *
          generalize stK kn hi st false = K1 at *
          generalize phs v2b o = PH at *
          have d1 : decide (F + 1 < T) = false := decide_eq_false (by omega)
          have d2 : decide (T < F - 1) = false := decide_eq_false (by omega)
          go_wp2_with (fail)
          go_region_held3 (fun w' => w'.cell? ⟨w.heap.size + 1 + 1, 0, none⟩ = some (.int .u8 l2) ∧ w'.cell? ⟨w.heap.size + 1 + 1, 1, none⟩ = some (.bool v2b) ∧ w'.cell? ⟨w.heap.size + 1 + 1, 2, none⟩ = some (.slice (some ⟨b, off, none⟩) len2 cap2) ∧ w'.cell? ⟨b, off + k, none⟩ = some (.bool o))
            ((refine ⟨?_, ?_, ?_, ?_⟩ <;> first | assumption | (simp; done) | go_simp))
            (first | (go_at_call 23; (first | (with_reducible refine (stuck_0 _ _ _ _ _).mono ?_) | (with_reducible refine (stuck_2 _ _ _ _ _).mono ?_)); rintro e w' ⟨rfl, rfl⟩))
          all_goals
            go_wp2_with (first | (go_at_call 23; (first | (with_reducible refine (stuck_0 _ _ _ _ _).mono ?_) | (with_reducible refine (stuck_2 _ _ _ _ _).mono ?_)); rintro e w' ⟨rfl, rfl⟩) | (go_at_call 15; (with_reducible refine (P1 _).mono ?_); rintro e w' ⟨rfl, os2, n2, rfl⟩))
            go_quiet (fail)
            go_wp2_with (first | (go_at_call 23; (first | (with_reducible refine (stuck_0 _ _ _ _ _).mono ?_) | (with_reducible refine (stuck_2 _ _ _ _ _).mono ?_)); rintro e w' ⟨rfl, rfl⟩) | (go_at_call 15; (with_reducible refine (P1 _).mono ?_); rintro e w' ⟨rfl, os2, n2, rfl⟩))
            go_roundw
            case rel => exact ⟨k + 1, false, F, _, _, _, _, _, _, _, by go_num, by omega, rfl, rfl, by repeat (first | exact Gar.refl _ | refine Gar.drewN ?_ _ | refine Gar.drew ?_ | refine Gar.alloc ?_ _ | refine Gar.allocs ?_ _), hI2.out⟩
            case measure => simp [intOf]; omega
        · obtain ⟨wph, hb⟩ : (Lit.int .i64 ph).wf = true ∧ _ := stk_first o (a0x0 * a0x1) kn hi hI.out
          have hI2 := hide hb
          clear hb
          clear hI
          have hD : sA false v2b o = v2b ∧ sB false v2b o = o := ⟨rfl, rfl⟩
          rw [hD.1, hD.2] at hI2
          clear hD
          have P1 := fun w => step_ok a0x0 a0x1 ph ct er sl kn hi st v2b o false h wph w w (Gar.refl _)
          clear wph
          generalize stC (a0x0 * a0x1) ph ct kn hi st v2b o false = T at *
          generalize stE ph er st v2b o = E1 at *
          generalize stS (a0x0 * a0x1) ph ct sl kn hi st v2b o false = S1 at *
          generalize stK kn hi st false = K1 at *
          generalize phs v2b o = PH at *
          go_wp2_with (fail)
          go_region_held3 (fun w' => w'.cell? ⟨w.heap.size + 1 + 1, 0, none⟩ = some (.int .u8 l2) ∧ w'.cell? ⟨w.heap.size + 1 + 1, 1, none⟩ = some (.bool v2b) ∧ w'.cell? ⟨w.heap.size + 1 + 1, 2, none⟩ = some (.slice (some ⟨b, off, none⟩) len2 cap2) ∧ w'.cell? ⟨b, off + k, none⟩ = some (.bool o))
            ((refine ⟨?_, ?_, ?_, ?_⟩ <;> first | assumption | (simp; done) | go_simp))
            (first | (go_at_call 23; (first | (with_reducible refine (stuck_0 _ _ _ _ _).mono ?_) | (with_reducible refine (stuck_2 _ _ _ _ _).mono ?_)); rintro e w' ⟨rfl, rfl⟩))
          all_goals
            go_wp2_with (first | (go_at_call 23; (first | (with_reducible refine (stuck_0 _ _ _ _ _).mono ?_) | (with_reducible refine (stuck_2 _ _ _ _ _).mono ?_)); rintro e w' ⟨rfl, rfl⟩) | (go_at_call 15; (with_reducible refine (P1 _).mono ?_); rintro e w' ⟨rfl, os2, n2, rfl⟩))
            go_quiet (fail)
            go_wp2_with (first | (go_at_call 23; (first | (with_reducible refine (stuck_0 _ _ _ _ _).mono ?_) | (with_reducible refine (stuck_2 _ _ _ _ _).mono ?_)); rintro e w' ⟨rfl, rfl⟩) | (go_at_call 15; (with_reducible refine (P1 _).mono ?_); rintro e w' ⟨rfl, os2, n2, rfl⟩))
            go_roundw
            case rel => exact ⟨k + 1, false, T, _, _, _, _, _, _, _, by go_num, by omega, rfl, rfl, by repeat (first | exact Gar.refl _ | refine Gar.drewN ?_ _ | refine Gar.drew ?_ | refine Gar.alloc ?_ _ | refine Gar.allocs ?_ _), hI2.out⟩
            case measure => simp [intOf]; omega
      · clear hI hR
        have wr3 : IntKind.i64.wrap 3 = 3 := by decide
        go_wp2_with (fail)
        go_region_held3 (fun w' => w'.cell? ⟨w.heap.size + 1 + 1, 1, none⟩ = some (.bool v2b))
          ((first | assumption | (simp; done) | go_simp))
          (first | (go_at_call 23; (with_reducible refine (stuck_3 _ _ _ _ _).mono ?_); rintro e w' ⟨rfl, rfl⟩))
        all_goals
          go_wp2_with (fail)
          go_returns
          exact ⟨rfl, (show Bel _ _ from Gar.bel (by repeat (first | exact Gar.refl _ | refine Gar.drewN ?_ _ | refine Gar.drew ?_ | refine Gar.alloc ?_ _ | refine Gar.allocs ?_ _)))⟩
  · have hl3 : Int.tmod l2 2 = 1 := by rw [Int.tmod_eq_emod_of_nonneg bl.1]; exact hl2
    go_enter Try.func8, Try.ntmps8
    go_wp2_with (first | (go_at_call 10; (with_reducible refine (awake_true _ _ (Gar.refl _)).mono ?_); rintro e w' ⟨rfl, os1, n1, rfl⟩) | (go_at_call 12; (with_reducible refine (check_ok _ _ h _).mono ?_); rintro e w' ⟨rfl, rfl⟩) | (go_at_call 14; (with_reducible refine (CE _).mono ?_); rintro e w' ⟨rfl, rfl⟩))
    go_loopw [8, 9, 10] (fun fs fr i wr => ∃ (k : Nat) (fb : Bool) (F ph ct er sl : Int) (kn hi st : Bool), i = .int .i64 k ∧ k ≤ len2 ∧ fs = .bool fb ∧ fr = .int .i64 F ∧ Gar (((w.alloc (.cells #[.int .i64 a0x0, .int .i64 a0x1] 23)).alloc (.cells #[.int .i64 ph, .int .i64 ct, .int .i64 er, .int .i64 sl, .bool kn, .bool hi, .bool st] 32)).alloc (.cells #[.int .u8 l2, .bool v2b, .slice a2 len2 cap2] 52)) wr ∧ StkI true v2b fb F ph ct st) (fun _ _ i _ => len2 - (intOf i).toNat)
    case atStart => exact ⟨0, true, 0, _, _, _, _, _, _, _, rfl, Nat.zero_le _, rfl, rfl, by repeat (first | exact Gar.refl _ | refine Gar.drewN ?_ _ | refine Gar.drew ?_ | refine Gar.alloc ?_ _ | refine Gar.allocs ?_ _), .inl ⟨rfl, rfl, bE.1, bE.2, W0.out⟩⟩
    case round =>
      obtain ⟨k, fb, F, ph, ct, er, sl, kn, hi, st, rfl, hk, rfl, rfl, ⟨os, n, rfl⟩, hI0⟩ := hrel
      have hI := hide hI0
      clear hI0
      by_cases hlt : k < len2
      · obtain ⟨b, off, rfl, hc⟩ := rows_bools hR.out (by omega)
        have hc1 := hc k hlt
        clear hc
        obtain ⟨o, ho⟩ : ∃ o, bool1 (D2 k) = o := ⟨_, rfl⟩
        rw [ho] at hc1
        clear ho hR
        have hbb := World.block_lt_of_cell? w _ hc1
        obtain ⟨q1, q2, q3, q4, q5, q6, q7, q8⟩ := lt_all hbb
        have i1 : (0 : Int) ≤ (k : Int) := by omega
        have i2 : (k : Int) < (len2 : Int) := by omega
        have i3 : (k : Int) < (cap2 : Int) := by omega
        cases fb
        · obtain ⟨wph, hb⟩ : (Lit.int .i64 ph).wf = true ∧ _ := stk_next o (a0x0 * a0x1) kn hi hI.out
          obtain ⟨f1, f2, f3, f4, hI1⟩ := hb
          have hI2 := hide hI1
          clear hI1
          clear hI
          have hD : sA true v2b o = o ∧ sB true v2b o = v2b := ⟨rfl, rfl⟩
          rw [hD.1, hD.2] at hI2 f3 f4
          clear hD
          have P1 := fun w => step_ok a0x0 a0x1 ph ct er sl kn hi st o v2b false h wph w w (Gar.refl _)
          clear wph
          generalize stC (a0x0 * a0x1) ph ct kn hi st o v2b false = T at *
          generalize stE ph er st o v2b = E1 at *
          generalize stS (a0x0 * a0x1) ph ct sl kn hi st o v2b false = S1 at *
          generalize stK kn hi st false = K1 at *
          generalize phs o v2b = PH at *
          have d1 : decide (F + 1 < T) = false := decide_eq_false (by omega)
          have d2 : decide (T < F - 1) = false := decide_eq_false (by omega)
          go_wp2_with (fail)
          go_region_held3 (fun w' => w'.cell? ⟨w.heap.size + 1 + 1, 0, none⟩ = some (.int .u8 l2) ∧ w'.cell? ⟨w.heap.size + 1 + 1, 1, none⟩ = some (.bool v2b) ∧ w'.cell? ⟨w.heap.size + 1 + 1, 2, none⟩ = some (.slice (some ⟨b, off, none⟩) len2 cap2) ∧ w'.cell? ⟨b, off + k, none⟩ = some (.bool o))
            ((refine ⟨?_, ?_, ?_, ?_⟩ <;> first | assumption | (simp; done) | go_simp))
            (first | (go_at_call 23; (first | (with_reducible refine (stuck_1 _ _ _ _ _).mono ?_) | (with_reducible refine (stuck_2 _ _ _ _ _).mono ?_)); rintro e w' ⟨rfl, rfl⟩))
          all_goals
            go_wp2_with (first | (go_at_call 23; (first | (with_reducible refine (stuck_1 _ _ _ _ _).mono ?_) | (with_reducible refine (stuck_2 _ _ _ _ _).mono ?_)); rintro e w' ⟨rfl, rfl⟩) | (go_at_call 15; (with_reducible refine (P1 _).mono ?_); rintro e w' ⟨rfl, os2, n2, rfl⟩))
            go_quiet (fail)
            go_wp2_with (first | (go_at_call 23; (first | (with_reducible refine (stuck_1 _ _ _ _ _).mono ?_) | (with_reducible refine (stuck_2 _ _ _ _ _).mono ?_)); rintro e w' ⟨rfl, rfl⟩) | (go_at_call 15; (with_reducible refine (P1 _).mono ?_); rintro e w' ⟨rfl, os2, n2, rfl⟩))
            go_roundw
            case rel => exact ⟨k + 1, false, F, _, _, _, _, _, _, _, by go_num, by omega, rfl, rfl, by repeat (first | exact Gar.refl _ | refine Gar.drewN ?_ _ | refine Gar.drew ?_ | refine Gar.alloc ?_ _ | refine Gar.allocs ?_ _), hI2.out⟩
            case measure => simp [intOf]; omega
        · obtain ⟨wph, hb⟩ : (Lit.int .i64 ph).wf = true ∧ _ := stk_first o (a0x0 * a0x1) kn hi hI.out
          have hI2 := hide hb
          clear hb
          clear hI
          have hD : sA true v2b o = o ∧ sB true v2b o = v2b := ⟨rfl, rfl⟩
          rw [hD.1, hD.2] at hI2
          clear hD
          have P1 := fun w => step_ok a0x0 a0x1 ph ct er sl kn hi st o v2b false h wph w w (Gar.refl _)
          clear wph
          generalize stC (a0x0 * a0x1) ph ct kn hi st o v2b false = T at *
          generalize stE ph er st o v2b = E1 at *
          generalize stS (a0x0 * a0x1) ph ct sl kn hi st o v2b false = S1 at *
          generalize stK kn hi st false = K1 at *
          generalize phs o v2b = PH at *
          go_wp2_with (fail)
          go_region_held3 (fun w' => w'.cell? ⟨w.heap.size + 1 + 1, 0, none⟩ = some (.int .u8 l2) ∧ w'.cell? ⟨w.heap.size + 1 + 1, 1, none⟩ = some (.bool v2b) ∧ w'.cell? ⟨w.heap.size + 1 + 1, 2, none⟩ = some (.slice (some ⟨b, off, none⟩) len2 cap2) ∧ w'.cell? ⟨b, off + k, none⟩ = some (.bool o))
            ((refine ⟨?_, ?_, ?_, ?_⟩ <;> first | assumption | (simp; done) | go_simp))
            (first | (go_at_call 23; (first | (with_reducible refine (stuck_1 _ _ _ _ _).mono ?_) | (with_reducible refine (stuck_2 _ _ _ _ _).mono ?_)); rintro e w' ⟨rfl, rfl⟩))
          all_goals
            go_wp2_with (first | (go_at_call 23; (first | (with_reducible refine (stuck_1 _ _ _ _ _).mono ?_) | (with_reducible refine (stuck_2 _ _ _ _ _).mono ?_)); rintro e w' ⟨rfl, rfl⟩) | (go_at_call 15; (with_reducible refine (P1 _).mono ?_); rintro e w' ⟨rfl, os2, n2, rfl⟩))
            go_quiet (fail)
            go_wp2_with (first | (go_at_call 23; (first | (with_reducible refine (stuck_1 _ _ _ _ _).mono ?_) | (with_reducible refine (stuck_2 _ _ _ _ _).mono ?_)); rintro e w' ⟨rfl, rfl⟩) | (go_at_call 15; (with_reducible refine (P1 _).mono ?_); rintro e w' ⟨rfl, os2, n2, rfl⟩))
            go_roundw
            case rel => exact ⟨k + 1, false, T, _, _, _, _, _, _, _, by go_num, by omega, rfl, rfl, by repeat (first | exact Gar.refl _ | refine Gar.drewN ?_ _ | refine Gar.drew ?_ | refine Gar.alloc ?_ _ | refine Gar.allocs ?_ _), hI2.out⟩
            case measure => simp [intOf]; omega
      · clear hI hR
        have wr4 : IntKind.i64.wrap 4 = 4 := by decide
        go_wp2_with (fail)
        go_region_held3 (fun w' => w'.cell? ⟨w.heap.size + 1 + 1, 1, none⟩ = some (.bool v2b))
          ((first | assumption | (simp; done) | go_simp))
          (first | (go_at_call 23; (with_reducible refine (stuck_4 _ _ _ _ _).mono ?_); rintro e w' ⟨rfl, rfl⟩))
        all_goals
          go_wp2_with (fail)
          go_returns
          exact ⟨rfl, (show Bel _ _ from Gar.bel (by repeat (first | exact Gar.refl _ | refine Gar.drewN ?_ _ | refine Gar.drew ?_ | refine Gar.alloc ?_ _ | refine Gar.allocs ?_ _)))⟩
end Go.Proofs.Ytfigdflhegdjfaa
