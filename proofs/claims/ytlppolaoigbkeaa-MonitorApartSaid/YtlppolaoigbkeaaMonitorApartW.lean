/- The walk of the law MonitorApart. -/
import Derived.Test.YtlppolaoigbkeaaMonA
import Derived.Test.YtlppolaoigbkeaaFlat
import Derived.Test.YtlppolaoigbkeaaMonH
import Derived.Test.YtlppolaoigbkeaaLtA
import Derived.Test.YtlppolaoigbkeaaLtB
import Derived.Test.YtlppolaoigbkeaaRowN
import Derived.BigQuiet
import Derived.IntWalk
import Derived.Test.YtlppolaoigbkeaaTail
namespace Go.Proofs.Ytlppolaoigbkeaa
open Go.RowKit
set_option linter.unusedVariables false
attribute [local go_sem ↓] Go.wp_at_zero Go.wp_at_succ

/-- Several ways to two states. -/
theorem merge2 {X Y G : Prop} (main : Hid X → Hid Y → G) (px : X) (py : Y) : G := main px py

set_option maxRecDepth 100000 in
set_option maxHeartbeats 8000000 in
theorem apart0 (a0x0 a0x1 a0x2 a0x3 a0x4 a0x5 a0x6 a0x7 a0x8 a0x9 : Int) (a1 : Option Addr) (len1 cap1 : Nat) (D1 : Nat → List Value) (a2 : Int) (w : World) (w0x0 : (Lit.int .i64 a0x0).wf = true) (w0x1 : (Lit.int .i64 a0x1).wf = true) (w0x2 : (Lit.int .i64 a0x2).wf = true) (w0x3 : (Lit.int .i64 a0x3).wf = true) (w0x4 : (Lit.int .i64 a0x4).wf = true) (w0x5 : (Lit.int .i64 a0x5).wf = true) (w0x6 : (Lit.int .i64 a0x6).wf = true) (w0x7 : (Lit.int .i64 a0x7).wf = true) (w0x8 : (Lit.int .i64 a0x8).wf = true) (w0x9 : (Lit.int .i64 a0x9).wf = true) (r1 : IsRows [some .i64, some .i64, some .i64, some .i64, some .i64, some .i64, some .i64, some .i64, some .i64, some .i64, some .i64, some .i64, some .i64, some .i64] w a1 len1 cap1 D1) (w2 : (Lit.int .u8 a2).wf = true) (hj : a2 % 4 = 0) :
    Calls Try.prog 6 #[.agg #[.int .i64 a0x0, .int .i64 a0x1, .int .i64 a0x2, .int .i64 a0x3, .int .i64 a0x4, .int .i64 a0x5, .int .i64 a0x6, .int .i64 a0x7, .int .i64 a0x8, .int .i64 a0x9], .slice a1 len1 cap1, .int .u8 a2] w fun e w' => e = .returned (.bool true) ∧ Below w.heap.size w w' := by
  clear w0x0 w0x1 w0x2 w0x3 w0x4 w0x5 w0x6 w0x7 w0x8 w0x9
  have hw2 : 0 ≤ a2 ∧ a2 ≤ 255 := by simpa [Lit.wf, IntKind.min, IntKind.max, IntKind.signed, IntKind.bits] using w2
  have hj2 : Int.tmod a2 4 = 0 := by rw [Int.tmod_eq_emod_of_nonneg hw2.1]; exact hj
  clear w2
  obtain ⟨hl, hm⟩ := rows_nil r1
  unfold maxLen at hm
  obtain ⟨b, h⟩ : ∃ b, chkB a0x0 a0x1 a0x2 a0x3 a0x4 a0x5 a0x6 a0x7 a0x8 a0x9 = b := ⟨_, rfl⟩
  have hR := hide r1
  clear r1
  cases b
  · have KC := check_bad a0x0 a0x1 a0x2 a0x3 a0x4 a0x5 a0x6 a0x7 a0x8 a0x9 h
    clear h hj hj2
    go_enter Try.func6, Try.ntmps6
    go_wp2_with (first | (go_at_call 10; (with_reducible refine (awake_true _ _ (Gar.refl _)).mono ?_); rintro e w' ⟨rfl, os1, n1, rfl⟩) | (go_at_call 12; (with_reducible refine (KC _).mono ?_); rintro e w' ⟨rfl, rfl⟩))
    go_returns
    exact ⟨rfl, show Bel _ _ from Gar.bel (by repeat (first | exact Gar.refl _ | refine Gar.drewN ?_ _ | refine Gar.drew ?_ | refine Gar.alloc ?_ _ | refine Gar.allocs ?_ _))⟩
  have KC := check_ok a0x0 a0x1 a0x2 a0x3 a0x4 a0x5 a0x6 a0x7 a0x8 a0x9 h
  by_cases hlen : 300 < len1
  · clear h hj hj2
    go_enter Try.func6, Try.ntmps6
    go_wp2_with (first | (go_at_call 10; (with_reducible refine (awake_true _ _ (Gar.refl _)).mono ?_); rintro e w' ⟨rfl, os1, n1, rfl⟩) | (go_at_call 12; (with_reducible refine (KC _).mono ?_); rintro e w' ⟨rfl, rfl⟩))
    go_returns
    exact ⟨rfl, show Bel _ _ from Gar.bel (by repeat (first | exact Gar.refl _ | refine Gar.drewN ?_ _ | refine Gar.drew ?_ | refine Gar.alloc ?_ _ | refine Gar.allocs ?_ _))⟩
  have hlen2 : len1 ≤ 300 := by omega
  have hdl : decide ((300 : Int) < (len1 : Int)) = false := decide_eq_false (by omega)
  clear hlen
  go_enter Try.func6, Try.ntmps6
  go_wp2_with (first | (go_at_call 10; (with_reducible refine (awake_true _ _ (Gar.refl _)).mono ?_); rintro e w' ⟨rfl, os1, n1, rfl⟩) | (go_at_call 12; (with_reducible refine (KC _).mono ?_); rintro e w' ⟨rfl, rfl⟩))
  clear hj hj2
  go_loopw [10] (fun i wr => ∃ (k : Nat) (f0 f1 f2 f3 p1 p2 p3 : Int) (g0 g1 g2 g3 y1 y2 y3 : Bool), i = .int .i64 k ∧ k ≤ len1 ∧ Gar ((((allocs (w.alloc (.cells #[.int .i64 a0x0, .int .i64 a0x1, .int .i64 a0x2, .int .i64 a0x3, .int .i64 a0x4, .int .i64 a0x5, .int .i64 a0x6, .int .i64 a0x7, .int .i64 a0x8, .int .i64 a0x9] 24)) os1).alloc (.cells #[.int .i64 a0x0, .int .i64 a0x1, .int .i64 a0x2, .int .i64 a0x3, .int .i64 a0x4, .int .i64 a0x5, .int .i64 a0x6, .int .i64 a0x7, .int .i64 a0x8, .int .i64 a0x9] 24)).alloc (.cells #[.int .i64 f0, .int .i64 f1, .int .i64 f2, .int .i64 f3, .bool g0, .bool g1, .bool g2, .bool g3] 42)).alloc (.cells #[.int .i64 f0, .int .i64 p1, .int .i64 p2, .int .i64 p3, .bool g0, .bool y1, .bool y2, .bool y3] 42)) wr) (fun i _ => len1 - (intOf i).toNat)
  case atStart => exact ⟨0, 0, 0, 0, 0, 0, 0, 0, false, false, false, false, false, false, false, rfl, Nat.zero_le _, by repeat (first | exact Gar.refl _ | refine Gar.drewN ?_ _ | refine Gar.drew ?_ | refine Gar.alloc ?_ _ | refine Gar.allocs ?_ _)⟩
  case round =>
    obtain ⟨k, f0, f1, f2, f3, p1, p2, p3, g0, g1, g2, g3, y1, y2, y3, rfl, hk, ⟨os, n, rfl⟩⟩ := hrel
    by_cases hlt : k < len1
    · obtain ⟨b, off, rfl, hrow⟩ := rows_14i hR.out (by omega)
      obtain ⟨d0, d1, d2, d3, d4, d5, d6, d7, d8, d9, d10, d11, d12, d13, w0, w1, w2, w3, w4, w5, w6, w7, w8, w9, w10, w11, w12, w13⟩ := hrow k hlt
      clear hrow hR
      have hbb := World.block_lt_of_cell? w _ w0
      obtain ⟨l1, l2, l3, l4, l5, l6, l7, l8⟩ := lt_all hbb
      obtain ⟨l9, l10, l11, l12, l13, l14, l15, l16⟩ := lt_more hbb
      have j1 : (0 : Int) ≤ (k : Int) := by omega
      have j2 : (k : Int) < (len1 : Int) := by omega
      have j3 : (k : Int) < (cap1 : Int) := by omega
      have KS := fun w => step_ok a0x0 a0x1 a0x2 a0x3 a0x4 a0x5 a0x6 a0x7 a0x8 a0x9 f0 f1 f2 f3 g0 g1 g2 g3 d0 d1 d2 d3 d4 d5 d6 h w w (Gar.refl _)
      have KT := fun w => step_ok a0x0 a0x1 a0x2 a0x3 a0x4 a0x5 a0x6 a0x7 a0x8 a0x9 f0 p1 p2 p3 g0 y1 y2 y3 d0 d1 d2 d10 d11 d12 d13 h w w (Gar.refl _)
      clear h
      generalize mF (q0 a0x0 d0 d1 d2) f0 a0x6 = v0 at *
      generalize mF (lostB a0x1 a0x2 d0 d1 d2) f1 a0x7 = v1 at *
      generalize mF (q2 a0x3 a0x4 d3 d4) f2 a0x8 = v2 at *
      generalize mF (q3 a0x5 d5 d6) f3 a0x9 = v3 at *
      generalize mG (q0 a0x0 d0 d1 d2) g0 f0 a0x6 = v4 at *
      generalize mG (lostB a0x1 a0x2 d0 d1 d2) g1 f1 a0x7 = v5 at *
      generalize mG (q2 a0x3 a0x4 d3 d4) g2 f2 a0x8 = v6 at *
      generalize mG (q3 a0x5 d5 d6) g3 f3 a0x9 = v7 at *
      generalize mF (lostB a0x1 a0x2 d0 d1 d2) p1 a0x7 = u1 at *
      generalize mF (q2 a0x3 a0x4 d10 d11) p2 a0x8 = u2 at *
      generalize mF (q3 a0x5 d12 d13) p3 a0x9 = u3 at *
      generalize mG (lostB a0x1 a0x2 d0 d1 d2) y1 p1 a0x7 = u5 at *
      generalize mG (q2 a0x3 a0x4 d10 d11) y2 p2 a0x8 = u6 at *
      generalize mG (q3 a0x5 d12 d13) y3 p3 a0x9 = u7 at *
      go_wp2_with (fail)
      go_region_held3 (fun w' => w'.cell? ⟨b, off + k * 14, none⟩ = some (.int .i64 d0) ∧ w'.cell? ⟨b, off + k * 14 + 1, none⟩ = some (.int .i64 d1) ∧ w'.cell? ⟨b, off + k * 14 + 2, none⟩ = some (.int .i64 d2) ∧ w'.cell? ⟨b, off + k * 14 + 3, none⟩ = some (.int .i64 d3) ∧ w'.cell? ⟨b, off + k * 14 + 4, none⟩ = some (.int .i64 d4) ∧ w'.cell? ⟨b, off + k * 14 + 5, none⟩ = some (.int .i64 d5) ∧ w'.cell? ⟨b, off + k * 14 + 6, none⟩ = some (.int .i64 d6) ∧ w'.cell? ⟨b, off + k * 14 + 7, none⟩ = some (.int .i64 d7) ∧ w'.cell? ⟨b, off + k * 14 + 8, none⟩ = some (.int .i64 d8) ∧ w'.cell? ⟨b, off + k * 14 + 9, none⟩ = some (.int .i64 d9) ∧ w'.cell? ⟨b, off + k * 14 + 10, none⟩ = some (.int .i64 d10) ∧ w'.cell? ⟨b, off + k * 14 + 11, none⟩ = some (.int .i64 d11) ∧ w'.cell? ⟨b, off + k * 14 + 12, none⟩ = some (.int .i64 d12) ∧ w'.cell? ⟨b, off + k * 14 + 13, none⟩ = some (.int .i64 d13))
        ((refine ⟨?_, ?_, ?_, ?_, ?_, ?_, ?_, ?_, ?_, ?_, ?_, ?_, ?_, ?_⟩ <;> first | assumption | (simp; done) | go_simp))
        (first
          | fail
        )
      all_goals
        go_wp2_with (fail)
        go_wp2_with (first | (go_at_call 16; (first | (with_reducible refine (KS _).mono ?_) | (with_reducible refine (KT _).mono ?_)); rintro e w' ⟨rfl, os5, n5, rfl⟩))
        go_quiet (fail)
        go_wp2_with (fail)
        apply merge
        · intro hx
          go_region
          all_goals with_reducible exact hx.out
        go_wp2_with (fail)
        go_roundw
        case rel => exact ⟨k + 1, _, _, _, _, _, _, _, _, _, _, _, _, _, _, by go_num, by omega, by repeat (first | exact Gar.refl _ | refine Gar.drewN ?_ _ | refine Gar.drew ?_ | refine Gar.alloc ?_ _ | refine Gar.allocs ?_ _)⟩
        case measure => simp [intOf]; omega
    · clear hR
      go_wp2_with (fail)
      go_returns
      exact ⟨rfl, show Bel _ _ from Gar.bel (by repeat (first | exact Gar.refl _ | refine Gar.drewN ?_ _ | refine Gar.drew ?_ | refine Gar.alloc ?_ _ | refine Gar.allocs ?_ _))⟩
set_option maxRecDepth 100000 in
set_option maxHeartbeats 8000000 in
theorem apart1 (a0x0 a0x1 a0x2 a0x3 a0x4 a0x5 a0x6 a0x7 a0x8 a0x9 : Int) (a1 : Option Addr) (len1 cap1 : Nat) (D1 : Nat → List Value) (a2 : Int) (w : World) (w0x0 : (Lit.int .i64 a0x0).wf = true) (w0x1 : (Lit.int .i64 a0x1).wf = true) (w0x2 : (Lit.int .i64 a0x2).wf = true) (w0x3 : (Lit.int .i64 a0x3).wf = true) (w0x4 : (Lit.int .i64 a0x4).wf = true) (w0x5 : (Lit.int .i64 a0x5).wf = true) (w0x6 : (Lit.int .i64 a0x6).wf = true) (w0x7 : (Lit.int .i64 a0x7).wf = true) (w0x8 : (Lit.int .i64 a0x8).wf = true) (w0x9 : (Lit.int .i64 a0x9).wf = true) (r1 : IsRows [some .i64, some .i64, some .i64, some .i64, some .i64, some .i64, some .i64, some .i64, some .i64, some .i64, some .i64, some .i64, some .i64, some .i64] w a1 len1 cap1 D1) (w2 : (Lit.int .u8 a2).wf = true) (hj : a2 % 4 = 1) :
    Calls Try.prog 6 #[.agg #[.int .i64 a0x0, .int .i64 a0x1, .int .i64 a0x2, .int .i64 a0x3, .int .i64 a0x4, .int .i64 a0x5, .int .i64 a0x6, .int .i64 a0x7, .int .i64 a0x8, .int .i64 a0x9], .slice a1 len1 cap1, .int .u8 a2] w fun e w' => e = .returned (.bool true) ∧ Below w.heap.size w w' := by
  clear w0x0 w0x1 w0x2 w0x3 w0x4 w0x5 w0x6 w0x7 w0x8 w0x9
  have hw2 : 0 ≤ a2 ∧ a2 ≤ 255 := by simpa [Lit.wf, IntKind.min, IntKind.max, IntKind.signed, IntKind.bits] using w2
  have hj2 : Int.tmod a2 4 = 1 := by rw [Int.tmod_eq_emod_of_nonneg hw2.1]; exact hj
  clear w2
  obtain ⟨hl, hm⟩ := rows_nil r1
  unfold maxLen at hm
  obtain ⟨b, h⟩ : ∃ b, chkB a0x0 a0x1 a0x2 a0x3 a0x4 a0x5 a0x6 a0x7 a0x8 a0x9 = b := ⟨_, rfl⟩
  have hR := hide r1
  clear r1
  cases b
  · have KC := check_bad a0x0 a0x1 a0x2 a0x3 a0x4 a0x5 a0x6 a0x7 a0x8 a0x9 h
    clear h hj hj2
    go_enter Try.func6, Try.ntmps6
    go_wp2_with (first | (go_at_call 10; (with_reducible refine (awake_true _ _ (Gar.refl _)).mono ?_); rintro e w' ⟨rfl, os1, n1, rfl⟩) | (go_at_call 12; (with_reducible refine (KC _).mono ?_); rintro e w' ⟨rfl, rfl⟩))
    go_returns
    exact ⟨rfl, show Bel _ _ from Gar.bel (by repeat (first | exact Gar.refl _ | refine Gar.drewN ?_ _ | refine Gar.drew ?_ | refine Gar.alloc ?_ _ | refine Gar.allocs ?_ _))⟩
  have KC := check_ok a0x0 a0x1 a0x2 a0x3 a0x4 a0x5 a0x6 a0x7 a0x8 a0x9 h
  by_cases hlen : 300 < len1
  · clear h hj hj2
    go_enter Try.func6, Try.ntmps6
    go_wp2_with (first | (go_at_call 10; (with_reducible refine (awake_true _ _ (Gar.refl _)).mono ?_); rintro e w' ⟨rfl, os1, n1, rfl⟩) | (go_at_call 12; (with_reducible refine (KC _).mono ?_); rintro e w' ⟨rfl, rfl⟩))
    go_returns
    exact ⟨rfl, show Bel _ _ from Gar.bel (by repeat (first | exact Gar.refl _ | refine Gar.drewN ?_ _ | refine Gar.drew ?_ | refine Gar.alloc ?_ _ | refine Gar.allocs ?_ _))⟩
  have hlen2 : len1 ≤ 300 := by omega
  have hdl : decide ((300 : Int) < (len1 : Int)) = false := decide_eq_false (by omega)
  clear hlen
  go_enter Try.func6, Try.ntmps6
  go_wp2_with (first | (go_at_call 10; (with_reducible refine (awake_true _ _ (Gar.refl _)).mono ?_); rintro e w' ⟨rfl, os1, n1, rfl⟩) | (go_at_call 12; (with_reducible refine (KC _).mono ?_); rintro e w' ⟨rfl, rfl⟩))
  clear hj hj2
  go_loopw [10] (fun i wr => ∃ (k : Nat) (f0 f1 f2 f3 p0 p2 p3 : Int) (g0 g1 g2 g3 y0 y2 y3 : Bool), i = .int .i64 k ∧ k ≤ len1 ∧ Gar ((((allocs (w.alloc (.cells #[.int .i64 a0x0, .int .i64 a0x1, .int .i64 a0x2, .int .i64 a0x3, .int .i64 a0x4, .int .i64 a0x5, .int .i64 a0x6, .int .i64 a0x7, .int .i64 a0x8, .int .i64 a0x9] 24)) os1).alloc (.cells #[.int .i64 a0x0, .int .i64 a0x1, .int .i64 a0x2, .int .i64 a0x3, .int .i64 a0x4, .int .i64 a0x5, .int .i64 a0x6, .int .i64 a0x7, .int .i64 a0x8, .int .i64 a0x9] 24)).alloc (.cells #[.int .i64 f0, .int .i64 f1, .int .i64 f2, .int .i64 f3, .bool g0, .bool g1, .bool g2, .bool g3] 42)).alloc (.cells #[.int .i64 p0, .int .i64 f1, .int .i64 p2, .int .i64 p3, .bool y0, .bool g1, .bool y2, .bool y3] 42)) wr) (fun i _ => len1 - (intOf i).toNat)
  case atStart => exact ⟨0, 0, 0, 0, 0, 0, 0, 0, false, false, false, false, false, false, false, rfl, Nat.zero_le _, by repeat (first | exact Gar.refl _ | refine Gar.drewN ?_ _ | refine Gar.drew ?_ | refine Gar.alloc ?_ _ | refine Gar.allocs ?_ _)⟩
  case round =>
    obtain ⟨k, f0, f1, f2, f3, p0, p2, p3, g0, g1, g2, g3, y0, y2, y3, rfl, hk, ⟨os, n, rfl⟩⟩ := hrel
    by_cases hlt : k < len1
    · obtain ⟨b, off, rfl, hrow⟩ := rows_14i hR.out (by omega)
      obtain ⟨d0, d1, d2, d3, d4, d5, d6, d7, d8, d9, d10, d11, d12, d13, w0, w1, w2, w3, w4, w5, w6, w7, w8, w9, w10, w11, w12, w13⟩ := hrow k hlt
      clear hrow hR
      have hbb := World.block_lt_of_cell? w _ w0
      obtain ⟨l1, l2, l3, l4, l5, l6, l7, l8⟩ := lt_all hbb
      obtain ⟨l9, l10, l11, l12, l13, l14, l15, l16⟩ := lt_more hbb
      have j1 : (0 : Int) ≤ (k : Int) := by omega
      have j2 : (k : Int) < (len1 : Int) := by omega
      have j3 : (k : Int) < (cap1 : Int) := by omega
      have KS := fun w => step_ok a0x0 a0x1 a0x2 a0x3 a0x4 a0x5 a0x6 a0x7 a0x8 a0x9 f0 f1 f2 f3 g0 g1 g2 g3 d0 d1 d2 d3 d4 d5 d6 h w w (Gar.refl _)
      have KT := fun w => step_ok a0x0 a0x1 a0x2 a0x3 a0x4 a0x5 a0x6 a0x7 a0x8 a0x9 p0 f1 p2 p3 y0 g1 y2 y3 d0 d1 d2 d10 d11 d12 d13 h w w (Gar.refl _)
      clear h
      generalize mF (q0 a0x0 d0 d1 d2) f0 a0x6 = v0 at *
      generalize mF (lostB a0x1 a0x2 d0 d1 d2) f1 a0x7 = v1 at *
      generalize mF (q2 a0x3 a0x4 d3 d4) f2 a0x8 = v2 at *
      generalize mF (q3 a0x5 d5 d6) f3 a0x9 = v3 at *
      generalize mG (q0 a0x0 d0 d1 d2) g0 f0 a0x6 = v4 at *
      generalize mG (lostB a0x1 a0x2 d0 d1 d2) g1 f1 a0x7 = v5 at *
      generalize mG (q2 a0x3 a0x4 d3 d4) g2 f2 a0x8 = v6 at *
      generalize mG (q3 a0x5 d5 d6) g3 f3 a0x9 = v7 at *
      generalize mF (q0 a0x0 d0 d1 d2) p0 a0x6 = u0 at *
      generalize mF (q2 a0x3 a0x4 d10 d11) p2 a0x8 = u2 at *
      generalize mF (q3 a0x5 d12 d13) p3 a0x9 = u3 at *
      generalize mG (q0 a0x0 d0 d1 d2) y0 p0 a0x6 = u4 at *
      generalize mG (q2 a0x3 a0x4 d10 d11) y2 p2 a0x8 = u6 at *
      generalize mG (q3 a0x5 d12 d13) y3 p3 a0x9 = u7 at *
      go_wp2_with (fail)
      go_region_held3 (fun w' => w'.cell? ⟨b, off + k * 14, none⟩ = some (.int .i64 d0) ∧ w'.cell? ⟨b, off + k * 14 + 1, none⟩ = some (.int .i64 d1) ∧ w'.cell? ⟨b, off + k * 14 + 2, none⟩ = some (.int .i64 d2) ∧ w'.cell? ⟨b, off + k * 14 + 3, none⟩ = some (.int .i64 d3) ∧ w'.cell? ⟨b, off + k * 14 + 4, none⟩ = some (.int .i64 d4) ∧ w'.cell? ⟨b, off + k * 14 + 5, none⟩ = some (.int .i64 d5) ∧ w'.cell? ⟨b, off + k * 14 + 6, none⟩ = some (.int .i64 d6) ∧ w'.cell? ⟨b, off + k * 14 + 7, none⟩ = some (.int .i64 d7) ∧ w'.cell? ⟨b, off + k * 14 + 8, none⟩ = some (.int .i64 d8) ∧ w'.cell? ⟨b, off + k * 14 + 9, none⟩ = some (.int .i64 d9) ∧ w'.cell? ⟨b, off + k * 14 + 10, none⟩ = some (.int .i64 d10) ∧ w'.cell? ⟨b, off + k * 14 + 11, none⟩ = some (.int .i64 d11) ∧ w'.cell? ⟨b, off + k * 14 + 12, none⟩ = some (.int .i64 d12) ∧ w'.cell? ⟨b, off + k * 14 + 13, none⟩ = some (.int .i64 d13))
        ((refine ⟨?_, ?_, ?_, ?_, ?_, ?_, ?_, ?_, ?_, ?_, ?_, ?_, ?_, ?_⟩ <;> first | assumption | (simp; done) | go_simp))
        (first
          | fail
        )
      all_goals
        go_wp2_with (fail)
        go_wp2_with (first | (go_at_call 16; (first | (with_reducible refine (KS _).mono ?_) | (with_reducible refine (KT _).mono ?_)); rintro e w' ⟨rfl, os5, n5, rfl⟩))
        go_quiet (fail)
        go_wp2_with (fail)
        apply merge
        · intro hx
          go_region
          all_goals with_reducible exact hx.out
        go_wp2_with (fail)
        go_roundw
        case rel => exact ⟨k + 1, _, _, _, _, _, _, _, _, _, _, _, _, _, _, by go_num, by omega, by repeat (first | exact Gar.refl _ | refine Gar.drewN ?_ _ | refine Gar.drew ?_ | refine Gar.alloc ?_ _ | refine Gar.allocs ?_ _)⟩
        case measure => simp [intOf]; omega
    · clear hR
      go_wp2_with (fail)
      go_returns
      exact ⟨rfl, show Bel _ _ from Gar.bel (by repeat (first | exact Gar.refl _ | refine Gar.drewN ?_ _ | refine Gar.drew ?_ | refine Gar.alloc ?_ _ | refine Gar.allocs ?_ _))⟩
set_option maxRecDepth 100000 in
set_option maxHeartbeats 8000000 in
theorem apart2 (a0x0 a0x1 a0x2 a0x3 a0x4 a0x5 a0x6 a0x7 a0x8 a0x9 : Int) (a1 : Option Addr) (len1 cap1 : Nat) (D1 : Nat → List Value) (a2 : Int) (w : World) (w0x0 : (Lit.int .i64 a0x0).wf = true) (w0x1 : (Lit.int .i64 a0x1).wf = true) (w0x2 : (Lit.int .i64 a0x2).wf = true) (w0x3 : (Lit.int .i64 a0x3).wf = true) (w0x4 : (Lit.int .i64 a0x4).wf = true) (w0x5 : (Lit.int .i64 a0x5).wf = true) (w0x6 : (Lit.int .i64 a0x6).wf = true) (w0x7 : (Lit.int .i64 a0x7).wf = true) (w0x8 : (Lit.int .i64 a0x8).wf = true) (w0x9 : (Lit.int .i64 a0x9).wf = true) (r1 : IsRows [some .i64, some .i64, some .i64, some .i64, some .i64, some .i64, some .i64, some .i64, some .i64, some .i64, some .i64, some .i64, some .i64, some .i64] w a1 len1 cap1 D1) (w2 : (Lit.int .u8 a2).wf = true) (hj : a2 % 4 = 2) :
    Calls Try.prog 6 #[.agg #[.int .i64 a0x0, .int .i64 a0x1, .int .i64 a0x2, .int .i64 a0x3, .int .i64 a0x4, .int .i64 a0x5, .int .i64 a0x6, .int .i64 a0x7, .int .i64 a0x8, .int .i64 a0x9], .slice a1 len1 cap1, .int .u8 a2] w fun e w' => e = .returned (.bool true) ∧ Below w.heap.size w w' := by
  clear w0x0 w0x1 w0x2 w0x3 w0x4 w0x5 w0x6 w0x7 w0x8 w0x9
  have hw2 : 0 ≤ a2 ∧ a2 ≤ 255 := by simpa [Lit.wf, IntKind.min, IntKind.max, IntKind.signed, IntKind.bits] using w2
  have hj2 : Int.tmod a2 4 = 2 := by rw [Int.tmod_eq_emod_of_nonneg hw2.1]; exact hj
  clear w2
  obtain ⟨hl, hm⟩ := rows_nil r1
  unfold maxLen at hm
  obtain ⟨b, h⟩ : ∃ b, chkB a0x0 a0x1 a0x2 a0x3 a0x4 a0x5 a0x6 a0x7 a0x8 a0x9 = b := ⟨_, rfl⟩
  have hR := hide r1
  clear r1
  cases b
  · have KC := check_bad a0x0 a0x1 a0x2 a0x3 a0x4 a0x5 a0x6 a0x7 a0x8 a0x9 h
    clear h hj hj2
    go_enter Try.func6, Try.ntmps6
    go_wp2_with (first | (go_at_call 10; (with_reducible refine (awake_true _ _ (Gar.refl _)).mono ?_); rintro e w' ⟨rfl, os1, n1, rfl⟩) | (go_at_call 12; (with_reducible refine (KC _).mono ?_); rintro e w' ⟨rfl, rfl⟩))
    go_returns
    exact ⟨rfl, show Bel _ _ from Gar.bel (by repeat (first | exact Gar.refl _ | refine Gar.drewN ?_ _ | refine Gar.drew ?_ | refine Gar.alloc ?_ _ | refine Gar.allocs ?_ _))⟩
  have KC := check_ok a0x0 a0x1 a0x2 a0x3 a0x4 a0x5 a0x6 a0x7 a0x8 a0x9 h
  by_cases hlen : 300 < len1
  · clear h hj hj2
    go_enter Try.func6, Try.ntmps6
    go_wp2_with (first | (go_at_call 10; (with_reducible refine (awake_true _ _ (Gar.refl _)).mono ?_); rintro e w' ⟨rfl, os1, n1, rfl⟩) | (go_at_call 12; (with_reducible refine (KC _).mono ?_); rintro e w' ⟨rfl, rfl⟩))
    go_returns
    exact ⟨rfl, show Bel _ _ from Gar.bel (by repeat (first | exact Gar.refl _ | refine Gar.drewN ?_ _ | refine Gar.drew ?_ | refine Gar.alloc ?_ _ | refine Gar.allocs ?_ _))⟩
  have hlen2 : len1 ≤ 300 := by omega
  have hdl : decide ((300 : Int) < (len1 : Int)) = false := decide_eq_false (by omega)
  clear hlen
  go_enter Try.func6, Try.ntmps6
  go_wp2_with (first | (go_at_call 10; (with_reducible refine (awake_true _ _ (Gar.refl _)).mono ?_); rintro e w' ⟨rfl, os1, n1, rfl⟩) | (go_at_call 12; (with_reducible refine (KC _).mono ?_); rintro e w' ⟨rfl, rfl⟩))
  clear hj hj2
  go_loopw [10] (fun i wr => ∃ (k : Nat) (f0 f1 f2 f3 p0 p1 p3 : Int) (g0 g1 g2 g3 y0 y1 y3 : Bool), i = .int .i64 k ∧ k ≤ len1 ∧ Gar ((((allocs (w.alloc (.cells #[.int .i64 a0x0, .int .i64 a0x1, .int .i64 a0x2, .int .i64 a0x3, .int .i64 a0x4, .int .i64 a0x5, .int .i64 a0x6, .int .i64 a0x7, .int .i64 a0x8, .int .i64 a0x9] 24)) os1).alloc (.cells #[.int .i64 a0x0, .int .i64 a0x1, .int .i64 a0x2, .int .i64 a0x3, .int .i64 a0x4, .int .i64 a0x5, .int .i64 a0x6, .int .i64 a0x7, .int .i64 a0x8, .int .i64 a0x9] 24)).alloc (.cells #[.int .i64 f0, .int .i64 f1, .int .i64 f2, .int .i64 f3, .bool g0, .bool g1, .bool g2, .bool g3] 42)).alloc (.cells #[.int .i64 p0, .int .i64 p1, .int .i64 f2, .int .i64 p3, .bool y0, .bool y1, .bool g2, .bool y3] 42)) wr) (fun i _ => len1 - (intOf i).toNat)
  case atStart => exact ⟨0, 0, 0, 0, 0, 0, 0, 0, false, false, false, false, false, false, false, rfl, Nat.zero_le _, by repeat (first | exact Gar.refl _ | refine Gar.drewN ?_ _ | refine Gar.drew ?_ | refine Gar.alloc ?_ _ | refine Gar.allocs ?_ _)⟩
  case round =>
    obtain ⟨k, f0, f1, f2, f3, p0, p1, p3, g0, g1, g2, g3, y0, y1, y3, rfl, hk, ⟨os, n, rfl⟩⟩ := hrel
    by_cases hlt : k < len1
    · obtain ⟨b, off, rfl, hrow⟩ := rows_14i hR.out (by omega)
      obtain ⟨d0, d1, d2, d3, d4, d5, d6, d7, d8, d9, d10, d11, d12, d13, w0, w1, w2, w3, w4, w5, w6, w7, w8, w9, w10, w11, w12, w13⟩ := hrow k hlt
      clear hrow hR
      have hbb := World.block_lt_of_cell? w _ w0
      obtain ⟨l1, l2, l3, l4, l5, l6, l7, l8⟩ := lt_all hbb
      obtain ⟨l9, l10, l11, l12, l13, l14, l15, l16⟩ := lt_more hbb
      have j1 : (0 : Int) ≤ (k : Int) := by omega
      have j2 : (k : Int) < (len1 : Int) := by omega
      have j3 : (k : Int) < (cap1 : Int) := by omega
      have KS := fun w => step_ok a0x0 a0x1 a0x2 a0x3 a0x4 a0x5 a0x6 a0x7 a0x8 a0x9 f0 f1 f2 f3 g0 g1 g2 g3 d0 d1 d2 d3 d4 d5 d6 h w w (Gar.refl _)
      have KT := fun w => step_ok a0x0 a0x1 a0x2 a0x3 a0x4 a0x5 a0x6 a0x7 a0x8 a0x9 p0 p1 f2 p3 y0 y1 g2 y3 d7 d8 d9 d3 d4 d12 d13 h w w (Gar.refl _)
      clear h
      generalize mF (q0 a0x0 d0 d1 d2) f0 a0x6 = v0 at *
      generalize mF (lostB a0x1 a0x2 d0 d1 d2) f1 a0x7 = v1 at *
      generalize mF (q2 a0x3 a0x4 d3 d4) f2 a0x8 = v2 at *
      generalize mF (q3 a0x5 d5 d6) f3 a0x9 = v3 at *
      generalize mG (q0 a0x0 d0 d1 d2) g0 f0 a0x6 = v4 at *
      generalize mG (lostB a0x1 a0x2 d0 d1 d2) g1 f1 a0x7 = v5 at *
      generalize mG (q2 a0x3 a0x4 d3 d4) g2 f2 a0x8 = v6 at *
      generalize mG (q3 a0x5 d5 d6) g3 f3 a0x9 = v7 at *
      generalize mF (q0 a0x0 d7 d8 d9) p0 a0x6 = u0 at *
      generalize mF (lostB a0x1 a0x2 d7 d8 d9) p1 a0x7 = u1 at *
      generalize mF (q3 a0x5 d12 d13) p3 a0x9 = u3 at *
      generalize mG (q0 a0x0 d7 d8 d9) y0 p0 a0x6 = u4 at *
      generalize mG (lostB a0x1 a0x2 d7 d8 d9) y1 p1 a0x7 = u5 at *
      generalize mG (q3 a0x5 d12 d13) y3 p3 a0x9 = u7 at *
      go_wp2_with (fail)
      go_region_held3 (fun w' => w'.cell? ⟨b, off + k * 14, none⟩ = some (.int .i64 d0) ∧ w'.cell? ⟨b, off + k * 14 + 1, none⟩ = some (.int .i64 d1) ∧ w'.cell? ⟨b, off + k * 14 + 2, none⟩ = some (.int .i64 d2) ∧ w'.cell? ⟨b, off + k * 14 + 3, none⟩ = some (.int .i64 d3) ∧ w'.cell? ⟨b, off + k * 14 + 4, none⟩ = some (.int .i64 d4) ∧ w'.cell? ⟨b, off + k * 14 + 5, none⟩ = some (.int .i64 d5) ∧ w'.cell? ⟨b, off + k * 14 + 6, none⟩ = some (.int .i64 d6) ∧ w'.cell? ⟨b, off + k * 14 + 7, none⟩ = some (.int .i64 d7) ∧ w'.cell? ⟨b, off + k * 14 + 8, none⟩ = some (.int .i64 d8) ∧ w'.cell? ⟨b, off + k * 14 + 9, none⟩ = some (.int .i64 d9) ∧ w'.cell? ⟨b, off + k * 14 + 10, none⟩ = some (.int .i64 d10) ∧ w'.cell? ⟨b, off + k * 14 + 11, none⟩ = some (.int .i64 d11) ∧ w'.cell? ⟨b, off + k * 14 + 12, none⟩ = some (.int .i64 d12) ∧ w'.cell? ⟨b, off + k * 14 + 13, none⟩ = some (.int .i64 d13))
        ((refine ⟨?_, ?_, ?_, ?_, ?_, ?_, ?_, ?_, ?_, ?_, ?_, ?_, ?_, ?_⟩ <;> first | assumption | (simp; done) | go_simp))
        (first
          | fail
        )
      all_goals
        go_wp2_with (fail)
        apply merge
        · intro hx
          go_region
          all_goals with_reducible exact hx.out
        go_wp2_with (fail)
        go_wp2_with (first | (go_at_call 16; (first | (with_reducible refine (KS _).mono ?_) | (with_reducible refine (KT _).mono ?_)); rintro e w' ⟨rfl, os5, n5, rfl⟩))
        go_quiet (fail)
        go_wp2_with (fail)
        apply merge
        · intro hx
          go_region
          all_goals with_reducible exact hx.out
        go_wp2_with (fail)
        go_roundw
        case rel => exact ⟨k + 1, _, _, _, _, _, _, _, _, _, _, _, _, _, _, by go_num, by omega, by repeat (first | exact Gar.refl _ | refine Gar.drewN ?_ _ | refine Gar.drew ?_ | refine Gar.alloc ?_ _ | refine Gar.allocs ?_ _)⟩
        case measure => simp [intOf]; omega
    · clear hR
      go_wp2_with (fail)
      go_returns
      exact ⟨rfl, show Bel _ _ from Gar.bel (by repeat (first | exact Gar.refl _ | refine Gar.drewN ?_ _ | refine Gar.drew ?_ | refine Gar.alloc ?_ _ | refine Gar.allocs ?_ _))⟩
set_option maxRecDepth 100000 in
set_option maxHeartbeats 8000000 in
theorem apart3 (a0x0 a0x1 a0x2 a0x3 a0x4 a0x5 a0x6 a0x7 a0x8 a0x9 : Int) (a1 : Option Addr) (len1 cap1 : Nat) (D1 : Nat → List Value) (a2 : Int) (w : World) (w0x0 : (Lit.int .i64 a0x0).wf = true) (w0x1 : (Lit.int .i64 a0x1).wf = true) (w0x2 : (Lit.int .i64 a0x2).wf = true) (w0x3 : (Lit.int .i64 a0x3).wf = true) (w0x4 : (Lit.int .i64 a0x4).wf = true) (w0x5 : (Lit.int .i64 a0x5).wf = true) (w0x6 : (Lit.int .i64 a0x6).wf = true) (w0x7 : (Lit.int .i64 a0x7).wf = true) (w0x8 : (Lit.int .i64 a0x8).wf = true) (w0x9 : (Lit.int .i64 a0x9).wf = true) (r1 : IsRows [some .i64, some .i64, some .i64, some .i64, some .i64, some .i64, some .i64, some .i64, some .i64, some .i64, some .i64, some .i64, some .i64, some .i64] w a1 len1 cap1 D1) (w2 : (Lit.int .u8 a2).wf = true) (hj : a2 % 4 = 3) :
    Calls Try.prog 6 #[.agg #[.int .i64 a0x0, .int .i64 a0x1, .int .i64 a0x2, .int .i64 a0x3, .int .i64 a0x4, .int .i64 a0x5, .int .i64 a0x6, .int .i64 a0x7, .int .i64 a0x8, .int .i64 a0x9], .slice a1 len1 cap1, .int .u8 a2] w fun e w' => e = .returned (.bool true) ∧ Below w.heap.size w w' := by
  clear w0x0 w0x1 w0x2 w0x3 w0x4 w0x5 w0x6 w0x7 w0x8 w0x9
  have hw2 : 0 ≤ a2 ∧ a2 ≤ 255 := by simpa [Lit.wf, IntKind.min, IntKind.max, IntKind.signed, IntKind.bits] using w2
  have hj2 : Int.tmod a2 4 = 3 := by rw [Int.tmod_eq_emod_of_nonneg hw2.1]; exact hj
  clear w2
  obtain ⟨hl, hm⟩ := rows_nil r1
  unfold maxLen at hm
  obtain ⟨b, h⟩ : ∃ b, chkB a0x0 a0x1 a0x2 a0x3 a0x4 a0x5 a0x6 a0x7 a0x8 a0x9 = b := ⟨_, rfl⟩
  have hR := hide r1
  clear r1
  cases b
  · have KC := check_bad a0x0 a0x1 a0x2 a0x3 a0x4 a0x5 a0x6 a0x7 a0x8 a0x9 h
    clear h hj hj2
    go_enter Try.func6, Try.ntmps6
    go_wp2_with (first | (go_at_call 10; (with_reducible refine (awake_true _ _ (Gar.refl _)).mono ?_); rintro e w' ⟨rfl, os1, n1, rfl⟩) | (go_at_call 12; (with_reducible refine (KC _).mono ?_); rintro e w' ⟨rfl, rfl⟩))
    go_returns
    exact ⟨rfl, show Bel _ _ from Gar.bel (by repeat (first | exact Gar.refl _ | refine Gar.drewN ?_ _ | refine Gar.drew ?_ | refine Gar.alloc ?_ _ | refine Gar.allocs ?_ _))⟩
  have KC := check_ok a0x0 a0x1 a0x2 a0x3 a0x4 a0x5 a0x6 a0x7 a0x8 a0x9 h
  by_cases hlen : 300 < len1
  · clear h hj hj2
    go_enter Try.func6, Try.ntmps6
    go_wp2_with (first | (go_at_call 10; (with_reducible refine (awake_true _ _ (Gar.refl _)).mono ?_); rintro e w' ⟨rfl, os1, n1, rfl⟩) | (go_at_call 12; (with_reducible refine (KC _).mono ?_); rintro e w' ⟨rfl, rfl⟩))
    go_returns
    exact ⟨rfl, show Bel _ _ from Gar.bel (by repeat (first | exact Gar.refl _ | refine Gar.drewN ?_ _ | refine Gar.drew ?_ | refine Gar.alloc ?_ _ | refine Gar.allocs ?_ _))⟩
  have hlen2 : len1 ≤ 300 := by omega
  have hdl : decide ((300 : Int) < (len1 : Int)) = false := decide_eq_false (by omega)
  clear hlen
  go_enter Try.func6, Try.ntmps6
  go_wp2_with (first | (go_at_call 10; (with_reducible refine (awake_true _ _ (Gar.refl _)).mono ?_); rintro e w' ⟨rfl, os1, n1, rfl⟩) | (go_at_call 12; (with_reducible refine (KC _).mono ?_); rintro e w' ⟨rfl, rfl⟩))
  clear hj hj2
  go_loopw [10] (fun i wr => ∃ (k : Nat) (f0 f1 f2 f3 p0 p1 p2 : Int) (g0 g1 g2 g3 y0 y1 y2 : Bool), i = .int .i64 k ∧ k ≤ len1 ∧ Gar ((((allocs (w.alloc (.cells #[.int .i64 a0x0, .int .i64 a0x1, .int .i64 a0x2, .int .i64 a0x3, .int .i64 a0x4, .int .i64 a0x5, .int .i64 a0x6, .int .i64 a0x7, .int .i64 a0x8, .int .i64 a0x9] 24)) os1).alloc (.cells #[.int .i64 a0x0, .int .i64 a0x1, .int .i64 a0x2, .int .i64 a0x3, .int .i64 a0x4, .int .i64 a0x5, .int .i64 a0x6, .int .i64 a0x7, .int .i64 a0x8, .int .i64 a0x9] 24)).alloc (.cells #[.int .i64 f0, .int .i64 f1, .int .i64 f2, .int .i64 f3, .bool g0, .bool g1, .bool g2, .bool g3] 42)).alloc (.cells #[.int .i64 p0, .int .i64 p1, .int .i64 p2, .int .i64 f3, .bool y0, .bool y1, .bool y2, .bool g3] 42)) wr) (fun i _ => len1 - (intOf i).toNat)
  case atStart => exact ⟨0, 0, 0, 0, 0, 0, 0, 0, false, false, false, false, false, false, false, rfl, Nat.zero_le _, by repeat (first | exact Gar.refl _ | refine Gar.drewN ?_ _ | refine Gar.drew ?_ | refine Gar.alloc ?_ _ | refine Gar.allocs ?_ _)⟩
  case round =>
    obtain ⟨k, f0, f1, f2, f3, p0, p1, p2, g0, g1, g2, g3, y0, y1, y2, rfl, hk, ⟨os, n, rfl⟩⟩ := hrel
    by_cases hlt : k < len1
    · obtain ⟨b, off, rfl, hrow⟩ := rows_14i hR.out (by omega)
      obtain ⟨d0, d1, d2, d3, d4, d5, d6, d7, d8, d9, d10, d11, d12, d13, w0, w1, w2, w3, w4, w5, w6, w7, w8, w9, w10, w11, w12, w13⟩ := hrow k hlt
      clear hrow hR
      have hbb := World.block_lt_of_cell? w _ w0
      obtain ⟨l1, l2, l3, l4, l5, l6, l7, l8⟩ := lt_all hbb
      obtain ⟨l9, l10, l11, l12, l13, l14, l15, l16⟩ := lt_more hbb
      have j1 : (0 : Int) ≤ (k : Int) := by omega
      have j2 : (k : Int) < (len1 : Int) := by omega
      have j3 : (k : Int) < (cap1 : Int) := by omega
      have KS := fun w => step_ok a0x0 a0x1 a0x2 a0x3 a0x4 a0x5 a0x6 a0x7 a0x8 a0x9 f0 f1 f2 f3 g0 g1 g2 g3 d0 d1 d2 d3 d4 d5 d6 h w w (Gar.refl _)
      have KT := fun w => step_ok a0x0 a0x1 a0x2 a0x3 a0x4 a0x5 a0x6 a0x7 a0x8 a0x9 p0 p1 p2 f3 y0 y1 y2 g3 d7 d8 d9 d10 d11 d5 d6 h w w (Gar.refl _)
      clear h
      generalize mF (q0 a0x0 d0 d1 d2) f0 a0x6 = v0 at *
      generalize mF (lostB a0x1 a0x2 d0 d1 d2) f1 a0x7 = v1 at *
      generalize mF (q2 a0x3 a0x4 d3 d4) f2 a0x8 = v2 at *
      generalize mF (q3 a0x5 d5 d6) f3 a0x9 = v3 at *
      generalize mG (q0 a0x0 d0 d1 d2) g0 f0 a0x6 = v4 at *
      generalize mG (lostB a0x1 a0x2 d0 d1 d2) g1 f1 a0x7 = v5 at *
      generalize mG (q2 a0x3 a0x4 d3 d4) g2 f2 a0x8 = v6 at *
      generalize mG (q3 a0x5 d5 d6) g3 f3 a0x9 = v7 at *
      generalize mF (q0 a0x0 d7 d8 d9) p0 a0x6 = u0 at *
      generalize mF (lostB a0x1 a0x2 d7 d8 d9) p1 a0x7 = u1 at *
      generalize mF (q2 a0x3 a0x4 d10 d11) p2 a0x8 = u2 at *
      generalize mG (q0 a0x0 d7 d8 d9) y0 p0 a0x6 = u4 at *
      generalize mG (lostB a0x1 a0x2 d7 d8 d9) y1 p1 a0x7 = u5 at *
      generalize mG (q2 a0x3 a0x4 d10 d11) y2 p2 a0x8 = u6 at *
      go_wp2_with (fail)
      go_region_held3 (fun w' => w'.cell? ⟨b, off + k * 14, none⟩ = some (.int .i64 d0) ∧ w'.cell? ⟨b, off + k * 14 + 1, none⟩ = some (.int .i64 d1) ∧ w'.cell? ⟨b, off + k * 14 + 2, none⟩ = some (.int .i64 d2) ∧ w'.cell? ⟨b, off + k * 14 + 3, none⟩ = some (.int .i64 d3) ∧ w'.cell? ⟨b, off + k * 14 + 4, none⟩ = some (.int .i64 d4) ∧ w'.cell? ⟨b, off + k * 14 + 5, none⟩ = some (.int .i64 d5) ∧ w'.cell? ⟨b, off + k * 14 + 6, none⟩ = some (.int .i64 d6) ∧ w'.cell? ⟨b, off + k * 14 + 7, none⟩ = some (.int .i64 d7) ∧ w'.cell? ⟨b, off + k * 14 + 8, none⟩ = some (.int .i64 d8) ∧ w'.cell? ⟨b, off + k * 14 + 9, none⟩ = some (.int .i64 d9) ∧ w'.cell? ⟨b, off + k * 14 + 10, none⟩ = some (.int .i64 d10) ∧ w'.cell? ⟨b, off + k * 14 + 11, none⟩ = some (.int .i64 d11) ∧ w'.cell? ⟨b, off + k * 14 + 12, none⟩ = some (.int .i64 d12) ∧ w'.cell? ⟨b, off + k * 14 + 13, none⟩ = some (.int .i64 d13))
        ((refine ⟨?_, ?_, ?_, ?_, ?_, ?_, ?_, ?_, ?_, ?_, ?_, ?_, ?_, ?_⟩ <;> first | assumption | (simp; done) | go_simp))
        (first
          | fail
        )
      all_goals
        go_wp2_with (fail)
        apply merge
        · intro hx
          go_region
          all_goals with_reducible exact hx.out
        go_wp2_with (fail)
        go_wp2_with (first | (go_at_call 16; (first | (with_reducible refine (KS _).mono ?_) | (with_reducible refine (KT _).mono ?_)); rintro e w' ⟨rfl, os5, n5, rfl⟩))
        go_quiet (fail)
        go_wp2_with (fail)
        apply merge
        · intro hx
          go_region
          all_goals with_reducible exact hx.out
        go_wp2_with (fail)
        go_roundw
        case rel => exact ⟨k + 1, _, _, _, _, _, _, _, _, _, _, _, _, _, _, by go_num, by omega, by repeat (first | exact Gar.refl _ | refine Gar.drewN ?_ _ | refine Gar.drew ?_ | refine Gar.alloc ?_ _ | refine Gar.allocs ?_ _)⟩
        case measure => simp [intOf]; omega
    · clear hR
      go_wp2_with (fail)
      go_returns
      exact ⟨rfl, show Bel _ _ from Gar.bel (by repeat (first | exact Gar.refl _ | refine Gar.drewN ?_ _ | refine Gar.drew ?_ | refine Gar.alloc ?_ _ | refine Gar.allocs ?_ _))⟩
set_option maxRecDepth 100000 in
set_option maxHeartbeats 8000000 in
theorem monitorApart_walk (a0x0 a0x1 a0x2 a0x3 a0x4 a0x5 a0x6 a0x7 a0x8 a0x9 : Int) (a1 : Option Addr) (len1 cap1 : Nat) (D1 : Nat → List Value) (a2 : Int) (w : World) (w0x0 : (Lit.int .i64 a0x0).wf = true) (w0x1 : (Lit.int .i64 a0x1).wf = true) (w0x2 : (Lit.int .i64 a0x2).wf = true) (w0x3 : (Lit.int .i64 a0x3).wf = true) (w0x4 : (Lit.int .i64 a0x4).wf = true) (w0x5 : (Lit.int .i64 a0x5).wf = true) (w0x6 : (Lit.int .i64 a0x6).wf = true) (w0x7 : (Lit.int .i64 a0x7).wf = true) (w0x8 : (Lit.int .i64 a0x8).wf = true) (w0x9 : (Lit.int .i64 a0x9).wf = true) (r1 : IsRows [some .i64, some .i64, some .i64, some .i64, some .i64, some .i64, some .i64, some .i64, some .i64, some .i64, some .i64, some .i64, some .i64, some .i64] w a1 len1 cap1 D1) (w2 : (Lit.int .u8 a2).wf = true) :
    Calls Try.prog 6 #[.agg #[.int .i64 a0x0, .int .i64 a0x1, .int .i64 a0x2, .int .i64 a0x3, .int .i64 a0x4, .int .i64 a0x5, .int .i64 a0x6, .int .i64 a0x7, .int .i64 a0x8, .int .i64 a0x9], .slice a1 len1 cap1, .int .u8 a2] w fun e w' => e = .returned (.bool true) ∧ Below w.heap.size w w' := by
  have hw2 : 0 ≤ a2 ∧ a2 ≤ 255 := by simpa [Lit.wf, IntKind.min, IntKind.max, IntKind.signed, IntKind.bits] using w2
  rcases (show a2 % 4 = 0 ∨ a2 % 4 = 1 ∨ a2 % 4 = 2 ∨ a2 % 4 = 3 by omega) with hj | hj | hj | hj
  · exact apart0 a0x0 a0x1 a0x2 a0x3 a0x4 a0x5 a0x6 a0x7 a0x8 a0x9 a1 len1 cap1 D1 a2 w w0x0 w0x1 w0x2 w0x3 w0x4 w0x5 w0x6 w0x7 w0x8 w0x9 r1 w2 hj
  · exact apart1 a0x0 a0x1 a0x2 a0x3 a0x4 a0x5 a0x6 a0x7 a0x8 a0x9 a1 len1 cap1 D1 a2 w w0x0 w0x1 w0x2 w0x3 w0x4 w0x5 w0x6 w0x7 w0x8 w0x9 r1 w2 hj
  · exact apart2 a0x0 a0x1 a0x2 a0x3 a0x4 a0x5 a0x6 a0x7 a0x8 a0x9 a1 len1 cap1 D1 a2 w w0x0 w0x1 w0x2 w0x3 w0x4 w0x5 w0x6 w0x7 w0x8 w0x9 r1 w2 hj
  · exact apart3 a0x0 a0x1 a0x2 a0x3 a0x4 a0x5 a0x6 a0x7 a0x8 a0x9 a1 len1 cap1 D1 a2 w w0x0 w0x1 w0x2 w0x3 w0x4 w0x5 w0x6 w0x7 w0x8 w0x9 r1 w2 hj
end Go.Proofs.Ytlppolaoigbkeaa
