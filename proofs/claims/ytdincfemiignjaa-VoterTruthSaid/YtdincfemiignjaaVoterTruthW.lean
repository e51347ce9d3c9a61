/- The walk of the law VoterTruth. -/
import Derived.Test.YtdincfemiignjaaVotA
import Derived.Test.YtdincfemiignjaaVotX
import Derived.Test.YtdincfemiignjaaVotI
import Derived.Test.YtdincfemiignjaaFlat
import Derived.Test.YtdincfemiignjaaTail
namespace Go.Proofs.Ytdincfemiignjaa
open Go.RowKit
set_option linter.unusedVariables false
set_option linter.unusedSimpArgs false
attribute [local go_sem ↓] Go.wp_at_zero Go.wp_at_succ

theorem is_errno (n k : Int) (w : World) : Calls Try.prog 21 #[.iface 57 (.int .i64 n), .int .i64 k] w fun e w' => e = .returned (.bool (n == k)) ∧ w = w' := by
  have ht : ∀ w, (Instr.typeAssert (.iface 57 (.int .i64 n)) 34 57 true).run Try.prog w = .ok (.tuple #[.int .i64 n, .bool true]) w := fun _ => by kernel_rfl
  go_enter Try.func21, Try.ntmps21
  go_wp2
  (try go_returns)
  exact ⟨rfl, rfl⟩
set_option maxRecDepth 100000 in
set_option maxHeartbeats 8000000 in
theorem voterTruth_walk (a0x0 a0x1 a0x2 a0x3 a0x4 a0x5 a0x6 : Int) (a1x0 a1x1 a1x2 : Int) (a1x3 a1x4 a1x5 : Bool) (a1x6 : Int) (a2x0 a2x1 a2x2 a2x3 : Int) (a2x4 a2x5 a2x6 : Bool) (a2x7 a2x8 a2x9 a2x10 : Int) (a2x11 a2x12 a2x13 : Bool) (w : World) (w0x0 : (Lit.int .i64 a0x0).wf = true) (w0x1 : (Lit.int .i64 a0x1).wf = true) (w0x2 : (Lit.int .i64 a0x2).wf = true) (w0x3 : (Lit.int .i64 a0x3).wf = true) (w0x4 : (Lit.int .i64 a0x4).wf = true) (w0x5 : (Lit.int .i64 a0x5).wf = true) (w0x6 : (Lit.int .i64 a0x6).wf = true) (w1x0 : (Lit.int .i64 a1x0).wf = true) (w1x1 : (Lit.int .i64 a1x1).wf = true) (w1x2 : (Lit.int .i64 a1x2).wf = true) (w1x6 : (Lit.int .i64 a1x6).wf = true) (w2x0 : (Lit.int .i64 a2x0).wf = true) (w2x1 : (Lit.int .i64 a2x1).wf = true) (w2x2 : (Lit.int .i64 a2x2).wf = true) (w2x3 : (Lit.int .i64 a2x3).wf = true) (w2x7 : (Lit.int .i64 a2x7).wf = true) (w2x8 : (Lit.int .i64 a2x8).wf = true) (w2x9 : (Lit.int .i64 a2x9).wf = true) (w2x10 : (Lit.int .i64 a2x10).wf = true) :
    Calls Try.prog 5 #[.agg #[.int .i64 a0x0, .int .i64 a0x1, .int .i64 a0x2, .int .i64 a0x3, .int .i64 a0x4, .int .i64 a0x5, .int .i64 a0x6], .agg #[.int .i64 a1x0, .int .i64 a1x1, .int .i64 a1x2, .bool a1x3, .bool a1x4, .bool a1x5, .int .i64 a1x6], .agg #[.int .i64 a2x0, .int .i64 a2x1, .int .i64 a2x2, .int .i64 a2x3, .bool a2x4, .bool a2x5, .bool a2x6, .int .i64 a2x7, .int .i64 a2x8, .int .i64 a2x9, .int .i64 a2x10, .bool a2x11, .bool a2x12, .bool a2x13]] w fun e w' => e = .returned (.bool true) ∧ Below w.heap.size w w' := by
  clear w0x0 w0x1 w0x2 w0x3 w0x4 w0x5 w0x6 w1x0 w1x1 w1x2 w1x6 w2x0 w2x1 w2x2 w2x3 w2x7 w2x8 w2x9 w2x10
  by_cases hco : vcode a0x0 a0x1 a0x2 a0x3 a0x4 a0x5 a0x6 = 0
  rotate_left
  · have KD := rcheck_any a0x0 a0x1 a0x2 a0x3 a0x4 a0x5 a0x6
    generalize vcode a0x0 a0x1 a0x2 a0x3 a0x4 a0x5 a0x6 = c at *
    have hc1 : (c == 0) = false := by simpa using hco
    have hc2 : (c != 0) = true := by simpa using hco
    clear hco
    go_enter Try.func5, Try.ntmps5
    go_wp2_with (first | (go_at_call 15; (with_reducible refine (KD _).mono ?_); rintro e w' ⟨rfl, os0, n0, rfl⟩) | (go_at_call 8; (with_reducible refine (awake_true _ _ (Gar.refl _)).mono ?_); rintro e w' ⟨rfl, os1, n1, rfl⟩))
    go_returns
    exact ⟨rfl, show Bel _ _ from Gar.bel (by repeat (first | exact Gar.refl _ | refine Gar.drewN ?_ _ | refine Gar.drew ?_ | refine Gar.alloc ?_ _ | refine Gar.allocs ?_ _))⟩
  have KD := rcheck_any a0x0 a0x1 a0x2 a0x3 a0x4 a0x5 a0x6
  rw [hco] at KD
  have he := (vcode_in hco).1
  have KC := clip_any a2x7 0 3
  have bC := clp_bd a2x7 0 3 (by omega)
  generalize clp a2x7 0 3 = l at *
  rcases (show l = 0 ∨ l = 1 ∨ l = 2 ∨ l = 3 by omega) with rfl | rfl | rfl | rfl
  · clear bC
    have KI := fun w => input_0 a2x0 a2x1 a2x2 a2x3 a2x4 a2x5 a2x6 a0x0 a0x1 a0x2 a0x3 a0x4 a0x5 a0x6 he w w (Gar.refl _)
    obtain ⟨Q0, hQ0⟩ : ∃ q, Int.tmod a2x0 65536 + inO true a2x1 a0x0 = q := ⟨_, rfl⟩
    obtain ⟨Q1, hQ1⟩ : ∃ q, Int.tmod a2x0 65536 + inO false a2x2 a0x1 = q := ⟨_, rfl⟩
    obtain ⟨Q2, hQ2⟩ : ∃ q, Int.tmod a2x0 65536 + inO false a2x3 a0x2 = q := ⟨_, rfl⟩
    have d0 : true = false → dst Q0 a2x0 ≤ a0x0 := fun h => by cases h
    have d1 : false = false → dst Q1 a2x0 ≤ a0x1 := fun h => by rw [← hQ1]; exact near (inO_ok he.2.1) he.2.1
    have d2 : false = false → dst Q2 a2x0 ≤ a0x2 := fun h => by rw [← hQ2]; exact near (inO_ok he.2.2) he.2.2
    rw [hQ0, hQ1, hQ2] at KI
    clear hQ0 hQ1 hQ2
    obtain ⟨u0, u1, u2, g01, g02, g12, ct, c0, c1, c2, cs, E0, E1, E2, ci, cw, hv⟩ := VS.ex a0x0 a0x1 a0x2 a0x3 a0x4 a0x5 a0x6 a1x0 a1x1 a1x2 a1x3 a1x4 a1x5 a1x6 Q0 Q1 Q2 a2x4 a2x5 a2x6
    have K1 := fun w => vstep_ok a0x0 a0x1 a0x2 a0x3 a0x4 a0x5 a0x6 a1x0 a1x1 a1x2 a1x3 a1x4 a1x5 a1x6 Q0 Q1 Q2 a2x4 a2x5 a2x6 u0 u1 u2 g01 g02 g12 ct c0 c1 c2 cs E0 E1 E2 ci cw hv hco w w (Gar.refl _)
    have K2 := fun w => vbound_ok a0x0 a0x1 a0x2 a0x3 a0x4 a0x5 a0x6 a1x0 a1x1 a1x2 a1x3 a1x4 a1x5 a1x6 Q0 Q1 Q2 a2x4 a2x5 a2x6 u0 u1 u2 g01 g02 g12 ct c0 c1 c2 cs E0 E1 E2 ci cw hv hco w w (Gar.refl _)
    have hT := truth_le (l0 := true) (l1 := false) (l2 := false) (t := a2x0) hv hco rfl rfl rfl d0 d1 d2
    have hbd : (ci = -1 ∧ cw = 0) ∨ ((0 ≤ ci ∧ ci ≤ 2) ∧ (1 ≤ cw ∧ cw ≤ 4)) := by
      obtain ⟨-, -, hpp⟩ := vcode_in hco
      obtain ⟨-, -, -, -, -, -, -, -, -, -, -, -, -, -, hch⟩ := hv
      exact chs_bd hch (by omega) (by omega) (by omega) (mdx_bd _ _ _)
    clear hv hco he d0 d1 d2
    skip
    rcases (show cw = 0 ∨ (cw = 1 ∨ cw = 2) ∨ (cw = 3 ∨ cw = 4) by omega) with rfl | hw | hw
    · clear hT hbd
      rw [if_pos rfl, show decide ((0 : Int) = 3) = false from rfl, show decide ((0 : Int) = 0) = true from rfl] at K1
      rw [show verr (berr 0) = .iface 57 (.int .i64 28) from rfl] at K2
      generalize vbnd ci 0 g01 g02 g12 a0x0 a0x1 a0x2 = BD at *
      go_enter Try.func5, Try.ntmps5
      go_wp2_with (first | (go_at_call 15; (with_reducible refine (KD _).mono ?_); rintro e w' ⟨rfl, os0, n0, rfl⟩) | (go_at_call 8; (with_reducible refine (awake_true _ _ (Gar.refl _)).mono ?_); rintro e w' ⟨rfl, os1, n1, rfl⟩) | (go_at_call 20; (with_reducible refine (KC _).mono ?_); rintro e w' ⟨rfl, rfl⟩) | (go_at_call 18; (with_reducible refine (KI _).mono ?_); rintro e w' ⟨rfl, os2, n2, rfl⟩) | (go_at_call 9; (with_reducible refine (K1 _).mono ?_); rintro e w' ⟨rfl, os3, n3, rfl⟩) | (go_at_call 10; (with_reducible refine (K2 _).mono ?_); rintro e w' ⟨rfl, os4, n4, rfl⟩) | (go_at_call 21; (with_reducible refine (is_errno _ _ _).mono ?_); rintro e w' ⟨rfl, rfl⟩))
      go_returns
      exact ⟨rfl, show Bel _ _ from Gar.bel (by repeat (first | exact Gar.refl _ | refine Gar.drewN ?_ _ | refine Gar.drew ?_ | refine Gar.alloc ?_ _ | refine Gar.allocs ?_ _))⟩
    · have hTT := hT hw
      have hw0 : cw ≠ 0 := by omega
      rw [if_neg hw0, decide_eq_false hw0, decide_eq_false (show cw ≠ 3 by omega)] at K1
      rw [show verr (berr cw) = Value.nilIface by rcases hw with rfl | rfl <;> rfl] at K2
      clear hT hbd hw hw0
      generalize vang ci Q0 Q1 Q2 = V at *
      generalize vbnd ci cw g01 g02 g12 a0x0 a0x1 a0x2 = BD at *
      have KT := dist_any V a2x0
      generalize dst V a2x0 = DD at *
      have hTd : decide (DD ≤ BD) = true := decide_eq_true hTT
      clear hTT
      go_enter Try.func5, Try.ntmps5
      go_wp2_with (first | (go_at_call 15; (with_reducible refine (KD _).mono ?_); rintro e w' ⟨rfl, os0, n0, rfl⟩) | (go_at_call 8; (with_reducible refine (awake_true _ _ (Gar.refl _)).mono ?_); rintro e w' ⟨rfl, os1, n1, rfl⟩) | (go_at_call 20; (with_reducible refine (KC _).mono ?_); rintro e w' ⟨rfl, rfl⟩) | (go_at_call 18; (with_reducible refine (KI _).mono ?_); rintro e w' ⟨rfl, os2, n2, rfl⟩) | (go_at_call 9; (with_reducible refine (K1 _).mono ?_); rintro e w' ⟨rfl, os3, n3, rfl⟩) | (go_at_call 10; (with_reducible refine (K2 _).mono ?_); rintro e w' ⟨rfl, os4, n4, rfl⟩) | (go_at_call 21; (with_reducible refine (is_errno _ _ _).mono ?_); rintro e w' ⟨rfl, rfl⟩) | (go_at_call 19; (with_reducible refine (KT _).mono ?_); rintro e w' ⟨rfl, rfl⟩))
      go_returns
      exact ⟨rfl, show Bel _ _ from Gar.bel (by repeat (first | exact Gar.refl _ | refine Gar.drewN ?_ _ | refine Gar.drew ?_ | refine Gar.alloc ?_ _ | refine Gar.allocs ?_ _))⟩
    · have hw0 : cw ≠ 0 := by omega
      rw [if_neg hw0, decide_eq_false hw0] at K1
      rw [show verr (berr cw) = .iface 57 (.int .i64 22) by rcases hw with rfl | rfl <;> rfl] at K2
      clear hT hbd hw hw0
      generalize vang ci Q0 Q1 Q2 = V at *
      generalize vbnd ci cw g01 g02 g12 a0x0 a0x1 a0x2 = BD at *
      generalize decide (cw = 3) = AL at *
      go_enter Try.func5, Try.ntmps5
      go_wp2_with (first | (go_at_call 15; (with_reducible refine (KD _).mono ?_); rintro e w' ⟨rfl, os0, n0, rfl⟩) | (go_at_call 8; (with_reducible refine (awake_true _ _ (Gar.refl _)).mono ?_); rintro e w' ⟨rfl, os1, n1, rfl⟩) | (go_at_call 20; (with_reducible refine (KC _).mono ?_); rintro e w' ⟨rfl, rfl⟩) | (go_at_call 18; (with_reducible refine (KI _).mono ?_); rintro e w' ⟨rfl, os2, n2, rfl⟩) | (go_at_call 9; (with_reducible refine (K1 _).mono ?_); rintro e w' ⟨rfl, os3, n3, rfl⟩) | (go_at_call 10; (with_reducible refine (K2 _).mono ?_); rintro e w' ⟨rfl, os4, n4, rfl⟩) | (go_at_call 21; (with_reducible refine (is_errno _ _ _).mono ?_); rintro e w' ⟨rfl, rfl⟩))
      go_returns
      exact ⟨rfl, show Bel _ _ from Gar.bel (by repeat (first | exact Gar.refl _ | refine Gar.drewN ?_ _ | refine Gar.drew ?_ | refine Gar.alloc ?_ _ | refine Gar.allocs ?_ _))⟩
  · clear bC
    have KI := fun w => input_1 a2x0 a2x1 a2x2 a2x3 a2x4 a2x5 a2x6 a0x0 a0x1 a0x2 a0x3 a0x4 a0x5 a0x6 he w w (Gar.refl _)
    obtain ⟨Q0, hQ0⟩ : ∃ q, Int.tmod a2x0 65536 + inO false a2x1 a0x0 = q := ⟨_, rfl⟩
    obtain ⟨Q1, hQ1⟩ : ∃ q, Int.tmod a2x0 65536 + inO true a2x2 a0x1 = q := ⟨_, rfl⟩
    obtain ⟨Q2, hQ2⟩ : ∃ q, Int.tmod a2x0 65536 + inO false a2x3 a0x2 = q := ⟨_, rfl⟩
    have d0 : false = false → dst Q0 a2x0 ≤ a0x0 := fun h => by rw [← hQ0]; exact near (inO_ok he.1) he.1
    have d1 : true = false → dst Q1 a2x0 ≤ a0x1 := fun h => by cases h
    have d2 : false = false → dst Q2 a2x0 ≤ a0x2 := fun h => by rw [← hQ2]; exact near (inO_ok he.2.2) he.2.2
    rw [hQ0, hQ1, hQ2] at KI
    clear hQ0 hQ1 hQ2
    obtain ⟨u0, u1, u2, g01, g02, g12, ct, c0, c1, c2, cs, E0, E1, E2, ci, cw, hv⟩ := VS.ex a0x0 a0x1 a0x2 a0x3 a0x4 a0x5 a0x6 a1x0 a1x1 a1x2 a1x3 a1x4 a1x5 a1x6 Q0 Q1 Q2 a2x4 a2x5 a2x6
    have K1 := fun w => vstep_ok a0x0 a0x1 a0x2 a0x3 a0x4 a0x5 a0x6 a1x0 a1x1 a1x2 a1x3 a1x4 a1x5 a1x6 Q0 Q1 Q2 a2x4 a2x5 a2x6 u0 u1 u2 g01 g02 g12 ct c0 c1 c2 cs E0 E1 E2 ci cw hv hco w w (Gar.refl _)
    have K2 := fun w => vbound_ok a0x0 a0x1 a0x2 a0x3 a0x4 a0x5 a0x6 a1x0 a1x1 a1x2 a1x3 a1x4 a1x5 a1x6 Q0 Q1 Q2 a2x4 a2x5 a2x6 u0 u1 u2 g01 g02 g12 ct c0 c1 c2 cs E0 E1 E2 ci cw hv hco w w (Gar.refl _)
    have hT := truth_le (l0 := false) (l1 := true) (l2 := false) (t := a2x0) hv hco rfl rfl rfl d0 d1 d2
    have hbd : (ci = -1 ∧ cw = 0) ∨ ((0 ≤ ci ∧ ci ≤ 2) ∧ (1 ≤ cw ∧ cw ≤ 4)) := by
      obtain ⟨-, -, hpp⟩ := vcode_in hco
      obtain ⟨-, -, -, -, -, -, -, -, -, -, -, -, -, -, hch⟩ := hv
      exact chs_bd hch (by omega) (by omega) (by omega) (mdx_bd _ _ _)
    clear hv hco he d0 d1 d2
    skip
    rcases (show cw = 0 ∨ (cw = 1 ∨ cw = 2) ∨ (cw = 3 ∨ cw = 4) by omega) with rfl | hw | hw
    · clear hT hbd
      rw [if_pos rfl, show decide ((0 : Int) = 3) = false from rfl, show decide ((0 : Int) = 0) = true from rfl] at K1
      rw [show verr (berr 0) = .iface 57 (.int .i64 28) from rfl] at K2
      generalize vbnd ci 0 g01 g02 g12 a0x0 a0x1 a0x2 = BD at *
      go_enter Try.func5, Try.ntmps5
      go_wp2_with (first | (go_at_call 15; (with_reducible refine (KD _).mono ?_); rintro e w' ⟨rfl, os0, n0, rfl⟩) | (go_at_call 8; (with_reducible refine (awake_true _ _ (Gar.refl _)).mono ?_); rintro e w' ⟨rfl, os1, n1, rfl⟩) | (go_at_call 20; (with_reducible refine (KC _).mono ?_); rintro e w' ⟨rfl, rfl⟩) | (go_at_call 18; (with_reducible refine (KI _).mono ?_); rintro e w' ⟨rfl, os2, n2, rfl⟩) | (go_at_call 9; (with_reducible refine (K1 _).mono ?_); rintro e w' ⟨rfl, os3, n3, rfl⟩) | (go_at_call 10; (with_reducible refine (K2 _).mono ?_); rintro e w' ⟨rfl, os4, n4, rfl⟩) | (go_at_call 21; (with_reducible refine (is_errno _ _ _).mono ?_); rintro e w' ⟨rfl, rfl⟩))
      go_returns
      exact ⟨rfl, show Bel _ _ from Gar.bel (by repeat (first | exact Gar.refl _ | refine Gar.drewN ?_ _ | refine Gar.drew ?_ | refine Gar.alloc ?_ _ | refine Gar.allocs ?_ _))⟩
    · have hTT := hT hw
      have hw0 : cw ≠ 0 := by omega
      rw [if_neg hw0, decide_eq_false hw0, decide_eq_false (show cw ≠ 3 by omega)] at K1
      rw [show verr (berr cw) = Value.nilIface by rcases hw with rfl | rfl <;> rfl] at K2
      clear hT hbd hw hw0
      generalize vang ci Q0 Q1 Q2 = V at *
      generalize vbnd ci cw g01 g02 g12 a0x0 a0x1 a0x2 = BD at *
      have KT := dist_any V a2x0
      generalize dst V a2x0 = DD at *
      have hTd : decide (DD ≤ BD) = true := decide_eq_true hTT
      clear hTT
      go_enter Try.func5, Try.ntmps5
      go_wp2_with (first | (go_at_call 15; (with_reducible refine (KD _).mono ?_); rintro e w' ⟨rfl, os0, n0, rfl⟩) | (go_at_call 8; (with_reducible refine (awake_true _ _ (Gar.refl _)).mono ?_); rintro e w' ⟨rfl, os1, n1, rfl⟩) | (go_at_call 20; (with_reducible refine (KC _).mono ?_); rintro e w' ⟨rfl, rfl⟩) | (go_at_call 18; (with_reducible refine (KI _).mono ?_); rintro e w' ⟨rfl, os2, n2, rfl⟩) | (go_at_call 9; (with_reducible refine (K1 _).mono ?_); rintro e w' ⟨rfl, os3, n3, rfl⟩) | (go_at_call 10; (with_reducible refine (K2 _).mono ?_); rintro e w' ⟨rfl, os4, n4, rfl⟩) | (go_at_call 21; (with_reducible refine (is_errno _ _ _).mono ?_); rintro e w' ⟨rfl, rfl⟩) | (go_at_call 19; (with_reducible refine (KT _).mono ?_); rintro e w' ⟨rfl, rfl⟩))
      go_returns
      exact ⟨rfl, show Bel _ _ from Gar.bel (by repeat (first | exact Gar.refl _ | refine Gar.drewN ?_ _ | refine Gar.drew ?_ | refine Gar.alloc ?_ _ | refine Gar.allocs ?_ _))⟩
    · have hw0 : cw ≠ 0 := by omega
      rw [if_neg hw0, decide_eq_false hw0] at K1
      rw [show verr (berr cw) = .iface 57 (.int .i64 22) by rcases hw with rfl | rfl <;> rfl] at K2
      clear hT hbd hw hw0
      generalize vang ci Q0 Q1 Q2 = V at *
      generalize vbnd ci cw g01 g02 g12 a0x0 a0x1 a0x2 = BD at *
      generalize decide (cw = 3) = AL at *
      go_enter Try.func5, Try.ntmps5
      go_wp2_with (first | (go_at_call 15; (with_reducible refine (KD _).mono ?_); rintro e w' ⟨rfl, os0, n0, rfl⟩) | (go_at_call 8; (with_reducible refine (awake_true _ _ (Gar.refl _)).mono ?_); rintro e w' ⟨rfl, os1, n1, rfl⟩) | (go_at_call 20; (with_reducible refine (KC _).mono ?_); rintro e w' ⟨rfl, rfl⟩) | (go_at_call 18; (with_reducible refine (KI _).mono ?_); rintro e w' ⟨rfl, os2, n2, rfl⟩) | (go_at_call 9; (with_reducible refine (K1 _).mono ?_); rintro e w' ⟨rfl, os3, n3, rfl⟩) | (go_at_call 10; (with_reducible refine (K2 _).mono ?_); rintro e w' ⟨rfl, os4, n4, rfl⟩) | (go_at_call 21; (with_reducible refine (is_errno _ _ _).mono ?_); rintro e w' ⟨rfl, rfl⟩))
      go_returns
      exact ⟨rfl, show Bel _ _ from Gar.bel (by repeat (first | exact Gar.refl _ | refine Gar.drewN ?_ _ | refine Gar.drew ?_ | refine Gar.alloc ?_ _ | refine Gar.allocs ?_ _))⟩
  · clear bC
    have KI := fun w => input_2 a2x0 a2x1 a2x2 a2x3 a2x4 a2x5 a2x6 a0x0 a0x1 a0x2 a0x3 a0x4 a0x5 a0x6 he w w (Gar.refl _)
    obtain ⟨Q0, hQ0⟩ : ∃ q, Int.tmod a2x0 65536 + inO false a2x1 a0x0 = q := ⟨_, rfl⟩
    obtain ⟨Q1, hQ1⟩ : ∃ q, Int.tmod a2x0 65536 + inO false a2x2 a0x1 = q := ⟨_, rfl⟩
    obtain ⟨Q2, hQ2⟩ : ∃ q, Int.tmod a2x0 65536 + inO true a2x3 a0x2 = q := ⟨_, rfl⟩
    have d0 : false = false → dst Q0 a2x0 ≤ a0x0 := fun h => by rw [← hQ0]; exact near (inO_ok he.1) he.1
    have d1 : false = false → dst Q1 a2x0 ≤ a0x1 := fun h => by rw [← hQ1]; exact near (inO_ok he.2.1) he.2.1
    have d2 : true = false → dst Q2 a2x0 ≤ a0x2 := fun h => by cases h
    rw [hQ0, hQ1, hQ2] at KI
    clear hQ0 hQ1 hQ2
    obtain ⟨u0, u1, u2, g01, g02, g12, ct, c0, c1, c2, cs, E0, E1, E2, ci, cw, hv⟩ := VS.ex a0x0 a0x1 a0x2 a0x3 a0x4 a0x5 a0x6 a1x0 a1x1 a1x2 a1x3 a1x4 a1x5 a1x6 Q0 Q1 Q2 a2x4 a2x5 a2x6
    have K1 := fun w => vstep_ok a0x0 a0x1 a0x2 a0x3 a0x4 a0x5 a0x6 a1x0 a1x1 a1x2 a1x3 a1x4 a1x5 a1x6 Q0 Q1 Q2 a2x4 a2x5 a2x6 u0 u1 u2 g01 g02 g12 ct c0 c1 c2 cs E0 E1 E2 ci cw hv hco w w (Gar.refl _)
    have K2 := fun w => vbound_ok a0x0 a0x1 a0x2 a0x3 a0x4 a0x5 a0x6 a1x0 a1x1 a1x2 a1x3 a1x4 a1x5 a1x6 Q0 Q1 Q2 a2x4 a2x5 a2x6 u0 u1 u2 g01 g02 g12 ct c0 c1 c2 cs E0 E1 E2 ci cw hv hco w w (Gar.refl _)
    have hT := truth_le (l0 := false) (l1 := false) (l2 := true) (t := a2x0) hv hco rfl rfl rfl d0 d1 d2
    have hbd : (ci = -1 ∧ cw = 0) ∨ ((0 ≤ ci ∧ ci ≤ 2) ∧ (1 ≤ cw ∧ cw ≤ 4)) := by
      obtain ⟨-, -, hpp⟩ := vcode_in hco
      obtain ⟨-, -, -, -, -, -, -, -, -, -, -, -, -, -, hch⟩ := hv
      exact chs_bd hch (by omega) (by omega) (by omega) (mdx_bd _ _ _)
    clear hv hco he d0 d1 d2
    skip
    rcases (show cw = 0 ∨ (cw = 1 ∨ cw = 2) ∨ (cw = 3 ∨ cw = 4) by omega) with rfl | hw | hw
    · clear hT hbd
      rw [if_pos rfl, show decide ((0 : Int) = 3) = false from rfl, show decide ((0 : Int) = 0) = true from rfl] at K1
      rw [show verr (berr 0) = .iface 57 (.int .i64 28) from rfl] at K2
      generalize vbnd ci 0 g01 g02 g12 a0x0 a0x1 a0x2 = BD at *
      go_enter Try.func5, Try.ntmps5
      go_wp2_with (first | (go_at_call 15; (with_reducible refine (KD _).mono ?_); rintro e w' ⟨rfl, os0, n0, rfl⟩) | (go_at_call 8; (with_reducible refine (awake_true _ _ (Gar.refl _)).mono ?_); rintro e w' ⟨rfl, os1, n1, rfl⟩) | (go_at_call 20; (with_reducible refine (KC _).mono ?_); rintro e w' ⟨rfl, rfl⟩) | (go_at_call 18; (with_reducible refine (KI _).mono ?_); rintro e w' ⟨rfl, os2, n2, rfl⟩) | (go_at_call 9; (with_reducible refine (K1 _).mono ?_); rintro e w' ⟨rfl, os3, n3, rfl⟩) | (go_at_call 10; (with_reducible refine (K2 _).mono ?_); rintro e w' ⟨rfl, os4, n4, rfl⟩) | (go_at_call 21; (with_reducible refine (is_errno _ _ _).mono ?_); rintro e w' ⟨rfl, rfl⟩))
      go_returns
      exact ⟨rfl, show Bel _ _ from Gar.bel (by repeat (first | exact Gar.refl _ | refine Gar.drewN ?_ _ | refine Gar.drew ?_ | refine Gar.alloc ?_ _ | refine Gar.allocs ?_ _))⟩
    · have hTT := hT hw
      have hw0 : cw ≠ 0 := by omega
      rw [if_neg hw0, decide_eq_false hw0, decide_eq_false (show cw ≠ 3 by omega)] at K1
      rw [show verr (berr cw) = Value.nilIface by rcases hw with rfl | rfl <;> rfl] at K2
      clear hT hbd hw hw0
      generalize vang ci Q0 Q1 Q2 = V at *
      generalize vbnd ci cw g01 g02 g12 a0x0 a0x1 a0x2 = BD at *
      have KT := dist_any V a2x0
      generalize dst V a2x0 = DD at *
      have hTd : decide (DD ≤ BD) = true := decide_eq_true hTT
      clear hTT
      go_enter Try.func5, Try.ntmps5
      go_wp2_with (first | (go_at_call 15; (with_reducible refine (KD _).mono ?_); rintro e w' ⟨rfl, os0, n0, rfl⟩) | (go_at_call 8; (with_reducible refine (awake_true _ _ (Gar.refl _)).mono ?_); rintro e w' ⟨rfl, os1, n1, rfl⟩) | (go_at_call 20; (with_reducible refine (KC _).mono ?_); rintro e w' ⟨rfl, rfl⟩) | (go_at_call 18; (with_reducible refine (KI _).mono ?_); rintro e w' ⟨rfl, os2, n2, rfl⟩) | (go_at_call 9; (with_reducible refine (K1 _).mono ?_); rintro e w' ⟨rfl, os3, n3, rfl⟩) | (go_at_call 10; (with_reducible refine (K2 _).mono ?_); rintro e w' ⟨rfl, os4, n4, rfl⟩) | (go_at_call 21; (with_reducible refine (is_errno _ _ _).mono ?_); rintro e w' ⟨rfl, rfl⟩) | (go_at_call 19; (with_reducible refine (KT _).mono ?_); rintro e w' ⟨rfl, rfl⟩))
      go_returns
      exact ⟨rfl, show Bel _ _ from Gar.bel (by repeat (first | exact Gar.refl _ | refine Gar.drewN ?_ _ | refine Gar.drew ?_ | refine Gar.alloc ?_ _ | refine Gar.allocs ?_ _))⟩
    · have hw0 : cw ≠ 0 := by omega
      rw [if_neg hw0, decide_eq_false hw0] at K1
      rw [show verr (berr cw) = .iface 57 (.int .i64 22) by rcases hw with rfl | rfl <;> rfl] at K2
      clear hT hbd hw hw0
      generalize vang ci Q0 Q1 Q2 = V at *
      generalize vbnd ci cw g01 g02 g12 a0x0 a0x1 a0x2 = BD at *
      generalize decide (cw = 3) = AL at *
      go_enter Try.func5, Try.ntmps5
      go_wp2_with (first | (go_at_call 15; (with_reducible refine (KD _).mono ?_); rintro e w' ⟨rfl, os0, n0, rfl⟩) | (go_at_call 8; (with_reducible refine (awake_true _ _ (Gar.refl _)).mono ?_); rintro e w' ⟨rfl, os1, n1, rfl⟩) | (go_at_call 20; (with_reducible refine (KC _).mono ?_); rintro e w' ⟨rfl, rfl⟩) | (go_at_call 18; (with_reducible refine (KI _).mono ?_); rintro e w' ⟨rfl, os2, n2, rfl⟩) | (go_at_call 9; (with_reducible refine (K1 _).mono ?_); rintro e w' ⟨rfl, os3, n3, rfl⟩) | (go_at_call 10; (with_reducible refine (K2 _).mono ?_); rintro e w' ⟨rfl, os4, n4, rfl⟩) | (go_at_call 21; (with_reducible refine (is_errno _ _ _).mono ?_); rintro e w' ⟨rfl, rfl⟩))
      go_returns
      exact ⟨rfl, show Bel _ _ from Gar.bel (by repeat (first | exact Gar.refl _ | refine Gar.drewN ?_ _ | refine Gar.drew ?_ | refine Gar.alloc ?_ _ | refine Gar.allocs ?_ _))⟩
  · clear bC
    have KI := fun w => input_3 a2x0 a2x1 a2x2 a2x3 a2x4 a2x5 a2x6 a0x0 a0x1 a0x2 a0x3 a0x4 a0x5 a0x6 he w w (Gar.refl _)
    obtain ⟨Q0, hQ0⟩ : ∃ q, Int.tmod a2x0 65536 + inO false a2x1 a0x0 = q := ⟨_, rfl⟩
    obtain ⟨Q1, hQ1⟩ : ∃ q, Int.tmod a2x0 65536 + inO false a2x2 a0x1 = q := ⟨_, rfl⟩
    obtain ⟨Q2, hQ2⟩ : ∃ q, Int.tmod a2x0 65536 + inO false a2x3 a0x2 = q := ⟨_, rfl⟩
    have d0 : false = false → dst Q0 a2x0 ≤ a0x0 := fun h => by rw [← hQ0]; exact near (inO_ok he.1) he.1
    have d1 : false = false → dst Q1 a2x0 ≤ a0x1 := fun h => by rw [← hQ1]; exact near (inO_ok he.2.1) he.2.1
    have d2 : false = false → dst Q2 a2x0 ≤ a0x2 := fun h => by rw [← hQ2]; exact near (inO_ok he.2.2) he.2.2
    rw [hQ0, hQ1, hQ2] at KI
    clear hQ0 hQ1 hQ2
    obtain ⟨u0, u1, u2, g01, g02, g12, ct, c0, c1, c2, cs, E0, E1, E2, ci, cw, hv⟩ := VS.ex a0x0 a0x1 a0x2 a0x3 a0x4 a0x5 a0x6 a1x0 a1x1 a1x2 a1x3 a1x4 a1x5 a1x6 Q0 Q1 Q2 a2x4 a2x5 a2x6
    have K1 := fun w => vstep_ok a0x0 a0x1 a0x2 a0x3 a0x4 a0x5 a0x6 a1x0 a1x1 a1x2 a1x3 a1x4 a1x5 a1x6 Q0 Q1 Q2 a2x4 a2x5 a2x6 u0 u1 u2 g01 g02 g12 ct c0 c1 c2 cs E0 E1 E2 ci cw hv hco w w (Gar.refl _)
    have K2 := fun w => vbound_ok a0x0 a0x1 a0x2 a0x3 a0x4 a0x5 a0x6 a1x0 a1x1 a1x2 a1x3 a1x4 a1x5 a1x6 Q0 Q1 Q2 a2x4 a2x5 a2x6 u0 u1 u2 g01 g02 g12 ct c0 c1 c2 cs E0 E1 E2 ci cw hv hco w w (Gar.refl _)
    have hT := truth_le (l0 := false) (l1 := false) (l2 := false) (t := a2x0) hv hco rfl rfl rfl d0 d1 d2
    have hbd : (ci = -1 ∧ cw = 0) ∨ ((0 ≤ ci ∧ ci ≤ 2) ∧ (1 ≤ cw ∧ cw ≤ 4)) := by
      obtain ⟨-, -, hpp⟩ := vcode_in hco
      obtain ⟨-, -, -, -, -, -, -, -, -, -, -, -, -, -, hch⟩ := hv
      exact chs_bd hch (by omega) (by omega) (by omega) (mdx_bd _ _ _)
    clear hv hco he d0 d1 d2
    skip
    rcases (show cw = 0 ∨ (cw = 1 ∨ cw = 2) ∨ (cw = 3 ∨ cw = 4) by omega) with rfl | hw | hw
    · clear hT hbd
      rw [if_pos rfl, show decide ((0 : Int) = 3) = false from rfl, show decide ((0 : Int) = 0) = true from rfl] at K1
      rw [show verr (berr 0) = .iface 57 (.int .i64 28) from rfl] at K2
      generalize vbnd ci 0 g01 g02 g12 a0x0 a0x1 a0x2 = BD at *
      go_enter Try.func5, Try.ntmps5
      go_wp2_with (first | (go_at_call 15; (with_reducible refine (KD _).mono ?_); rintro e w' ⟨rfl, os0, n0, rfl⟩) | (go_at_call 8; (with_reducible refine (awake_true _ _ (Gar.refl _)).mono ?_); rintro e w' ⟨rfl, os1, n1, rfl⟩) | (go_at_call 20; (with_reducible refine (KC _).mono ?_); rintro e w' ⟨rfl, rfl⟩) | (go_at_call 18; (with_reducible refine (KI _).mono ?_); rintro e w' ⟨rfl, os2, n2, rfl⟩) | (go_at_call 9; (with_reducible refine (K1 _).mono ?_); rintro e w' ⟨rfl, os3, n3, rfl⟩) | (go_at_call 10; (with_reducible refine (K2 _).mono ?_); rintro e w' ⟨rfl, os4, n4, rfl⟩) | (go_at_call 21; (with_reducible refine (is_errno _ _ _).mono ?_); rintro e w' ⟨rfl, rfl⟩))
      go_returns
      exact ⟨rfl, show Bel _ _ from Gar.bel (by repeat (first | exact Gar.refl _ | refine Gar.drewN ?_ _ | refine Gar.drew ?_ | refine Gar.alloc ?_ _ | refine Gar.allocs ?_ _))⟩
    · have hTT := hT hw
      have hw0 : cw ≠ 0 := by omega
      rw [if_neg hw0, decide_eq_false hw0, decide_eq_false (show cw ≠ 3 by omega)] at K1
      rw [show verr (berr cw) = Value.nilIface by rcases hw with rfl | rfl <;> rfl] at K2
      clear hT hbd hw hw0
      generalize vang ci Q0 Q1 Q2 = V at *
      generalize vbnd ci cw g01 g02 g12 a0x0 a0x1 a0x2 = BD at *
      have KT := dist_any V a2x0
      generalize dst V a2x0 = DD at *
      have hTd : decide (DD ≤ BD) = true := decide_eq_true hTT
      clear hTT
      go_enter Try.func5, Try.ntmps5
      go_wp2_with (first | (go_at_call 15; (with_reducible refine (KD _).mono ?_); rintro e w' ⟨rfl, os0, n0, rfl⟩) | (go_at_call 8; (with_reducible refine (awake_true _ _ (Gar.refl _)).mono ?_); rintro e w' ⟨rfl, os1, n1, rfl⟩) | (go_at_call 20; (with_reducible refine (KC _).mono ?_); rintro e w' ⟨rfl, rfl⟩) | (go_at_call 18; (with_reducible refine (KI _).mono ?_); rintro e w' ⟨rfl, os2, n2, rfl⟩) | (go_at_call 9; (with_reducible refine (K1 _).mono ?_); rintro e w' ⟨rfl, os3, n3, rfl⟩) | (go_at_call 10; (with_reducible refine (K2 _).mono ?_); rintro e w' ⟨rfl, os4, n4, rfl⟩) | (go_at_call 21; (with_reducible refine (is_errno _ _ _).mono ?_); rintro e w' ⟨rfl, rfl⟩) | (go_at_call 19; (with_reducible refine (KT _).mono ?_); rintro e w' ⟨rfl, rfl⟩))
      go_returns
      exact ⟨rfl, show Bel _ _ from Gar.bel (by repeat (first | exact Gar.refl _ | refine Gar.drewN ?_ _ | refine Gar.drew ?_ | refine Gar.alloc ?_ _ | refine Gar.allocs ?_ _))⟩
    · have hw0 : cw ≠ 0 := by omega
      rw [if_neg hw0, decide_eq_false hw0] at K1
      rw [show verr (berr cw) = .iface 57 (.int .i64 22) by rcases hw with rfl | rfl <;> rfl] at K2
      clear hT hbd hw hw0
      generalize vang ci Q0 Q1 Q2 = V at *
      generalize vbnd ci cw g01 g02 g12 a0x0 a0x1 a0x2 = BD at *
      generalize decide (cw = 3) = AL at *
      go_enter Try.func5, Try.ntmps5
      go_wp2_with (first | (go_at_call 15; (with_reducible refine (KD _).mono ?_); rintro e w' ⟨rfl, os0, n0, rfl⟩) | (go_at_call 8; (with_reducible refine (awake_true _ _ (Gar.refl _)).mono ?_); rintro e w' ⟨rfl, os1, n1, rfl⟩) | (go_at_call 20; (with_reducible refine (KC _).mono ?_); rintro e w' ⟨rfl, rfl⟩) | (go_at_call 18; (with_reducible refine (KI _).mono ?_); rintro e w' ⟨rfl, os2, n2, rfl⟩) | (go_at_call 9; (with_reducible refine (K1 _).mono ?_); rintro e w' ⟨rfl, os3, n3, rfl⟩) | (go_at_call 10; (with_reducible refine (K2 _).mono ?_); rintro e w' ⟨rfl, os4, n4, rfl⟩) | (go_at_call 21; (with_reducible refine (is_errno _ _ _).mono ?_); rintro e w' ⟨rfl, rfl⟩))
      go_returns
      exact ⟨rfl, show Bel _ _ from Gar.bel (by repeat (first | exact Gar.refl _ | refine Gar.drewN ?_ _ | refine Gar.drew ?_ | refine Gar.alloc ?_ _ | refine Gar.allocs ?_ _))⟩
end Go.Proofs.Ytdincfemiignjaa
