/- The walk of the law VoterSteps. -/
import Derived.Test.YtdincfemiignjaaVotA
import Derived.Test.YtdincfemiignjaaVotT
import Derived.Test.YtdincfemiignjaaVotU
import Derived.Test.YtdincfemiignjaaFlat
import Derived.Test.YtdincfemiignjaaQtl
namespace Go.Proofs.Ytdincfemiignjaa
open Go.RowKit
set_option linter.unusedVariables false
set_option linter.unusedSimpArgs false
attribute [local go_sem ↓] Go.wp_at_zero Go.wp_at_succ

theorem num_verr (k : Int) (w : World) : Calls Try.prog 13 #[verr k] w fun e w' => e = .returned (.int .i64 k) ∧ w = w' := by
  unfold verr
  split
  · rename_i h; subst h; exact num_nil w
  · exact num_errno k w
set_option maxRecDepth 100000 in
set_option maxHeartbeats 8000000 in
theorem voterSteps_walk (a0x0 a0x1 a0x2 a0x3 a0x4 a0x5 a0x6 : Int) (a1x0 a1x1 a1x2 : Int) (a1x3 a1x4 a1x5 : Bool) (a1x6 : Int) (a2x0 a2x1 a2x2 : Int) (a2x3 a2x4 a2x5 : Bool) (w : World) (w0x0 : (Lit.int .i64 a0x0).wf = true) (w0x1 : (Lit.int .i64 a0x1).wf = true) (w0x2 : (Lit.int .i64 a0x2).wf = true) (w0x3 : (Lit.int .i64 a0x3).wf = true) (w0x4 : (Lit.int .i64 a0x4).wf = true) (w0x5 : (Lit.int .i64 a0x5).wf = true) (w0x6 : (Lit.int .i64 a0x6).wf = true) (w1x0 : (Lit.int .i64 a1x0).wf = true) (w1x1 : (Lit.int .i64 a1x1).wf = true) (w1x2 : (Lit.int .i64 a1x2).wf = true) (w1x6 : (Lit.int .i64 a1x6).wf = true) (w2x0 : (Lit.int .i64 a2x0).wf = true) (w2x1 : (Lit.int .i64 a2x1).wf = true) (w2x2 : (Lit.int .i64 a2x2).wf = true) :
    Calls Try.prog 3 #[.agg #[.int .i64 a0x0, .int .i64 a0x1, .int .i64 a0x2, .int .i64 a0x3, .int .i64 a0x4, .int .i64 a0x5, .int .i64 a0x6], .agg #[.int .i64 a1x0, .int .i64 a1x1, .int .i64 a1x2, .bool a1x3, .bool a1x4, .bool a1x5, .int .i64 a1x6], .agg #[.int .i64 a2x0, .int .i64 a2x1, .int .i64 a2x2, .bool a2x3, .bool a2x4, .bool a2x5]] w fun e w' => e = .returned (.bool true) ∧ Below w.heap.size w w' := by
  clear w0x0 w0x1 w0x2 w0x3 w0x4 w0x5 w0x6 w1x0 w1x1 w1x2 w1x6 w2x0 w2x1 w2x2
  have KV := fun w0 w (hb : Gar w0 w) => on_gar hb (clear_any a1x0 a1x1 a1x2 a1x3 a1x4 a1x5 a1x6 w w (Gar.refl _))
  have KW := fun w0 w (hb : Gar w0 w) => on_gar hb (rclear_any a1x0 a1x1 a1x2 a1x3 a1x4 a1x5 a1x6 w w (Gar.refl _))
  by_cases hco : vcode a0x0 a0x1 a0x2 a0x3 a0x4 a0x5 a0x6 = 0
  · obtain ⟨u0, u1, u2, g01, g02, g12, ct, c0, c1, c2, cs, E0, E1, E2, ci, cw, hv⟩ := VS.ex a0x0 a0x1 a0x2 a0x3 a0x4 a0x5 a0x6 a1x0 a1x1 a1x2 a1x3 a1x4 a1x5 a1x6 a2x0 a2x1 a2x2 a2x3 a2x4 a2x5
    have K1 := fun w => vstep_ok a0x0 a0x1 a0x2 a0x3 a0x4 a0x5 a0x6 a1x0 a1x1 a1x2 a1x3 a1x4 a1x5 a1x6 a2x0 a2x1 a2x2 a2x3 a2x4 a2x5 u0 u1 u2 g01 g02 g12 ct c0 c1 c2 cs E0 E1 E2 ci cw hv hco w w (Gar.refl _)
    have K2 := fun w => vbound_ok a0x0 a0x1 a0x2 a0x3 a0x4 a0x5 a0x6 a1x0 a1x1 a1x2 a1x3 a1x4 a1x5 a1x6 a2x0 a2x1 a2x2 a2x3 a2x4 a2x5 u0 u1 u2 g01 g02 g12 ct c0 c1 c2 cs E0 E1 E2 ci cw hv hco w w (Gar.refl _)
    have K3 := fun w => rstep_ok a0x0 a0x1 a0x2 a0x3 a0x4 a0x5 a0x6 a1x0 a1x1 a1x2 a1x3 a1x4 a1x5 a1x6 a2x0 a2x1 a2x2 a2x3 a2x4 a2x5 u0 u1 u2 g01 g02 g12 ct c0 c1 c2 cs E0 E1 E2 ci cw hv hco w w (Gar.refl _)
    have K4 := fun w => rbound_ok a0x0 a0x1 a0x2 a0x3 a0x4 a0x5 a0x6 a1x0 a1x1 a1x2 a1x3 a1x4 a1x5 a1x6 a2x0 a2x1 a2x2 a2x3 a2x4 a2x5 u0 u1 u2 g01 g02 g12 ct c0 c1 c2 cs E0 E1 E2 ci cw hv hco w w (Gar.refl _)
    have KC := fun w0 w (hb : Gar w0 w) => on_gar hb (check_any a0x0 a0x1 a0x2 a0x3 a0x4 a0x5 a0x6 w)
    have KD := fun w0 w (hb : Gar w0 w) => on_gar hb (rcheck_any a0x0 a0x1 a0x2 a0x3 a0x4 a0x5 a0x6 w)
    rw [hco, show verr 0 = Value.nilIface from rfl] at KC
    rw [hco] at KD
    clear hv hco
    generalize (if cw = 0 then (0 : Int) else vang ci a2x0 a2x1 a2x2) = AN at *
    generalize decide (cw = 3) = AL at *
    generalize decide (cw = 0) = FL at *
    generalize vbnd ci cw g01 g02 g12 a0x0 a0x1 a0x2 = BD at *
    generalize berr cw = BE at *
    go_enter Try.func3, Try.ntmps3
    go_wp2_with (first | (go_at_call 8; (with_reducible refine (awake_true _ _ (Gar.refl _)).mono ?_); rintro e w' ⟨rfl, os1, n1, rfl⟩) | (go_at_call 9; (with_reducible refine (K1 _).mono ?_); rintro e w' ⟨rfl, os2, n2, rfl⟩) | (go_at_call 10; (with_reducible refine (K2 _).mono ?_); rintro e w' ⟨rfl, os3, n3, rfl⟩) | (go_at_call 11; (with_reducible refine (K3 _).mono ?_); rintro e w' ⟨rfl, os4, n4, rfl⟩) | (go_at_call 12; (with_reducible refine (K4 _).mono ?_); rintro e w' ⟨rfl, os5, n5, rfl⟩))
    (first | with_reducible refine wp_region_qtail (fun w' => ∃ g : Gp, w' = (allocs _ g.os).drewN g.n) 40 (by kernel_rfl) (by kernel_rfl) (gp_drewN _ _) ?_ | with_reducible refine wp_region_qtail (fun w' => ∃ g : Gp, w' = (allocs _ g.os).drewN g.n) 40 (by kernel_rfl) (by kernel_rfl) (gp_drew2 _ _) ?_ | with_reducible refine wp_region_qtail (fun w' => ∃ g : Gp, w' = (allocs _ g.os).drewN g.n) 40 (by kernel_rfl) (by kernel_rfl) (gp_drew _) ?_)
    simp only [List.take_succ_cons, List.take_zero, List.drop_succ_cons, List.drop_zero]
    repeat (first | go_big_quiet_skip | (go_big_quiet_want; (first | (go_big_quiet_op; (first | go_big_quiet_on | (apply Exists.intro; (refine And.intro (fun g => ?_) ?_); (first | (go_at_call 14; with_reducible exact calls_gp (fun _ hg => KC _ _ hg) g) | (go_at_call 13; with_reducible exact calls_gp0 (fun _ => num_verr _ _) g) | (go_at_call 13; with_reducible exact calls_gp0 (fun _ => num_nil _) g) | (go_at_call 15; with_reducible exact calls_gp (fun _ hg => KD _ _ hg) g) | (go_at_call 16; with_reducible exact calls_gp (fun _ hg => KV _ _ hg) g) | (go_at_call 17; with_reducible exact calls_gp (fun _ hg => KW _ _ hg) g)); go_big_quiet_on))))))
    refine wpQuiet_nil ?_
    refine gp_all (fun os' n' => ?_)
    go_wp2_with (fail)
    go_returns
    exact ⟨rfl, show Bel _ _ from Gar.bel (by repeat (first | exact Gar.refl _ | refine Gar.drewN ?_ _ | refine Gar.drew ?_ | refine Gar.alloc ?_ _ | refine Gar.allocs ?_ _))⟩
  · have K1 := fun w => vstep_bad a0x0 a0x1 a0x2 a0x3 a0x4 a0x5 a0x6 a1x0 a1x1 a1x2 a1x3 a1x4 a1x5 a1x6 a2x0 a2x1 a2x2 a2x3 a2x4 a2x5 hco w w (Gar.refl _)
    have K2 := fun w => vbound_bad a0x0 a0x1 a0x2 a0x3 a0x4 a0x5 a0x6 a1x0 a1x1 a1x2 a1x3 a1x4 a1x5 a1x6 a2x0 a2x1 a2x2 a2x3 a2x4 a2x5 hco w w (Gar.refl _)
    have K3 := fun w => rstep_bad a0x0 a0x1 a0x2 a0x3 a0x4 a0x5 a0x6 a1x0 a1x1 a1x2 a1x3 a1x4 a1x5 a1x6 a2x0 a2x1 a2x2 a2x3 a2x4 a2x5 hco w w (Gar.refl _)
    have K4 := fun w => rbound_bad a0x0 a0x1 a0x2 a0x3 a0x4 a0x5 a0x6 a1x0 a1x1 a1x2 a1x3 a1x4 a1x5 a1x6 a2x0 a2x1 a2x2 a2x3 a2x4 a2x5 hco w w (Gar.refl _)
    have KC := fun w0 w (hb : Gar w0 w) => on_gar hb (check_any a0x0 a0x1 a0x2 a0x3 a0x4 a0x5 a0x6 w)
    have KD := fun w0 w (hb : Gar w0 w) => on_gar hb (rcheck_any a0x0 a0x1 a0x2 a0x3 a0x4 a0x5 a0x6 w)
    clear hco
    generalize vcode a0x0 a0x1 a0x2 a0x3 a0x4 a0x5 a0x6 = c at *
    go_enter Try.func3, Try.ntmps3
    go_wp2_with (first | (go_at_call 8; (with_reducible refine (awake_true _ _ (Gar.refl _)).mono ?_); rintro e w' ⟨rfl, os1, n1, rfl⟩) | (go_at_call 9; (with_reducible refine (K1 _).mono ?_); rintro e w' ⟨rfl, os2, n2, rfl⟩) | (go_at_call 10; (with_reducible refine (K2 _).mono ?_); rintro e w' ⟨rfl, os3, n3, rfl⟩) | (go_at_call 11; (with_reducible refine (K3 _).mono ?_); rintro e w' ⟨rfl, os4, n4, rfl⟩) | (go_at_call 12; (with_reducible refine (K4 _).mono ?_); rintro e w' ⟨rfl, os5, n5, rfl⟩))
    (first | with_reducible refine wp_region_qtail (fun w' => ∃ g : Gp, w' = (allocs _ g.os).drewN g.n) 40 (by kernel_rfl) (by kernel_rfl) (gp_drewN _ _) ?_ | with_reducible refine wp_region_qtail (fun w' => ∃ g : Gp, w' = (allocs _ g.os).drewN g.n) 40 (by kernel_rfl) (by kernel_rfl) (gp_drew2 _ _) ?_ | with_reducible refine wp_region_qtail (fun w' => ∃ g : Gp, w' = (allocs _ g.os).drewN g.n) 40 (by kernel_rfl) (by kernel_rfl) (gp_drew _) ?_)
    simp only [List.take_succ_cons, List.take_zero, List.drop_succ_cons, List.drop_zero]
    repeat (first | go_big_quiet_skip | (go_big_quiet_want; (first | (go_big_quiet_op; (first | go_big_quiet_on | (apply Exists.intro; (refine And.intro (fun g => ?_) ?_); (first | (go_at_call 14; with_reducible exact calls_gp (fun _ hg => KC _ _ hg) g) | (go_at_call 13; with_reducible exact calls_gp0 (fun _ => num_verr _ _) g) | (go_at_call 13; with_reducible exact calls_gp0 (fun _ => num_nil _) g) | (go_at_call 15; with_reducible exact calls_gp (fun _ hg => KD _ _ hg) g) | (go_at_call 16; with_reducible exact calls_gp (fun _ hg => KV _ _ hg) g) | (go_at_call 17; with_reducible exact calls_gp (fun _ hg => KW _ _ hg) g)); go_big_quiet_on))))))
    refine wpQuiet_nil ?_
    refine gp_all (fun os' n' => ?_)
    go_wp2_with (fail)
    go_returns
    exact ⟨rfl, show Bel _ _ from Gar.bel (by repeat (first | exact Gar.refl _ | refine Gar.drewN ?_ _ | refine Gar.drew ?_ | refine Gar.alloc ?_ _ | refine Gar.allocs ?_ _))⟩
end Go.Proofs.Ytdincfemiignjaa
