/- The contract of encoder.Step. -/
import Derived.Test.YtfigdflhegdjfaaEnc
import Derived.Deep.RegionWith
namespace Go.Proofs.Ytfigdflhegdjfaa
open Go.RowKit
set_option linter.unusedVariables false

theorem ret_state {a b c d a' b' c' d' : Int} {k h s k' h' s' : Bool} (e1 : a = a') (e2 : b = b') (e3 : c = c') (e4 : d = d') (e5 : k = k') (e6 : h = h') (e7 : s = s') :
    Ending.returned (.tuple #[.agg #[.int .i64 a, .int .i64 b, .int .i64 c, .int .i64 d, .bool k, .bool h, .bool s], .nilIface]) = .returned (.tuple #[.agg #[.int .i64 a', .int .i64 b', .int .i64 c', .int .i64 d', .bool k', .bool h', .bool s'], .nilIface]) := by
  rw [e1, e2, e3, e4, e5, e6, e7]

theorem step_bad (c p ph ct er sl : Int) (kn hi st a b z : Bool) (h : chkB c p = false) (w0 w : World) (hb : Gar w0 w) :
    Calls Try.prog 15 #[.agg #[.int .i64 c, .int .i64 p], .agg #[.int .i64 ph, .int .i64 ct, .int .i64 er, .int .i64 sl, .bool kn, .bool hi, .bool st], .agg #[.bool a, .bool b, .bool z]] w fun e w' =>
      e = .returned (.tuple #[.agg #[.int .i64 0, .int .i64 0, .int .i64 0, .int .i64 0, .bool false, .bool false, .bool false], .iface 64 (.int .i64 3)]) ∧ Gar w0 w' := by
  refine on_gar hb ?_
  clear hb w0
  go_enter Try.func15, Try.ntmps15
  go_wp2_with (first | (go_at_call 12; (with_reducible refine (check_bad _ _ h _).mono ?_); rintro e w' ⟨rfl, rfl⟩))
  refine bodyPost_ret (by simp [results, Try.results15, go_sem]; try rfl) rfl ?_
  refine ⟨rfl, ?_⟩
  repeat (first | exact Gar.refl _ | refine Gar.drewN ?_ _ | refine Gar.alloc ?_ _)

theorem step_new (c p ph ct er sl : Int) (kn hi a b z : Bool) (h : chkB c p = true) (w0 w : World) (hb : Gar w0 w) :
    Calls Try.prog 15 #[.agg #[.int .i64 c, .int .i64 p], .agg #[.int .i64 ph, .int .i64 ct, .int .i64 er, .int .i64 sl, .bool kn, .bool hi, .bool false], .agg #[.bool a, .bool b, .bool z]] w fun e w' =>
      e = .returned (.tuple #[.agg #[.int .i64 (phs a b), .int .i64 0, .int .i64 0, .int .i64 0, .bool false, .bool z, .bool true], .nilIface]) ∧ Gar w0 w' := by
  refine on_gar hb ?_
  clear hb w0
  go_enter Try.func15, Try.ntmps15
  go_wp2_with (first | (go_at_call 12; (with_reducible refine (check_ok _ _ h _).mono ?_); rintro e w' ⟨rfl, rfl⟩) | (go_at_call 28; (with_reducible refine (phase_any _ _ _ _).mono ?_); rintro e w' ⟨rfl, rfl⟩))
  refine bodyPost_ret (by simp [results, Try.results15, go_sem]; try rfl) rfl ?_
  refine ⟨rfl, ?_⟩
  repeat (first | exact Gar.refl _ | refine Gar.drewN ?_ _ | refine Gar.alloc ?_ _)
end Go.Proofs.Ytfigdflhegdjfaa
