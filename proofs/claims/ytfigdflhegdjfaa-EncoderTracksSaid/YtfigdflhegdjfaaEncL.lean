/- The contracts of the law's own call and count. -/
import Derived.Test.YtfigdflhegdjfaaEncA
namespace Go.Proofs.Ytfigdflhegdjfaa
open Go.RowKit
set_option linter.unusedVariables false

theorem lcount_ok (c p pos : Int) (h : chkB c p = true) (w0 w : World) (hb : Gar w0 w) : Calls Try.prog 25 #[.agg #[.int .i64 c, .int .i64 p], .int .i64 pos] w fun e w' => e = .returned (.tuple #[.int .i64 (cnt c pos), .bool true]) ∧ Gar w0 w' := by
  refine on_gar hb ?_
  clear hb w0
  have P := fun w => Count_ok c p pos h w w (Gar.refl _)
  generalize cnt c pos = N at *
  go_enter Try.func25, Try.ntmps25
  go_wp2_with (go_at_call 16; (with_reducible refine (P _).mono ?_); rintro e w' ⟨rfl, os1, n1, rfl⟩)
  go_quiet (fail)
  go_wp2_with (fail)
  go_returns
  exact ⟨rfl, by repeat (first | exact Gar.refl _ | refine Gar.drewN ?_ _ | refine Gar.drew ?_ | refine Gar.alloc ?_ _ | refine Gar.allocs ?_ _)⟩
set_option maxHeartbeats 2000000 in
theorem lcall_ok (c p ph ct er sl : Int) (kn hi st : Bool) (pos : Int) (h : chkB c p = true) (wph : (Lit.int .i64 ph).wf = true) (w0 w : World) (hb : Gar w0 w) :
    Calls Try.prog 24 #[.agg #[.int .i64 c, .int .i64 p], .agg #[.int .i64 ph, .int .i64 ct, .int .i64 er, .int .i64 sl, .bool kn, .bool hi, .bool st], .int .i64 pos] w fun e w' =>
      e = .returned (.tuple #[.agg #[.int .i64 (phs (sgA (cnt c pos)) (sgB (cnt c pos))), .int .i64 (stC (c * p) ph ct kn hi st (sgA (cnt c pos)) (sgB (cnt c pos)) (sgZ (cnt c pos) (c * p))), .int .i64 (stE ph er st (sgA (cnt c pos)) (sgB (cnt c pos))), .int .i64 (stS (c * p) ph ct sl kn hi st (sgA (cnt c pos)) (sgB (cnt c pos)) (sgZ (cnt c pos) (c * p))), .bool (stK kn hi st (sgZ (cnt c pos) (c * p))), .bool (sgZ (cnt c pos) (c * p)), .bool true], .bool true]) ∧ Gar w0 w' := by
  refine on_gar hb ?_
  clear hb w0
  have P := fun w => Signals_ok c p pos h w w (Gar.refl _)
  have Q := fun w => step_ok c p ph ct er sl kn hi st (sgA (cnt c pos)) (sgB (cnt c pos)) (sgZ (cnt c pos) (c * p)) h wph w w (Gar.refl _)
  clear wph
  generalize sgA (cnt c pos) = a at *
  generalize sgB (cnt c pos) = b at *
  generalize sgZ (cnt c pos) (c * p) = z at *
  generalize phs a b = t0 at *
  generalize stC (c * p) ph ct kn hi st a b z = t1 at *
  generalize stE ph er st a b = t2 at *
  generalize stS (c * p) ph ct sl kn hi st a b z = t3 at *
  generalize stK kn hi st z = t4 at *
  go_enter Try.func24, Try.ntmps24
  go_wp2_with (first | (go_at_call 17; (with_reducible refine (P _).mono ?_); rintro e w' ⟨rfl, os1, n1, rfl⟩) | (go_at_call 15; (with_reducible refine (Q _).mono ?_); rintro e w' ⟨rfl, os2, n2, rfl⟩))
  apply merge
  · intro hx
    go_region
    all_goals with_reducible exact hx.out
  go_wp2_with (fail)
  refine bodyPost_ret (by simp [results, Try.results24, go_sem]; try rfl) rfl ?_
  refine ⟨rfl, ?_⟩
  repeat (first | exact Gar.refl _ | refine Gar.drewN ?_ _ | refine Gar.drew ?_ | refine Gar.alloc ?_ _ | refine Gar.allocs ?_ _)
end Go.Proofs.Ytfigdflhegdjfaa
