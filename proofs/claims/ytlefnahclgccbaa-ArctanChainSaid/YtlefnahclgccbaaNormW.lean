/- The walks of angle.Norm, Diff, Dist and of the reference's (those that this seat has). -/
import Derived.Test.YtlefnahclgccbaaProg
import Derived.Test.YtlefnahclgccbaaAng
import Derived.Handy
import Derived.WalkSpells
import Derived.WalkLawsBesides
namespace Go.Proofs.Ytlefnahclgccbaa
open Go.RowKit
theorem ret_int {k : IntKind} {a b : Int} (h : a = b) : Ending.returned (.int k a) = .returned (.int k b) := by rw [h]

theorem norm_any (x : Int) (w : World) : Calls Try.prog 29 #[.int .i64 x] w fun e w' => e = .returned (.int .i64 (nrm x)) ∧ w = w' := by
  have hm := and_mask x
  go_enter Try.func29, Try.ntmps29
  go_wp2
  go_ret
  exact ⟨rfl, rfl⟩
theorem diff_any (a b : Int) (w : World) : Calls Try.prog 32 #[.int .i64 a, .int .i64 b] w fun e w' => e = .returned (.int .i64 (dif a b)) ∧ w = w' := by
  have hb := nrm_bd (wrap64 (wrap64 (a - b) + 32768))
  go_enter Try.func32, Try.ntmps32
  go_wp2_with (go_at_call 29; refine (norm_any _ _).mono ?_; rintro e w' ⟨rfl, rfl⟩)
  go_ret
  exact ⟨ret_int (nrm_dif a b), rfl⟩
theorem rnorm_any (x : Int) (w : World) : Calls Try.prog 18 #[.int .i64 x] w fun e w' => e = .returned (.int .i64 (nrm x)) ∧ w = w' := by
  have hb := tmod_bd x
  go_enter Try.func18, Try.ntmps18
  go_wp2
  go_ret
  exact ⟨ret_int (emod_nrm x), rfl⟩
theorem rdiff_any (a b : Int) (w : World) : Calls Try.prog 21 #[.int .i64 a, .int .i64 b] w fun e w' => e = .returned (.int .i64 (dif a b)) ∧ w = w' := by
  have ha := nrm_bd a
  have hb := nrm_bd b
  go_enter Try.func21, Try.ntmps21
  go_wp2_with (go_at_call 18; refine (rnorm_any _ _).mono ?_; rintro e w' ⟨rfl, rfl⟩)
  go_ret
  exact ⟨ret_int (nrm_sub_dif a b), rfl⟩
end Go.Proofs.Ytlefnahclgccbaa
