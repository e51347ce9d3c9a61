/- The walks of angle.Norm, Diff, Dist and of the reference's (those that this seat has). -/
import Derived.Test.YtdincfemiignjaaProg
import Derived.Test.YtdincfemiignjaaAng
import Derived.Handy
import Derived.WalkSpells
import Derived.WalkLawsBesides
namespace Go.Proofs.Ytdincfemiignjaa
open Go.RowKit
theorem ret_int {k : IntKind} {a b : Int} (h : a = b) : Ending.returned (.int k a) = .returned (.int k b) := by rw [h]

theorem norm_any (x : Int) (w : World) : Calls Try.prog 22 #[.int .i64 x] w fun e w' => e = .returned (.int .i64 (nrm x)) ∧ w = w' := by
  have hm := and_mask x
  go_enter Try.func22, Try.ntmps22
  go_wp2
  go_ret
  exact ⟨rfl, rfl⟩
theorem diff_any (a b : Int) (w : World) : Calls Try.prog 31 #[.int .i64 a, .int .i64 b] w fun e w' => e = .returned (.int .i64 (dif a b)) ∧ w = w' := by
  have hb := nrm_bd (wrap64 (wrap64 (a - b) + 32768))
  go_enter Try.func31, Try.ntmps31
  go_wp2_with (go_at_call 22; refine (norm_any _ _).mono ?_; rintro e w' ⟨rfl, rfl⟩)
  go_ret
  exact ⟨ret_int (nrm_dif a b), rfl⟩
theorem dist_any (a b : Int) (w : World) : Calls Try.prog 19 #[.int .i64 a, .int .i64 b] w fun e w' => e = .returned (.int .i64 (dst a b)) ∧ w = w' := by
  have hb := dif_bd a b
  go_enter Try.func19, Try.ntmps19
  go_wp2_with (go_at_call 31; refine (diff_any _ _ _).mono ?_; rintro e w' ⟨rfl, rfl⟩)
  all_goals
    go_ret
    exact ⟨ret_int (by simp [dst]; omega), rfl⟩
theorem rnorm_any (x : Int) (w : World) : Calls Try.prog 28 #[.int .i64 x] w fun e w' => e = .returned (.int .i64 (nrm x)) ∧ w = w' := by
  have hb := tmod_bd x
  go_enter Try.func28, Try.ntmps28
  go_wp2
  go_ret
  exact ⟨ret_int (emod_nrm x), rfl⟩
theorem rdiff_any (a b : Int) (w : World) : Calls Try.prog 39 #[.int .i64 a, .int .i64 b] w fun e w' => e = .returned (.int .i64 (dif a b)) ∧ w = w' := by
  have ha := nrm_bd a
  have hb := nrm_bd b
  go_enter Try.func39, Try.ntmps39
  go_wp2_with (go_at_call 28; refine (rnorm_any _ _).mono ?_; rintro e w' ⟨rfl, rfl⟩)
  go_ret
  exact ⟨ret_int (nrm_sub_dif a b), rfl⟩
theorem rdist_any (a b : Int) (w : World) : Calls Try.prog 38 #[.int .i64 a, .int .i64 b] w fun e w' => e = .returned (.int .i64 (dst a b)) ∧ w = w' := by
  have hb := dif_bd a b
  go_enter Try.func38, Try.ntmps38
  go_wp2_with (go_at_call 39; refine (rdiff_any _ _ _).mono ?_; rintro e w' ⟨rfl, rfl⟩)
  all_goals
    go_ret
    exact ⟨ret_int (by simp [dst]; omega), rfl⟩
end Go.Proofs.Ytdincfemiignjaa
