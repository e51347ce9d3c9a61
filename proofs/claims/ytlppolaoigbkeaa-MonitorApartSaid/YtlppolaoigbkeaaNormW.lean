/- The walks of angle.Norm, Diff, Dist and of the reference's (those that this seat has). -/
import Derived.Test.YtlppolaoigbkeaaProg
import Derived.Test.YtlppolaoigbkeaaAng
import Derived.Handy
import Derived.WalkSpells
import Derived.WalkLawsBesides
namespace Go.Proofs.Ytlppolaoigbkeaa
open Go.RowKit
theorem ret_int {k : IntKind} {a b : Int} (h : a = b) : Ending.returned (.int k a) = .returned (.int k b) := by rw [h]

theorem norm_any (x : Int) (w : World) : Calls Try.prog 30 #[.int .i64 x] w fun e w' => e = .returned (.int .i64 (nrm x)) ∧ w = w' := by
  have hm := and_mask x
  go_enter Try.func30, Try.ntmps30
  go_wp2
  go_ret
  exact ⟨rfl, rfl⟩
theorem diff_any (a b : Int) (w : World) : Calls Try.prog 29 #[.int .i64 a, .int .i64 b] w fun e w' => e = .returned (.int .i64 (dif a b)) ∧ w = w' := by
  have hb := nrm_bd (wrap64 (wrap64 (a - b) + 32768))
  go_enter Try.func29, Try.ntmps29
  go_wp2_with (go_at_call 30; refine (norm_any _ _).mono ?_; rintro e w' ⟨rfl, rfl⟩)
  go_ret
  exact ⟨ret_int (nrm_dif a b), rfl⟩
theorem dist_any (a b : Int) (w : World) : Calls Try.prog 25 #[.int .i64 a, .int .i64 b] w fun e w' => e = .returned (.int .i64 (dst a b)) ∧ w = w' := by
  have hb := dif_bd a b
  go_enter Try.func25, Try.ntmps25
  go_wp2_with (go_at_call 29; refine (diff_any _ _ _).mono ?_; rintro e w' ⟨rfl, rfl⟩)
  all_goals
    go_ret
    exact ⟨ret_int (by simp [dst]; omega), rfl⟩
end Go.Proofs.Ytlppolaoigbkeaa
