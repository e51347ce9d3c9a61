/- The contracts of angle.Middle and of the reference's. -/
import Derived.Test.YtdincfemiignjaaNormW
namespace Go.Proofs.Ytdincfemiignjaa
open Go.RowKit
theorem ret_ib {k : IntKind} {a b : Int} {c d : Bool} (h : a = b) (g : c = d) : Ending.returned (.tuple #[.int k a, .bool c]) = .returned (.tuple #[.int k b, .bool d]) := by rw [h, g]
set_option maxHeartbeats 400000 in
theorem middle_any (a b c : Int) (w : World) : Calls Try.prog 35 #[.int .i64 a, .int .i64 b, .int .i64 c] w fun e w' => e = .returned (.tuple #[.int .i64 (mid a b c), .bool (midB a b c)]) ∧ w = w' := by
  have h1 := dst_bd a b
  have h2 := dst_bd b c
  have h3 := dst_bd c a
  go_enter Try.func35, Try.ntmps35
  go_wp2_with (first | (go_at_call 19; refine (dist_any _ _ _).mono ?_; rintro e w' ⟨rfl, rfl⟩) | (go_at_call 22; refine (norm_any _ _).mono ?_; rintro e w' ⟨rfl, rfl⟩))
  all_goals go_ret2
  all_goals
    (try go_returns)
    refine ⟨ret_ib ?_ ?_, rfl⟩
  all_goals
    simp [mid, midB]
    omega

set_option maxHeartbeats 400000 in
theorem rmiddle_any (a b c : Int) (w : World) : Calls Try.prog 36 #[.int .i64 a, .int .i64 b, .int .i64 c] w fun e w' => e = .returned (.tuple #[.int .i64 (mid a b c), .bool (midB a b c)]) ∧ w = w' := by
  have h1 := dst_bd a b
  have h2 := dst_bd b c
  have h3 := dst_bd a c
  have hc := hide (dst_comm c a)
  go_enter Try.func36, Try.ntmps36
  go_wp2_with (first | (go_at_call 38; refine (rdist_any _ _ _).mono ?_; rintro e w' ⟨rfl, rfl⟩) | (go_at_call 28; refine (rnorm_any _ _).mono ?_; rintro e w' ⟨rfl, rfl⟩))
  all_goals
    (try go_returns)
    refine ⟨ret_ib ?_ ?_, rfl⟩
  all_goals
    have hcc := hc.out
    simp [mid, midB, hcc]
    omega

end Go.Proofs.Ytdincfemiignjaa
