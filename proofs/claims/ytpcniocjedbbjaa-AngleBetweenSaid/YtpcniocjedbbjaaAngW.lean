/- The walks of package angle: each function's contract. -/
import Derived.Test.YtpcniocjedbbjaaProg
import Derived.Test.YtpcniocjedbbjaaAng
import Derived.Handy
import Derived.WalkSpells
import Derived.WalkLawsBesides
namespace Go.Proofs.Ytpcniocjedbbjaa
open Go.RowKit

theorem ret_int {k : IntKind} {a b : Int} (h : a = b) : Ending.returned (.int k a) = .returned (.int k b) := by rw [h]

theorem ret_ib {k : IntKind} {a b : Int} {c d : Bool} (h : a = b) (g : c = d) : Ending.returned (.tuple #[.int k a, .bool c]) = .returned (.tuple #[.int k b, .bool d]) := by rw [h, g]

theorem norm_any (x : Int) (w : World) : Calls Try.prog 17 #[.int .i64 x] w fun e w' => e = .returned (.int .i64 (nrm x)) ∧ w = w' := by
  have hm := and_mask x
  go_enter Try.func17, Try.ntmps17
  go_wp2
  go_ret
  exact ⟨rfl, rfl⟩

theorem diff_any (a b : Int) (w : World) : Calls Try.prog 18 #[.int .i64 a, .int .i64 b] w fun e w' => e = .returned (.int .i64 (dif a b)) ∧ w = w' := by
  have hb := nrm_bd (wrap64 (wrap64 (a - b) + 32768))
  go_enter Try.func18, Try.ntmps18
  go_wp2_with (go_at_call 17; refine (norm_any _ _).mono ?_; rintro e w' ⟨rfl, rfl⟩)
  go_ret
  exact ⟨ret_int (nrm_dif a b), rfl⟩

theorem dist_any (a b : Int) (w : World) : Calls Try.prog 19 #[.int .i64 a, .int .i64 b] w fun e w' => e = .returned (.int .i64 (dst a b)) ∧ w = w' := by
  have hb := dif_bd a b
  go_enter Try.func19, Try.ntmps19
  go_wp2_with (go_at_call 18; refine (diff_any _ _ _).mono ?_; rintro e w' ⟨rfl, rfl⟩)
  all_goals
    go_ret
    exact ⟨ret_int (by simp [dst]; omega), rfl⟩

theorem rnorm_any (x : Int) (w : World) : Calls Try.prog 21 #[.int .i64 x] w fun e w' => e = .returned (.int .i64 (nrm x)) ∧ w = w' := by
  have hb := tmod_bd x
  go_enter Try.func21, Try.ntmps21
  go_wp2
  go_ret
  exact ⟨ret_int (emod_nrm x), rfl⟩

theorem rdiff_any (a b : Int) (w : World) : Calls Try.prog 22 #[.int .i64 a, .int .i64 b] w fun e w' => e = .returned (.int .i64 (dif a b)) ∧ w = w' := by
  have ha := nrm_bd a
  have hb := nrm_bd b
  go_enter Try.func22, Try.ntmps22
  go_wp2_with (go_at_call 21; refine (rnorm_any _ _).mono ?_; rintro e w' ⟨rfl, rfl⟩)
  go_ret
  exact ⟨ret_int (nrm_sub_dif a b), rfl⟩

theorem rdist_any (a b : Int) (w : World) : Calls Try.prog 23 #[.int .i64 a, .int .i64 b] w fun e w' => e = .returned (.int .i64 (dst a b)) ∧ w = w' := by
  have hb := dif_bd a b
  go_enter Try.func23, Try.ntmps23
  go_wp2_with (go_at_call 22; refine (rdiff_any _ _ _).mono ?_; rintro e w' ⟨rfl, rfl⟩)
  all_goals
    go_ret
    exact ⟨ret_int (by simp [dst]; omega), rfl⟩

set_option maxHeartbeats 400000 in
theorem middle_any (a b c : Int) (w : World) : Calls Try.prog 14 #[.int .i64 a, .int .i64 b, .int .i64 c] w fun e w' => e = .returned (.tuple #[.int .i64 (mid a b c), .bool (midB a b c)]) ∧ w = w' := by
  have h1 := dst_bd a b
  have h2 := dst_bd b c
  have h3 := dst_bd c a
  go_enter Try.func14, Try.ntmps14
  go_wp2_with (first | (go_at_call 19; refine (dist_any _ _ _).mono ?_; rintro e w' ⟨rfl, rfl⟩) | (go_at_call 17; refine (norm_any _ _).mono ?_; rintro e w' ⟨rfl, rfl⟩))
  all_goals go_ret2
  all_goals
    (try go_returns)
    refine ⟨ret_ib ?_ ?_, rfl⟩
  all_goals
    simp [mid, midB]
    omega

set_option maxHeartbeats 400000 in
theorem rmiddle_any (a b c : Int) (w : World) : Calls Try.prog 15 #[.int .i64 a, .int .i64 b, .int .i64 c] w fun e w' => e = .returned (.tuple #[.int .i64 (mid a b c), .bool (midB a b c)]) ∧ w = w' := by
  have h1 := dst_bd a b
  have h2 := dst_bd b c
  have h3 := dst_bd a c
  have hc := hide (dst_comm c a)
  go_enter Try.func15, Try.ntmps15
  go_wp2_with (first | (go_at_call 23; refine (rdist_any _ _ _).mono ?_; rintro e w' ⟨rfl, rfl⟩) | (go_at_call 21; refine (rnorm_any _ _).mono ?_; rintro e w' ⟨rfl, rfl⟩))
  all_goals
    (try go_returns)
    refine ⟨ret_ib ?_ ?_, rfl⟩
  all_goals
    have hcc := hc.out
    simp [mid, midB, hcc]
    omega

theorem pos_any (p : Int) (w : World) : Calls Try.prog 34 #[.int .i64 p] w fun e w' => e = .returned (.bool (posB p)) ∧ w = w' := by
  by_cases h1 : -72057594037927936 ≤ p
  · have d1 : decide (-72057594037927936 ≤ p) = true := by simpa using h1
    by_cases h2 : p ≤ 72057594037927936
    · go_enter Try.func34, Try.ntmps34
      go_wp2
      go_returns
      exact ⟨by simp [posB, h1, h2], rfl⟩
    · have d2 : decide (p ≤ 72057594037927936) = false := by simpa using h2
      go_enter Try.func34, Try.ntmps34
      go_wp2
      go_returns
      exact ⟨by simp [posB, d2], rfl⟩
  · have d1 : decide (-72057594037927936 ≤ p) = false := by simpa using h1
    go_enter Try.func34, Try.ntmps34
    go_wp2
    go_returns
    exact ⟨by simp [posB, d1], rfl⟩

theorem unwrap_in (p a : Int) (hp : posB p = true) (w : World) : Calls Try.prog 20 #[.int .i64 p, .int .i64 a] w fun e w' => e = .returned (.tuple #[.int .i64 (p + dif a p), .nilIface]) ∧ w = w' := by
  have hq := posB_in hp
  have hb := dif_bd a p
  go_enter Try.func20, Try.ntmps20
  go_wp2_with (first | (go_at_call 18; refine (diff_any _ _ _).mono ?_; rintro e w' ⟨rfl, rfl⟩) | (go_at_call 34; refine (pos_any _ _).mono ?_; rintro e w' ⟨rfl, rfl⟩))
  go_returns
  exact ⟨rfl, rfl⟩
theorem unwrap_out (p a : Int) (hp : posB p = false) (w : World) : Calls Try.prog 20 #[.int .i64 p, .int .i64 a] w fun e w' => e = .returned (.tuple #[.int .i64 0, .iface 52 (.int .i64 3)]) ∧ w = w' := by
  go_enter Try.func20, Try.ntmps20
  go_wp2_with (first | (go_at_call 18; refine (diff_any _ _ _).mono ?_; rintro e w' ⟨rfl, rfl⟩) | (go_at_call 34; refine (pos_any _ _).mono ?_; rintro e w' ⟨rfl, rfl⟩))
  go_returns
  exact ⟨rfl, rfl⟩
end Go.Proofs.Ytpcniocjedbbjaa
