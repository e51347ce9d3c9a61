/- The walks of package park and of its reference. -/
import Derived.Test.YtdkneeglkbbnlaaPark
import Derived.Test.YtdkneeglkbbnlaaSinW
import Derived.Test.YtdkneeglkbbnlaaSinR
import Derived.Test.YtdkneeglkbbnlaaBase
import Derived.Test.YtdkneeglkbbnlaaMax
namespace Go.Proofs.Ytdkneeglkbbnlaa
open Go.RowKit

theorem turn_in (x y a : Int) (h0 : prkB x y = true) (w0 w : World) (hb : Bel w0 w) : Calls Try.prog 12 #[.int .i64 x, .int .i64 y, .int .i64 a] w fun e w' => e = .returned (.tuple #[.int .i64 (tu x y a), .int .i64 (tv x y a), .nilIface]) ∧ Bel w0 w' := by
  obtain ⟨hx, hy⟩ := prkB_in h0
  clear h0
  have b1 := b_bd a
  obtain ⟨p1, p2, p3, p4⟩ := turn_bd x y a 1099511627776 hx hy
  go_enter Try.func12, Try.ntmps12
  go_wp2_with (first | (go_at_call 23; (with_reducible refine (both_any _ _ _ (by assumption)).mono ?_); rintro e w' ⟨rfl, hb⟩))
  (try go_returns)
  exact ⟨rfl, by assumption⟩
theorem turn_out (x y a : Int) (h0 : prkB x y = false) (w0 w : World) (hb : Bel w0 w) : Calls Try.prog 12 #[.int .i64 x, .int .i64 y, .int .i64 a] w fun e w' => e = .returned (.tuple #[.int .i64 0, .int .i64 0, .iface 41 (.int .i64 3)]) ∧ Bel w0 w' := by
  rcases prkB_out h0 with h | h | ⟨h1, h⟩ | ⟨h1, h⟩
  all_goals
    clear h0
    go_enter Try.func12, Try.ntmps12
    go_wp2_with fail
    (try go_returns)
    exact ⟨rfl, by assumption⟩
theorem rturn_in (x y a : Int) (h0 : prkB x y = true) (w0 w : World) (hb : Bel w0 w) : Calls Try.prog 13 #[.int .i64 x, .int .i64 y, .int .i64 a] w fun e w' => e = .returned (.tuple #[.int .i64 (tu x y a), .int .i64 (tv x y a), .int .i64 0]) ∧ Bel w0 w' := by
  obtain ⟨hx, hy⟩ := prkB_in h0
  clear h0
  have b1 := b_bd a
  obtain ⟨p1, p2, p3, p4⟩ := turn_bd x y a 1099511627776 hx hy
  go_enter Try.func13, Try.ntmps13
  go_wp2_with (first | (go_at_call 24; (with_reducible refine (rboth_any _ _ _ (by assumption)).mono ?_); rintro e w' ⟨rfl, hb⟩))
  (try go_returns)
  exact ⟨rfl, by assumption⟩
theorem rturn_out (x y a : Int) (h0 : prkB x y = false) (w0 w : World) (hb : Bel w0 w) : Calls Try.prog 13 #[.int .i64 x, .int .i64 y, .int .i64 a] w fun e w' => e = .returned (.tuple #[.int .i64 0, .int .i64 0, .int .i64 3]) ∧ Bel w0 w' := by
  rcases prkB_out h0 with h | h | ⟨h1, h⟩ | ⟨h1, h⟩
  all_goals
    clear h0
    go_enter Try.func13, Try.ntmps13
    go_wp2_with fail
    (try go_returns)
    exact ⟨rfl, by assumption⟩
theorem park_in (x y a : Int) (h0 : prkB x y = true) (w0 w : World) (hb : Bel w0 w) : Calls Try.prog 19 #[.int .i64 x, .int .i64 y, .int .i64 a] w fun e w' => e = .returned (.tuple #[.int .i64 (tu x y (-nrm a)), .int .i64 (tv x y (-nrm a)), .nilIface]) ∧ Bel w0 w' := by
  have hn := nrm_bd a
  go_enter Try.func19, Try.ntmps19
  go_wp2_with (first | (go_at_call 25; (with_reducible refine (norm_any _ _).mono ?_); rintro e w' ⟨rfl, rfl⟩) | (go_at_call 12; (with_reducible refine (turn_in _ _ _ h0 _ _ (by assumption)).mono ?_); rintro e w' ⟨rfl, hb⟩))
  (try go_returns)
  exact ⟨rfl, by assumption⟩
theorem park_out (x y a : Int) (h0 : prkB x y = false) (w0 w : World) (hb : Bel w0 w) : Calls Try.prog 19 #[.int .i64 x, .int .i64 y, .int .i64 a] w fun e w' => e = .returned (.tuple #[.int .i64 0, .int .i64 0, .iface 41 (.int .i64 3)]) ∧ Bel w0 w' := by
  have hn := nrm_bd a
  go_enter Try.func19, Try.ntmps19
  go_wp2_with (first | (go_at_call 25; (with_reducible refine (norm_any _ _).mono ?_); rintro e w' ⟨rfl, rfl⟩) | (go_at_call 12; (with_reducible refine (turn_out _ _ _ h0 _ _ (by assumption)).mono ?_); rintro e w' ⟨rfl, hb⟩))
  (try go_returns)
  exact ⟨rfl, by assumption⟩
theorem back_in (x y a : Int) (h0 : prkB x y = true) (w0 w : World) (hb : Bel w0 w) : Calls Try.prog 20 #[.int .i64 x, .int .i64 y, .int .i64 a] w fun e w' => e = .returned (.tuple #[.int .i64 (tu x y a), .int .i64 (tv x y a), .nilIface]) ∧ Bel w0 w' := by
  go_enter Try.func20, Try.ntmps20
  go_wp2_with (first | (go_at_call 12; (with_reducible refine (turn_in _ _ _ h0 _ _ (by assumption)).mono ?_); rintro e w' ⟨rfl, hb⟩))
  (try go_returns)
  exact ⟨rfl, by assumption⟩
theorem back_out (x y a : Int) (h0 : prkB x y = false) (w0 w : World) (hb : Bel w0 w) : Calls Try.prog 20 #[.int .i64 x, .int .i64 y, .int .i64 a] w fun e w' => e = .returned (.tuple #[.int .i64 0, .int .i64 0, .iface 41 (.int .i64 3)]) ∧ Bel w0 w' := by
  go_enter Try.func20, Try.ntmps20
  go_wp2_with (first | (go_at_call 12; (with_reducible refine (turn_out _ _ _ h0 _ _ (by assumption)).mono ?_); rintro e w' ⟨rfl, hb⟩))
  (try go_returns)
  exact ⟨rfl, by assumption⟩
theorem rpark_in (x y a : Int) (h0 : prkB x y = true) (w0 w : World) (hb : Bel w0 w) : Calls Try.prog 21 #[.int .i64 x, .int .i64 y, .int .i64 a] w fun e w' => e = .returned (.tuple #[.int .i64 (tu x y (-nrm a)), .int .i64 (tv x y (-nrm a)), .int .i64 0]) ∧ Bel w0 w' := by
  have hn := nrm_bd a
  go_enter Try.func21, Try.ntmps21
  go_wp2_with (first | (go_at_call 18; (with_reducible refine (rnorm_any _ _).mono ?_); rintro e w' ⟨rfl, rfl⟩) | (go_at_call 13; (with_reducible refine (rturn_in _ _ _ h0 _ _ (by assumption)).mono ?_); rintro e w' ⟨rfl, hb⟩))
  (try go_returns)
  exact ⟨rfl, by assumption⟩
theorem rpark_out (x y a : Int) (h0 : prkB x y = false) (w0 w : World) (hb : Bel w0 w) : Calls Try.prog 21 #[.int .i64 x, .int .i64 y, .int .i64 a] w fun e w' => e = .returned (.tuple #[.int .i64 0, .int .i64 0, .int .i64 3]) ∧ Bel w0 w' := by
  have hn := nrm_bd a
  go_enter Try.func21, Try.ntmps21
  go_wp2_with (first | (go_at_call 18; (with_reducible refine (rnorm_any _ _).mono ?_); rintro e w' ⟨rfl, rfl⟩) | (go_at_call 13; (with_reducible refine (rturn_out _ _ _ h0 _ _ (by assumption)).mono ?_); rintro e w' ⟨rfl, hb⟩))
  (try go_returns)
  exact ⟨rfl, by assumption⟩
theorem rback_in (x y a : Int) (h0 : prkB x y = true) (w0 w : World) (hb : Bel w0 w) : Calls Try.prog 22 #[.int .i64 x, .int .i64 y, .int .i64 a] w fun e w' => e = .returned (.tuple #[.int .i64 (tu x y a), .int .i64 (tv x y a), .int .i64 0]) ∧ Bel w0 w' := by
  go_enter Try.func22, Try.ntmps22
  go_wp2_with (first | (go_at_call 13; (with_reducible refine (rturn_in _ _ _ h0 _ _ (by assumption)).mono ?_); rintro e w' ⟨rfl, hb⟩))
  (try go_returns)
  exact ⟨rfl, by assumption⟩
theorem rback_out (x y a : Int) (h0 : prkB x y = false) (w0 w : World) (hb : Bel w0 w) : Calls Try.prog 22 #[.int .i64 x, .int .i64 y, .int .i64 a] w fun e w' => e = .returned (.tuple #[.int .i64 0, .int .i64 0, .int .i64 3]) ∧ Bel w0 w' := by
  go_enter Try.func22, Try.ntmps22
  go_wp2_with (first | (go_at_call 13; (with_reducible refine (rturn_out _ _ _ h0 _ _ (by assumption)).mono ?_); rintro e w' ⟨rfl, hb⟩))
  (try go_returns)
  exact ⟨rfl, by assumption⟩

/-- The stated loss. -/
def los (n : Int) : Int := n * 12 / 32768 + 3
def losB (n : Int) : Bool := decide (0 ≤ n) && decide (n ≤ 1099511627776)
theorem losB_in {n : Int} (h : losB n = true) : 0 ≤ n ∧ n ≤ 1099511627776 := by
  simp [losB] at h
  omega
theorem losB_mk {n : Int} (h : 0 ≤ n ∧ n ≤ 1099511627776) : losB n = true := by
  simp [losB]
  omega
theorem losB_out {n : Int} (h : losB n = false) : n < 0 ∨ 1099511627776 < n := by
  simp [losB] at h
  omega
theorem loss_in (n : Int) (h0 : losB n = true) (w : World) : Calls Try.prog 15 #[.int .i64 n] w fun e w' => e = .returned (.tuple #[.int .i64 (los n), .nilIface]) ∧ w = w' := by
  have h := losB_in h0
  clear h0
  go_enter Try.func15, Try.ntmps15
  go_wp2_with fail
  (try go_returns)
  exact ⟨rfl, rfl⟩
theorem loss_out (n : Int) (h0 : losB n = false) (w : World) : Calls Try.prog 15 #[.int .i64 n] w fun e w' => e = .returned (.tuple #[.int .i64 0, .iface 41 (.int .i64 3)]) ∧ w = w' := by
  rcases losB_out h0 with h | h
  all_goals
    clear h0
    go_enter Try.func15, Try.ntmps15
    go_wp2_with fail
    (try go_returns)
    exact ⟨rfl, rfl⟩
theorem rloss_in (n : Int) (h0 : losB n = true) (w : World) : Calls Try.prog 16 #[.int .i64 n] w fun e w' => e = .returned (.tuple #[.int .i64 (los n), .int .i64 0]) ∧ w = w' := by
  have h := losB_in h0
  clear h0
  go_enter Try.func16, Try.ntmps16
  go_wp2_with fail
  (try go_returns)
  exact ⟨rfl, rfl⟩
theorem rloss_out (n : Int) (h0 : losB n = false) (w : World) : Calls Try.prog 16 #[.int .i64 n] w fun e w' => e = .returned (.tuple #[.int .i64 0, .int .i64 3]) ∧ w = w' := by
  rcases losB_out h0 with h | h
  all_goals
    clear h0
    go_enter Try.func16, Try.ntmps16
    go_wp2_with fail
    (try go_returns)
    exact ⟨rfl, rfl⟩
end Go.Proofs.Ytdkneeglkbbnlaa
