/- The walks of package arctan and of its reference: halving, quarters, angles. -/
import Derived.Test.YtlefnahclgccbaaAtn
import Derived.Test.YtlefnahclgccbaaSinW
import Derived.Test.YtlefnahclgccbaaSinR
import Derived.Test.YtlefnahclgccbaaBase
namespace Go.Proofs.Ytlefnahclgccbaa
open Go.RowKit

theorem ret_b {a b : Bool} (h : a = b) : Ending.returned (.bool a) = .returned (.bool b) := by rw [h]
theorem ret_three {a b c d e f : Int} (h : a = b) (g : c = d) (k : e = f) : Ending.returned (.tuple #[.int .i64 a, .int .i64 c, .int .i64 e]) = .returned (.tuple #[.int .i64 b, .int .i64 d, .int .i64 f]) := by rw [h, g, k]
theorem ret_duo {a b c d : Int} (h : a = b) (g : c = d) : Ending.returned (.tuple #[.int .i64 a, .int .i64 c]) = .returned (.tuple #[.int .i64 b, .int .i64 d]) := by rw [h, g]
def far1 (x : Int) : Bool := decide (1099511627776 < x) || decide (x < -1099511627776)
theorem far1_no {x : Int} (h : -1099511627776 ≤ x ∧ x ≤ 1099511627776) : far1 x = false := by simp [far1]; omega
theorem far1_yes {x : Int} (h : 1099511627776 < x ∨ x < -1099511627776) : far1 x = true := by simp [far1]; omega
theorem far_any (x : Int) (w : World) : Calls Try.prog 33 #[.int .i64 x] w fun e w' => e = .returned (.bool (far1 x)) ∧ w = w' := by
  by_cases h1 : 1099511627776 < x
  · go_enter Try.func33, Try.ntmps33
    go_wp2
    go_returns
    exact ⟨ret_b (far1_yes (.inl h1)).symm, rfl⟩
  · by_cases h2 : x < -1099511627776
    · go_enter Try.func33, Try.ntmps33
      go_wp2
      go_returns
      exact ⟨ret_b (far1_yes (.inr h2)).symm, rfl⟩
    · go_enter Try.func33, Try.ntmps33
      go_wp2
      go_returns
      exact ⟨ret_b (far1_no (by omega)).symm, rfl⟩

theorem sm_step {x y : Int} (h : ¬((-1099511627776 ≤ x ∧ x ≤ 1099511627776) ∧ (-1099511627776 ≤ y ∧ y ≤ 1099511627776))) : sm (x.tdiv 2) (y.tdiv 2) = sm x y ∧ (x.tdiv 2).natAbs + (y.tdiv 2).natAbs < x.natAbs + y.natAbs := by
  have hf : farB x y = true := by
    cases e : farB x y
    · exact absurd (farB_out e) h
    · rfl
  exact ⟨(sm_far hf).symm, half_sum hf⟩
theorem sm_stop {x y : Int} (h : (-1099511627776 ≤ x ∧ x ≤ 1099511627776) ∧ (-1099511627776 ≤ y ∧ y ≤ 1099511627776)) : sm x y = (x, y) := sm_near (farB_mk h)
theorem half_le (x : Int) (h : -9223372036854775808 ≤ x ∧ x ≤ 9223372036854775807) : -9223372036854775808 ≤ x.tdiv 2 ∧ x.tdiv 2 ≤ 9223372036854775807 := by
  rcases tdiv_cases x 2 (by omega) with ⟨g, e⟩ | ⟨g, e⟩ <;> rw [e] <;> omega
/-- What the program's 'first' returns. -/
def fx (x y : Int) : Int := ux (vx x y) (vy x y)
def fy (x y : Int) : Int := uy (vx x y) (vy x y)
def fq (x y : Int) : Int := qn (vx x y) (vy x y)

set_option maxHeartbeats 1000000 in
theorem small_any (x y : Int) (wx : (Lit.int .i64 x).wf = true) (wy : (Lit.int .i64 y).wf = true) (w : World) : Calls Try.prog 25 #[.int .i64 x, .int .i64 y] w fun e w' => e = .returned (.tuple #[.int .i64 (vx x y), .int .i64 (vy x y)]) ∧ w = w' := by
  have hx := bounds_i64 wx
  have hy := bounds_i64 wy
  go_enter Try.func25, Try.ntmps25
  go_wp2
  go_loop [0, 1] (fun s t => ∃ X Y : Int, s = .int .i64 X ∧ t = .int .i64 Y ∧ sm X Y = sm x y ∧ (-9223372036854775808 ≤ X ∧ X ≤ 9223372036854775807) ∧ (-9223372036854775808 ≤ Y ∧ Y ≤ 9223372036854775807)) (fun s t => (intOf s).natAbs + (intOf t).natAbs)
  case atStart => exact ⟨x, y, rfl, rfl, rfl, hx, hy⟩
  case round =>
    obtain ⟨X, Y, rfl, rfl, hE, hX, hY⟩ := hrel
    by_cases hn : (-1099511627776 ≤ X ∧ X ≤ 1099511627776) ∧ (-1099511627776 ≤ Y ∧ Y ≤ 1099511627776)
    · have hs := sm_stop hn
      rw [hE] at hs
      have hS := hide hs
      clear hs hE
      by_cases h1 : X = 0
      · have e1 : (X == 0) = true := by simpa using h1
        by_cases h2 : Y = 0
        · have e2 : (Y == 0) = true := by simpa using h2
          have h3 := hide (And.intro h1 h2)
          clear h1 h2
          go_wp2
          go_returns
          have h := h3.out
          refine ⟨ret_duo ?_ ?_, rfl⟩
          · unfold vx; rw [hS.out, if_pos h]
          · unfold vy; rw [hS.out, if_pos h]
        · have e2 : (Y == 0) = false := by simpa using h2
          have h3 := hide h2
          clear h1 h2
          go_wp2
          go_returns
          have h := h3.out
          refine ⟨ret_duo ?_ ?_, rfl⟩
          · unfold vx; rw [hS.out, if_neg (fun g => h g.2)]
          · unfold vy; rw [hS.out, if_neg (fun g => h g.2)]
      · have e1 : (X == 0) = false := by simpa using h1
        have h3 := hide h1
        clear h1
        go_wp2
        go_returns
        have h := h3.out
        refine ⟨ret_duo ?_ ?_, rfl⟩
        · unfold vx; rw [hS.out, if_neg (fun g => h g.1)]
        · unfold vy; rw [hS.out, if_neg (fun g => h g.1)]
    · obtain ⟨s1, s2⟩ := sm_step hn
      rw [hE] at s1
      have hS := hide s1
      have hM := hide s2
      clear s1 s2 hE
      have t1 := tdiv_le_abs X 2 9223372036854775808 (by omega) (by omega)
      have t2 := tdiv_le_abs Y 2 9223372036854775808 (by omega) (by omega)
      have t3 := half_le X hX
      have t4 := half_le Y hY
      rcases (show 1099511627776 < X ∨ (X ≤ 1099511627776 ∧ X < -1099511627776) ∨ ((-1099511627776 ≤ X ∧ X ≤ 1099511627776) ∧ 1099511627776 < Y) ∨ ((-1099511627776 ≤ X ∧ X ≤ 1099511627776) ∧ Y < -1099511627776) by omega) with h | h | h | h
      all_goals
        clear hn
        go_wp2
        go_round
        case rel => exact ⟨_, _, rfl, rfl, hS.out, t3, t4⟩
        case measure => have := hM.out; simp only [intOf]; exact this
end Go.Proofs.Ytlefnahclgccbaa
