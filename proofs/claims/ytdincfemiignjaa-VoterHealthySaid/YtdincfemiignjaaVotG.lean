/- The contracts of the voter's view: grow, accused, apart. -/
import Derived.Test.YtdincfemiignjaaVotC
import Derived.IntWalk
import Derived.Test.YtdincfemiignjaaQtl
import Derived.Test.YtdincfemiignjaaTail
import Derived.Test.YtdincfemiignjaaWhl
import Derived.Deep.DrawnRows
namespace Go.Proofs.Ytdincfemiignjaa
open Go.RowKit
set_option linter.unusedVariables false
set_option linter.unusedSimpArgs false
attribute [local go_sem ↓] Go.wp_at_zero Go.wp_at_succ

/-- A counter behind a tick. -/
def cnt (b : Bool) (s n : Int) : Int := if b then (if clp s 0 n + 1 < n then clp s 0 n + 1 else n) else 0
theorem cnt_bd (b : Bool) (s n : Int) (h : 1 ≤ n) : 0 ≤ cnt b s n ∧ cnt b s n ≤ n := by
  have := clp_bd s 0 n (by omega)
  unfold cnt; (repeat' split) <;> omega
theorem ret_b {a b : Bool} (h : a = b) : Ending.returned (.bool a) = .returned (.bool b) := by rw [h]
def acc (x f g h : Bool) : Bool := x && !f && !g && h
set_option maxHeartbeats 1000000 in
theorem grow_any (e0 e1 e2 p0 p1 p2 n a0 a1 a2 : Int) (x0 x1 x2 : Bool) (ct : Int) (y0 y1 y2 y3 y4 y5 y6 y7 y8 : Bool) (m s : Int) (b : Bool) (hn : 1 ≤ n ∧ n ≤ 1024) (hm : m = if s < n then s else n) (w0 w : World) (hb : Gar w0 w) :
    Calls Try.prog 32 #[.agg #[.int .i64 e0, .int .i64 e1, .int .i64 e2, .int .i64 p0, .int .i64 p1, .int .i64 p2, .int .i64 n, .int .i64 a0, .int .i64 a1, .int .i64 a2, .bool x0, .bool x1, .bool x2, .int .i64 ct, .bool y0, .bool y1, .bool y2, .bool y3, .bool y4, .bool y5, .bool y6, .bool y7, .bool y8], .int .i64 m, .bool b] w fun e w' => e = .returned (.int .i64 (cnt b s n)) ∧ Gar w0 w' := by
  refine on_gar hb ?_
  clear hb w0
  obtain ⟨N1, hN1⟩ : ∃ N, (if m < 0 then 0 else m) = N := ⟨_, rfl⟩
  obtain ⟨N3, hN3⟩ : ∃ N, cnt true s n = N := ⟨_, rfl⟩
  have bN1 : 0 ≤ N1 ∧ N1 ≤ 1024 := by rw [← hN1]; (repeat' split) <;> (rw [hm] at *; (repeat' split at *) <;> omega)
  have e1 : N1 = clp s 0 n := by rw [← hN1, hm]; unfold clp; (repeat' split) <;> omega
  have m1 : ∀ (ts : Array TypeId) (t : TypeId) (w : World), (Builtin.max_ ts t #[.int .i64 m, .int .i64 0]).run Try.prog w = .ok (.int .i64 N1) w := fun ts t w => by
    rw [← hN1]; simp [Builtin.max_, Builtin.max2] <;> (repeat' split) <;> omega
  have s1 : IntKind.i64.wrap (N1 + 1) = N1 + 1 := IntWalk.i64_in _ (by omega)
  have m3 : ∀ (ts : Array TypeId) (t : TypeId) (w : World), (Builtin.min_ ts t #[.int .i64 (N1 + 1), .int .i64 n]).run Try.prog w = .ok (.int .i64 N3) w := fun ts t w => by
    rw [← hN3, e1]; simp [Builtin.min_, Builtin.min2, cnt] <;> (repeat' split) <;> omega
  have hh := hide hN3
  clear hN1 hN3 e1 hm
  cases b
  · go_enter Try.func32, Try.ntmps32
    go_wp2_with (fail)
    go_returns
    exact ⟨rfl, by repeat (first | exact Gar.refl _ | refine Gar.drewN ?_ _ | refine Gar.drew ?_ | refine Gar.alloc ?_ _ | refine Gar.allocs ?_ _)⟩
  · go_enter Try.func32, Try.ntmps32
    go_wp2_with (fail)
    go_returns
    exact ⟨ret_i hh.out.symm, by repeat (first | exact Gar.refl _ | refine Gar.drewN ?_ _ | refine Gar.drew ?_ | refine Gar.alloc ?_ _ | refine Gar.allocs ?_ _)⟩
set_option maxHeartbeats 2000000 in
theorem accused_0 (e0 e1 e2 p0 p1 p2 n a0 a1 a2 : Int) (x0 x1 x2 : Bool) (ct : Int) (y0 y1 y2 y3 y4 y5 y6 y7 y8 : Bool) (w0 w : World) (hb : Gar w0 w) :
    Calls Try.prog 33 #[.agg #[.int .i64 e0, .int .i64 e1, .int .i64 e2, .int .i64 p0, .int .i64 p1, .int .i64 p2, .int .i64 n, .int .i64 a0, .int .i64 a1, .int .i64 a2, .bool x0, .bool x1, .bool x2, .int .i64 ct, .bool y0, .bool y1, .bool y2, .bool y3, .bool y4, .bool y5, .bool y6, .bool y7, .bool y8], .int .i64 0] w fun e w' => e = .returned (.bool (acc x0 y1 y2 y5)) ∧ Gar w0 w' := by
  refine on_gar hb ?_
  clear hb w0
  rcases (show (x0 = false) ∨ (x0 = true ∧ y1 = true) ∨ (x0 = true ∧ y1 = false ∧ y2 = true) ∨ (x0 = true ∧ y1 = false ∧ y2 = false) by cases x0 <;> cases y1 <;> cases y2 <;> simp) with rfl | ⟨rfl, rfl⟩ | ⟨rfl, rfl, rfl⟩ | ⟨rfl, rfl, rfl⟩
  all_goals
    go_enter Try.func33, Try.ntmps33
    go_wp2_with (fail)
    go_returns
    exact ⟨ret_b (by simp [acc]), by repeat (first | exact Gar.refl _ | refine Gar.drewN ?_ _ | refine Gar.drew ?_ | refine Gar.alloc ?_ _ | refine Gar.allocs ?_ _)⟩
set_option maxHeartbeats 2000000 in
theorem accused_1 (e0 e1 e2 p0 p1 p2 n a0 a1 a2 : Int) (x0 x1 x2 : Bool) (ct : Int) (y0 y1 y2 y3 y4 y5 y6 y7 y8 : Bool) (w0 w : World) (hb : Gar w0 w) :
    Calls Try.prog 33 #[.agg #[.int .i64 e0, .int .i64 e1, .int .i64 e2, .int .i64 p0, .int .i64 p1, .int .i64 p2, .int .i64 n, .int .i64 a0, .int .i64 a1, .int .i64 a2, .bool x0, .bool x1, .bool x2, .int .i64 ct, .bool y0, .bool y1, .bool y2, .bool y3, .bool y4, .bool y5, .bool y6, .bool y7, .bool y8], .int .i64 1] w fun e w' => e = .returned (.bool (acc x1 y5 y3 y6)) ∧ Gar w0 w' := by
  refine on_gar hb ?_
  clear hb w0
  rcases (show (x1 = false) ∨ (x1 = true ∧ y5 = true) ∨ (x1 = true ∧ y5 = false ∧ y3 = true) ∨ (x1 = true ∧ y5 = false ∧ y3 = false) by cases x1 <;> cases y5 <;> cases y3 <;> simp) with rfl | ⟨rfl, rfl⟩ | ⟨rfl, rfl, rfl⟩ | ⟨rfl, rfl, rfl⟩
  all_goals
    go_enter Try.func33, Try.ntmps33
    go_wp2_with (fail)
    go_returns
    exact ⟨ret_b (by simp [acc]), by repeat (first | exact Gar.refl _ | refine Gar.drewN ?_ _ | refine Gar.drew ?_ | refine Gar.alloc ?_ _ | refine Gar.allocs ?_ _)⟩
set_option maxHeartbeats 2000000 in
theorem accused_2 (e0 e1 e2 p0 p1 p2 n a0 a1 a2 : Int) (x0 x1 x2 : Bool) (ct : Int) (y0 y1 y2 y3 y4 y5 y6 y7 y8 : Bool) (w0 w : World) (hb : Gar w0 w) :
    Calls Try.prog 33 #[.agg #[.int .i64 e0, .int .i64 e1, .int .i64 e2, .int .i64 p0, .int .i64 p1, .int .i64 p2, .int .i64 n, .int .i64 a0, .int .i64 a1, .int .i64 a2, .bool x0, .bool x1, .bool x2, .int .i64 ct, .bool y0, .bool y1, .bool y2, .bool y3, .bool y4, .bool y5, .bool y6, .bool y7, .bool y8], .int .i64 2] w fun e w' => e = .returned (.bool (acc x2 y6 y7 y1)) ∧ Gar w0 w' := by
  refine on_gar hb ?_
  clear hb w0
  rcases (show (x2 = false) ∨ (x2 = true ∧ y6 = true) ∨ (x2 = true ∧ y6 = false ∧ y7 = true) ∨ (x2 = true ∧ y6 = false ∧ y7 = false) by cases x2 <;> cases y6 <;> cases y7 <;> simp) with rfl | ⟨rfl, rfl⟩ | ⟨rfl, rfl, rfl⟩ | ⟨rfl, rfl, rfl⟩
  all_goals
    go_enter Try.func33, Try.ntmps33
    go_wp2_with (fail)
    go_returns
    exact ⟨ret_b (by simp [acc]), by repeat (first | exact Gar.refl _ | refine Gar.drewN ?_ _ | refine Gar.drew ?_ | refine Gar.alloc ?_ _ | refine Gar.allocs ?_ _)⟩
set_option maxHeartbeats 2000000 in
theorem apart_any (e0 e1 e2 p0 p1 p2 n a0 a1 a2 : Int) (x0 x1 x2 : Bool) (ct : Int) (y0 y1 y2 y3 y4 y5 y6 y7 y8 : Bool) (w0 w : World) (hb : Gar w0 w) :
    Calls Try.prog 34 #[.agg #[.int .i64 e0, .int .i64 e1, .int .i64 e2, .int .i64 p0, .int .i64 p1, .int .i64 p2, .int .i64 n, .int .i64 a0, .int .i64 a1, .int .i64 a2, .bool x0, .bool x1, .bool x2, .int .i64 ct, .bool y0, .bool y1, .bool y2, .bool y3, .bool y4, .bool y5, .bool y6, .bool y7, .bool y8]] w fun e w' => e = .returned (.bool (decide (ct = 2) && !y1 && !y5 && !y2)) ∧ Gar w0 w' := by
  refine on_gar hb ?_
  clear hb w0
  obtain ⟨T, hT⟩ : ∃ T, decide (ct = 2) = T := ⟨_, rfl⟩
  have hT2 : (ct == 2) = T := hT
  rw [hT]
  rcases (show (T = false) ∨ (T = true ∧ y1 = true) ∨ (T = true ∧ y1 = false ∧ y5 = true) ∨ (T = true ∧ y1 = false ∧ y5 = false) by cases T <;> cases y1 <;> cases y5 <;> simp) with rfl | ⟨rfl, rfl⟩ | ⟨rfl, rfl, rfl⟩ | ⟨rfl, rfl, rfl⟩
  all_goals
    go_enter Try.func34, Try.ntmps34
    go_wp2_with (fail)
    go_returns
    exact ⟨ret_b (by simp), by repeat (first | exact Gar.refl _ | refine Gar.drewN ?_ _ | refine Gar.drew ?_ | refine Gar.alloc ?_ _ | refine Gar.allocs ?_ _)⟩
end Go.Proofs.Ytdincfemiignjaa
