/- The plain laws of the monitor: the order of the currents; healthy quantities; counts. No walk in sight. -/
import Derived.Test.YtlppolaoigbkeaaMonP
namespace Go.Proofs.Ytlppolaoigbkeaa
open Go.RowKit
set_option linter.unusedVariables false

theorem sz_neg (n m : Int) (h : 0 ≤ m) : sz (-n) m = sz n m := by unfold sz; (repeat' split) <;> omega
theorem cl3_neg (n : Int) : cl3 (-n) = -cl3 n := by unfold cl3 clp; (repeat' split) <;> omega
theorem cl3_in {n : Int} (h : -2097152 ≤ n) (h2 : n ≤ 2097152) : cl3 n = n := by unfold cl3; exact clp_in h h2
theorem sum3 (x y z : Int) : sumK x y z 3 = cl3 x + cl3 y + cl3 z := by simp [sumK]
theorem absI_neg (n : Int) : absI (-n) = absI n := by unfold absI; (repeat' split) <;> omega
theorem ord_0 (c x y z : Int) : q0 c (-z) (-x) (-y) = q0 c x y z := by
  unfold q0
  rw [sum3, sum3, cl3_neg, cl3_neg, cl3_neg, ← absI_neg]
  congr 2
  congr 1
  omega
theorem ord_1 (c d x y z : Int) : lostB c d (-z) (-x) (-y) = lostB c d x y z := by
  unfold lostB
  rw [sz_neg x _ (by omega), sz_neg y _ (by omega), sz_neg z _ (by omega)]
  generalize decide (sz x 2097152 ≤ c) = a1
  generalize decide (sz y 2097152 ≤ c) = a2
  generalize decide (sz z 2097152 ≤ c) = a3
  generalize decide (d < sz x 2097152) = b1
  generalize decide (d < sz y 2097152) = b2
  generalize decide (d < sz z 2097152) = b3
  simp only [tailB, rowB]
  revert a1 a2 a3 b1 b2 b3
  decide
theorem ord_2 (c d p q : Int) : q2 c d (-p) (-q) = q2 c d p q := by
  unfold q2; rw [sz_neg p _ (by omega), sz_neg q _ (by omega)]
theorem ord_3 (c f s : Int) : q3 c s f = q3 c f s := by unfold q3; rw [dst_comm]

theorem dst_abs {a b k : Int} (h1 : a - b ≤ k) (h2 : b - a ≤ k) : dst a b ≤ k := by unfold dst dif; omega
theorem well_0 {c x y z : Int} (h1 : -c ≤ x + y + z) (h2 : x + y + z ≤ c) (hx : -2097152 ≤ x ∧ x ≤ 2097152) (hy : -2097152 ≤ y ∧ y ≤ 2097152) (hz : -2097152 ≤ z ∧ z ≤ 2097152) : q0 c x y z = false := by
  unfold q0
  rw [sum3, cl3_in hx.1 hx.2, cl3_in hy.1 hy.2, cl3_in hz.1 hz.2]
  refine decide_eq_false ?_
  unfold absI; (repeat' split) <;> omega
theorem well_3 {c f s : Int} (h1 : f - s ≤ c) (h2 : s - f ≤ c) : q3 c f s = false := by
  unfold q3
  refine decide_eq_false ?_
  have := dst_abs h1 h2
  omega
theorem mF_false (n t : Int) : mF false n t = 0 := rfl
theorem mG_false {g : Bool} {n t : Int} (h : 1 ≤ t) : mG false g n t = g := by
  unfold mG; rw [mF_false, decide_eq_false (by omega), Bool.or_false]

/-- The state by the rows of calls: r calls in a row, t ticks. -/
def cap (r t : Int) : Int := if r < t then r else t
theorem cap_next {r t : Int} (h : 0 ≤ r) (ht : 1 ≤ t) (b : Bool) : mF b (cap r t) t = cap (if b then r + 1 else 0) t := by
  unfold mF cap
  have e : clp (if r < t then r else t) 0 t = (if r < t then r else t) := clp_in (by split <;> omega) (by split <;> omega)
  rw [e]
  cases b <;> simp <;> (repeat' split) <;> omega
theorem cap_flag {r t : Int} (h : 0 ≤ r) (ht : 1 ≤ t) (b g : Bool) : mG b g (cap r t) t = (g || decide (t ≤ (if b then r + 1 else 0))) := by
  unfold mG
  rw [cap_next h ht]
  congr 1
  rw [decide_eq_decide]
  unfold cap
  cases b <;> simp <;> (repeat' split) <;> omega
end Go.Proofs.Ytlppolaoigbkeaa
