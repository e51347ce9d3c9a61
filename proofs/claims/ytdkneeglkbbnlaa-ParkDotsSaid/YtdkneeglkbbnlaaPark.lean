/- The plain mathematics of the rotation by the table's directions. No program in sight. -/
import Derived.Test.YtdkneeglkbbnlaaSinP
namespace Go.Proofs.Ytdkneeglkbbnlaa
open Go.RowKit

/-- The sum of cosine and sine in the first quarter. -/
theorem chkSum : allQ (fun a => Nat.ble (Nat.add (cs a) (sn a)) 46340) = true := by decide +kernel

/-- Both coordinates are at most 2^40 in absolute value. -/
def prkB (x y : Int) : Bool := decide (-1099511627776 ≤ x) && decide (x ≤ 1099511627776) && decide (-1099511627776 ≤ y) && decide (y ≤ 1099511627776)
theorem prkB_in {x y : Int} (h : prkB x y = true) : (-1099511627776 ≤ x ∧ x ≤ 1099511627776) ∧ (-1099511627776 ≤ y ∧ y ≤ 1099511627776) := by
  simp [prkB] at h
  omega
theorem prkB_mk {x y : Int} (h : (-1099511627776 ≤ x ∧ x ≤ 1099511627776) ∧ (-1099511627776 ≤ y ∧ y ≤ 1099511627776)) : prkB x y = true := by
  simp [prkB]
  omega
theorem prkB_out {x y : Int} (h : prkB x y = false) : x < -1099511627776 ∨ 1099511627776 < x ∨ ((-1099511627776 ≤ x ∧ x ≤ 1099511627776) ∧ y < -1099511627776) ∨ ((-1099511627776 ≤ x ∧ x ≤ 1099511627776) ∧ 1099511627776 < y) := by
  simp [prkB] at h
  omega
/-- The turned vector. -/
def tu (x y a : Int) : Int := (bc a * x - bs a * y).tdiv 32768
def tv (x y a : Int) : Int := (bs a * x + bc a * y).tdiv 32768

/-- A product with a number of at most 2^15 in absolute value. -/
theorem pr_abs {c x m : Int} (hc : -32768 ≤ c ∧ c ≤ 32768) (hx : -m ≤ x ∧ x ≤ m) : -(32768 * m) ≤ c * x ∧ c * x ≤ 32768 * m := by
  have h1 : 0 ≤ (32768 - c) * (m + x) := Int.mul_nonneg (by omega) (by omega)
  have h2 : 0 ≤ (32768 + c) * (m - x) := Int.mul_nonneg (by omega) (by omega)
  have h3 : 0 ≤ (32768 - c) * (m - x) := Int.mul_nonneg (by omega) (by omega)
  have h4 : 0 ≤ (32768 + c) * (m + x) := Int.mul_nonneg (by omega) (by omega)
  have e1 : (32768 - c) * (m + x) = 32768 * m + 32768 * x - c * m - c * x := by grind
  have e2 : (32768 + c) * (m - x) = 32768 * m - 32768 * x + c * m - c * x := by grind
  have e3 : (32768 - c) * (m - x) = 32768 * m - 32768 * x - c * m + c * x := by grind
  have e4 : (32768 + c) * (m + x) = 32768 * m + 32768 * x + c * m + c * x := by grind
  omega
theorem prod_bd2 {x y m n : Int} (hx : -m ≤ x ∧ x ≤ m) (hy : -n ≤ y ∧ y ≤ n) : -(m * n) ≤ x * y ∧ x * y ≤ m * n := by
  have h1 : 0 ≤ (m - x) * (n + y) := Int.mul_nonneg (by omega) (by omega)
  have h2 : 0 ≤ (m + x) * (n - y) := Int.mul_nonneg (by omega) (by omega)
  have h3 : 0 ≤ (m - x) * (n - y) := Int.mul_nonneg (by omega) (by omega)
  have h4 : 0 ≤ (m + x) * (n + y) := Int.mul_nonneg (by omega) (by omega)
  have e1 : (m - x) * (n + y) = m * n + m * y - x * n - x * y := by grind
  have e2 : (m + x) * (n - y) = m * n - m * y + x * n - x * y := by grind
  have e3 : (m - x) * (n - y) = m * n - m * y - x * n + x * y := by grind
  have e4 : (m + x) * (n + y) = m * n + m * y + x * n + x * y := by grind
  omega
/-- Division by 2^15, cut towards nought. -/
theorem tdv (p : Int) : ∃ r, p = 32768 * p.tdiv 32768 + r ∧ -32767 ≤ r ∧ r ≤ 32767 ∧ ((0 ≤ p ∧ 0 ≤ p.tdiv 32768 ∧ 0 ≤ r) ∨ (p < 0 ∧ p.tdiv 32768 ≤ 0 ∧ r ≤ 0)) := by
  rcases tdiv_cases p 32768 (by omega) with ⟨h, e⟩ | ⟨h, e⟩
  · exact ⟨p - 32768 * p.tdiv 32768, by omega, by omega, by omega, .inl ⟨h, by omega, by omega⟩⟩
  · exact ⟨p - 32768 * p.tdiv 32768, by omega, by omega, by omega, .inr ⟨h, by omega, by omega⟩⟩
theorem sq_mono {a b : Int} (h : (0 ≤ a ∧ a ≤ b) ∨ (b ≤ a ∧ a ≤ 0)) : a * a ≤ b * b := by
  have h1 : 0 ≤ (b - a) * (b + a) := by
    rcases h with h | h
    · exact Int.mul_nonneg (by omega) (by omega)
    · exact Int.mul_nonneg_of_nonpos_of_nonpos (by omega) (by omega)
  have h2 : (b - a) * (b + a) = b * b - a * a := by grind
  omega
theorem sq_nn (a : Int) : 0 ≤ a * a := by
  rcases Int.le_total 0 a with h | h
  · exact Int.mul_nonneg h h
  · exact Int.mul_nonneg_of_nonpos_of_nonpos h h

/-- What is divided: the products' bounds; the walk's own terms. -/
theorem turn_bd (x y a m : Int) (hx : -m ≤ x ∧ x ≤ m) (hy : -m ≤ y ∧ y ≤ m) :
    (-(32768 * m) ≤ bc a * x ∧ bc a * x ≤ 32768 * m) ∧ (-(32768 * m) ≤ bs a * y ∧ bs a * y ≤ 32768 * m) ∧ (-(32768 * m) ≤ bs a * x ∧ bs a * x ≤ 32768 * m) ∧ (-(32768 * m) ≤ bc a * y ∧ bc a * y ≤ 32768 * m) := by
  obtain ⟨h1, h2⟩ := b_bd a
  exact ⟨pr_abs h1 hx, pr_abs h2 hy, pr_abs h2 hx, pr_abs h1 hy⟩
def ab (x : Int) : Int := if x < -x then -x else x
theorem ab_bd (x : Int) : -ab x ≤ x ∧ x ≤ ab x ∧ 0 ≤ ab x := by unfold ab; omega
/-- No coordinate of the turned vector is greater than the sum of the absolute values. -/
theorem turn_le (x y a : Int) : (-(ab x + ab y) ≤ tu x y a ∧ tu x y a ≤ ab x + ab y) ∧ (-(ab x + ab y) ≤ tv x y a ∧ tv x y a ≤ ab x + ab y) := by
  obtain ⟨h1, h2⟩ := b_bd a
  have ax := ab_bd x
  have ay := ab_bd y
  have p1 := pr_abs h1 (m := ab x) (x := x) (by omega)
  have p2 := pr_abs h2 (m := ab y) (x := y) (by omega)
  have p3 := pr_abs h2 (m := ab x) (x := x) (by omega)
  have p4 := pr_abs h1 (m := ab y) (x := y) (by omega)
  obtain ⟨r1, e1, b1, b2, -⟩ := tdv (bc a * x - bs a * y)
  obtain ⟨r2, e2, b3, b4, -⟩ := tdv (bs a * x + bc a * y)
  unfold tu tv
  omega

/-- The turned vector is not longer. -/
theorem turn_short (x y a : Int) : tu x y a * tu x y a + tv x y a * tv x y a ≤ x * x + y * y := by
  have hl := b_len a
  obtain ⟨r1, e1, -, -, s1⟩ := tdv (bc a * x - bs a * y)
  obtain ⟨r2, e2, -, -, s2⟩ := tdv (bs a * x + bc a * y)
  have q1 : (32768 * tu x y a) * (32768 * tu x y a) ≤ (bc a * x - bs a * y) * (bc a * x - bs a * y) := sq_mono (by unfold tu; omega)
  have q2 : (32768 * tv x y a) * (32768 * tv x y a) ≤ (bs a * x + bc a * y) * (bs a * x + bc a * y) := sq_mono (by unfold tv; omega)
  have e3 : (bc a * x - bs a * y) * (bc a * x - bs a * y) + (bs a * x + bc a * y) * (bs a * x + bc a * y) = (bc a * bc a + bs a * bs a) * (x * x + y * y) := by grind
  have nn : 0 ≤ x * x + y * y := by have := sq_nn x; have := sq_nn y; omega
  have q3 : (bc a * bc a + bs a * bs a) * (x * x + y * y) ≤ 1073741824 * (x * x + y * y) := Int.mul_le_mul_of_nonneg_right hl.1 nn
  have f1 : (32768 * tu x y a) * (32768 * tu x y a) = 1073741824 * (tu x y a * tu x y a) := by grind
  have f2 : (32768 * tv x y a) * (32768 * tv x y a) = 1073741824 * (tv x y a * tv x y a) := by grind
  omega
/-- A square of a sum u * R + r with r of u's sign. -/
theorem sq_up {p u r m : Int} (e : p = 32768 * u + r) (hr : -32767 ≤ r ∧ r ≤ 32767) (hu : -m ≤ u ∧ u ≤ m) : p * p ≤ 1073741824 * (u * u) + 65536 * (32767 * m) + 1073676289 := by
  have h1 := prod_bd2 (x := r) (y := u) (m := 32767) (n := m) hr hu
  have h2 := prod_bd2 (x := r) (y := r) (m := 32767) (n := 32767) hr hr
  have h3 : p * p = 1073741824 * (u * u) + 65536 * (r * u) + r * r := by rw [e]; grind
  omega
theorem turn_long (x y a : Int) : 1073348644 * (x * x + y * y) ≤ 1073741824 * (tu x y a * tu x y a + tv x y a * tv x y a) + 4294836224 * (ab x + ab y) + 2147352578 := by
  have hl := b_len a
  obtain ⟨l1, l2⟩ := turn_le x y a
  obtain ⟨r1, e1, b1, b2, -⟩ := tdv (bc a * x - bs a * y)
  obtain ⟨r2, e2, b3, b4, -⟩ := tdv (bs a * x + bc a * y)
  have q1 := sq_up (u := tu x y a) e1 ⟨b1, b2⟩ l1
  have q2 := sq_up (u := tv x y a) e2 ⟨b3, b4⟩ l2
  have e3 : (bc a * x - bs a * y) * (bc a * x - bs a * y) + (bs a * x + bc a * y) * (bs a * x + bc a * y) = (bc a * bc a + bs a * bs a) * (x * x + y * y) := by grind
  have nn : 0 ≤ x * x + y * y := by have := sq_nn x; have := sq_nn y; omega
  have q3 : 1073348644 * (x * x + y * y) ≤ (bc a * bc a + bs a * bs a) * (x * x + y * y) := Int.mul_le_mul_of_nonneg_right hl.2 nn
  omega
end Go.Proofs.Ytdkneeglkbbnlaa
