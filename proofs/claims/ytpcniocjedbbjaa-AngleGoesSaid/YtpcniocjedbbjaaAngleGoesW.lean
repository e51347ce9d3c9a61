/- The walk of the law AngleGoes. -/
import Derived.Test.YtpcniocjedbbjaaAngA
import Derived.Test.YtpcniocjedbbjaaAngW2
import Derived.Test.YtpcniocjedbbjaaFlat
import Derived.Test.YtpcniocjedbbjaaBel
namespace Go.Proofs.Ytpcniocjedbbjaa
open Go.RowKit
set_option linter.unusedVariables false

theorem way_on (a b q : Int) (h : (0 ≤ q ∧ q ≤ dif b a) ∨ (dif b a ≤ q ∧ q ≤ 0)) : (dst a (nrm (nrm a + q)) = q ∨ dst a (nrm (nrm a + q)) = -q) ∧ dst a (nrm (nrm a + q)) + dst (nrm (nrm a + q)) b = dst a b := by
  unfold dst nrm dif at *
  rcases h with ⟨h1, h2⟩ | ⟨h1, h2⟩ <;> constructor <;> (repeat' split) <;> omega

theorem way_ends (a b den : Int) (h : 1 ≤ den) : itp a b 0 den = nrm a ∧ itp a b den den = nrm b := by
  constructor
  · unfold itp
    rw [show dif b a * 0 = 0 by omega, Int.zero_tdiv]
    unfold nrm; omega
  · unfold itp
    rw [Int.mul_tdiv_cancel _ (by omega)]
    unfold nrm dif; omega

/-- The parts of a way. -/
theorem way_part (d n m den : Int) (h : 1 ≤ den) (h1 : 0 ≤ n) (h2 : n ≤ m) (h3 : m ≤ den) :
    (0 ≤ (d * n).tdiv den ∧ (d * n).tdiv den ≤ (d * m).tdiv den ∧ (d * m).tdiv den ≤ d) ∨ (d ≤ (d * m).tdiv den ∧ (d * m).tdiv den ≤ (d * n).tdiv den ∧ (d * n).tdiv den ≤ 0) := by
  have key : ∀ e : Int, 0 ≤ e → 0 ≤ (e * n).tdiv den ∧ (e * n).tdiv den ≤ (e * m).tdiv den ∧ (e * m).tdiv den ≤ e := by
    intro e he
    have p1 : 0 ≤ e * n := Int.mul_nonneg he h1
    have p2 : e * n ≤ e * m := Int.mul_le_mul_of_nonneg_left h2 he
    have p3 : e * m ≤ e * den := Int.mul_le_mul_of_nonneg_left h3 he
    rw [Int.tdiv_eq_ediv_of_nonneg p1, Int.tdiv_eq_ediv_of_nonneg (by omega : 0 ≤ e * m)]
    refine ⟨Int.ediv_nonneg p1 (by omega), Int.ediv_le_ediv (by omega) p2, ?_⟩
    have := Int.ediv_le_ediv (by omega : 0 < den) p3
    rwa [Int.mul_ediv_cancel _ (by omega : den ≠ 0)] at this
  by_cases hd : 0 ≤ d
  · exact .inl (key d hd)
  · have k := key (-d) (by omega)
    rw [Int.neg_mul, Int.neg_mul, Int.neg_tdiv, Int.neg_tdiv] at k
    exact .inr (by omega)

theorem goes (a b lo hi den : Int) (h : 1 ≤ den) (h1 : 0 ≤ lo) (h2 : lo ≤ hi) (h3 : hi ≤ den) :
    dst a (itp a b lo den) ≤ dst a (itp a b hi den) ∧ dst a (itp a b lo den) + dst (itp a b lo den) b = dst a b ∧ dst (itp a b hi den) b ≤ dst (itp a b lo den) b := by
  have p := way_part (dif b a) lo hi den h h1 h2 h3
  unfold itp
  obtain ⟨q, hq⟩ : ∃ q, (dif b a * lo).tdiv den = q := ⟨_, rfl⟩
  obtain ⟨r, hr⟩ : ∃ r, (dif b a * hi).tdiv den = r := ⟨_, rfl⟩
  rw [hq, hr] at p ⊢
  clear hq hr
  have A := way_on a b q (by omega)
  have B := way_on a b r (by omega)
  have b1 := dst_bd a (nrm (nrm a + q))
  have b2 := dst_bd a (nrm (nrm a + r))
  omega

theorem mx_ex {P : Program} (x y z : Int) (hx : 0 ≤ x ∧ x ≤ 65535) (hy : 0 ≤ y ∧ y ≤ 65535) (hz : 0 ≤ z ∧ z ≤ 65535) :
    ∃ L H M : Int, (∀ (ts : Array TypeId) (t : TypeId) (w : World), (Builtin.max_ ts t #[.int .u16 x, .int .u16 y, .int .u16 z]).run P w = .ok (.int .u16 M) w)
      ∧ (∀ (ts : Array TypeId) (t : TypeId) (w : World), (Builtin.max_ ts t #[.int .u16 x, .int .u16 y]).run P w = .ok (.int .u16 H) w)
      ∧ (∀ (ts : Array TypeId) (t : TypeId) (w : World), (Builtin.min_ ts t #[.int .u16 x, .int .u16 y]).run P w = .ok (.int .u16 L) w)
      ∧ 0 ≤ L ∧ L ≤ H ∧ H ≤ M ∧ M ≤ 65535 := by
  refine ⟨(if y < x then y else x), (if y > x then y else x), (if z > (if y > x then y else x) then z else (if y > x then y else x)), ?_, ?_, ?_, ?_⟩
  · intro ts t w
    simp [Builtin.max_, Builtin.max2]
  · intro ts t w
    simp [Builtin.max_, Builtin.max2]
  · intro ts t w
    simp [Builtin.min_, Builtin.min2]
  · (repeat' split) <;> omega

set_option maxHeartbeats 1000000 in
theorem angleGoes_walk (a0 : Int) (a1 : Int) (a2x0 a2x1 a2x2 : Int) (w : World) (w0 : (Lit.int .i64 a0).wf = true) (w1 : (Lit.int .i64 a1).wf = true) (w2x0 : (Lit.int .u16 a2x0).wf = true) (w2x1 : (Lit.int .u16 a2x1).wf = true) (w2x2 : (Lit.int .u16 a2x2).wf = true) :
    Calls Try.prog 12 #[.int .i64 a0, .int .i64 a1, .agg #[.int .u16 a2x0, .int .u16 a2x1, .int .u16 a2x2]] w fun e w' => e = .returned (.bool true) ∧ Below w.heap.size w w' := by
  have hx : 0 ≤ a2x0 ∧ a2x0 ≤ 65535 := by have := bounds_u16 w2x0; omega
  have hy : 0 ≤ a2x1 ∧ a2x1 ≤ 65535 := by have := bounds_u16 w2x1; omega
  have hz : 0 ≤ a2x2 ∧ a2x2 ≤ 65535 := by have := bounds_u16 w2x2; omega
  obtain ⟨L, H, M, m1, m2, m3, b1, b2, b3, b4⟩ := mx_ex (P := Try.prog) a2x0 a2x1 a2x2 hx hy hz
  clear hx hy hz
  obtain ⟨e1, e2⟩ := way_ends a0 a1 (1 + M) (by omega)
  obtain ⟨g1, g2, g3⟩ := goes a0 a1 L H (1 + M) (by omega) (by omega) (by omega) (by omega)
  have c1 := interp_in a0 a1 0 (1 + M) (prtB_mk (by omega))
  have c2 := interp_in a0 a1 (1 + M) (1 + M) (prtB_mk (by omega))
  have c3 := interp_in a0 a1 L (1 + M) (prtB_mk (by omega))
  have c4 := interp_in a0 a1 H (1 + M) (prtB_mk (by omega))
  rw [e1] at c1
  rw [e2] at c2
  clear e1 e2
  obtain ⟨X, hX⟩ : ∃ X, itp a0 a1 L (1 + M) = X := ⟨_, rfl⟩
  obtain ⟨Y, hY⟩ : ∃ Y, itp a0 a1 H (1 + M) = Y := ⟨_, rfl⟩
  rw [hX] at c3
  rw [hY] at c4
  rw [hX] at g1 g2 g3
  rw [hY] at g1 g3
  clear hX hY
  have d1 := dst_bd a0 X
  have d2 := dst_bd X a1
  go_enter Try.func12, Try.ntmps12
  go_wp2_with (first | (go_at_call 13; (with_reducible refine (awake_true _).mono ?_); rintro e w' ⟨rfl, rfl⟩))
  go_quiet (fail)
  go_wp2_with (first | (go_at_call 28; (first | (with_reducible refine (c1 _).mono ?_) | (with_reducible refine (c2 _).mono ?_) | (with_reducible refine (c3 _).mono ?_) | (with_reducible refine (c4 _).mono ?_)); rintro e w' ⟨rfl, rfl⟩) | (go_at_call 17; (with_reducible refine (norm_any _ _).mono ?_); rintro e w' ⟨rfl, rfl⟩) | (go_at_call 19; (with_reducible refine (dist_any _ _ _).mono ?_); rintro e w' ⟨rfl, rfl⟩))
  go_returns
  exact ⟨rfl, (((Bel.refl w).alloc _).drewN _)⟩
end Go.Proofs.Ytpcniocjedbbjaa
