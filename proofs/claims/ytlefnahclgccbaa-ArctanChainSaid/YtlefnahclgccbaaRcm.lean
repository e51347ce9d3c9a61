/- The reference's Product and Compare; Turn. -/
import Derived.Test.YtlefnahclgccbaaCmp
import Derived.Test.YtlefnahclgccbaaDrw
import Derived.Laws.StructEq
namespace Go.Proofs.Ytlefnahclgccbaa
open Go.RowKit
set_option linter.unusedVariables false

theorem and_20 (x : Int) : bits .and .i64 x 1048575 = x % 1048576 := by
  have h : (BitVec.ofInt 64 1048575).toNat = 2 ^ 20 - 1 := by decide
  have key : (BitVec.ofInt 64 x &&& BitVec.ofInt 64 1048575).toNat = (x % ((2 ^ 64 : Nat) : Int)).toNat % 2 ^ 20 := by
    rw [BitVec.toNat_and, BitVec.toNat_ofInt, h, Nat.and_two_pow_sub_one_eq_mod]
  show IntKind.i64.wrap ((BitVec.ofInt 64 x &&& BitVec.ofInt 64 1048575).toNat : Nat) = x % 1048576
  rw [key, IntKind.wrap_i64]
  omega
theorem and_40 (x : Int) : bits .and .i64 x 1099511627775 = x % 1099511627776 := by
  have h : (BitVec.ofInt 64 1099511627775).toNat = 2 ^ 40 - 1 := by decide
  have key : (BitVec.ofInt 64 x &&& BitVec.ofInt 64 1099511627775).toNat = (x % ((2 ^ 64 : Nat) : Int)).toNat % 2 ^ 40 := by
    rw [BitVec.toNat_and, BitVec.toNat_ofInt, h, Nat.and_two_pow_sub_one_eq_mod]
  show IntKind.i64.wrap ((BitVec.ofInt 64 x &&& BitVec.ofInt 64 1099511627775).toNat : Nat) = x % 1099511627776
  rw [key, IntKind.wrap_i64]
  omega
def hi4 (n : Int) : Int := n / 1099511627776
def lo4 (n : Int) : Int := n % 1099511627776
theorem ret_agg2 {a b c d : Int} (h : a = b) (g : c = d) : Ending.returned (.agg #[.int .i64 a, .int .i64 c]) = .returned (.agg #[.int .i64 b, .int .i64 d]) := by rw [h, g]
theorem prodI {x y m n : Int} (hm : 0 ≤ m) (hn : 0 ≤ n) (hx : -m ≤ x ∧ x ≤ m) (hy : -n ≤ y ∧ y ≤ n) : -(m * n) ≤ x * y ∧ x * y ≤ m * n := by
  rcases Int.le_total 0 y with h | h
  · have p := prod_bd (x := x) (y := y) hm hx ⟨h, hy.2⟩
    exact p
  · have p := prod_bd (x := x) (y := -y) hm hx (n := n) ⟨by omega, by omega⟩
    rw [Int.mul_neg] at p
    omega

set_option maxHeartbeats 1000000 in
theorem product_any (a b : Int) (ha : -1099511627776 ≤ a ∧ a ≤ 1099511627776) (hb : -1099511627776 ≤ b ∧ b ≤ 1099511627776) (w : World) :
    Calls Try.prog 28 #[.int .i64 a, .int .i64 b] w fun e w' => e = .returned (.agg #[.int .i64 (hi4 (a * b)), .int .i64 (lo4 (a * b))]) ∧ ∃ o, w' = w.alloc o := by
  obtain ⟨g, hg⟩ : ∃ g, a / 1048576 = g := ⟨_, rfl⟩
  obtain ⟨k, hk⟩ : ∃ k, a % 1048576 = k := ⟨_, rfl⟩
  obtain ⟨h, hh⟩ : ∃ h, b / 1048576 = h := ⟨_, rfl⟩
  obtain ⟨l, hl⟩ : ∃ l, b % 1048576 = l := ⟨_, rfl⟩
  have b1 : -1048576 ≤ g ∧ g ≤ 1048576 := by omega
  have b2 : 0 ≤ k ∧ k ≤ 1048575 := by omega
  have b3 : -1048576 ≤ h ∧ h ≤ 1048576 := by omega
  have b4 : 0 ≤ l ∧ l ≤ 1048575 := by omega
  have c1 := prod_bd (x := g) (y := l) (m := 1048576) (n := 1048575) (by omega) b1 b4
  have c2 := prod_bd (x := h) (y := k) (m := 1048576) (n := 1048575) (by omega) b3 b2
  have c3 := prod_bd (x := k) (y := l) (m := 1048575) (n := 1048575) (by omega) (by omega) b4
  have c4 := prodI (x := g) (y := h) (m := 1048576) (n := 1048576) (by omega) (by omega) b1 b3
  have c5 : 0 ≤ k * l := Int.mul_nonneg b2.1 b4.1
  have e : a * b = g * h * 1099511627776 + (g * l + h * k) * 1048576 + k * l := by
    have ea : a = g * 1048576 + k := by omega
    have eb : b = h * 1048576 + l := by omega
    rw [ea, eb]; grind
  have m1 := and_20 a
  have m2 := and_20 b
  rw [hk] at m1
  rw [hl] at m2
  obtain ⟨M, hM⟩ : ∃ M, g * l + h * k = M := ⟨_, rfl⟩
  have bM : -2199023255552 ≤ M ∧ M ≤ 2199023255552 := by omega
  have m3 := and_20 M
  obtain ⟨m, hm⟩ : ∃ m, M % 1048576 = m := ⟨_, rfl⟩
  rw [hm] at m3
  have bm : 0 ≤ m ∧ m ≤ 1048575 := by omega
  obtain ⟨L, hL⟩ : ∃ L, k * l + m * 1048576 = L := ⟨_, rfl⟩
  have m4 := and_40 L
  have bL : 0 ≤ L ∧ L ≤ 2199023255552 := by omega
  rw [hM] at e
  have r1 : hi4 (a * b) = g * h + M / 1048576 + L / 1099511627776 := by unfold hi4; rw [e]; omega
  have r2 : lo4 (a * b) = L % 1099511627776 := by unfold lo4; rw [e]; omega
  have hr := hide (And.intro r1 r2)
  clear e hk hl hm r1 r2
  go_enter Try.func28, Try.ntmps28
  go_wp2
  refine bodyPost_ret (by simp [results, Try.results28, go_sem]; try rfl) rfl ?_
  exact ⟨ret_agg2 (by rw [hr.out.1]) (by rw [hr.out.2]), _, rfl⟩

/-- The same cross product behind the turn by the quarters. -/
theorem u_cross {x y u v : Int} (h : qn x y = qn u v) : ux x y * uy u v - uy x y * ux u v = x * v - y * u := by
  unfold ux uy
  rw [← h]
  rcases (show qn x y = 0 ∨ qn x y = 1 ∨ qn x y = 2 ∨ qn x y = 3 by have := qn_bd x y; omega) with e | e | e | e <;> simp only [e] <;> simp <;> grind

@[go_sem] theorem eq_two (a b c d : Int) (w : World) : (Op.equalIn 10000 44 (.agg #[.int .i64 a, .int .i64 b]) (.agg #[.int .i64 c, .int .i64 d])).run Try.prog w = .ok (a == c && b == d) w := by
  have u3 := Try.underlying3
  have a3 := Try.isAgg3
  have z3 := Try.sizeOf3
  rw [show (10000 : Nat) = 9999 + 1 from rfl, Op.equalIn]
  simp only [Sem.run_bind, run_underlying Try.underlying44, Result.andThen_ok]
  simp only [Std.Legacy.Range.forIn_eq_forIn_range', Std.Legacy.Range.size, Nat.sub_zero, Nat.add_sub_cancel, Nat.div_one, List.range'_succ, List.range'_zero, List.forIn_cons, List.forIn_nil]
  go_simp
  by_cases h1 : a = c <;> by_cases h2 : b = d <;> simp [h1, h2]

set_option maxHeartbeats 2000000 in
theorem rcompare_any (x y u v : Int) (wx : (Lit.int .i64 x).wf = true) (wy : (Lit.int .i64 y).wf = true) (wu : (Lit.int .i64 u).wf = true) (wv : (Lit.int .i64 v).wf = true) (w0 w : World) (hb : Bel w0 w) :
    Calls Try.prog 16 #[.int .i64 x, .int .i64 y, .int .i64 u, .int .i64 v] w fun e w' => e = .returned (.int .i64 (cmpV x y u v)) ∧ Bel w0 w' := by
  refine on_bel hb ?_
  clear hb w0
  obtain ⟨⟨a1, a2⟩, a3⟩ := v_bd x y
  obtain ⟨⟨b1, b2⟩, b3⟩ := v_bd u v
  have hC := cmpF_cases (fq x y) (fq u v) (fx x y) (fy x y) (fx u v) (fy u v)
  have hX : fq x y = fq u v → fx x y * fy u v - fy x y * fx u v = vx x y * vy u v - vy x y * vx u v := fun h => u_cross h
  have q1 := qn_bd (vx x y) (vy x y)
  have q2 := qn_bd (vx u v) (vy u v)
  have hS1 := small_any x y wx wy
  have hS2 := small_any u v wu wv
  rw [Int.mul_comm (fy u v)] at hC
  obtain ⟨R, hR⟩ : ∃ R, cmpV x y u v = R := ⟨_, rfl⟩
  rw [hR]
  unfold cmpV at hR
  rw [hR] at hC
  unfold fq at hC hX
  generalize fx x y * fy u v = s1 at *
  generalize fy x y * fx u v = s2 at *
  obtain ⟨X, eX⟩ : ∃ X, vx x y = X := ⟨_, rfl⟩
  obtain ⟨Y, eY⟩ : ∃ X, vy x y = X := ⟨_, rfl⟩
  obtain ⟨U, eU⟩ : ∃ X, vx u v = X := ⟨_, rfl⟩
  obtain ⟨V, eV⟩ : ∃ X, vy u v = X := ⟨_, rfl⟩
  rw [eX, eY] at hC hX hS1 q1
  rw [eU, eV] at hC hX hS2 q2
  rw [eX] at a1
  rw [eY] at a2
  rw [eU] at b1
  rw [eV] at b2
  clear wx wy wu wv a3 b3 eX eY eU eV hR
  have hQ1 := quarter_any X Y
  have hQ2 := quarter_any U V
  obtain ⟨p, hp⟩ : ∃ p, qn X Y = p := ⟨_, rfl⟩
  obtain ⟨q, hq⟩ : ∃ p, qn U V = p := ⟨_, rfl⟩
  rw [hp] at hC hX hQ1 q1
  rw [hq] at hC hX hQ2 q2
  clear hp hq
  have hall : (p < q ∨ q < p) ∨ p = q := by omega
  rcases hall with (h | h) | h
  · obtain rfl : R = -1 := by omega
    clear hC hX
    have hn : (p == q) = false := by simp; omega
    go_enter Try.func16, Try.ntmps16
    go_wp2_with (first | (go_at_call 25; (first | (with_reducible refine (hS1 _).mono ?_) | (with_reducible refine (hS2 _).mono ?_)); rintro e w' ⟨rfl, rfl⟩) | (go_at_call 26; (first | (with_reducible refine (hQ1 _).mono ?_) | (with_reducible refine (hQ2 _).mono ?_)); rintro e w' ⟨rfl, rfl⟩))
    go_returns
    exact ⟨rfl, Bel.refl _⟩
  · obtain rfl : R = 1 := by omega
    clear hC hX
    have hn : (p == q) = false := by simp; omega
    go_enter Try.func16, Try.ntmps16
    go_wp2_with (first | (go_at_call 25; (first | (with_reducible refine (hS1 _).mono ?_) | (with_reducible refine (hS2 _).mono ?_)); rintro e w' ⟨rfl, rfl⟩) | (go_at_call 26; (first | (with_reducible refine (hQ1 _).mono ?_) | (with_reducible refine (hQ2 _).mono ?_)); rintro e w' ⟨rfl, rfl⟩))
    go_returns
    exact ⟨rfl, Bel.refl _⟩
  · subst h
    have hX := hX rfl
    have P1 := product_any X V a1 b2
    have P2 := product_any Y U a2 b1
    have d1 : hi4 (X * V) * 1099511627776 + lo4 (X * V) = X * V := by unfold hi4 lo4; omega
    have d2 : hi4 (Y * U) * 1099511627776 + lo4 (Y * U) = Y * U := by unfold hi4 lo4; omega
    have d3 : 0 ≤ lo4 (X * V) ∧ lo4 (X * V) < 1099511627776 := by unfold lo4; omega
    have d4 : 0 ≤ lo4 (Y * U) ∧ lo4 (Y * U) < 1099511627776 := by unfold lo4; omega
    generalize hi4 (X * V) = A1 at *
    generalize lo4 (X * V) = A0 at *
    generalize hi4 (Y * U) = B1 at *
    generalize lo4 (Y * U) = B0 at *
    generalize X * V = XV at *
    generalize Y * U = YU at *
    have hall : (A1 = B1 ∧ A0 = B0 ∧ R = 0) ∨ (B1 < A1 ∧ R = -1) ∨ (A1 = B1 ∧ B0 < A0 ∧ R = -1) ∨ (A1 < B1 ∧ R = 1) ∨ (A1 = B1 ∧ A0 < B0 ∧ R = 1) := by omega
    clear hC hX d1 d2 d3 d4
    rcases hall with ⟨rfl, rfl, rfl⟩ | ⟨h, rfl⟩ | ⟨rfl, h, rfl⟩ | ⟨h, rfl⟩ | ⟨rfl, h, rfl⟩
    · go_enter Try.func16, Try.ntmps16
      go_wp2_with (first | (go_at_call 25; (first | (with_reducible refine (hS1 _).mono ?_) | (with_reducible refine (hS2 _).mono ?_)); rintro e w' ⟨rfl, rfl⟩) | (go_at_call 26; (first | (with_reducible refine (hQ1 _).mono ?_) | (with_reducible refine (hQ2 _).mono ?_)); rintro e w' ⟨rfl, rfl⟩) | (go_at_call 28; (first | (with_reducible refine (P1 _).mono ?_) | (with_reducible refine (P2 _).mono ?_)); rintro e w' ⟨rfl, o, rfl⟩))
      go_returns
      exact ⟨rfl, by repeat (first | exact Bel.refl _ | refine Bel.drewN ?_ _ | refine Bel.alloc ?_ _)⟩
    · have n1 : (A1 == B1) = false := by simp; omega
      go_enter Try.func16, Try.ntmps16
      go_wp2_with (first | (go_at_call 25; (first | (with_reducible refine (hS1 _).mono ?_) | (with_reducible refine (hS2 _).mono ?_)); rintro e w' ⟨rfl, rfl⟩) | (go_at_call 26; (first | (with_reducible refine (hQ1 _).mono ?_) | (with_reducible refine (hQ2 _).mono ?_)); rintro e w' ⟨rfl, rfl⟩) | (go_at_call 28; (first | (with_reducible refine (P1 _).mono ?_) | (with_reducible refine (P2 _).mono ?_)); rintro e w' ⟨rfl, o, rfl⟩))
      go_returns
      exact ⟨rfl, by repeat (first | exact Bel.refl _ | refine Bel.drewN ?_ _ | refine Bel.alloc ?_ _)⟩
    · have n1 : (A0 == B0) = false := by simp; omega
      go_enter Try.func16, Try.ntmps16
      go_wp2_with (first | (go_at_call 25; (first | (with_reducible refine (hS1 _).mono ?_) | (with_reducible refine (hS2 _).mono ?_)); rintro e w' ⟨rfl, rfl⟩) | (go_at_call 26; (first | (with_reducible refine (hQ1 _).mono ?_) | (with_reducible refine (hQ2 _).mono ?_)); rintro e w' ⟨rfl, rfl⟩) | (go_at_call 28; (first | (with_reducible refine (P1 _).mono ?_) | (with_reducible refine (P2 _).mono ?_)); rintro e w' ⟨rfl, o, rfl⟩))
      go_returns
      exact ⟨rfl, by repeat (first | exact Bel.refl _ | refine Bel.drewN ?_ _ | refine Bel.alloc ?_ _)⟩
    · have n1 : (A1 == B1) = false := by simp; omega
      go_enter Try.func16, Try.ntmps16
      go_wp2_with (first | (go_at_call 25; (first | (with_reducible refine (hS1 _).mono ?_) | (with_reducible refine (hS2 _).mono ?_)); rintro e w' ⟨rfl, rfl⟩) | (go_at_call 26; (first | (with_reducible refine (hQ1 _).mono ?_) | (with_reducible refine (hQ2 _).mono ?_)); rintro e w' ⟨rfl, rfl⟩) | (go_at_call 28; (first | (with_reducible refine (P1 _).mono ?_) | (with_reducible refine (P2 _).mono ?_)); rintro e w' ⟨rfl, o, rfl⟩))
      go_returns
      exact ⟨rfl, by repeat (first | exact Bel.refl _ | refine Bel.drewN ?_ _ | refine Bel.alloc ?_ _)⟩
    · have n1 : (A0 == B0) = false := by simp; omega
      go_enter Try.func16, Try.ntmps16
      go_wp2_with (first | (go_at_call 25; (first | (with_reducible refine (hS1 _).mono ?_) | (with_reducible refine (hS2 _).mono ?_)); rintro e w' ⟨rfl, rfl⟩) | (go_at_call 26; (first | (with_reducible refine (hQ1 _).mono ?_) | (with_reducible refine (hQ2 _).mono ?_)); rintro e w' ⟨rfl, rfl⟩) | (go_at_call 28; (first | (with_reducible refine (P1 _).mono ?_) | (with_reducible refine (P2 _).mono ?_)); rintro e w' ⟨rfl, o, rfl⟩))
      go_returns
      exact ⟨rfl, by repeat (first | exact Bel.refl _ | refine Bel.drewN ?_ _ | refine Bel.alloc ?_ _)⟩

theorem turn_any (x y u v : Int) (wx : (Lit.int .i64 x).wf = true) (wy : (Lit.int .i64 y).wf = true) (wu : (Lit.int .i64 u).wf = true) (wv : (Lit.int .i64 v).wf = true) (w0 w : World) (hb : Bel w0 w) :
    Calls Try.prog 22 #[.int .i64 x, .int .i64 y, .int .i64 u, .int .i64 v] w fun e w' => e = .returned (.int .i64 (dif (angle x y) (angle u v))) ∧ Bel w0 w' := by
  have h1 := angle_any x y wx wy
  have h2 := angle_any u v wu wv
  clear wx wy wu wv
  go_enter Try.func22, Try.ntmps22
  go_wp2_with (first | (go_at_call 13; (first | (with_reducible refine (h1 _ _ (by assumption)).mono ?_) | (with_reducible refine (h2 _ _ (by assumption)).mono ?_)); rintro e w' ⟨rfl, hb⟩) | (go_at_call 32; (with_reducible refine (diff_any _ _ _).mono ?_); rintro e w' ⟨rfl, rfl⟩))
  go_returns
  exact ⟨rfl, by assumption⟩
theorem rturn_any (x y u v : Int) (wx : (Lit.int .i64 x).wf = true) (wy : (Lit.int .i64 y).wf = true) (wu : (Lit.int .i64 u).wf = true) (wv : (Lit.int .i64 v).wf = true) (w0 w : World) (hb : Bel w0 w) :
    Calls Try.prog 23 #[.int .i64 x, .int .i64 y, .int .i64 u, .int .i64 v] w fun e w' => e = .returned (.int .i64 (dif (angle x y) (angle u v))) ∧ Bel w0 w' := by
  have h1 := rangle_any x y wx wy
  have h2 := rangle_any u v wu wv
  clear wx wy wu wv
  go_enter Try.func23, Try.ntmps23
  go_wp2_with (first | (go_at_call 14; (first | (with_reducible refine (h1 _ _ (by assumption)).mono ?_) | (with_reducible refine (h2 _ _ (by assumption)).mono ?_)); rintro e w' ⟨rfl, hb⟩) | (go_at_call 21; (with_reducible refine (rdiff_any _ _ _).mono ?_); rintro e w' ⟨rfl, rfl⟩))
  go_returns
  exact ⟨rfl, by assumption⟩
end Go.Proofs.Ytlefnahclgccbaa
