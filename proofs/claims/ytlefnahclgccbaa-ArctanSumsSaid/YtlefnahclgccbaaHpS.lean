/- The sine of a sum, to less than 20 units. No program in sight. -/
import Derived.Test.YtlefnahclgccbaaHpP
namespace Go.Proofs.Ytlefnahclgccbaa
open Go.RowKit

theorem mul_bd {x y l u : Int} (hl : 0 ≤ l) (hx : l ≤ x ∧ x ≤ u) (hy : l ≤ y ∧ y ≤ u) : l * l ≤ x * y ∧ x * y ≤ u * u :=
  ⟨Int.mul_le_mul hx.1 hy.1 hl (by omega), Int.mul_le_mul hx.2 hy.2 (by omega) (by omega)⟩
theorem sqn (a : Int) : 0 ≤ a * a := by
  rcases Int.le_total 0 a with h | h
  · exact Int.mul_nonneg h h
  · exact Int.mul_nonneg_of_nonpos_of_nonpos h h
theorem sq_up2 {a m : Int} (h : -m ≤ a ∧ a ≤ m) : a * a ≤ m * m := (pb h h).2
/-- The size of an exact direction: from the table's. -/
theorem x_size (a : Int) : 1461055656455168997834700464688290795602634080256 ≤ xr a * xr a + xi a * xi a := by
  obtain ⟨h1, h2⟩ := P_at a
  have hl := (b_len a).1
  have id : (xr a * xr a + xi a * xi a) * (bc a * bc a + bs a * bs a) = (xr a * bc a + xi a * bs a) * (xr a * bc a + xi a * bs a) + (xr a * bs a - xi a * bc a) * (xr a * bs a - xi a * bc a) := by grind
  have p1 : 39608036628034095650898444288 * 39608036628034095650898444288 ≤ (xr a * bc a + xi a * bs a) * (xr a * bc a + xi a * bs a) := Int.mul_le_mul h2.1 h2.1 (by omega) (by omega)
  have p2 := sqn (xr a * bs a - xi a * bc a)
  have p3 : (xr a * xr a + xi a * xi a) * (bc a * bc a + bs a * bs a) ≤ (xr a * xr a + xi a * xi a) * 1073741824 := Int.mul_le_mul_of_nonneg_left hl (by have := sqn (xr a); have := sqn (xi a); omega)
  omega
theorem sine_sum (a b : Int) : -655360 < (bs a * bc b + bc a * bs b) - bs (a + b) * 32768 ∧ (bs a * bc b + bc a * bs b) - bs (a + b) * 32768 < 655360 := by
  obtain ⟨A1, A2⟩ := P_at a
  obtain ⟨B1, B2⟩ := P_at b
  obtain ⟨C1, C2⟩ := P_at (a + b)
  obtain ⟨E1, E2⟩ := comp a b
  have n1 := x_size a
  have n2 := x_size b
  have d3 := b_bd (a + b)
  generalize bc a = c at *
  generalize bs a = s at *
  generalize bc b = x at *
  generalize bs b = y at *
  generalize bc (a + b) = C at *
  generalize bs (a + b) = Z at *
  generalize xr a = X1 at *
  generalize xi a = Y1 at *
  generalize xr b = X2 at *
  generalize xi b = Y2 at *
  generalize xr (a + b) = X3 at *
  generalize xi (a + b) = Y3 at *
  have z1 : (X1 * X2 - Y1 * Y2) * (c * x - s * y - 32768 * C) + (Y1 * X2 + X1 * Y2) * (s * x + c * y - Z * 32768) =
      (X1 * c + Y1 * s) * (X2 * x + Y2 * y) - (X1 * s - Y1 * c) * (X2 * y - Y2 * x) - 39614081257132168796771975168 * (X3 * C + Y3 * Z) - 32768 * ((X1 * X2 - Y1 * Y2 - 1208925819614629174706176 * X3) * C + (Y1 * X2 + X1 * Y2 - 1208925819614629174706176 * Y3) * Z) := by grind
  have z2 : (X1 * X2 - Y1 * Y2) * (s * x + c * y - Z * 32768) - (Y1 * X2 + X1 * Y2) * (c * x - s * y - 32768 * C) =
      (X1 * c + Y1 * s) * (X2 * y - Y2 * x) + (X1 * s - Y1 * c) * (X2 * x + Y2 * y) - 39614081257132168796771975168 * (X3 * Z - Y3 * C) - 32768 * ((X1 * X2 - Y1 * Y2 - 1208925819614629174706176 * X3) * Z - (Y1 * X2 + X1 * Y2 - 1208925819614629174706176 * Y3) * C) := by grind
  have z3 : ((X1 * X2 - Y1 * Y2) * (X1 * X2 - Y1 * Y2) + (Y1 * X2 + X1 * Y2) * (Y1 * X2 + X1 * Y2)) * ((c * x - s * y - 32768 * C) * (c * x - s * y - 32768 * C) + (s * x + c * y - Z * 32768) * (s * x + c * y - Z * 32768)) =
      ((X1 * X2 - Y1 * Y2) * (c * x - s * y - 32768 * C) + (Y1 * X2 + X1 * Y2) * (s * x + c * y - Z * 32768)) * ((X1 * X2 - Y1 * Y2) * (c * x - s * y - 32768 * C) + (Y1 * X2 + X1 * Y2) * (s * x + c * y - Z * 32768)) +
      ((X1 * X2 - Y1 * Y2) * (s * x + c * y - Z * 32768) - (Y1 * X2 + X1 * Y2) * (c * x - s * y - 32768 * C)) * ((X1 * X2 - Y1 * Y2) * (s * x + c * y - Z * 32768) - (Y1 * X2 + X1 * Y2) * (c * x - s * y - 32768 * C)) := by
    generalize c * x - s * y - 32768 * C = Dr
    generalize s * x + c * y - Z * 32768 = Di
    generalize X1 * X2 - Y1 * Y2 = Wr
    generalize Y1 * X2 + X1 * Y2 = Wi
    grind
  have z4 : (X1 * X2 - Y1 * Y2) * (X1 * X2 - Y1 * Y2) + (Y1 * X2 + X1 * Y2) * (Y1 * X2 + X1 * Y2) = (X1 * X1 + Y1 * Y1) * (X2 * X2 + Y2 * Y2) := by grind
  have w : 1461055656455168997834700464688290795602634080256 * 1461055656455168997834700464688290795602634080256 ≤ (X1 * X1 + Y1 * Y1) * (X2 * X2 + Y2 * Y2) := Int.mul_le_mul n1 n2 (by omega) (by omega)
  rw [← z4] at w
  clear z4 n1 n2
  -- the bounds of the two coordinates
  have p1 := mul_bd (l := 39608036628034095650898444288) (u := 39614082437723789514183278592) (by omega) A2 B2
  have p2 := pb A1 B1
  have p3 := pb (x := X1 * c + Y1 * s) (y := X2 * y - Y2 * x) (m := 39614082437723789514183278592) (n := 2115620184325601055735808) (by omega) B1
  have p4 := pb (x := X1 * s - Y1 * c) (y := X2 * x + Y2 * y) (m := 2115620184325601055735808) (n := 39614082437723789514183278592) A1 (by omega)
  have p5 := pb (m := 85070591730234615865843651857942052864) (n := 32768) E1 d3.1
  have p6 := pb (m := 85070591730234615865843651857942052864) (n := 32768) E2 d3.2
  have p7 := pb (m := 85070591730234615865843651857942052864) (n := 32768) E1 d3.2
  have p8 := pb (m := 85070591730234615865843651857942052864) (n := 32768) E2 d3.1
  generalize (X1 * c + Y1 * s) * (X2 * x + Y2 * y) = g1 at *
  generalize (X1 * s - Y1 * c) * (X2 * y - Y2 * x) = g2 at *
  generalize (X1 * c + Y1 * s) * (X2 * y - Y2 * x) = g3 at *
  generalize (X1 * s - Y1 * c) * (X2 * x + Y2 * y) = g4 at *
  generalize X3 * C + Y3 * Z = g5 at *
  generalize X3 * Z - Y3 * C = g6 at *
  generalize (X1 * X2 - Y1 * Y2 - 1208925819614629174706176 * X3) * C = g7 at *
  generalize (Y1 * X2 + X1 * Y2 - 1208925819614629174706176 * Y3) * Z = g8 at *
  generalize (X1 * X2 - Y1 * Y2 - 1208925819614629174706176 * X3) * Z = g9 at *
  generalize (Y1 * X2 + X1 * Y2 - 1208925819614629174706176 * Y3) * C = g10 at *
  have r1 := sq_up2 (a := (X1 * X2 - Y1 * Y2) * (c * x - s * y - 32768 * C) + (Y1 * X2 + X1 * Y2) * (s * x + c * y - Z * 32768)) (m := 478919745568520576810462646023704917014118720495157248) (by omega)
  have r2 := sq_up2 (a := (X1 * X2 - Y1 * Y2) * (s * x + c * y - Z * 32768) - (Y1 * X2 + X1 * Y2) * (c * x - s * y - 32768 * C)) (m := 251425237356381481658140668306452583046059821564428288) (by omega)
  rw [z1] at z3 r1
  rw [z2] at z3 r2
  generalize c * x - s * y - 32768 * C = Dr at *
  have hD : s * x + c * y - Z * 32768 < 655360 ∧ -655360 < s * x + c * y - Z * 32768 := by
    generalize s * x + c * y - Z * 32768 = Di at *
    rcases (show (-655360 < Di ∧ Di < 655360) ∨ Di ≤ -655360 ∨ 655360 ≤ Di by omega) with h | h
    · omega
    · exfalso
      have q1 : 655360 * 655360 ≤ Di * Di := by
        rcases h with h | h
        · have := Int.mul_le_mul (a := 655360) (b := 655360) (c := -Di) (d := -Di) (by omega) (by omega) (by omega) (by omega)
          rwa [Int.neg_mul_neg] at this
        · exact Int.mul_le_mul h h (by omega) (by omega)
      have q2 := sqn Dr
      have q3 : 1461055656455168997834700464688290795602634080256 * 1461055656455168997834700464688290795602634080256 * (655360 * 655360) ≤ ((X1 * X2 - Y1 * Y2) * (X1 * X2 - Y1 * Y2) + (Y1 * X2 + X1 * Y2) * (Y1 * X2 + X1 * Y2)) * (Dr * Dr + Di * Di) := Int.mul_le_mul w (by omega) (by omega) (by omega)
      omega
  omega
end Go.Proofs.Ytlefnahclgccbaa
