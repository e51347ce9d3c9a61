/- The order of directions in plain mathematics: antisymmetric, transitive, kept by the angle. -/
import Derived.Test.YtlefnahclgccbaaAtnC
namespace Go.Proofs.Ytlefnahclgccbaa
open Go.RowKit

theorem fr_ll {x1 y1 x2 y2 x3 y3 : Int} (p1 : 0 < x1) (p2 : 0 < x2) (p3 : 0 < x3) (h : y1 * x2 ≤ y2 * x1) (g : y2 * x3 ≤ y3 * x2) : y1 * x3 ≤ y3 * x1 := by
  have a : y1 * x2 * x3 ≤ y2 * x1 * x3 := Int.mul_le_mul_of_nonneg_right h (by omega)
  have b : y2 * x3 * x1 ≤ y3 * x2 * x1 := Int.mul_le_mul_of_nonneg_right g (by omega)
  have e1 : y1 * x2 * x3 = y1 * x3 * x2 := by grind
  have e2 : y2 * x1 * x3 = y2 * x3 * x1 := by grind
  have e3 : y3 * x2 * x1 = y3 * x1 * x2 := by grind
  exact Int.le_of_mul_le_mul_right (show y1 * x3 * x2 ≤ y3 * x1 * x2 by omega) p2
theorem fr_tl {x1 y1 x2 y2 x3 y3 : Int} (p1 : 0 < x1) (p2 : 0 < x2) (p3 : 0 < x3) (h : y1 * x2 < y2 * x1) (g : y2 * x3 ≤ y3 * x2) : y1 * x3 < y3 * x1 := by
  have a : y1 * x2 * x3 < y2 * x1 * x3 := Int.mul_lt_mul_of_pos_right h p3
  have b : y2 * x3 * x1 ≤ y3 * x2 * x1 := Int.mul_le_mul_of_nonneg_right g (by omega)
  have e1 : y1 * x2 * x3 = y1 * x3 * x2 := by grind
  have e2 : y2 * x1 * x3 = y2 * x3 * x1 := by grind
  have e3 : y3 * x2 * x1 = y3 * x1 * x2 := by grind
  exact Int.lt_of_mul_lt_mul_right (show y1 * x3 * x2 < y3 * x1 * x2 by omega) (by omega)
theorem fr_lt {x1 y1 x2 y2 x3 y3 : Int} (p1 : 0 < x1) (p2 : 0 < x2) (p3 : 0 < x3) (h : y1 * x2 ≤ y2 * x1) (g : y2 * x3 < y3 * x2) : y1 * x3 < y3 * x1 := by
  have a : y1 * x2 * x3 ≤ y2 * x1 * x3 := Int.mul_le_mul_of_nonneg_right h (by omega)
  have b : y2 * x3 * x1 < y3 * x2 * x1 := Int.mul_lt_mul_of_pos_right g p1
  have e1 : y1 * x2 * x3 = y1 * x3 * x2 := by grind
  have e2 : y2 * x1 * x3 = y2 * x3 * x1 := by grind
  have e3 : y3 * x2 * x1 = y3 * x1 * x2 := by grind
  exact Int.lt_of_mul_lt_mul_right (show y1 * x3 * x2 < y3 * x1 * x2 by omega) (by omega)

theorem cmpF_cases (p q x y u v : Int) : (cmpF p q x y u v = -1 ∧ (p < q ∨ (p = q ∧ y * u < v * x))) ∨ (cmpF p q x y u v = 0 ∧ p = q ∧ y * u = v * x) ∨ (cmpF p q x y u v = 1 ∧ (q < p ∨ (p = q ∧ v * x < y * u))) := by
  unfold cmpF
  (repeat' split) <;> omega
theorem cmpV_anti (x y u v : Int) : cmpV x y u v = -cmpV u v x y := by
  unfold cmpV
  have a := cmpF_cases (fq x y) (fq u v) (fx x y) (fy x y) (fx u v) (fy u v)
  have b := cmpF_cases (fq u v) (fq x y) (fx u v) (fy u v) (fx x y) (fy x y)
  omega
theorem cmpV_self (x y : Int) : cmpV x y x y = 0 := by
  have := cmpV_anti x y x y
  omega
theorem cmpV_bd (x y u v : Int) : -1 ≤ cmpV x y u v ∧ cmpV x y u v ≤ 1 := by
  unfold cmpV
  have a := cmpF_cases (fq x y) (fq u v) (fx x y) (fy x y) (fx u v) (fy u v)
  omega
theorem cmpV_chain (x1 y1 x2 y2 x3 y3 : Int) :
    (cmpV x1 y1 x2 y2 ≤ 0 → cmpV x2 y2 x3 y3 ≤ 0 → cmpV x1 y1 x3 y3 ≤ 0) ∧ (0 ≤ cmpV x1 y1 x2 y2 → 0 ≤ cmpV x2 y2 x3 y3 → 0 ≤ cmpV x1 y1 x3 y3) ∧ (cmpV x1 y1 x2 y2 = 0 → cmpV x2 y2 x3 y3 = cmpV x1 y1 x3 y3) := by
  unfold cmpV
  have p1 := (f_bd x1 y1).1.1
  have p2 := (f_bd x2 y2).1.1
  have p3 := (f_bd x3 y3).1.1
  have a := cmpF_cases (fq x1 y1) (fq x2 y2) (fx x1 y1) (fy x1 y1) (fx x2 y2) (fy x2 y2)
  have b := cmpF_cases (fq x2 y2) (fq x3 y3) (fx x2 y2) (fy x2 y2) (fx x3 y3) (fy x3 y3)
  have c := cmpF_cases (fq x1 y1) (fq x3 y3) (fx x1 y1) (fy x1 y1) (fx x3 y3) (fy x3 y3)
  generalize fx x1 y1 = X1 at *
  generalize fx x2 y2 = X2 at *
  generalize fx x3 y3 = X3 at *
  generalize fy x1 y1 = Y1 at *
  generalize fy x2 y2 = Y2 at *
  generalize fy x3 y3 = Y3 at *
  have h1 := @fr_ll X1 Y1 X2 Y2 X3 Y3 p1 p2 p3
  have h2 := @fr_tl X1 Y1 X2 Y2 X3 Y3 p1 p2 p3
  have h3 := @fr_lt X1 Y1 X2 Y2 X3 Y3 p1 p2 p3
  have g1 := @fr_ll X3 Y3 X2 Y2 X1 Y1 p3 p2 p1
  have g2 := @fr_tl X3 Y3 X2 Y2 X1 Y1 p3 p2 p1
  have g3 := @fr_lt X3 Y3 X2 Y2 X1 Y1 p3 p2 p1
  rcases a with ⟨a, a'⟩ | ⟨a, a', a''⟩ | ⟨a, a'⟩ <;> rcases b with ⟨b, b'⟩ | ⟨b, b', b''⟩ | ⟨b, b'⟩ <;> rcases c with ⟨c, c'⟩ | ⟨c, c', c''⟩ | ⟨c, c'⟩ <;> rw [a, b, c] <;> refine ⟨?_, ?_, ?_⟩ <;> intros <;> omega

theorem ang0_mono {x y u v : Int} (hx : 0 < x) (hy : 0 ≤ y) (hu : 0 < u) (hv : 0 ≤ v) (h : y * u ≤ v * x) : ang0 x y ≤ ang0 u v := by
  obtain ⟨a1, a2, a3, a4⟩ := ang0_is (x := x) hy
  obtain ⟨b1, b2, b3, b4⟩ := ang0_is (x := u) hv
  generalize ang0 x y = a at *
  generalize ang0 u v = b at *
  rcases Int.lt_or_le b a with hlt | hle
  · exfalso
    rcases b4 with b4 | b4
    · omega
    · have ca := (b_first a ⟨a1, a2⟩).1
      have cb := (b_first (b + 1) ⟨by omega, by omega⟩).1
      have hc := crs_nn (b + 1) (a - (b + 1)) (by omega) (by omega)
      rw [show b + 1 + (a - (b + 1)) = a by omega] at hc
      unfold crs at hc
      have k1 : v * bc (b + 1) < bs (b + 1) * u := by rw [Int.mul_comm v]; exact b4
      have k2 : bs (b + 1) * bc a ≤ bs a * bc (b + 1) := by rw [Int.mul_comm (bs a)]; omega
      have k3 := fr_tl hu (show 0 < bc (b + 1) by omega) (show 0 < bc a by omega) k1 k2
      have k4 : bs a * x ≤ y * bc a := by rw [Int.mul_comm y]; exact a3
      have k5 := fr_tl hu (show 0 < bc a by omega) hx k3 k4
      omega
  · exact hle
theorem angle_order (x y u v : Int) : (cmpV x y u v ≤ 0 → angle x y ≤ angle u v) := by
  intro h
  rw [angle_eq, angle_eq]
  have a := cmpF_cases (fq x y) (fq u v) (fx x y) (fy x y) (fx u v) (fy u v)
  obtain ⟨a1, a2, a3⟩ := f_bd x y
  obtain ⟨b1, b2, b3⟩ := f_bd u v
  have i1 := ang0_is (x := fx x y) a2.1
  have i2 := ang0_is (x := fx u v) b2.1
  have m := @ang0_mono (fx x y) (fy x y) (fx u v) (fy u v) a1.1 a2.1 b1.1 b2.1
  unfold cmpV at h
  have i1a := i1.1
  have i1b := i1.2.1
  have i2a := i2.1
  have i2b := i2.2.1
  clear i1 i2
  omega
theorem angle_ge (x y u v : Int) (h : 0 ≤ cmpV x y u v) : angle u v ≤ angle x y := angle_order u v x y (by rw [cmpV_anti]; omega)
end Go.Proofs.Ytlefnahclgccbaa
