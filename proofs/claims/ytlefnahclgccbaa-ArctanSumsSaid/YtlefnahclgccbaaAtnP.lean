/- The laws of the angle, in plain mathematics. No program in sight. -/
import Derived.Test.YtlefnahclgccbaaAtn
namespace Go.Proofs.Ytlefnahclgccbaa
open Go.RowKit

theorem cone_scale {a x y k : Int} (h : cone a x y) (hk : 0 < k) : cone a (k * x) (k * y) := by
  obtain ⟨h1, h2, h3⟩ := h
  have e1 : crs (bc a) (bs a) (k * x) (k * y) = k * crs (bc a) (bs a) x y := by unfold crs; grind
  have e2 : crs (bc (a + 1)) (bs (a + 1)) (k * x) (k * y) = k * crs (bc (a + 1)) (bs (a + 1)) x y := by unfold crs; grind
  have e3 : dt (bc a) (bs a) (k * x) (k * y) = k * dt (bc a) (bs a) x y := by unfold dt; grind
  unfold cone
  rw [e1, e2, e3]
  exact ⟨Int.mul_nonneg (by omega) h1, Int.mul_neg_of_pos_of_neg hk h2, Int.mul_pos hk h3⟩
/-- A direction lies in its own cone. -/
theorem cone_self (a : Int) : cone a (bc a) (bs a) := by
  have hc := crs_pos a 1 (by omega) (by omega)
  have hl := (b_len a).2
  refine ⟨?_, ?_, ?_⟩
  · unfold crs; rw [Int.mul_comm]; omega
  · unfold crs at *; rw [Int.mul_comm, Int.mul_comm (bs (a + 1))]; omega
  · unfold dt; omega
theorem far_no {x y : Int} (h : (-1099511627776 ≤ x ∧ x ≤ 1099511627776) ∧ (-1099511627776 ≤ y ∧ y ≤ 1099511627776)) : farB x y = false := farB_mk h
theorem angle_of {b x y : Int} (h : cone b x y) (hs : (-1099511627776 ≤ x ∧ x ≤ 1099511627776) ∧ (-1099511627776 ≤ y ∧ y ≤ 1099511627776)) : angle x y = nrm b := by
  have h0 : ¬(x = 0 ∧ y = 0) := by
    rintro ⟨rfl, rfl⟩
    obtain ⟨-, h2, -⟩ := h
    unfold crs at h2
    omega
  rw [angle_near (far_no hs) h0]
  exact ang_nrm h
theorem angle_cone {x y : Int} (hs : (-1099511627776 ≤ x ∧ x ≤ 1099511627776) ∧ (-1099511627776 ≤ y ∧ y ≤ 1099511627776)) (h0 : ¬(x = 0 ∧ y = 0)) : cone (angle x y) x y := by
  rw [angle_near (far_no hs) h0]
  exact ang_cone h0
/-- ArctanBack. -/
theorem back (a k : Int) (h1 : 1 ≤ k) (h2 : k ≤ 16777216) : angle (k * bc a) (k * bs a) = nrm a := by
  obtain ⟨c1, s1⟩ := b_bd a
  have p : ∀ z : Int, -32768 ≤ z → z ≤ 32768 → -549755813888 ≤ k * z ∧ k * z ≤ 549755813888 := by
    intro z g1 g2
    have q1 : k * z ≤ k * 32768 := Int.mul_le_mul_of_nonneg_left g2 (by omega)
    have q2 : k * -32768 ≤ k * z := Int.mul_le_mul_of_nonneg_left g1 (by omega)
    omega
  have p1 := p _ c1.1 c1.2
  have p2 := p _ s1.1 s1.2
  exact angle_of (cone_scale (cone_self a) (by omega)) (by omega)

/-- Mirrored. -/
theorem cone_mirror {a x y : Int} (h : cone a x y) : cone (-a) x (-y) ∨ cone (-a - 1) x (-y) := by
  have dn := cone_dot h
  obtain ⟨h1, h2, h3⟩ := h
  obtain ⟨n1, n2⟩ := b_neg a
  obtain ⟨m1, m2⟩ := b_neg (a + 1)
  rw [show -(a + 1) = -a - 1 by omega] at m1 m2
  by_cases he : crs (bc a) (bs a) x y = 0
  · left
    obtain ⟨k1, k2⟩ := b_neg (a - 1)
    rw [show -(a - 1) = -a + 1 by omega] at k1 k2
    unfold cone
    rw [n1, n2, k1, k2]
    have hc := crs_pos (a - 1) 1 (by omega) (by omega)
    rw [show a - 1 + 1 = a by omega] at hc
    have hl := (b_len a).2
    -- the direction before a is strictly to the right of v
    have id : crs (bc (a - 1)) (bs (a - 1)) x y * (bc a * bc a + bs a * bs a) = crs (bc (a - 1)) (bs (a - 1)) (bc a) (bs a) * dt (bc a) (bs a) x y + dt (bc (a - 1)) (bs (a - 1)) (bc a) (bs a) * crs (bc a) (bs a) x y := by unfold crs dt; grind
    rw [he, Int.mul_zero, Int.add_zero] at id
    have p : 0 < crs (bc (a - 1)) (bs (a - 1)) (bc a) (bs a) * dt (bc a) (bs a) x y := Int.mul_pos hc h3
    have q : 0 < crs (bc (a - 1)) (bs (a - 1)) x y := Int.pos_of_mul_pos_left (show 0 < crs (bc (a - 1)) (bs (a - 1)) x y * (bc a * bc a + bs a * bs a) by omega) (by omega)
    unfold crs dt at *
    simp only [Int.neg_mul, Int.mul_neg, Int.neg_neg]
    omega
  · right
    unfold cone
    rw [m1, m2, show -a - 1 + 1 = -a by omega, n1, n2]
    unfold crs dt at *
    simp only [Int.neg_mul, Int.mul_neg, Int.neg_neg]
    omega
/-- ArctanQuarters. -/
theorem quarters {x y k : Int} (hx : -4294967296 ≤ x ∧ x ≤ 4294967296) (hy : -4294967296 ≤ y ∧ y ≤ 4294967296) (h0 : ¬(x = 0 ∧ y = 0)) (h1 : 1 ≤ k) (h2 : k ≤ 256) :
    angle (-y) x = nrm (angle x y + 16384) ∧ angle (-x) (-y) = nrm (angle x y + 32768) ∧ angle (k * x) (k * y) = angle x y ∧ (nrm (angle x y + angle x (-y)) = 0 ∨ nrm (angle x y + angle x (-y)) = 65535) := by
  have hc := angle_cone (x := x) (y := y) (by omega) h0
  have hb := angle_bd x y
  have c1 := cone_rot hc
  have c2 := cone_rot c1
  have p : ∀ z : Int, -4294967296 ≤ z → z ≤ 4294967296 → -1099511627776 ≤ k * z ∧ k * z ≤ 1099511627776 := by
    intro z g1 g2
    have q1 : k * z ≤ k * 4294967296 := Int.mul_le_mul_of_nonneg_left g2 (by omega)
    have q2 : k * -4294967296 ≤ k * z := Int.mul_le_mul_of_nonneg_left g1 (by omega)
    omega
  have p1 := p _ hx.1 hx.2
  have p2 := p _ hy.1 hy.2
  refine ⟨angle_of c1 (by omega), ?_, ?_, ?_⟩
  · rw [show angle x y + 32768 = angle x y + 16384 + 16384 by omega]
    exact angle_of c2 (by omega)
  · rw [angle_of (cone_scale hc (by omega)) (by omega)]
    unfold nrm; omega
  · rcases cone_mirror hc with h | h
    · left
      rw [angle_of h (by omega)]
      unfold nrm; omega
    · right
      rw [angle_of h (by omega)]
      unfold nrm; omega
end Go.Proofs.Ytlefnahclgccbaa
