/- The angle of a turned vector. No program in sight. -/
import Derived.Test.YtlefnahclgccbaaAtnP
import Derived.Test.YtlefnahclgccbaaHpK
namespace Go.Proofs.Ytlefnahclgccbaa
open Go.RowKit

/-- The product of the directions of a and b against those of angles 3 and 4 units to the right. -/
theorem K_back (a b j : Int) (hj : j = 3 ∨ j = 4) : 4294967296 ≤ crs (bc (a + b - j)) (bs (a + b - j)) (bc a * bc b - bs a * bs b) (bs a * bc b + bc a * bs b) ∧ 17592186044416 ≤ dt (bc (a + b - j)) (bs (a + b - j)) (bc a * bc b - bs a * bs b) (bs a * bc b + bc a * bs b) := by
  have h : 4294967296 ≤ crs (bc (-a) * bc (-b) - bs (-a) * bs (-b)) (bs (-a) * bc (-b) + bc (-a) * bs (-b)) (bc (-a + -b + j)) (bs (-a + -b + j)) ∧ 17592186044416 ≤ dt (bc (-a) * bc (-b) - bs (-a) * bs (-b)) (bs (-a) * bc (-b) + bc (-a) * bs (-b)) (bc (-a + -b + j)) (bs (-a + -b + j)) := by
    rcases hj with rfl | rfl
    · exact K_3 (-a) (-b)
    · exact K_4 (-a) (-b)
  obtain ⟨a1, a2⟩ := b_neg a
  obtain ⟨b1, b2⟩ := b_neg b
  obtain ⟨c1, c2⟩ := b_neg (a + b - j)
  rw [show -a + -b + j = -(a + b - j) by omega, a1, a2, b1, b2, c1, c2] at h
  unfold crs dt at *
  have e1 : (bc a * bc b - -bs a * -bs b) * -bs (a + b - j) - (-bs a * bc b + bc a * -bs b) * bc (a + b - j) = bc (a + b - j) * (bs a * bc b + bc a * bs b) - bs (a + b - j) * (bc a * bc b - bs a * bs b) := by grind
  have e2 : (bc a * bc b - -bs a * -bs b) * bc (a + b - j) + (-bs a * bc b + bc a * -bs b) * -bs (a + b - j) = bc (a + b - j) * (bc a * bc b - bs a * bs b) + bs (a + b - j) * (bs a * bc b + bc a * bs b) := by grind
  omega

/-- What the truncation leaves. -/
theorem tdv2 (p : Int) : ∃ r, p = 32768 * p.tdiv 32768 + r ∧ -32767 ≤ r ∧ r ≤ 32767 := by
  rcases tdiv_cases p 32768 (by omega) with ⟨h, e⟩ | ⟨h, e⟩
  · exact ⟨p - 32768 * p.tdiv 32768, by omega, by omega, by omega⟩
  · exact ⟨p - 32768 * p.tdiv 32768, by omega, by omega, by omega⟩

theorem big_of {K L M x y c1 s1 c2 s2 : Int} (hK : 0 < K) (hL : 0 < L) (hM : 0 ≤ M) (e1 : K * x = L * c1 + M * c2) (e2 : K * y = L * s1 + M * s2) (b1 : -32768 ≤ c1 ∧ c1 ≤ 32768) (b2 : -32768 ≤ c2 ∧ c2 ≤ 32768) (b3 : -32768 ≤ s1 ∧ s1 ≤ 32768) (b4 : -32768 ≤ s2 ∧ s2 ≤ 32768)
    (hx : 1048576 ≤ x ∨ x ≤ -1048576 ∨ 1048576 ≤ y ∨ y ≤ -1048576) : K * 32 ≤ L + M := by
  have q : ∀ c, -32768 ≤ c → c ≤ 32768 → ∀ z, 0 ≤ z → -(32768 * z) ≤ z * c ∧ z * c ≤ 32768 * z := by
    intro c h1 h2 z hz
    have p1 : z * c ≤ z * 32768 := Int.mul_le_mul_of_nonneg_left h2 hz
    have p2 : z * -32768 ≤ z * c := Int.mul_le_mul_of_nonneg_left h1 hz
    omega
  have l1 := q c1 b1.1 b1.2 L (by omega)
  have l2 := q c2 b2.1 b2.2 M hM
  have l3 := q s1 b3.1 b3.2 L (by omega)
  have l4 := q s2 b4.1 b4.2 M hM
  rcases hx with h | h | h | h
  · have p : K * 1048576 ≤ K * x := Int.mul_le_mul_of_nonneg_left h (by omega)
    omega
  · have p : K * x ≤ K * -1048576 := Int.mul_le_mul_of_nonneg_left h (by omega)
    omega
  · have p : K * 1048576 ≤ K * y := Int.mul_le_mul_of_nonneg_left h (by omega)
    omega
  · have p : K * y ≤ K * -1048576 := Int.mul_le_mul_of_nonneg_left h (by omega)
    omega

/-- K t ≥ (L + M) k with L + M ≥ 32 K: t ≥ 32 k. -/
theorem pull {K L M t k z1 z2 : Int} (hK : 0 < K) (hL : 0 ≤ L) (hM : 0 ≤ M) (hk : 0 ≤ k) (hb : K * 32 ≤ L + M) (e : K * t = L * z1 + M * z2) (h1 : k ≤ z1) (h2 : k ≤ z2) : 32 * k ≤ t := by
  have p1 : L * k ≤ L * z1 := Int.mul_le_mul_of_nonneg_left h1 hL
  have p2 : M * k ≤ M * z2 := Int.mul_le_mul_of_nonneg_left h2 hM
  have p3 : (K * 32) * k ≤ (L + M) * k := Int.mul_le_mul_of_nonneg_right hb hk
  have p4 : (L + M) * k = L * k + M * k := by grind
  have p5 : (K * 32) * k = K * (32 * k) := by grind
  have p6 : K * (32 * k) ≤ K * t := by omega
  exact Int.le_of_mul_le_mul_left p6 hK

theorem sums {x y a : Int} (hx : -1073741824 ≤ x ∧ x ≤ 1073741824) (hy : -1073741824 ≤ y ∧ y ≤ 1073741824) (hm : 1048576 ≤ x ∨ x ≤ -1048576 ∨ 1048576 ≤ y ∨ y ≤ -1048576) :
    -3 ≤ dif (angle ((bc a * x - bs a * y).tdiv 32768) ((bs a * x + bc a * y).tdiv 32768)) (angle x y + nrm a) ∧ dif (angle ((bc a * x - bs a * y).tdiv 32768) ((bs a * x + bc a * y).tdiv 32768)) (angle x y + nrm a) ≤ 3 := by
  obtain ⟨ca, sa⟩ := b_bd a
  have hc := angle_cone (x := x) (y := y) (by omega) (by omega)
  obtain ⟨r1, t1, t2, t3⟩ := tdv2 (bc a * x - bs a * y)
  obtain ⟨r2, t4, t5, t6⟩ := tdv2 (bs a * x + bc a * y)
  generalize angle x y = al at *
  -- v as a sum of the two directions
  obtain ⟨x1, x2⟩ := cone_exp (a := al) (x := x) (y := y)
  have hK := crs_pos al 1 (by omega) (by omega)
  obtain ⟨c1, c2, c3⟩ := hc
  obtain ⟨ba, bb⟩ := b_bd al
  obtain ⟨ba', bb'⟩ := b_bd (al + 1)
  generalize hKK : crs (bc al) (bs al) (bc (al + 1)) (bs (al + 1)) = K at *
  generalize hLL : -crs (bc (al + 1)) (bs (al + 1)) x y = L at *
  generalize hMM : crs (bc al) (bs al) x y = M at *
  have hL : 0 < L := by omega
  have hbig := big_of hK hL c1 x1 x2 ba ba' bb bb' hm
  -- the turned vector against a direction (C, Z)
  have tc1 : ∀ C Z : Int, K * crs (bc a * x - bs a * y) (bs a * x + bc a * y) C Z = L * crs (bc al * bc a - bs al * bs a) (bs al * bc a + bc al * bs a) C Z + M * crs (bc (al + 1) * bc a - bs (al + 1) * bs a) (bs (al + 1) * bc a + bc (al + 1) * bs a) C Z := by
    intro C Z
    have e : K * crs (bc a * x - bs a * y) (bs a * x + bc a * y) C Z = crs (bc a * (K * x) - bs a * (K * y)) (bs a * (K * x) + bc a * (K * y)) C Z := by unfold crs; grind
    rw [e, x1, x2]
    unfold crs; grind
  have tc2 : ∀ C Z : Int, K * dt (bc a * x - bs a * y) (bs a * x + bc a * y) C Z = L * dt (bc al * bc a - bs al * bs a) (bs al * bc a + bc al * bs a) C Z + M * dt (bc (al + 1) * bc a - bs (al + 1) * bs a) (bs (al + 1) * bc a + bc (al + 1) * bs a) C Z := by
    intro C Z
    have e : K * dt (bc a * x - bs a * y) (bs a * x + bc a * y) C Z = dt (bc a * (K * x) - bs a * (K * y)) (bs a * (K * x) + bc a * (K * y)) C Z := by unfold dt; grind
    rw [e, x1, x2]
    unfold dt; grind
  obtain ⟨p, hp⟩ : ∃ p, bc a * x - bs a * y = p := ⟨_, rfl⟩
  obtain ⟨q, hq⟩ : ∃ q, bs a * x + bc a * y = q := ⟨_, rfl⟩
  have q1 := pb ca hx
  have q2 := pb sa hy
  have q3 := pb sa hx
  have q4 := pb ca hy
  rw [hp] at t1 tc1 tc2 ⊢
  rw [hq] at t4 tc1 tc2 ⊢
  generalize hu : p.tdiv 32768 = u at *
  generalize hv : q.tdiv 32768 = v at *
  have ub : (-1099511627776 ≤ u ∧ u ≤ 1099511627776) ∧ (-1099511627776 ≤ v ∧ v ≤ 1099511627776) := by omega
  clear hu hv x1 x2 hm q1 q2 q3 q4
  -- the truncated vector against a direction
  have tr : ∀ C Z : Int, -32768 ≤ C → C ≤ 32768 → -32768 ≤ Z → Z ≤ 32768 → (137438953472 ≤ crs p q C Z → 0 < crs u v C Z) ∧ (137438953472 ≤ dt p q C Z → 0 < dt u v C Z) ∧ (137438953472 ≤ crs C Z p q → 0 < crs C Z u v) := by
    intro C Z k1 k2 k3 k4
    have m1 := pb (x := r1) (y := Z) (m := 32767) (n := 32768) ⟨t2, t3⟩ ⟨k3, k4⟩
    have m2 := pb (x := r2) (y := C) (m := 32767) (n := 32768) ⟨t5, t6⟩ ⟨k1, k2⟩
    have m3 := pb (x := r1) (y := C) (m := 32767) (n := 32768) ⟨t2, t3⟩ ⟨k1, k2⟩
    have m4 := pb (x := r2) (y := Z) (m := 32767) (n := 32768) ⟨t5, t6⟩ ⟨k3, k4⟩
    have n1 : crs p q C Z = 32768 * crs u v C Z + (r1 * Z - r2 * C) := by rw [t1, t4]; unfold crs; grind
    have n2 : dt p q C Z = 32768 * dt u v C Z + (r1 * C + r2 * Z) := by rw [t1, t4]; unfold dt; grind
    have n3 : crs C Z p q = 32768 * crs C Z u v + (C * r2 - Z * r1) := by rw [t1, t4]; unfold crs; grind
    have n4 : C * r2 - Z * r1 = r2 * C - r1 * Z := by grind
    refine ⟨fun h => by omega, fun h => by omega, fun h => by omega⟩
  -- upper side: four units further
  have up : 0 < crs u v (bc (al + a + 4)) (bs (al + a + 4)) ∧ 0 < dt u v (bc (al + a + 4)) (bs (al + a + 4)) := by
    obtain ⟨g1, g2⟩ := K_4 al a
    obtain ⟨g3, g4⟩ := K_3 (al + 1) a
    rw [show al + 1 + a + 3 = al + a + 4 by omega] at g3 g4
    obtain ⟨d1, d2⟩ := b_bd (al + a + 4)
    have w1 := pull (k := 4294967296) hK (by omega) c1 (by omega) hbig (tc1 (bc (al + a + 4)) (bs (al + a + 4))) g1 g3
    have w2 := pull (k := 4294967296) hK (by omega) c1 (by omega) hbig (tc2 (bc (al + a + 4)) (bs (al + a + 4))) (by omega) (by omega)
    obtain ⟨o1, o2, -⟩ := tr _ _ d1.1 d1.2 d2.1 d2.2
    exact ⟨o1 (by omega), o2 (by omega)⟩
  -- lower side: three units back
  have dn : 0 < crs (bc (al + a - 3)) (bs (al + a - 3)) u v ∧ 0 < dt u v (bc (al + a - 3)) (bs (al + a - 3)) := by
    obtain ⟨g1, g2⟩ := K_back al a 3 (.inl rfl)
    obtain ⟨g3, g4⟩ := K_back (al + 1) a 4 (.inr rfl)
    rw [show al + 1 + a - 4 = al + a - 3 by omega] at g3 g4
    obtain ⟨d1, d2⟩ := b_bd (al + a - 3)
    have flip : ∀ A B C Z : Int, crs C Z A B = -crs A B C Z := by intro A B C Z; unfold crs; grind
    have flip2 : ∀ A B C Z : Int, dt C Z A B = dt A B C Z := by intro A B C Z; unfold dt; grind
    rw [flip] at g1 g3
    rw [flip2] at g2 g4
    have w1 := pull (k := 4294967296) (t := -crs p q (bc (al + a - 3)) (bs (al + a - 3))) (z1 := -crs (bc al * bc a - bs al * bs a) (bs al * bc a + bc al * bs a) (bc (al + a - 3)) (bs (al + a - 3))) (z2 := -crs (bc (al + 1) * bc a - bs (al + 1) * bs a) (bs (al + 1) * bc a + bc (al + 1) * bs a) (bc (al + a - 3)) (bs (al + a - 3))) hK (by omega) c1 (by omega) hbig (by rw [Int.mul_neg, tc1, Int.mul_neg, Int.mul_neg]; omega) g1 g3
    have w2 := pull (k := 4294967296) hK (by omega) c1 (by omega) hbig (tc2 (bc (al + a - 3)) (bs (al + a - 3))) (by omega) (by omega)
    rw [← flip] at w1
    obtain ⟨-, o2, o3⟩ := tr _ _ d1.1 d1.2 d2.1 d2.2
    exact ⟨o3 (by omega), o2 (by omega)⟩
  -- the angle of the truncated vector
  have h0 : ¬(u = 0 ∧ v = 0) := by
    rintro ⟨rfl, rfl⟩
    have := up.2
    unfold dt at this
    omega
  have hb := angle_cone ub h0
  have hbd := cone_dot hb
  generalize angle u v = be at *
  obtain ⟨e1, e2, e3⟩ := hb
  have per : ∀ A B : Int, nrm A = nrm B → bc A = bc B ∧ bs A = bs B := fun A B h => b_nrm h
  have fl : ∀ A B C Z : Int, dt C Z A B = dt A B C Z := by intro A B C Z; unfold dt; grind
  have dr : -32768 ≤ dif be (al + nrm a) ∧ dif be (al + nrm a) ≤ 32767 := dif_bd _ _
  have dd : nrm be = nrm (al + a + dif be (al + nrm a)) := by unfold nrm dif; omega
  generalize dif be (al + nrm a) = de at *
  refine ⟨?_, ?_⟩
  · rcases Int.lt_or_le de (-3) with h | h
    · exfalso
      have hcr := crs_nn (be + 1) (-de - 4) (by omega) (by omega)
      obtain ⟨z1, z2⟩ := per (be + 1 + (-de - 4)) (al + a - 3) (by unfold nrm at *; omega)
      rw [z1, z2] at hcr
      exact three u v (bc (be + 1)) (bs (be + 1)) (bc (al + a - 3)) (bs (al + a - 3)) (by unfold crs at *; rw [Int.mul_comm u, Int.mul_comm v]; omega) hcr (by omega) (by rw [fl]; exact dn.2) (by omega)
    · omega
  · rcases Int.lt_or_le 3 de with h | h
    · exfalso
      have hcr := crs_nn (al + a + 4) (de - 4) (by omega) (by omega)
      obtain ⟨z1, z2⟩ := per (al + a + 4 + (de - 4)) be (by unfold nrm at *; omega)
      rw [z1, z2] at hcr
      exact three u v (bc (al + a + 4)) (bs (al + a + 4)) (bc be) (bs be) up.1 hcr e1 e3 (by rw [fl]; omega)
    · omega
end Go.Proofs.Ytlefnahclgccbaa
