/- The laws of the rotation, in plain mathematics. No program in sight. -/
import Derived.Test.YtdkneeglkbbnlaaPark
namespace Go.Proofs.Ytdkneeglkbbnlaa
open Go.RowKit

theorem sum_bd (a : Int) : ab (bc a) + ab (bs a) ≤ 46340 := by
  obtain ⟨q, r, h⟩ := isQ_of a
  obtain ⟨e1, e2⟩ := b_of h
  have hs := allQ_at chkSum r h.2.1
  simp only [Nat.ble_eq] at hs
  have hs' : cs r + sn r ≤ 46340 := hs
  obtain ⟨h1, -, -⟩ := h
  rw [e1, e2]
  unfold ab
  rcases (show q = 0 ∨ q = 1 ∨ q = 2 ∨ q = 3 by omega) with rfl | rfl | rfl | rfl <;> simp only [tc, ts] <;> omega

/-- ParkShorter's second half. -/
theorem shorter (x y a : Int) : (x * x + y * y) - (tu x y a * tu x y a + tv x y a * tv x y a) ≤ (x * x + y * y) / 2400 + 8 * (ab x + ab y) + 16 := by
  have h := turn_long x y a
  have nn : 0 ≤ x * x + y * y := by have := sq_nn x; have := sq_nn y; omega
  have ax := ab_bd x
  have ay := ab_bd y
  omega

/-- ParkQuarters. -/
theorem quarters (x y a : Int) : (tu (-y) x a = -tv x y a ∧ tv (-y) x a = tu x y a) ∧ (tu (-x) (-y) a = -tu x y a ∧ tv (-x) (-y) a = -tv x y a) ∧ (tu x y (a + 16384) = -tv x y a ∧ tv x y (a + 16384) = tu x y a) ∧ (tu x y 16384 = -y ∧ tv x y 16384 = x) := by
  obtain ⟨r1, r2⟩ := b_rot a
  have q1 : bc 16384 = 0 := by decide +kernel
  have q2 : bs 16384 = 32768 := by decide +kernel
  unfold tu tv
  rw [r1, r2, q1, q2]
  refine ⟨⟨?_, ?_⟩, ⟨?_, ?_⟩, ⟨?_, ?_⟩, ⟨?_, ?_⟩⟩
  · rw [← Int.neg_tdiv]; congr 1; grind
  · congr 1; grind
  · rw [← Int.neg_tdiv]; congr 1; grind
  · rw [← Int.neg_tdiv]; congr 1; grind
  · rw [← Int.neg_tdiv]; congr 1; grind
  · congr 1; grind
  · rcases tdiv_cases (0 * x - 32768 * y) 32768 (by omega) with ⟨h, e⟩ | ⟨h, e⟩ <;> rw [e] <;> omega
  · rcases tdiv_cases (32768 * x + 0 * y) 32768 (by omega) with ⟨h, e⟩ | ⟨h, e⟩ <;> rw [e] <;> omega

/-- One coordinate there and back: c*d - s*q with d, q the turned coordinates. -/
theorem there_one {R c s x r1 r2 r3 u k : Int} (hR : R = 32768) (e : 1073741824 * u = k * x - c * r1 + s * r2 - R * r3) (hk : 1073348644 ≤ k ∧ k ≤ 1073741824)
    (h1 : -32767 ≤ r1 ∧ r1 ≤ 32767) (h2 : -32767 ≤ r2 ∧ r2 ≤ 32767) (h3 : -32767 ≤ r3 ∧ r3 ≤ 32767) (hs : ab c + ab s ≤ 46340) (n : Int) (hn : ab x ≤ n) :
    u - x ≤ n * 12 / 32768 + 3 ∧ x - u ≤ n * 12 / 32768 + 3 := by
  have ax := ab_bd x
  have ac := ab_bd c
  have as := ab_bd s
  have p1 := prod_bd2 (x := c) (y := r1) (m := ab c) (n := 32767) (by omega) h1
  have p2 := prod_bd2 (x := s) (y := r2) (m := ab s) (n := 32767) (by omega) h2
  have p3 := prod_bd2 (x := 1073741824 - k) (y := x) (m := 393180) (n := ab x) (by omega) (by omega)
  have e2 : (1073741824 - k) * x = 1073741824 * x - k * x := by grind
  subst hR
  omega
theorem there (x y a n : Int) (hn : ab x + ab y ≤ n) :
    (tu (tu x y (-nrm a)) (tv x y (-nrm a)) a - x ≤ n * 12 / 32768 + 3 ∧ x - tu (tu x y (-nrm a)) (tv x y (-nrm a)) a ≤ n * 12 / 32768 + 3) ∧
    (tv (tu x y (-nrm a)) (tv x y (-nrm a)) a - y ≤ n * 12 / 32768 + 3 ∧ y - tv (tu x y (-nrm a)) (tv x y (-nrm a)) a ≤ n * 12 / 32768 + 3) := by
  have hl := b_len a
  have hs := sum_bd a
  have ax := ab_bd x
  have ay := ab_bd y
  obtain ⟨n1, n2⟩ := b_nrm (a := -nrm a) (b := -a) (by unfold nrm; omega)
  obtain ⟨m1, m2⟩ := b_neg a
  obtain ⟨r1, e1, b1, b2, -⟩ := tdv (bc (-nrm a) * x - bs (-nrm a) * y)
  obtain ⟨r2, e2, b3, b4, -⟩ := tdv (bs (-nrm a) * x + bc (-nrm a) * y)
  have f1 : (bc (-nrm a) * x - bs (-nrm a) * y).tdiv 32768 = tu x y (-nrm a) := rfl
  have f2 : (bs (-nrm a) * x + bc (-nrm a) * y).tdiv 32768 = tv x y (-nrm a) := rfl
  rw [f1] at e1
  rw [f2] at e2
  rw [n1, n2, m1, m2] at e1 e2
  generalize tu x y (-nrm a) = d at *
  generalize tv x y (-nrm a) = q at *
  obtain ⟨r3, e3, b5, b6, -⟩ := tdv (bc a * d - bs a * q)
  obtain ⟨r4, e4, b7, b8, -⟩ := tdv (bs a * d + bc a * q)
  have f3 : (bc a * d - bs a * q).tdiv 32768 = tu d q a := rfl
  have f4 : (bs a * d + bc a * q).tdiv 32768 = tv d q a := rfl
  rw [f3] at e3
  rw [f4] at e4
  generalize bc a = c at *
  generalize bs a = s at *
  have g1 : 1073741824 * tu d q a = (c * c + s * s) * x - c * r1 + s * r2 - 32768 * r3 := by
    have h1 : 32768 * d = c * x - -s * y - r1 := by omega
    have h2 : 32768 * q = -s * x + c * y - r2 := by omega
    have h3 : 32768 * (c * d - s * q) = c * (32768 * d) - s * (32768 * q) := by grind
    rw [h1, h2] at h3
    have h4 : c * (c * x - -s * y - r1) - s * (-s * x + c * y - r2) = (c * c + s * s) * x - c * r1 + s * r2 := by grind
    omega
  have g2 : 1073741824 * tv d q a = (c * c + s * s) * y - s * r1 + -c * r2 - 32768 * r4 := by
    have h1 : 32768 * d = c * x - -s * y - r1 := by omega
    have h2 : 32768 * q = -s * x + c * y - r2 := by omega
    have h3 : 32768 * (s * d + c * q) = s * (32768 * d) + c * (32768 * q) := by grind
    rw [h1, h2] at h3
    have h4 : s * (c * x - -s * y - r1) + c * (-s * x + c * y - r2) = (c * c + s * s) * y - s * r1 + -c * r2 := by grind
    omega
  have anc : ab (-c) = ab c := by unfold ab; omega
  exact ⟨there_one rfl g1 ⟨hl.2, hl.1⟩ ⟨b1, b2⟩ ⟨b3, b4⟩ ⟨b5, b6⟩ hs n (by omega), there_one rfl g2 ⟨hl.2, hl.1⟩ ⟨b1, b2⟩ ⟨b3, b4⟩ ⟨b7, b8⟩ (by rw [anc]; omega) n (by omega)⟩

/-- ParkSums: one coordinate. -/
theorem sums_one (p q : Int) : -2 ≤ (p + q).tdiv 32768 - p.tdiv 32768 - q.tdiv 32768 ∧ (p + q).tdiv 32768 - p.tdiv 32768 - q.tdiv 32768 ≤ 2 := by
  obtain ⟨r1, e1, b1, b2, -⟩ := tdv p
  obtain ⟨r2, e2, b3, b4, -⟩ := tdv q
  obtain ⟨r3, e3, b5, b6, -⟩ := tdv (p + q)
  omega
theorem sums (x y x' y' t : Int) : (-2 ≤ tu (x + x') (y + y') t - tu x y t - tu x' y' t ∧ tu (x + x') (y + y') t - tu x y t - tu x' y' t ≤ 2) ∧ (-2 ≤ tv (x + x') (y + y') t - tv x y t - tv x' y' t ∧ tv (x + x') (y + y') t - tv x y t - tv x' y' t ≤ 2) := by
  have h1 := sums_one (bc t * x - bs t * y) (bc t * x' - bs t * y')
  have h2 := sums_one (bs t * x + bc t * y) (bs t * x' + bc t * y')
  rw [show bc t * x - bs t * y + (bc t * x' - bs t * y') = bc t * (x + x') - bs t * (y + y') by grind] at h1
  rw [show bs t * x + bc t * y + (bs t * x' + bc t * y') = bs t * (x + x') + bc t * (y + y') by grind] at h2
  exact ⟨h1, h2⟩

/-- ParkDots. -/
theorem dots (x y x' y' t : Int) :
    -((ab x + ab y) * (ab x' + ab y') / 2400 + 4 * (ab x + ab y + (ab x' + ab y')) + 16) ≤ x * x' + y * y' - tu x y t * tu x' y' t - tv x y t * tv x' y' t ∧
    x * x' + y * y' - tu x y t * tu x' y' t - tv x y t * tv x' y' t ≤ (ab x + ab y) * (ab x' + ab y') / 2400 + 4 * (ab x + ab y + (ab x' + ab y')) + 16 := by
  have hl := b_len t
  obtain ⟨hc, hs⟩ := b_bd t
  have ax := ab_bd x
  have ay := ab_bd y
  have ax' := ab_bd x'
  have ay' := ab_bd y'
  have p1 := pr_abs hc (m := ab x) (x := x) (by omega)
  have p2 := pr_abs hs (m := ab y) (x := y) (by omega)
  have p3 := pr_abs hs (m := ab x) (x := x) (by omega)
  have p4 := pr_abs hc (m := ab y) (x := y) (by omega)
  have p1' := pr_abs hc (m := ab x') (x := x') (by omega)
  have p2' := pr_abs hs (m := ab y') (x := y') (by omega)
  have p3' := pr_abs hs (m := ab x') (x := x') (by omega)
  have p4' := pr_abs hc (m := ab y') (x := y') (by omega)
  obtain ⟨r1, e1, b1, b2, -⟩ := tdv (bc t * x - bs t * y)
  obtain ⟨r2, e2, b3, b4, -⟩ := tdv (bs t * x + bc t * y)
  obtain ⟨r3, e3, b5, b6, -⟩ := tdv (bc t * x' - bs t * y')
  obtain ⟨r4, e4, b7, b8, -⟩ := tdv (bs t * x' + bc t * y')
  have f1 : (bc t * x - bs t * y).tdiv 32768 = tu x y t := rfl
  have f2 : (bs t * x + bc t * y).tdiv 32768 = tv x y t := rfl
  have f3 : (bc t * x' - bs t * y').tdiv 32768 = tu x' y' t := rfl
  have f4 : (bs t * x' + bc t * y').tdiv 32768 = tv x' y' t := rfl
  rw [f1] at e1
  rw [f2] at e2
  rw [f3] at e3
  rw [f4] at e4
  generalize tu x y t = u at *
  generalize tv x y t = v at *
  generalize tu x' y' t = u' at *
  generalize tv x' y' t = v' at *
  generalize bc t = c at *
  generalize bs t = s at *
  -- the products with the remainders
  obtain ⟨P, hP⟩ : ∃ P, c * x - s * y = P := ⟨_, rfl⟩
  obtain ⟨Q, hQ⟩ : ∃ Q, s * x + c * y = Q := ⟨_, rfl⟩
  obtain ⟨P', hP'⟩ : ∃ P, c * x' - s * y' = P := ⟨_, rfl⟩
  obtain ⟨Q', hQ'⟩ : ∃ Q, s * x' + c * y' = Q := ⟨_, rfl⟩
  have id : P * P' + Q * Q' = (c * c + s * s) * (x * x' + y * y') := by rw [← hP, ← hQ, ← hP', ← hQ']; grind
  rw [hP] at e1
  rw [hQ] at e2
  rw [hP'] at e3
  rw [hQ'] at e4
  have m1 := prod_bd2 (x := r1) (y := P') (m := 32767) (n := 32768 * (ab x' + ab y')) ⟨b1, b2⟩ (by omega)
  have m2 := prod_bd2 (x := r2) (y := Q') (m := 32767) (n := 32768 * (ab x' + ab y')) ⟨b3, b4⟩ (by omega)
  have m3 := prod_bd2 (x := r3) (y := P) (m := 32767) (n := 32768 * (ab x + ab y)) ⟨b5, b6⟩ (by omega)
  have m4 := prod_bd2 (x := r4) (y := Q) (m := 32767) (n := 32768 * (ab x + ab y)) ⟨b7, b8⟩ (by omega)
  have m5 := prod_bd2 (x := r1) (y := r3) (m := 32767) (n := 32767) ⟨b1, b2⟩ ⟨b5, b6⟩
  have m6 := prod_bd2 (x := r2) (y := r4) (m := 32767) (n := 32767) ⟨b3, b4⟩ ⟨b7, b8⟩
  have k1 : 1073741824 * (u * u') = P * P' - r1 * P' - r3 * P + r1 * r3 := by
    have h1 : 32768 * u = P - r1 := by omega
    have h2 : 32768 * u' = P' - r3 := by omega
    have h3 : 1073741824 * (u * u') = (32768 * u) * (32768 * u') := by grind
    rw [h3, h1, h2]; grind
  have k2 : 1073741824 * (v * v') = Q * Q' - r2 * Q' - r4 * Q + r2 * r4 := by
    have h1 : 32768 * v = Q - r2 := by omega
    have h2 : 32768 * v' = Q' - r4 := by omega
    have h3 : 1073741824 * (v * v') = (32768 * v) * (32768 * v') := by grind
    rw [h3, h1, h2]; grind
  -- the scalar product is at most the product of the sums
  have n1 := prod_bd2 (x := x) (y := x') (m := ab x) (n := ab x') (by omega) (by omega)
  have n2 := prod_bd2 (x := y) (y := y') (m := ab y) (n := ab y') (by omega) (by omega)
  have n3 : 0 ≤ ab x * ab y' := Int.mul_nonneg (by omega) (by omega)
  have n4 : 0 ≤ ab y * ab x' := Int.mul_nonneg (by omega) (by omega)
  have n5 : (ab x + ab y) * (ab x' + ab y') = ab x * ab x' + ab x * ab y' + ab y * ab x' + ab y * ab y' := by grind
  have k3 := prod_bd2 (x := 1073741824 - (c * c + s * s)) (y := x * x' + y * y') (m := 393180) (n := (ab x + ab y) * (ab x' + ab y')) (by omega) (by omega)
  have k4 : (1073741824 - (c * c + s * s)) * (x * x' + y * y') = 1073741824 * (x * x' + y * y') - (c * c + s * s) * (x * x' + y * y') := by grind
  generalize (ab x + ab y) * (ab x' + ab y') = M at *
  generalize (c * c + s * s) * (x * x' + y * y') = K at *
  omega
end Go.Proofs.Ytdkneeglkbbnlaa
