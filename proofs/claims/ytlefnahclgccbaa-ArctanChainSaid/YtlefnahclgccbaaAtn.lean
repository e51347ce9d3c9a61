/- The angle of a vector: plain mathematics. No program in sight. -/
import Derived.Test.YtlefnahclgccbaaSinP
namespace Go.Proofs.Ytlefnahclgccbaa
open Go.RowKit

theorem chkDot : allQ (fun a => Nat.ble 1 (Nat.add (Nat.mul (cs a) (cs (Nat.add a 1))) (Nat.mul (sn a) (sn (Nat.add a 1))))) = true := by decide +kernel

/-! ### three vectors -/
def crs (a b c d : Int) : Int := a * d - b * c
def dt (a b c d : Int) : Int := a * c + b * d
/-- p right of m, m right of q (or on it), q right of p (or on it): impossible where they lie in a half plane about p. -/
theorem three (px py mx my qx qy : Int) (h1 : 0 < crs px py mx my) (h2 : 0 ≤ crs mx my qx qy) (h3 : 0 ≤ crs qx qy px py) (d1 : 0 < dt qx qy px py) (d2 : 0 ≤ dt mx my px py) : False := by
  have id : crs px py mx my * dt qx qy px py + crs mx my qx qy * (px * px + py * py) + crs qx qy px py * dt mx my px py = 0 := by unfold crs dt; grind
  have p1 : 0 < crs px py mx my * dt qx qy px py := Int.mul_pos h1 d1
  have nn : 0 ≤ px * px + py * py := by
    have s : ∀ z : Int, 0 ≤ z * z := fun z => by
      rcases Int.le_total 0 z with h | h
      · exact Int.mul_nonneg h h
      · exact Int.mul_nonneg_of_nonpos_of_nonpos h h
    have := s px
    have := s py
    omega
  have p2 : 0 ≤ crs mx my qx qy * (px * px + py * py) := Int.mul_nonneg h2 nn
  have p3 : 0 ≤ crs qx qy px py * dt mx my px py := Int.mul_nonneg h3 d2
  omega

/-! ### neighbours -/
theorem dot_next (a : Int) : 0 < dt (bc a) (bs a) (bc (a + 1)) (bs (a + 1)) := by
  have hr : ∀ k : Nat, dt (bc (a + 16384 * k)) (bs (a + 16384 * k)) (bc (a + 16384 * k + 1)) (bs (a + 16384 * k + 1)) = dt (bc a) (bs a) (bc (a + 1)) (bs (a + 1)) := by
    intro k
    induction k with
    | zero => simp
    | succ k ih =>
      rw [← ih]
      obtain ⟨h1, h2⟩ := b_rot (a + 16384 * k)
      obtain ⟨g1, g2⟩ := b_rot (a + 16384 * k + 1)
      rw [show a + 16384 * ((k + 1 : Nat) : Int) = a + 16384 * k + 16384 by omega, show a + 16384 * (k : Int) + 16384 + 1 = a + 16384 * k + 1 + 16384 by omega, h1, h2, g1, g2]
      unfold dt
      grind
  obtain ⟨q, r, h⟩ := isQ_of a
  have h0 : isQ (a + 16384 * ((4 - q : Nat) : Int)) 0 r := by unfold isQ nrm at *; omega
  rw [← hr (4 - q)]
  obtain ⟨e1, e2⟩ := b_of h0
  have hk := allQ_at chkDot r h.2.1
  simp only [Nat.ble_eq] at hk
  have hk' : 1 ≤ cs r * cs (r + 1) + sn r * sn (r + 1) := hk
  have hk2 := Int.ofNat_le.mpr hk'
  simp only [Int.natCast_add, Int.natCast_mul] at hk2
  by_cases hlt : r = 16383
  · subst hlt
    have hn : isQ (a + 16384 * ((4 - q : Nat) : Int) + 1) 1 0 := by unfold isQ nrm at *; omega
    obtain ⟨f1, f2⟩ := b_of hn
    rw [show 16383 + 1 = 16384 by rfl, cs_end, sn_end] at hk2
    rw [e1, e2, f1, f2, sn_zero, cs_zero]
    unfold dt
    simp only [tc, ts]
    omega
  · have hn : isQ (a + 16384 * ((4 - q : Nat) : Int) + 1) 0 (r + 1) := by unfold isQ nrm at *; omega
    obtain ⟨f1, f2⟩ := b_of hn
    rw [e1, e2, f1, f2]
    unfold dt
    simp only [tc, ts]
    omega
theorem crs_pos (a d : Int) (h1 : 0 < d) (h2 : d < 32768) : 0 < crs (bc a) (bs a) (bc (a + d)) (bs (a + d)) := b_turn a d h1 h2
theorem crs_nn (a d : Int) (h1 : 0 ≤ d) (h2 : d < 32768) : 0 ≤ crs (bc a) (bs a) (bc (a + d)) (bs (a + d)) := by
  by_cases h : d = 0
  · subst h; rw [Int.add_zero]; unfold crs; rw [Int.mul_comm]; omega
  · have := crs_pos a d (by omega) h2; omega

/-! ### cones: v lies between the directions of a (included) and a + 1 -/
def cone (a x y : Int) : Prop := 0 ≤ crs (bc a) (bs a) x y ∧ crs (bc (a + 1)) (bs (a + 1)) x y < 0 ∧ 0 < dt (bc a) (bs a) x y
/-- v as a sum of the two directions. -/
theorem cone_exp {a x y : Int} :
    crs (bc a) (bs a) (bc (a + 1)) (bs (a + 1)) * x = -crs (bc (a + 1)) (bs (a + 1)) x y * bc a + crs (bc a) (bs a) x y * bc (a + 1) ∧
    crs (bc a) (bs a) (bc (a + 1)) (bs (a + 1)) * y = -crs (bc (a + 1)) (bs (a + 1)) x y * bs a + crs (bc a) (bs a) x y * bs (a + 1) := by
  unfold crs
  constructor <;> grind
theorem cone_dot {a x y : Int} (h : cone a x y) : 0 < dt (bc (a + 1)) (bs (a + 1)) x y := by
  obtain ⟨h1, h2, h3⟩ := h
  have hn := dot_next a
  have hc := crs_pos a 1 (by omega) (by omega)
  have id : crs (bc a) (bs a) (bc (a + 1)) (bs (a + 1)) * dt (bc (a + 1)) (bs (a + 1)) x y = -crs (bc (a + 1)) (bs (a + 1)) x y * dt (bc a) (bs a) (bc (a + 1)) (bs (a + 1)) + crs (bc a) (bs a) x y * (bc (a + 1) * bc (a + 1) + bs (a + 1) * bs (a + 1)) := by unfold crs dt; grind
  have p1 : 0 < -crs (bc (a + 1)) (bs (a + 1)) x y * dt (bc a) (bs a) (bc (a + 1)) (bs (a + 1)) := Int.mul_pos (by omega) hn
  have p2 : 0 ≤ crs (bc a) (bs a) x y * (bc (a + 1) * bc (a + 1) + bs (a + 1) * bs (a + 1)) := Int.mul_nonneg h1 (by have := b_len (a + 1); omega)
  exact Int.pos_of_mul_pos_right (show 0 < crs (bc a) (bs a) (bc (a + 1)) (bs (a + 1)) * dt (bc (a + 1)) (bs (a + 1)) x y by omega) (by omega)
/-- One vector lies in one cone. -/
theorem cone_uniq {a b x y : Int} (ha : cone a x y) (hb : cone b x y) (h0 : 0 ≤ a ∧ a < 65536) (h1 : 0 ≤ b ∧ b < 65536) : a = b := by
  have one : ∀ {a b : Int}, cone a x y → cone b x y → 0 < b - a → b - a ≤ 32768 → False := by
    intro a b ha hb h1 h2
    have dn := cone_dot ha
    obtain ⟨a1, a2, a3⟩ := ha
    obtain ⟨b1, b2, b3⟩ := hb
    have hc := crs_nn (a + 1) (b - (a + 1)) (by omega) (by omega)
    rw [show a + 1 + (b - (a + 1)) = b by omega] at hc
    exact three x y (bc (a + 1)) (bs (a + 1)) (bc b) (bs b) (by unfold crs at *; rw [Int.mul_comm x, Int.mul_comm y]; omega) hc b1 b3 (by omega)
  have per : ∀ {a : Int}, cone a x y → cone (a + 65536) x y := by
    intro a h
    unfold cone at *
    have e1 := b_nrm (a := a + 65536) (b := a) (by unfold nrm; omega)
    have e2 := b_nrm (a := a + 65536 + 1) (b := a + 1) (by unfold nrm; omega)
    rw [e1.1, e1.2, e2.1, e2.2]
    exact h
  rcases Int.lt_trichotomy a b with h | h | h
  · exfalso
    by_cases h2 : b - a ≤ 32768
    · exact one ha hb (by omega) h2
    · exact one hb (per ha) (by omega) (by omega)
  · exact h
  · exfalso
    by_cases h2 : a - b ≤ 32768
    · exact one hb ha (by omega) h2
    · exact one ha (per hb) (by omega) (by omega)

/-! ### the first quarter -/
/-- The greatest angle up to n whose direction is not beyond (x, y). -/
def angD : Nat → Int → Int → Nat
  | 0, _, _ => 0
  | n + 1, x, y => if bs ((n + 1 : Nat) : Int) * x ≤ bc ((n + 1 : Nat) : Int) * y then n + 1 else angD n x y
/-- a is the angle of the vector (x, y) of the first quarter. -/
def isA (a x y : Int) : Prop := 0 ≤ a ∧ a ≤ 16383 ∧ bs a * x ≤ bc a * y ∧ (a = 16383 ∨ bc (a + 1) * y < bs (a + 1) * x)
theorem b_zero : bc 0 = 32768 ∧ bs 0 = 0 ∧ bc 16384 = 0 ∧ bs 16384 = 32768 := by decide +kernel
theorem angD_is (x y : Int) (hy : 0 ≤ y) : ∀ n : Nat, n ≤ 16383 → (n = 16383 ∨ bc ((n : Int) + 1) * y < bs ((n : Int) + 1) * x) → isA (angD n x y) x y := by
  intro n
  induction n with
  | zero =>
    intro _ h
    refine ⟨by simp [angD], by simp [angD], ?_, ?_⟩
    · simp only [angD]
      show bs 0 * x ≤ bc 0 * y
      rw [b_zero.1, b_zero.2.1]
      omega
    · rcases h with h | h
      · omega
      · exact .inr h
  | succ n ih =>
    intro hn h
    by_cases hp : bs ((n + 1 : Nat) : Int) * x ≤ bc ((n + 1 : Nat) : Int) * y
    · have e : angD (n + 1) x y = n + 1 := by unfold angD; rw [if_pos hp]
      rw [e]
      refine ⟨by omega, by omega, hp, ?_⟩
      rcases h with h | h
      · exact .inl (by omega)
      · exact .inr h
    · have e : angD (n + 1) x y = angD n x y := by unfold angD; rw [if_neg hp]; cases n <;> rfl
      rw [e]
      exact ih (by omega) (.inr (by rw [show ((n : Int) + 1) = ((n + 1 : Nat) : Int) by omega]; omega))
theorem b_first (a : Int) (h : 0 ≤ a ∧ a ≤ 16383) : 1 ≤ bc a ∧ 0 ≤ bs a := by
  have hq : isQ a 0 a.toNat := by unfold isQ nrm; omega
  obtain ⟨e1, e2⟩ := b_of hq
  have := bd_r a.toNat (by omega)
  rw [e1, e2]
  simp only [tc, ts]
  omega
/-- The angle of a vector of the first quarter is its cone's. -/
theorem isA_cone {a x y : Int} (h : isA a x y) (hx : 0 < x) (hy : 0 ≤ y) : cone a x y := by
  obtain ⟨h1, h2, h3, h4⟩ := h
  obtain ⟨c1, s1⟩ := b_first a ⟨h1, h2⟩
  refine ⟨by unfold crs; omega, ?_, ?_⟩
  · rcases h4 with h4 | h4
    · subst h4
      show crs (bc 16384) (bs 16384) x y < 0
      rw [b_zero.2.2.1, b_zero.2.2.2]
      unfold crs
      omega
    · unfold crs; omega
  · have p1 : 0 < bc a * x := Int.mul_pos (by omega) hx
    have p2 : 0 ≤ bs a * y := Int.mul_nonneg s1 hy
    unfold dt; omega
theorem isA_uniq {a b x y : Int} (ha : isA a x y) (hb : isA b x y) (hx : 0 < x) (hy : 0 ≤ y) : a = b :=
  cone_uniq (isA_cone ha hx hy) (isA_cone hb hx hy) ⟨ha.1, by have := ha.2.1; omega⟩ ⟨hb.1, by have := hb.2.1; omega⟩
def ang0 (x y : Int) : Int := (angD 16383 x y : Int)
theorem ang0_is {x y : Int} (hy : 0 ≤ y) : isA (ang0 x y) x y := angD_is x y hy 16383 (by omega) (.inl rfl)

/-! ### quarters -/
def qn (x y : Int) : Int := if 0 < x ∧ 0 ≤ y then 0 else if x ≤ 0 ∧ 0 < y then 1 else if x < 0 ∧ y ≤ 0 then 2 else 3
/-- The vector turned back by its quarters. -/
def ux (x y : Int) : Int := if qn x y = 0 then x else if qn x y = 1 then y else if qn x y = 2 then -x else -y
def uy (x y : Int) : Int := if qn x y = 0 then y else if qn x y = 1 then -x else if qn x y = 2 then -y else x
theorem qn_bd (x y : Int) : 0 ≤ qn x y ∧ qn x y ≤ 3 := by unfold qn; omega
theorem u_pos {x y : Int} (h : ¬(x = 0 ∧ y = 0)) : 0 < ux x y ∧ 0 ≤ uy x y := by
  unfold ux uy qn
  omega
/-- The angle of a vector that is not (0, 0) and need not be halved. -/
def ang (x y : Int) : Int := ang0 (ux x y) (uy x y) + 16384 * qn x y
theorem ang_bd {x y : Int} (h : ¬(x = 0 ∧ y = 0)) : 0 ≤ ang x y ∧ ang x y < 65536 := by
  have h1 := ang0_is (x := ux x y) (u_pos h).2
  have h2 := qn_bd x y
  obtain ⟨g1, g2, -, -⟩ := h1
  unfold ang
  omega
theorem cone_rot {a x y : Int} (h : cone a x y) : cone (a + 16384) (-y) x := by
  obtain ⟨h1, h2, h3⟩ := h
  obtain ⟨r1, r2⟩ := b_rot a
  obtain ⟨r3, r4⟩ := b_rot (a + 1)
  unfold cone
  rw [show a + 16384 + 1 = a + 1 + 16384 by omega, r1, r2, r3, r4]
  unfold crs dt at *
  simp only [Int.neg_mul, Int.mul_neg]
  omega
theorem ang_cone {x y : Int} (h : ¬(x = 0 ∧ y = 0)) : cone (ang x y) x y := by
  obtain ⟨p1, p2⟩ := u_pos h
  have hc := isA_cone (ang0_is p2) p1 p2
  have hq := qn_bd x y
  have c1 := cone_rot hc
  have c2 := cone_rot c1
  have c3 := cone_rot c2
  have cg : ∀ {a b x' y' : Int}, cone a x' y' → a = b → x' = x → y' = y → cone b x y := by
    intro a b x' y' h e1 e2 e3
    rw [← e1, ← e2, ← e3]
    exact h
  unfold ang
  rcases (show qn x y = 0 ∨ qn x y = 1 ∨ qn x y = 2 ∨ qn x y = 3 by omega) with e | e | e | e
  · exact cg hc (by omega) (by unfold ux; omega) (by unfold uy; omega)
  · exact cg c1 (by omega) (by unfold uy; omega) (by unfold ux; omega)
  · exact cg c2 (by omega) (by unfold ux; omega) (by unfold uy; omega)
  · exact cg c3 (by omega) (by unfold uy; omega) (by unfold ux; omega)
theorem ang_uniq {b x y : Int} (hb : cone b x y) (h1 : 0 ≤ b ∧ b < 65536) : ang x y = b := by
  have h : ¬(x = 0 ∧ y = 0) := by
    rintro ⟨rfl, rfl⟩
    obtain ⟨-, h2, -⟩ := hb
    unfold crs at h2
    omega
  exact cone_uniq (ang_cone h) hb (ang_bd h) h1
theorem cone_nrm {b x y : Int} (hb : cone b x y) : cone (nrm b) x y := by
  unfold cone at *
  have e1 := b_nrm (a := nrm b) (b := b) (nrm_nrm b)
  have e2 := b_nrm (a := nrm b + 1) (b := b + 1) (by unfold nrm; omega)
  rw [e1.1, e1.2, e2.1, e2.2]
  exact hb
theorem ang_nrm {b x y : Int} (hb : cone b x y) : ang x y = nrm b := ang_uniq (cone_nrm hb) (by have := nrm_bd b; omega)

/-! ### halving -/
def farB (x y : Int) : Bool := decide (1099511627776 < x) || decide (x < -1099511627776) || decide (1099511627776 < y) || decide (y < -1099511627776)
theorem farB_out {x y : Int} (h : farB x y = false) : (-1099511627776 ≤ x ∧ x ≤ 1099511627776) ∧ (-1099511627776 ≤ y ∧ y ≤ 1099511627776) := by
  simp [farB] at h
  omega
theorem farB_mk {x y : Int} (h : (-1099511627776 ≤ x ∧ x ≤ 1099511627776) ∧ (-1099511627776 ≤ y ∧ y ≤ 1099511627776)) : farB x y = false := by
  simp [farB]
  omega
theorem farB_in {x y : Int} (h : farB x y = true) : (1099511627776 < x ∨ x < -1099511627776) ∨ (1099511627776 < y ∨ y < -1099511627776) := by
  simp [farB] at h
  omega
theorem half_lt (x : Int) : (x.tdiv 2).natAbs ≤ x.natAbs ∧ (x ≠ 0 → (x.tdiv 2).natAbs < x.natAbs) := by
  rcases tdiv_cases x 2 (by omega) with ⟨h, e⟩ | ⟨h, e⟩ <;> rw [e] <;> omega
theorem half_sum {x y : Int} (h : farB x y = true) : (x.tdiv 2).natAbs + (y.tdiv 2).natAbs < x.natAbs + y.natAbs := by
  have h1 := half_lt x
  have h2 := half_lt y
  rcases farB_in h with g | g
  · have := h1.2 (by omega); omega
  · have := h2.2 (by omega); omega
def sm (x y : Int) : Int × Int := if _h : farB x y = true then sm (x.tdiv 2) (y.tdiv 2) else (x, y)
termination_by x.natAbs + y.natAbs
decreasing_by exact half_sum (by assumption)
theorem sm_far {x y : Int} (h : farB x y = true) : sm x y = sm (x.tdiv 2) (y.tdiv 2) := by rw [sm, dif_pos h]
theorem sm_near {x y : Int} (h : farB x y = false) : sm x y = (x, y) := by rw [sm, dif_neg (by simp [h])]
/-- The vector that counts. -/
def vx (x y : Int) : Int := if (sm x y).1 = 0 ∧ (sm x y).2 = 0 then 1 else (sm x y).1
def vy (x y : Int) : Int := if (sm x y).1 = 0 ∧ (sm x y).2 = 0 then 0 else (sm x y).2
theorem sm_bd : ∀ (n : Nat) (x y : Int), x.natAbs + y.natAbs ≤ n → (-1099511627776 ≤ (sm x y).1 ∧ (sm x y).1 ≤ 1099511627776) ∧ (-1099511627776 ≤ (sm x y).2 ∧ (sm x y).2 ≤ 1099511627776) := by
  intro n
  induction n with
  | zero =>
    intro x y h
    rw [sm_near (farB_mk (by omega))]
    exact ⟨by omega, by omega⟩
  | succ n ih =>
    intro x y h
    cases hf : farB x y
    · rw [sm_near hf]; exact farB_out hf
    · rw [sm_far hf]; exact ih _ _ (by have := half_sum hf; omega)
theorem v_bd (x y : Int) : ((-1099511627776 ≤ vx x y ∧ vx x y ≤ 1099511627776) ∧ (-1099511627776 ≤ vy x y ∧ vy x y ≤ 1099511627776)) ∧ ¬(vx x y = 0 ∧ vy x y = 0) := by
  have h := sm_bd _ x y (Nat.le_refl _)
  unfold vx vy
  refine ⟨⟨by omega, by omega⟩, ?_⟩
  split <;> omega
theorem v_near {x y : Int} (h : farB x y = false) (h0 : ¬(x = 0 ∧ y = 0)) : vx x y = x ∧ vy x y = y := by
  unfold vx vy
  rw [sm_near h, if_neg h0, if_neg h0]
  exact ⟨rfl, rfl⟩
/-- The angle of any vector. -/
def angle (x y : Int) : Int := ang (vx x y) (vy x y)
theorem angle_near {x y : Int} (h : farB x y = false) (h0 : ¬(x = 0 ∧ y = 0)) : angle x y = ang x y := by
  obtain ⟨e1, e2⟩ := v_near h h0
  unfold angle
  rw [e1, e2]
theorem angle_bd (x y : Int) : 0 ≤ angle x y ∧ angle x y < 65536 := ang_bd (v_bd x y).2
end Go.Proofs.Ytlefnahclgccbaa
