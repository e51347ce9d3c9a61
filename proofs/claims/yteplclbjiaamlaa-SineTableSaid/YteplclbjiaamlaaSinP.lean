/- Sine and cosine of any angle: their laws. No program in sight. -/
import Derived.Test.YteplclbjiaamlaaSinF
namespace Go.Proofs.Yteplclbjiaamlaa
open Go.RowKit

/-- The reference's turns: cosine and sine after k quarter turns. -/
def tc (c s : Int) : Nat → Int
  | 0 => c
  | 1 => -s
  | 2 => -c
  | _ => s
def ts (c s : Int) : Nat → Int
  | 0 => s
  | 1 => c
  | 2 => -s
  | _ => -c

theorem rem_256 (n : Nat) : ((n % 16384 : Nat) : Int) % 256 = (n : Int) % 256 := by omega
theorem tc_succ (c s : Int) (k : Nat) (h : k < 3) : -ts c s k = tc c s (k + 1) := by
  rcases (show k = 0 ∨ k = 1 ∨ k = 2 by omega) with rfl | rfl | rfl <;> simp [tc, ts]
theorem ts_succ (c s : Int) (k : Nat) (h : k < 3) : tc c s k = ts c s (k + 1) := by
  rcases (show k = 0 ∨ k = 1 ∨ k = 2 by omega) with rfl | rfl | rfl <;> simp [tc, ts]
theorem ts_bd (c s : Int) (k : Nat) (hc : 0 ≤ c ∧ c ≤ 131070) (hs : 0 ≤ s ∧ s ≤ 131070) : -131070 ≤ ts c s k ∧ ts c s k ≤ 131070 := by
  unfold ts
  split <;> omega
theorem bc_tc (a : Int) (n : Nat) (h : n < 65536) (ha : nrm a = (n : Int)) : tc (cs (n % 16384)) (sn (n % 16384)) (n / 16384) = bc a ∧ ts (cs (n % 16384)) (sn (n % 16384)) (n / 16384) = bs a := by
  have e : (nrm a % 16384).toNat = n % 16384 := by omega
  have q : nrm a / 16384 = ((n / 16384 : Nat) : Int) := by omega
  unfold bc bs c0 s0
  rw [e, q]
  rcases (show n / 16384 = 0 ∨ n / 16384 = 1 ∨ n / 16384 = 2 ∨ n / 16384 = 3 by omega) with h | h | h | h <;> rw [h] <;> simp [tc, ts]


/-! ### the first quarter -/
theorem len_r (r : Nat) (h : r < 16384) : (cs r : Int) * cs r + (sn r : Int) * sn r ≤ 1073741824 ∧ 1073348644 ≤ (cs r : Int) * cs r + (sn r : Int) * sn r := by
  have := allQ_at chkLen r h
  simp only [Bool.and_eq_true, Nat.ble_eq] at this
  have h1 : cs r * cs r + sn r * sn r ≤ 1073741824 := this.1
  have h2 : 1073348644 ≤ cs r * cs r + sn r * sn r := this.2
  omega
theorem step_r (r : Nat) (h : r < 16384) : (sn r : Int) ≤ sn (r + 1) ∧ (sn (r + 1) : Int) ≤ sn r + 4 ∧ (cs (r + 1) : Int) ≤ cs r ∧ (cs r : Int) ≤ cs (r + 1) + 4 := by
  have := allQ_at chkStep r h
  simp only [Bool.and_eq_true, Nat.ble_eq] at this
  have h1 : sn r ≤ sn (r + 1) := this.1.1.1
  have h2 : sn (r + 1) ≤ sn r + 4 := this.1.1.2
  have h3 : cs (r + 1) ≤ cs r := this.1.2
  have h4 : cs r ≤ cs (r + 1) + 4 := this.2
  omega
theorem turn_r (r : Nat) (h : r < 16384) : (sn r : Int) * cs (r + 1) + 1 ≤ (cs r : Int) * sn (r + 1) := by
  have := allQ_at chkTurn r h
  simp only [Nat.ble_eq] at this
  have h1 : sn r * cs (r + 1) + 1 ≤ cs r * sn (r + 1) := this
  omega
theorem mirror_r (r : Nat) (h : r < 16384) : sn (16384 - r) = cs r ∧ cs (16384 - r) = sn r :=
  ⟨Nat.eq_of_beq_eq_true (allQ_at chkMirror r h), Nat.eq_of_beq_eq_true (allQ_at chkMirror' r h)⟩
theorem bd_r (r : Nat) (h : r < 16384) : (sn r : Int) ≤ 32767 ∧ 1 ≤ (cs r : Int) ∧ (cs r : Int) ≤ 32768 ∧ 0 ≤ (sn r : Int) := by
  have := allQ_at chkBd r h
  simp only [Bool.and_eq_true, Nat.ble_eq] at this
  omega
theorem cross_r (i : Nat) (hi : i < 16384) : ∀ j, i < j → j ≤ 16384 → (sn i : Int) * cs j < (cs i : Int) * sn j := by
  intro j
  induction j with
  | zero => intro h; omega
  | succ j ih =>
    intro h1 h2
    by_cases e : i = j
    · subst e
      have := turn_r i hi
      omega
    · have h3 := ih (by omega) (by omega)
      have h4 := turn_r j (by omega)
      have b1 := bd_r i hi
      have b2 := bd_r j (by omega)
      have b3 := cs_bd (j + 1)
      have id : ((cs i : Int) * sn (j + 1) - sn i * cs (j + 1)) * cs j = ((cs i : Int) * sn j - sn i * cs j) * cs (j + 1) + ((cs j : Int) * sn (j + 1) - sn j * cs (j + 1)) * cs i := by grind
      have p1 : 0 ≤ ((cs i : Int) * sn j - sn i * cs j) * cs (j + 1) := Int.mul_nonneg (by omega) (by omega)
      have p2 : 0 < ((cs j : Int) * sn (j + 1) - sn j * cs (j + 1)) * cs i := Int.mul_pos (by omega) (by omega)
      have p3 : 0 < ((cs i : Int) * sn (j + 1) - sn i * cs (j + 1)) * cs j := by omega
      have p4 := Int.pos_of_mul_pos_left p3 (by omega)
      omega

/-! ### any angle: its quarter and the rest -/
/-- a is the angle of quarter q and rest r. -/
def isQ (a : Int) (q r : Nat) : Prop := q < 4 ∧ r < 16384 ∧ nrm a = 16384 * (q : Int) + r
theorem isQ_of (a : Int) : ∃ q r, isQ a q r := by
  have h := nrm_bd a
  exact ⟨(nrm a / 16384).toNat, (nrm a % 16384).toNat, by omega, by omega, by omega⟩
theorem b_of {a : Int} {q r : Nat} (h : isQ a q r) : bc a = tc (cs r) (sn r) q ∧ bs a = ts (cs r) (sn r) q := by
  obtain ⟨h1, h2, h3⟩ := h
  obtain ⟨e1, e2⟩ := bc_tc a (16384 * q + r) (by omega) (by omega)
  rw [show (16384 * q + r) % 16384 = r by omega, show (16384 * q + r) / 16384 = q by omega] at e1 e2
  exact ⟨e1.symm, e2.symm⟩
theorem isQ_next {a : Int} {q r : Nat} (h : isQ a q r) : isQ (a + 16384) ((q + 1) % 4) r := by
  obtain ⟨h1, h2, h3⟩ := h
  unfold isQ nrm at *
  omega
theorem b_rot (a : Int) : bc (a + 16384) = -bs a ∧ bs (a + 16384) = bc a := by
  obtain ⟨q, r, h⟩ := isQ_of a
  obtain ⟨e1, e2⟩ := b_of h
  obtain ⟨f1, f2⟩ := b_of (isQ_next h)
  obtain ⟨h1, -, -⟩ := h
  rw [e1, e2, f1, f2]
  rcases (show q = 0 ∨ q = 1 ∨ q = 2 ∨ q = 3 by omega) with rfl | rfl | rfl | rfl <;> simp [tc, ts]
theorem b_rot2 (a : Int) : bc (a + 32768) = -bc a ∧ bs (a + 32768) = -bs a := by
  have h1 := b_rot a
  have h2 := b_rot (a + 16384)
  rw [show a + 16384 + 16384 = a + 32768 by omega] at h2
  omega
theorem b_nrm {a b : Int} (h : nrm a = nrm b) : bc a = bc b ∧ bs a = bs b := by
  unfold bc bs c0 s0
  rw [h]
  exact ⟨rfl, rfl⟩
theorem b_len (a : Int) : bc a * bc a + bs a * bs a ≤ 1073741824 ∧ 1073348644 ≤ bc a * bc a + bs a * bs a := by
  obtain ⟨q, r, h⟩ := isQ_of a
  obtain ⟨e1, e2⟩ := b_of h
  have l := len_r r h.2.1
  obtain ⟨h1, -, -⟩ := h
  rw [e1, e2]
  rcases (show q = 0 ∨ q = 1 ∨ q = 2 ∨ q = 3 by omega) with rfl | rfl | rfl | rfl <;> simp [tc, ts, Int.neg_mul_neg] <;> omega
theorem b_bd (a : Int) : (-32768 ≤ bc a ∧ bc a ≤ 32768) ∧ (-32768 ≤ bs a ∧ bs a ≤ 32768) := by
  obtain ⟨q, r, h⟩ := isQ_of a
  obtain ⟨e1, e2⟩ := b_of h
  have l := bd_r r h.2.1
  obtain ⟨h1, -, -⟩ := h
  rw [e1, e2]
  rcases (show q = 0 ∨ q = 1 ∨ q = 2 ∨ q = 3 by omega) with rfl | rfl | rfl | rfl <;> simp [tc, ts] <;> omega
theorem b_neg (a : Int) : bc (-a) = bc a ∧ bs (-a) = -bs a := by
  obtain ⟨q, r, h⟩ := isQ_of a
  obtain ⟨e1, e2⟩ := b_of h
  by_cases hr : r = 0
  · subst hr
    have hn : isQ (-a) ((4 - q) % 4) 0 := by unfold isQ nrm at *; omega
    obtain ⟨f1, f2⟩ := b_of hn
    obtain ⟨h1, -, -⟩ := h
    rw [e1, e2, f1, f2, sn_zero, cs_zero]
    rcases (show q = 0 ∨ q = 1 ∨ q = 2 ∨ q = 3 by omega) with rfl | rfl | rfl | rfl <;> simp [tc, ts]
  · have hn : isQ (-a) (3 - q) (16384 - r) := by unfold isQ nrm at *; omega
    obtain ⟨f1, f2⟩ := b_of hn
    obtain ⟨m1, m2⟩ := mirror_r r h.2.1
    obtain ⟨h1, -, -⟩ := h
    rw [e1, e2, f1, f2, m1, m2]
    rcases (show q = 0 ∨ q = 1 ∨ q = 2 ∨ q = 3 by omega) with rfl | rfl | rfl | rfl <;> simp [tc, ts]
theorem b_half (a : Int) : bs (32768 - a) = bs a := by
  have h := b_rot2 (-a)
  rw [show -a + 32768 = 32768 - a by omega] at h
  have g := b_neg a
  omega
theorem b_step (a : Int) : (-4 ≤ bc (a + 1) - bc a ∧ bc (a + 1) - bc a ≤ 4) ∧ (-4 ≤ bs (a + 1) - bs a ∧ bs (a + 1) - bs a ≤ 4) ∧ (nrm a < 16384 → bc (a + 1) ≤ bc a ∧ bs a ≤ bs (a + 1)) := by
  obtain ⟨q, r, h⟩ := isQ_of a
  obtain ⟨e1, e2⟩ := b_of h
  have st := step_r r h.2.1
  by_cases hr : r = 16383
  · subst hr
    have hn : isQ (a + 1) ((q + 1) % 4) 0 := by unfold isQ nrm at *; omega
    obtain ⟨f1, f2⟩ := b_of hn
    obtain ⟨h1, -, h3⟩ := h
    rw [show 16383 + 1 = 16384 by rfl, sn_end, cs_end] at st
    rw [e1, e2, f1, f2, sn_zero, cs_zero]
    rcases (show q = 0 ∨ q = 1 ∨ q = 2 ∨ q = 3 by omega) with rfl | rfl | rfl | rfl <;> simp [tc, ts] <;> omega
  · have hn : isQ (a + 1) q (r + 1) := by unfold isQ nrm at *; omega
    obtain ⟨f1, f2⟩ := b_of hn
    obtain ⟨h1, -, h3⟩ := h
    rw [e1, e2, f1, f2]
    rcases (show q = 0 ∨ q = 1 ∨ q = 2 ∨ q = 3 by omega) with rfl | rfl | rfl | rfl <;> simp [tc, ts] <;> omega
/-- The cross product of two directions does not change when both are turned by a quarter. -/
theorem cross_rot (a b : Int) : bc (a + 16384) * bs (b + 16384) - bs (a + 16384) * bc (b + 16384) = bc a * bs b - bs a * bc b := by
  obtain ⟨h1, h2⟩ := b_rot a
  obtain ⟨g1, g2⟩ := b_rot b
  rw [h1, h2, g1, g2]
  grind
theorem cross_rots (k : Nat) (a b : Int) : bc (a + 16384 * k) * bs (b + 16384 * k) - bs (a + 16384 * k) * bc (b + 16384 * k) = bc a * bs b - bs a * bc b := by
  induction k with
  | zero => simp
  | succ k ih =>
    have := cross_rot (a + 16384 * k) (b + 16384 * k)
    rw [ih] at this
    rw [← this, show a + 16384 * ((k + 1 : Nat) : Int) = a + 16384 * k + 16384 by omega, show b + 16384 * ((k + 1 : Nat) : Int) = b + 16384 * k + 16384 by omega]
/-- The directions turn strictly counterclockwise. -/
theorem b_turn (a d : Int) (h1 : 0 < d) (h2 : d < 32768) : 0 < bc a * bs (a + d) - bs a * bc (a + d) := by
  obtain ⟨q, r, h⟩ := isQ_of a
  have h0 : isQ (a - 16384 * q) 0 r := by unfold isQ nrm at *; omega
  have hc := cross_rots q (a - 16384 * q) (a - 16384 * q + d)
  rw [show a - 16384 * (q : Int) + 16384 * q = a by omega, show a - 16384 * (q : Int) + d + 16384 * q = a + d by omega] at hc
  rw [hc]
  obtain ⟨e1, e2⟩ := b_of h0
  have hr := h.2.1
  obtain ⟨q', r', h'⟩ := isQ_of (a - 16384 * q + d)
  obtain ⟨f1, f2⟩ := b_of h'
  have hr' := h'.2.1
  have b1 := bd_r r hr
  have b2 := bd_r r' hr'
  rw [e1, e2, f1, f2]
  clear e1 e2 f1 f2 hc
  rcases (show (q' = 0 ∧ r < r') ∨ q' = 1 ∨ (q' = 2 ∧ r' < r) by unfold isQ nrm at *; omega) with ⟨rfl, hlt⟩ | rfl | ⟨rfl, hlt⟩
  · have := cross_r r hr r' hlt (by omega)
    simp only [tc, ts]
    omega
  · have p1 : 0 < (cs r : Int) * cs r' := Int.mul_pos (by omega) (by omega)
    have p2 : 0 ≤ (sn r : Int) * sn r' := Int.mul_nonneg (by omega) (by omega)
    simp only [tc, ts]
    rw [Int.mul_neg]
    omega
  · have := cross_r r' hr' r hlt (by omega)
    simp only [tc, ts]
    rw [Int.mul_neg, Int.mul_neg, Int.mul_comm (cs r : Int), Int.mul_comm (sn r : Int)]
    omega
end Go.Proofs.Yteplclbjiaamlaa
