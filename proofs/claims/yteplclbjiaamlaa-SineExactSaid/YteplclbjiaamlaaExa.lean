/- The reference's exact sine: its series, as a function with fuel; kernel-checked against the table. No program in sight. -/
import Derived.Test.YteplclbjiaamlaaSinP
namespace Go.Proofs.Yteplclbjiaamlaa
open Go.RowKit

/-! In natural numbers: the terms' signs alternate. p, m: what has been added, what has been taken away; t: the next term's size; neg: is it taken away? -/
def exUp (a : Nat) : Nat := Nat.div (Nat.add 1073741823 a) 1073741824
def exDn (a : Nat) : Nat := Nat.div a 1073741824
/-- The size of the term behind a positive one, behind a negative one. -/
def exTp (x n t : Nat) : Nat := Nat.div (exUp (Nat.mul (Nat.div (exDn (Nat.mul t x)) (Nat.add n 1)) x)) (Nat.add n 2)
def exTn (x n t : Nat) : Nat := Nat.div (exDn (Nat.mul (Nat.div (exUp (Nat.mul t x)) (Nat.add n 1)) x)) (Nat.add n 2)
def exN (x : Nat) : Nat → Nat → Nat → Nat → Nat → Bool → Nat × Nat × Bool
  | 0, p, m, _, _, _ => (p, m, false)
  | f + 1, p, m, t, n, neg => bif Nat.beq t 0 then (p, m, true) else
      bif neg then exN x f p (Nat.add m t) (exTn x n t) (Nat.add n 2) false else exN x f (Nat.add p t) m (exTp x n t) (Nat.add n 2) true
def exX (r : Nat) : Nat := Nat.div (Nat.mul 3373259426 r) 32768
def exOk (r : Nat) : Bool :=
  match exN (exX r) 8 0 0 (exX r) 1 false with
  | (p, m, ok) => ok && Nat.ble (Nat.add m (Nat.mul 32768 (sn r))) (Nat.add 4095 p) && Nat.ble (Nat.add 1 p) (Nat.add 163840 (Nat.add m (Nat.mul 32768 (sn r))))
theorem chkE : allQ exOk = true := by decide +kernel
theorem chkE' : exOk 16384 = true := by decide +kernel
theorem exOk_at (r : Nat) (h : r ≤ 16384) : exOk r = true := by
  by_cases e : r = 16384
  · rw [e]; exact chkE'
  · exact allQ_at chkE r (by omega)

/-! The program's own way: integers. -/
def exT (x n t : Int) : Int := (-(t * x / 1073741824).tdiv (n + 1) * x / 1073741824).tdiv (n + 2)
def exR (x : Int) : Nat → Int → Int → Int → Option Int
  | 0, _, _, _ => none
  | f + 1, s, t, n => if t = 0 then some s else exR x f (s + t) (exT x n t) (n + 2)
theorem up_int (a : Nat) : (-(a : Int)) / 1073741824 = -(exUp a : Int) := by
  have : exUp a = (1073741823 + a) / 1073741824 := rfl
  rw [this]; omega
theorem dn_int (a : Nat) : (a : Int) / 1073741824 = (exDn a : Int) := by
  have : exDn a = a / 1073741824 := rfl
  rw [this]; omega
theorem exT_pos (x n t : Nat) : exT x n t = -(exTp x n t : Int) := by
  unfold exT
  have e1 : ((t : Int) * x) = ((t * x : Nat) : Int) := by simp
  rw [e1, dn_int]
  have e2 : (exDn (t * x) : Int).tdiv ((n : Int) + 1) = ((exDn (t * x) / (n + 1) : Nat) : Int) := Int.ofNat_tdiv _ _
  rw [e2, Int.neg_mul]
  have e3 : ((exDn (t * x) / (n + 1) : Nat) : Int) * x = ((exDn (t * x) / (n + 1) * x : Nat) : Int) := by simp
  rw [e3, up_int, Int.neg_tdiv]
  exact congrArg Neg.neg (Int.ofNat_tdiv _ (n + 2)).symm
theorem exT_neg (x n t : Nat) : exT x n (-(t : Int)) = (exTn x n t : Int) := by
  unfold exT
  have e1 : (-(t : Int) * x) = -((t * x : Nat) : Int) := by rw [Int.neg_mul]; simp
  rw [e1, up_int, Int.neg_tdiv, Int.neg_neg]
  have e2 : (exUp (t * x) : Int).tdiv ((n : Int) + 1) = ((exUp (t * x) / (n + 1) : Nat) : Int) := Int.ofNat_tdiv _ _
  rw [e2]
  have e3 : ((exUp (t * x) / (n + 1) : Nat) : Int) * x = ((exUp (t * x) / (n + 1) * x : Nat) : Int) := by simp
  rw [e3, dn_int]
  exact (Int.ofNat_tdiv _ (n + 2)).symm
theorem exN_R (x : Nat) : ∀ (f p m t n : Nat) (neg : Bool), (exN x f p m t n neg).2.2 = true →
    ∀ s : Int, s = (p : Int) - m → exR x f s (bif neg then -(t : Int) else t) n = some (((exN x f p m t n neg).1 : Int) - (exN x f p m t n neg).2.1) := by
  intro f
  induction f with
  | zero => intro p m t n neg h s hs; simp [exN] at h
  | succ f ih =>
    intro p m t n neg h s hs
    by_cases ht : t = 0
    · subst ht
      have e : exN x (f + 1) p m 0 n neg = (p, m, true) := rfl
      rw [e]
      cases neg <;> simp [exR, hs]
    · have hb : Nat.beq t 0 = false := by
        cases hx : Nat.beq t 0
        · rfl
        · exact absurd (Nat.eq_of_beq_eq_true hx) ht
      cases neg
      · have e : exN x (f + 1) p m t n false = exN x f (p + t) m (exTp x n t) (n + 2) true := by
          show (bif Nat.beq t 0 then _ else _) = _
          rw [hb]; rfl
        rw [e] at h ⊢
        have := ih _ _ _ _ _ h (s + t) (by rw [hs, Int.natCast_add]; omega)
        simp only [cond_true, cond_false] at this ⊢
        unfold exR
        rw [if_neg (by omega), exT_pos, ← this, Int.natCast_add]
        rfl
      · have e : exN x (f + 1) p m t n true = exN x f p (m + t) (exTn x n t) (n + 2) false := by
          show (bif Nat.beq t 0 then _ else _) = _
          rw [hb]; rfl
        rw [e] at h ⊢
        have := ih _ _ _ _ _ h (s + -(t : Int)) (by rw [hs, Int.natCast_add]; omega)
        simp only [cond_true, cond_false] at this ⊢
        unfold exR
        rw [if_neg (by omega), exT_neg, ← this, Int.natCast_add]
        rfl
def exV (r : Nat) : Int := ((exN (exX r) 8 0 0 (exX r) 1 false).1 : Int) - (exN (exX r) 8 0 0 (exX r) 1 false).2.1
theorem exa_at (r : Nat) (h : r ≤ 16384) : exR (exX r) 8 0 (exX r) 1 = some (exV r) ∧ -4096 < exV r - 32768 * (sn r : Int) ∧ exV r - 32768 * (sn r : Int) < 163840 := by
  have hk := exOk_at r h
  unfold exV
  have hN := exN_R (exX r) 8 0 0 (exX r) 1 false
  unfold exOk at hk
  generalize exN (exX r) 8 0 0 (exX r) 1 false = z at *
  obtain ⟨p, m, ok⟩ := z
  simp only [Bool.and_eq_true, Nat.ble_eq] at hk
  obtain ⟨⟨rfl, h1⟩, h2⟩ := hk
  have h1' : m + 32768 * sn r ≤ 4095 + p := h1
  have h2' : 1 + p ≤ 163840 + (m + 32768 * sn r) := h2
  have := hN rfl 0 (by omega)
  simp only [cond_false] at this
  refine ⟨?_, ?_, ?_⟩
  · exact this
  · show -4096 < ((p : Int) - m) - _; omega
  · show ((p : Int) - m) - _ < 163840; omega
end Go.Proofs.Yteplclbjiaamlaa
