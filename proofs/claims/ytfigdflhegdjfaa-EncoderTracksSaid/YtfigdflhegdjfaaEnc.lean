/- What the decoder of an encoder computes. No program in sight. -/
import Derived.Test.YtfigdflhegdjfaaEncS
namespace Go.Proofs.Ytfigdflhegdjfaa
open Go.RowKit
set_option linter.unusedVariables false

def stD (ph : Int) (a b : Bool) : Int := (phs a b - ph % 4) % 4
def stN (ph ct : Int) (a b : Bool) : Int := clp ct (-1099511627776) 1099511627776 + (if stD ph a b = 1 then 1 else if stD ph a b = 3 then -1 else 0)
/-- The remainder from -t / 2 to t / 2 - 1. -/
def rmd (n t : Int) : Int := (n + t / 2) % t - t / 2
def stC (t ph ct : Int) (kn hi st a b z : Bool) : Int :=
  if st = false then 0 else if z = false ∨ hi = true then stN ph ct a b else if kn = false then 0 else stN ph ct a b - rmd (stN ph ct a b) t
def stE (ph er : Int) (st a b : Bool) : Int := if st = false then 0 else clp er 0 1099511627776 + (if stD ph a b = 2 then 1 else 0)
def stS (t ph ct sl : Int) (kn hi st a b z : Bool) : Int :=
  if st = false then 0 else if z = false ∨ hi = true ∨ kn = false then clp sl 0 1099511627776 else clp sl 0 1099511627776 + (if rmd (stN ph ct a b) t = 0 then 0 else 1)
def stK (kn hi st z : Bool) : Bool := st && (kn || (z && !hi))

theorem phs_bd (a b : Bool) : 0 ≤ phs a b ∧ phs a b ≤ 3 := by cases a <;> cases b <;> decide
theorem rmd_of {n t r k : Int} (h : n = r + t * k) (h1 : -(t / 2) ≤ r) (h2 : r < t / 2) (ht : 0 < t) (he : t % 2 = 0) : rmd n t = r := by
  unfold rmd
  rw [h, show r + t * k + t / 2 = r + t / 2 + t * k by omega, Int.add_mul_emod_self_left, Int.emod_eq_of_lt (by omega) (by omega)]
  omega
theorem rmd_tmod {n t r : Int} (h : n.tmod t = r) (ht : 0 < t) (he : t % 2 = 0) :
    (r < -(t / 2) → rmd n t = r + t) ∧ (t / 2 ≤ r → rmd n t = r - t) ∧ (-(t / 2) ≤ r → r < t / 2 → rmd n t = r) := by
  have e := Int.tmod_add_tdiv_mul n t
  rw [h] at e
  have b : -t < r ∧ r < t := by
    rw [← h]
    rcases tmod_cases n t ht with ⟨g, q⟩ | ⟨g, q⟩ <;> rw [q]
    · have := Int.emod_nonneg n (show t ≠ 0 by omega)
      have := Int.emod_lt_of_pos n ht
      omega
    · have := Int.emod_nonneg (-n) (show t ≠ 0 by omega)
      have := Int.emod_lt_of_pos (-n) ht
      omega
  refine ⟨fun g => ?_, fun g => ?_, fun g g2 => ?_⟩
  · exact rmd_of (k := n.tdiv t - 1) (by rw [Int.mul_sub, Int.mul_comm t]; omega) (by omega) (by omega) ht he
  · exact rmd_of (k := n.tdiv t + 1) (by rw [Int.mul_add, Int.mul_comm t]; omega) (by omega) (by omega) ht he
  · exact rmd_of (k := n.tdiv t) (by rw [Int.mul_comm t]; omega) g g2 ht he
theorem tmod_lt {n t : Int} (ht : 0 < t) : -t < n.tmod t ∧ n.tmod t < t := by
  rcases tmod_cases n t ht with ⟨g, q⟩ | ⟨g, q⟩ <;> rw [q]
  · have := Int.emod_nonneg n (show t ≠ 0 by omega)
    have := Int.emod_lt_of_pos n ht
    omega
  · have := Int.emod_nonneg (-n) (show t ≠ 0 by omega)
    have := Int.emod_lt_of_pos (-n) ht
    omega
end Go.Proofs.Ytfigdflhegdjfaa
