/- Sine and cosine of any angle: functions on integers, over the table. -/
import Derived.WalkKit
import Derived.Test.YteplclbjiaamlaaAng
import Derived.Test.YteplclbjiaamlaaSinT
namespace Go.Proofs.Yteplclbjiaamlaa
open Go.RowKit

theorem tb_bd (k : Nat) : 0 ≤ (tb k : Int) ∧ (tb k : Int) ≤ 65535 := by
  have : tb k < 65536 := Nat.mod_lt _ (by decide)
  omega
theorem sn_eq (n : Nat) : (sn n : Int) = ((tb (n / 256) : Int) * (256 - (n : Int) % 256) + (tb (n / 256 + 1) : Int) * ((n : Int) % 256)) / 256 := by
  have h : n % 256 ≤ 256 := by omega
  have e : sn n = (tb (n / 256) * (256 - n % 256) + tb (n / 256 + 1) * (n % 256)) / 256 := rfl
  rw [e]
  simp only [Int.natCast_ediv, Int.natCast_add, Int.natCast_mul, Int.natCast_sub h, Int.natCast_emod, Int.cast_ofNat_Int]
theorem cs_eq (n : Nat) : (cs n : Int) = ((tb (64 - n / 256) : Int) * (256 - (n : Int) % 256) + (tb (63 - n / 256) : Int) * ((n : Int) % 256)) / 256 := by
  have h : n % 256 ≤ 256 := by omega
  have e : cs n = (tb (64 - n / 256) * (256 - n % 256) + tb (63 - n / 256) * (n % 256)) / 256 := rfl
  rw [e]
  simp only [Int.natCast_ediv, Int.natCast_add, Int.natCast_mul, Int.natCast_sub h, Int.natCast_emod, Int.cast_ofNat_Int]
/-- The program's way to write the numerators. -/
theorem sn_prog (t u f : Int) : 256 * t + (u - t) * f = t * (256 - f) + u * f := by
  rw [Int.sub_mul, Int.mul_sub, Int.mul_comm 256 t]; omega
theorem cs_prog (t u f : Int) : 256 * t - (t - u) * f = t * (256 - f) + u * f := by
  rw [Int.sub_mul, Int.mul_sub, Int.mul_comm 256 t]; omega

/-- Bounds of what the walk computes: t, u two numbers of the table, f a remainder by 256. -/
theorem lin_bd (t u f : Int) (ht : 0 ≤ t ∧ t ≤ 65535) (hu : 0 ≤ u ∧ u ≤ 65535) (hf : 0 ≤ f ∧ f ≤ 255) :
    (-16711425 ≤ (u - t) * f ∧ (u - t) * f ≤ 16711425) ∧ 0 ≤ 256 * t + (u - t) * f ∧ (0 ≤ t * (256 - f) ∧ t * (256 - f) ≤ 16776960) ∧ (0 ≤ u * f ∧ u * f ≤ 16711425) := by
  have h1 := prod_bd (x := u - t) (y := f) (m := 65535) (n := 255) (by omega) (by omega) (by omega)
  have h2 := prod_bd (x := t) (y := 256 - f) (m := 65535) (n := 256) (by omega) (by omega) (by omega)
  have h3 := prod_bd (x := u) (y := f) (m := 65535) (n := 255) (by omega) (by omega) (by omega)
  have h4 : 0 ≤ t * (256 - f) := Int.mul_nonneg ht.1 (by omega)
  have h5 : 0 ≤ u * f := Int.mul_nonneg hu.1 hf.1
  have h6 := sn_prog t u f
  exact ⟨by omega, by omega, by omega, by omega⟩
theorem lin_bd' (t u f : Int) (ht : 0 ≤ t ∧ t ≤ 65535) (hu : 0 ≤ u ∧ u ≤ 65535) (hf : 0 ≤ f ∧ f ≤ 255) :
    (-16711425 ≤ (t - u) * f ∧ (t - u) * f ≤ 16711425) ∧ 0 ≤ 256 * t - (t - u) * f := by
  have h1 := lin_bd t u f ht hu hf
  have h2 := cs_prog t u f
  have h3 := sn_prog t u f
  omega

theorem sn_bd (n : Nat) : 0 ≤ (sn n : Int) ∧ (sn n : Int) ≤ 131070 := by
  have h1 := tb_bd (n / 256)
  have h2 := tb_bd (n / 256 + 1)
  obtain ⟨-, -, l3, l4⟩ := lin_bd _ _ ((n : Int) % 256) h1 h2 (by omega)
  rw [sn_eq]
  omega
theorem cs_bd (n : Nat) : 0 ≤ (cs n : Int) ∧ (cs n : Int) ≤ 131070 := by
  have h1 := tb_bd (64 - n / 256)
  have h2 := tb_bd (63 - n / 256)
  obtain ⟨-, -, l3, l4⟩ := lin_bd _ _ ((n : Int) % 256) h1 h2 (by omega)
  rw [cs_eq]
  omega

/-- Cosine and sine in the angle's quarter, turned back into the first. -/
def c0 (a : Int) : Int := (cs (nrm a % 16384).toNat : Int)
def s0 (a : Int) : Int := (sn (nrm a % 16384).toNat : Int)
/-- Cosine and sine of any angle. -/
def bc (a : Int) : Int := if nrm a / 16384 = 1 then -s0 a else if nrm a / 16384 = 2 then -c0 a else if nrm a / 16384 = 3 then s0 a else c0 a
def bs (a : Int) : Int := if nrm a / 16384 = 1 then c0 a else if nrm a / 16384 = 2 then -s0 a else if nrm a / 16384 = 3 then -c0 a else s0 a
end Go.Proofs.Yteplclbjiaamlaa
