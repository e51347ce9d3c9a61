/- The plain mathematics of angles modulo 65536: no program in sight. -/
import Derived.WalkKit
namespace Go.Proofs.Ytdincfemiignjaa
open Go.RowKit

/-- A fact kept from the walk. -/
theorem hide {p : Prop} (h : p) : Hid p := h

/-- The angle from 0 to 65535. -/
def nrm (x : Int) : Int := x % 65536
/-- The difference from -32768 to 32767. -/
def dif (a b : Int) : Int := (a - b + 32768) % 65536 - 32768
/-- The distance on the circle. -/
def dst (a b : Int) : Int := if dif a b < 0 then -dif a b else dif a b

theorem nrm_bd (x : Int) : 0 ≤ nrm x ∧ nrm x ≤ 65535 := by unfold nrm; omega
theorem dif_bd (a b : Int) : -32768 ≤ dif a b ∧ dif a b ≤ 32767 := by unfold dif; omega
theorem dst_bd (a b : Int) : 0 ≤ dst a b ∧ dst a b ≤ 32768 := by have := dif_bd a b; unfold dst; omega

theorem and_mask (x : Int) : bits .and .i64 x 65535 = nrm x := by
  have h : (BitVec.ofInt 64 65535).toNat = 2 ^ 16 - 1 := by decide
  have key : (BitVec.ofInt 64 x &&& BitVec.ofInt 64 65535).toNat = (x % ((2 ^ 64 : Nat) : Int)).toNat % 2 ^ 16 := by
    rw [BitVec.toNat_and, BitVec.toNat_ofInt, h, Nat.and_two_pow_sub_one_eq_mod]
  show IntKind.i64.wrap ((BitVec.ofInt 64 x &&& BitVec.ofInt 64 65535).toNat : Nat) = nrm x
  rw [key, IntKind.wrap_i64]
  unfold nrm
  omega

theorem wrap64_mod (x : Int) : wrap64 x % 65536 = x % 65536 := by unfold wrap64; omega
theorem nrm_dif (a b : Int) : nrm (wrap64 (wrap64 (a - b) + 32768)) - 32768 = dif a b := by
  unfold nrm dif wrap64; omega

/-- Go's remainder and quotient by a positive number. -/
theorem tmod_cases (x m : Int) (_hm : 0 < m) : (0 ≤ x ∧ x.tmod m = x % m) ∨ (x < 0 ∧ x.tmod m = -((-x) % m)) := by
  by_cases h : 0 ≤ x
  · exact .inl ⟨h, Int.tmod_eq_emod_of_nonneg h⟩
  · refine .inr ⟨by omega, ?_⟩
    rw [← Int.tmod_eq_emod_of_nonneg (show 0 ≤ -x by omega), Int.neg_tmod, Int.neg_neg]
theorem tdiv_cases (x m : Int) (_hm : 0 < m) : (0 ≤ x ∧ x.tdiv m = x / m) ∨ (x < 0 ∧ x.tdiv m = -((-x) / m)) := by
  by_cases h : 0 ≤ x
  · exact .inl ⟨h, Int.tdiv_eq_ediv_of_nonneg h⟩
  · refine .inr ⟨by omega, ?_⟩
    rw [← Int.tdiv_eq_ediv_of_nonneg (show 0 ≤ -x by omega), Int.neg_tdiv, Int.neg_neg]
theorem tmod_bd (x : Int) : -65535 ≤ x.tmod 65536 ∧ x.tmod 65536 ≤ 65535 := by
  rcases tmod_cases x 65536 (by omega) with h | h <;> omega
theorem tmod_nrm (x : Int) : (x.tmod 65536 + 65536).tmod 65536 = nrm x := by
  unfold nrm
  have := tmod_cases (x.tmod 65536 + 65536) 65536 (by omega)
  rcases tmod_cases x 65536 (by omega) with h | h <;> omega
theorem emod_nrm (x : Int) : (x.tmod 65536 + 65536) % 65536 = nrm x := by
  unfold nrm
  rcases tmod_cases x 65536 (by omega) with h | h <;> omega
theorem nrm_sub_dif (a b : Int) : (nrm a - nrm b + 65536 + 32768) % 65536 - 32768 = dif a b := by
  unfold nrm dif; omega

/-- Middle. -/
def midB (a b c : Int) : Bool := decide (dst a b < 16384) && decide (dst b c < 16384) && decide (dst c a < 16384)
def mid (a b c : Int) : Int :=
  if midB a b c = true then
    if dst a b + dst c a ≤ dst a b + dst b c ∧ dst a b + dst c a ≤ dst b c + dst c a then nrm a
    else if dst a b + dst b c ≤ dst b c + dst c a then nrm b else nrm c
  else 0
/-- Is p a position (from -2^56 to 2^56)? -/
def posB (p : Int) : Bool := decide (-72057594037927936 ≤ p) && decide (p ≤ 72057594037927936)
theorem posB_in {p : Int} (h : posB p = true) : -72057594037927936 ≤ p ∧ p ≤ 72057594037927936 := by simpa [posB] using h
theorem posB_mk {p : Int} (h : -72057594037927936 ≤ p ∧ p ≤ 72057594037927936) : posB p = true := by simpa [posB] using h
theorem posB_out {p : Int} (h : posB p = false) : p < -72057594037927936 ∨ 72057594037927936 < p := by
  simp [posB] at h
  omega
theorem nrm_wrap (x : Int) : nrm (wrap64 x) = nrm x := by unfold nrm wrap64; omega
theorem nrm_nrm (x : Int) : nrm (nrm x) = nrm x := by unfold nrm; omega
theorem nrm_sub (a b : Int) : nrm (nrm a - nrm b) = nrm (a - b) := by unfold nrm; omega
def wth (a f t : Int) : Bool := decide (nrm (a - f) ≤ nrm (t - f))
def sct (a : Int) : Int := 6 * nrm a / 65536
/-- Is num / den a part? -/
def prtB (num den : Int) : Bool := decide (1 ≤ den) && decide (den ≤ 1048576) && decide (0 ≤ num) && decide (num ≤ den)
def itp (a b num den : Int) : Int := nrm (nrm a + (dif b a * num).tdiv den)
def pairB (pairs : Int) : Bool := decide (1 ≤ pairs) && decide (pairs ≤ 64)
theorem prod_bd {x y m n : Int} (hm : 0 ≤ m) (hx : -m ≤ x ∧ x ≤ m) (hy : 0 ≤ y ∧ y ≤ n) : -(m * n) ≤ x * y ∧ x * y ≤ m * n := by
  have h1 : m * y ≤ m * n := Int.mul_le_mul_of_nonneg_left hy.2 hm
  have h2 : x * y ≤ m * y := Int.mul_le_mul_of_nonneg_right hx.2 hy.1
  have h3 : -m * y ≤ x * y := Int.mul_le_mul_of_nonneg_right hx.1 hy.1
  rw [Int.neg_mul] at h3
  omega
theorem tdiv_le_abs (x y m : Int) (hy : 1 ≤ y) (hx : -m ≤ x ∧ x ≤ m) : -m ≤ x.tdiv y ∧ x.tdiv y ≤ m := by
  rcases tdiv_cases x y (by omega) with ⟨h, e⟩ | ⟨h, e⟩
  · rw [e]
    have := Int.ediv_nonneg h (show 0 ≤ y by omega)
    have := Int.ediv_le_self y h
    omega
  · rw [e]
    have := Int.ediv_nonneg (show 0 ≤ -x by omega) (show 0 ≤ y by omega)
    have := Int.ediv_le_self y (show 0 ≤ -x by omega)
    omega
def elc (p pairs off : Int) : Int := nrm (p * pairs + off)
theorem elc_wrap (p pairs off : Int) : nrm (wrap64 (p * pairs + off)) = elc p pairs off := by rw [nrm_wrap]; rfl
theorem elc_ref (p pairs off : Int) : nrm (nrm p * pairs + nrm off) = elc p pairs off := by
  unfold elc nrm
  rw [Int.add_emod (p % 65536 * pairs), Int.mul_emod (p % 65536), Int.emod_emod, Int.emod_emod, ← Int.mul_emod, ← Int.add_emod]
theorem dst_comm (a b : Int) : dst a b = dst b a := by unfold dst dif; omega
end Go.Proofs.Ytdincfemiignjaa
