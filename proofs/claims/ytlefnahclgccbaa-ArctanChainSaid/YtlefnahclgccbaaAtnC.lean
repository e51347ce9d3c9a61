/- The walk of arctan.Compare. -/
import Derived.Test.YtlefnahclgccbaaAtnW3
import Derived.Shelf.Bits.Mul64
namespace Go.Proofs.Ytlefnahclgccbaa
open Go.RowKit

/-- The upper and the lower half of a product. -/
def hiP (a : Int) : Int := a / 18446744073709551616
def loP (a : Int) : Int := a % 18446744073709551616

set_option maxHeartbeats 1000000 in
theorem mul64_nat (x y : Nat) (hx : x < 18446744073709551616) (hy : y < 18446744073709551616) (w : World) :
    Calls Try.prog 27 #[.int .u64 x, .int .u64 y] w fun e w' => e = .returned (.tuple #[.int .u64 ((x * y / 18446744073709551616 : Nat) : Int), .int .u64 ((x * y % 18446744073709551616 : Nat) : Int)]) ∧ w = w' := by
  obtain ⟨bd, bt, bw, hhi⟩ := Lib.mul64_hi x y hx hy
  have ba := Lib.half_mul_le (a := x / 4294967296) (b := y / 4294967296) (by omega) (by omega)
  have bb := Lib.half_mul_le (a := x / 4294967296) (b := y % 4294967296) (by omega) (by omega)
  have bc := Lib.half_mul_le (a := x % 4294967296) (b := y / 4294967296) (by omega) (by omega)
  have ba' : x / 4294967296 * (y / 4294967296) < 18446744073709551616 := by omega
  have bb' : x / 4294967296 * (y % 4294967296) < 18446744073709551616 := by omega
  have bc' : x % 4294967296 * (y / 4294967296) < 18446744073709551616 := by omega
  have bh1 : x / 4294967296 * (y / 4294967296) + (x / 4294967296 * (y % 4294967296) + x % 4294967296 * (y % 4294967296) / 4294967296) / 4294967296 < 18446744073709551616 := by omega
  have bh : x / 4294967296 * (y / 4294967296) + (x / 4294967296 * (y % 4294967296) + x % 4294967296 * (y % 4294967296) / 4294967296) / 4294967296 + ((x / 4294967296 * (y % 4294967296) + x % 4294967296 * (y % 4294967296) / 4294967296) % 4294967296 + x % 4294967296 * (y / 4294967296)) / 4294967296 < 18446744073709551616 := by omega
  go_enter Try.func27, Try.ntmps27
  go_wp2
  simp only [Mul64.maskN x hx, Mul64.maskN y hy, Mul64.divN, Mul64.mulN, Mul64.addN, Mul64.wrapN _ bd, Mul64.wrapN _ bb', Mul64.wrapN _ bt, Mul64.maskN _ bt, Mul64.wrapN _ bc', Mul64.wrapN _ bw, Mul64.wrapN _ ba', Mul64.wrapN _ bh1, Mul64.wrapN _ bh, Mul64.wrapM (x * y)]
  rw [hhi]
  go_ret2
  exact ⟨rfl, rfl⟩
theorem mul64_any (x y : Int) (hx : 0 ≤ x ∧ x ≤ 1099511627776) (hy : 0 ≤ y ∧ y ≤ 1099511627776) (w : World) :
    Calls Try.prog 27 #[.int .u64 x, .int .u64 y] w fun e w' => e = .returned (.tuple #[.int .u64 (hiP (x * y)), .int .u64 (loP (x * y))]) ∧ w = w' := by
  have e1 : x = (x.toNat : Int) := by omega
  have e2 : y = (y.toNat : Int) := by omega
  have h := mul64_nat x.toNat y.toNat (by omega) (by omega) w
  rw [← e1, ← e2] at h
  refine h.mono ?_
  rintro e w' ⟨rfl, rfl⟩
  refine ⟨?_, rfl⟩
  have p : ((x.toNat * y.toNat : Nat) : Int) = x * y := by rw [Int.natCast_mul, ← e1, ← e2]
  have q1 : ((x.toNat * y.toNat / 18446744073709551616 : Nat) : Int) = hiP (x * y) := by unfold hiP; rw [← p]; omega
  have q2 : ((x.toNat * y.toNat % 18446744073709551616 : Nat) : Int) = loP (x * y) := by unfold loP; rw [← p]; omega
  rw [q1, q2]

def cmpF (p q x y u v : Int) : Int := if p < q then -1 else if q < p then 1 else if y * u < v * x then -1 else if v * x < y * u then 1 else 0
/-- What Compare returns. -/
def cmpV (x y u v : Int) : Int := cmpF (fq x y) (fq u v) (fx x y) (fy x y) (fx u v) (fy u v)

set_option maxHeartbeats 1000000 in
theorem compare_any (x y u v : Int) (wx : (Lit.int .i64 x).wf = true) (wy : (Lit.int .i64 y).wf = true) (wu : (Lit.int .i64 u).wf = true) (wv : (Lit.int .i64 v).wf = true) (w : World) :
    Calls Try.prog 15 #[.int .i64 x, .int .i64 y, .int .i64 u, .int .i64 v] w fun e w' => e = .returned (.int .i64 (cmpV x y u v)) ∧ w = w' := by
  obtain ⟨a1, a2, a3⟩ := f_bd x y
  obtain ⟨b1, b2, b3⟩ := f_bd u v
  have hC : Hid (cmpV x y u v = cmpF (fq x y) (fq u v) (fx x y) (fy x y) (fx u v) (fy u v)) := rfl
  have wx2 := hide wx
  have wy2 := hide wy
  have wu2 := hide wu
  have wv2 := hide wv
  clear wx wy wu wv
  have hall : ((fq x y < fq u v) ∨ (fq u v < fq x y)) ∨ (fq x y = fq u v ∧ ((hiP (fy x y * fx u v) < hiP (fy u v * fx x y)) ∨ (hiP (fy x y * fx u v) = hiP (fy u v * fx x y) ∧ loP (fy x y * fx u v) < loP (fy u v * fx x y)) ∨ (hiP (fy u v * fx x y) < hiP (fy x y * fx u v)) ∨ (hiP (fy x y * fx u v) = hiP (fy u v * fx x y) ∧ loP (fy u v * fx x y) < loP (fy x y * fx u v)) ∨ (hiP (fy x y * fx u v) = hiP (fy u v * fx x y) ∧ loP (fy x y * fx u v) = loP (fy u v * fx x y)))) := by omega
  have hcmp : ∀ s t : Int, Hid (((hiP s < hiP t) → s < t) ∧ ((hiP s = hiP t ∧ loP s < loP t) → s < t) ∧ ((hiP s = hiP t ∧ loP s = loP t) → s = t)) := fun s t => by
    show _ ∧ _ ∧ _
    unfold hiP loP
    omega
  rcases hall with (h | h) | ⟨h0, h⟩
  · have hr : Hid (cmpV x y u v = -1) := by show _ = _; rw [hC.out]; unfold cmpF; rw [if_pos h]
    clear hcmp
    go_enter Try.func15, Try.ntmps15
    go_wp2_with (first | (go_at_call 24; (with_reducible refine (first_vec _ _ (by first | exact wx2.out | exact wu2.out) (by first | exact wy2.out | exact wv2.out) _).mono ?_); rintro e w' ⟨rfl, rfl⟩))
    go_returns
    exact ⟨ret_int hr.out.symm, rfl⟩
  · have hr : Hid (cmpV x y u v = 1) := by show _ = _; rw [hC.out]; unfold cmpF; rw [if_neg (by omega), if_pos h]
    clear hcmp
    go_enter Try.func15, Try.ntmps15
    go_wp2_with (first | (go_at_call 24; (with_reducible refine (first_vec _ _ (by first | exact wx2.out | exact wu2.out) (by first | exact wy2.out | exact wv2.out) _).mono ?_); rintro e w' ⟨rfl, rfl⟩))
    go_returns
    exact ⟨ret_int hr.out.symm, rfl⟩
  · have k1 := (hcmp (fy x y * fx u v) (fy u v * fx x y)).out
    have k2 := (hcmp (fy u v * fx x y) (fy x y * fx u v)).out
    have hr : Hid (cmpV x y u v = if fy x y * fx u v < fy u v * fx x y then -1 else if fy u v * fx x y < fy x y * fx u v then 1 else 0) := by show _ = _; rw [hC.out]; unfold cmpF; rw [if_neg (by omega), if_neg (by omega)]
    have h1 : fq x y ≤ fq u v := by omega
    have h2 : fq u v ≤ fq x y := by omega
    rcases h with h | ⟨h, g⟩ | h | ⟨h, g⟩ | ⟨h, g⟩
    · have e : Hid (fy x y * fx u v < fy u v * fx x y) := k1.1 h
      clear k1 k2 hcmp h0
      go_enter Try.func15, Try.ntmps15
      go_wp2_with (first | (go_at_call 24; (with_reducible refine (first_vec _ _ (by first | exact wx2.out | exact wu2.out) (by first | exact wy2.out | exact wv2.out) _).mono ?_); rintro e w' ⟨rfl, rfl⟩) | (go_at_call 27; (with_reducible refine (mul64_any _ _ (by omega) (by omega) _).mono ?_); rintro e w' ⟨rfl, rfl⟩))
      go_returns
      exact ⟨ret_int (by rw [hr.out, if_pos e.out]), rfl⟩
    · have e : Hid (fy x y * fx u v < fy u v * fx x y) := k1.2.1 ⟨h, g⟩
      have hb : (hiP (fy x y * fx u v) == hiP (fy u v * fx x y)) = true := by simpa using h
      have hl : ¬ hiP (fy x y * fx u v) < hiP (fy u v * fx x y) := by omega
      clear k1 k2 hcmp h0 h
      go_enter Try.func15, Try.ntmps15
      go_wp2_with (first | (go_at_call 24; (with_reducible refine (first_vec _ _ (by first | exact wx2.out | exact wu2.out) (by first | exact wy2.out | exact wv2.out) _).mono ?_); rintro e w' ⟨rfl, rfl⟩) | (go_at_call 27; (with_reducible refine (mul64_any _ _ (by omega) (by omega) _).mono ?_); rintro e w' ⟨rfl, rfl⟩))
      go_returns
      exact ⟨ret_int (by rw [hr.out, if_pos e.out]), rfl⟩
    · have e : Hid (fy u v * fx x y < fy x y * fx u v) := k2.1 h
      have hb : (hiP (fy x y * fx u v) == hiP (fy u v * fx x y)) = false := by simp; omega
      have hl : ¬ hiP (fy x y * fx u v) < hiP (fy u v * fx x y) := by omega
      clear k1 k2 hcmp h0
      go_enter Try.func15, Try.ntmps15
      go_wp2_with (first | (go_at_call 24; (with_reducible refine (first_vec _ _ (by first | exact wx2.out | exact wu2.out) (by first | exact wy2.out | exact wv2.out) _).mono ?_); rintro e w' ⟨rfl, rfl⟩) | (go_at_call 27; (with_reducible refine (mul64_any _ _ (by omega) (by omega) _).mono ?_); rintro e w' ⟨rfl, rfl⟩))
      go_returns
      exact ⟨ret_int (by rw [hr.out, if_neg (by have := e.out; omega), if_pos e.out]), rfl⟩
    · have e : Hid (fy u v * fx x y < fy x y * fx u v) := k2.2.1 ⟨h.symm, g⟩
      have hb : (hiP (fy x y * fx u v) == hiP (fy u v * fx x y)) = true := by simpa using h
      have hl : ¬ hiP (fy x y * fx u v) < hiP (fy u v * fx x y) := by omega
      have hl2 : ¬ hiP (fy u v * fx x y) < hiP (fy x y * fx u v) := by omega
      have hg : ¬ loP (fy x y * fx u v) < loP (fy u v * fx x y) := by omega
      clear k1 k2 hcmp h0 h
      go_enter Try.func15, Try.ntmps15
      go_wp2_with (first | (go_at_call 24; (with_reducible refine (first_vec _ _ (by first | exact wx2.out | exact wu2.out) (by first | exact wy2.out | exact wv2.out) _).mono ?_); rintro e w' ⟨rfl, rfl⟩) | (go_at_call 27; (with_reducible refine (mul64_any _ _ (by omega) (by omega) _).mono ?_); rintro e w' ⟨rfl, rfl⟩))
      go_returns
      exact ⟨ret_int (by rw [hr.out, if_neg (by have := e.out; omega), if_pos e.out]), rfl⟩
    · have e : Hid (fy x y * fx u v = fy u v * fx x y) := k1.2.2 ⟨h, g⟩
      have hb : (hiP (fy x y * fx u v) == hiP (fy u v * fx x y)) = true := by simpa using h
      have hl : ¬ hiP (fy x y * fx u v) < hiP (fy u v * fx x y) := by omega
      have hl2 : ¬ hiP (fy u v * fx x y) < hiP (fy x y * fx u v) := by omega
      have hg : ¬ loP (fy x y * fx u v) < loP (fy u v * fx x y) := by omega
      have hg2 : ¬ loP (fy u v * fx x y) < loP (fy x y * fx u v) := by omega
      clear k1 k2 hcmp h0 h g
      go_enter Try.func15, Try.ntmps15
      go_wp2_with (first | (go_at_call 24; (with_reducible refine (first_vec _ _ (by first | exact wx2.out | exact wu2.out) (by first | exact wy2.out | exact wv2.out) _).mono ?_); rintro e w' ⟨rfl, rfl⟩) | (go_at_call 27; (with_reducible refine (mul64_any _ _ (by omega) (by omega) _).mono ?_); rintro e w' ⟨rfl, rfl⟩))
      go_returns
      exact ⟨ret_int (by rw [hr.out, if_neg (by have := e.out; omega), if_neg (by have := e.out; omega)]), rfl⟩
end Go.Proofs.Ytlefnahclgccbaa
