/- The counts of the monitor's watches, plain. No program in sight. -/
import Derived.Test.YtlppolaoigbkeaaMonH
namespace Go.Proofs.Ytlppolaoigbkeaa
open Go.RowKit
set_option linter.unusedVariables false

/-- Calls in a row behind a call; the flag. -/
def nr (b : Bool) (r : Int) : Int := if b then r + 1 else 0
def nu (b u : Bool) (r t : Int) : Bool := u || decide (t ≤ nr b r)
theorem nu_no {u : Bool} {r t : Int} (h : 1 ≤ t) : nu false u r t = u := by
  unfold nu nr; rw [decide_eq_false (by simp; omega), Bool.or_false]
theorem nu_set {b : Bool} {r t : Int} : nu b true r t = true := rfl
theorem nu_yes {r t : Int} : nu true false r t = decide (t ≤ r + 1) := rfl
def CntI (k : Nat) (c0 c1 c2 c3 r0 r1 r2 r3 f0 f1 f2 f3 : Int) : Prop :=
  ((0 ≤ r0 ∧ r0 ≤ k) ∧ (0 ≤ r1 ∧ r1 ≤ k) ∧ (0 ≤ r2 ∧ r2 ≤ k) ∧ (0 ≤ r3 ∧ r3 ≤ k)) ∧ f0 = cap r0 c0 ∧ f1 = cap r1 c1 ∧ f2 = cap r2 c2 ∧ f3 = cap r3 c3
theorem CntI.start {c0 c1 c2 c3 : Int} (h0 : 1 ≤ c0) (h1 : 1 ≤ c1) (h2 : 1 ≤ c2) (h3 : 1 ≤ c3) : CntI 0 c0 c1 c2 c3 0 0 0 0 0 0 0 0 := by
  unfold CntI cap
  refine ⟨by omega, ?_, ?_, ?_, ?_⟩ <;> rw [if_pos (by omega)]
theorem CntI.bd {k : Nat} {c0 c1 c2 c3 r0 r1 r2 r3 f0 f1 f2 f3 : Int} (h : CntI k c0 c1 c2 c3 r0 r1 r2 r3 f0 f1 f2 f3) (hk : k ≤ 300) :
    (0 ≤ r0 ∧ r0 ≤ 300) ∧ (0 ≤ r1 ∧ r1 ≤ 300) ∧ (0 ≤ r2 ∧ r2 ≤ 300) ∧ (0 ≤ r3 ∧ r3 ≤ 300) := by
  obtain ⟨⟨a0, a1, a2, a3⟩, -⟩ := h
  omega
theorem nr_bd {b : Bool} {r : Int} {k : Nat} (h : 0 ≤ r ∧ r ≤ k) : 0 ≤ nr b r ∧ nr b r ≤ (k + 1 : Nat) := by
  unfold nr; split <;> omega
theorem CntI.next {k : Nat} {c0 c1 c2 c3 r0 r1 r2 r3 f0 f1 f2 f3 : Int} (h : CntI k c0 c1 c2 c3 r0 r1 r2 r3 f0 f1 f2 f3) (b0 b1 b2 b3 : Bool) :
    CntI (k + 1) c0 c1 c2 c3 (nr b0 r0) (nr b1 r1) (nr b2 r2) (nr b3 r3) (cap (nr b0 r0) c0) (cap (nr b1 r1) c1) (cap (nr b2 r2) c2) (cap (nr b3 r3) c3) :=
  ⟨⟨nr_bd h.1.1, nr_bd h.1.2.1, nr_bd h.1.2.2.1, nr_bd h.1.2.2.2⟩, rfl, rfl, rfl, rfl⟩
theorem cnt_f {r f t : Int} (hr : 0 ≤ r) (ht : 1 ≤ t) (hf : f = cap r t) (b : Bool) : mF b f t = cap (nr b r) t := by
  subst hf; exact cap_next hr ht b
theorem cnt_g {r f t : Int} (hr : 0 ≤ r) (ht : 1 ≤ t) (hf : f = cap r t) (b g : Bool) : mG b g f t = nu b g r t := by
  subst hf; exact cap_flag hr ht b g
/-- Behind k of four rounds: the first k values are the new ones. -/
def SwI (k : Nat) (r0 r1 r2 r3 : Int) (u0 u1 u2 u3 : Bool) (R0 R1 R2 R3 : Int) (E0 E1 E2 E3 : Bool) (v0 v1 v2 v3 : Int) (h0 h1 h2 h3 : Bool) : Prop :=
  v0 = (if 0 < k then R0 else r0) ∧ v1 = (if 1 < k then R1 else r1) ∧ v2 = (if 2 < k then R2 else r2) ∧ v3 = (if 3 < k then R3 else r3) ∧
  h0 = (if 0 < k then E0 else u0) ∧ h1 = (if 1 < k then E1 else u1) ∧ h2 = (if 2 < k then E2 else u2) ∧ h3 = (if 3 < k then E3 else u3)
theorem SwI.start (r0 r1 r2 r3 : Int) (u0 u1 u2 u3 : Bool) (R0 R1 R2 R3 : Int) (E0 E1 E2 E3 : Bool) : SwI 0 r0 r1 r2 r3 u0 u1 u2 u3 R0 R1 R2 R3 E0 E1 E2 E3 r0 r1 r2 r3 u0 u1 u2 u3 := ⟨rfl, rfl, rfl, rfl, rfl, rfl, rfl, rfl⟩
theorem SwI.done {r0 r1 r2 r3 : Int} {u0 u1 u2 u3 : Bool} {R0 R1 R2 R3 : Int} {E0 E1 E2 E3 : Bool} {v0 v1 v2 v3 : Int} {h0 h1 h2 h3 : Bool} (h : SwI 4 r0 r1 r2 r3 u0 u1 u2 u3 R0 R1 R2 R3 E0 E1 E2 E3 v0 v1 v2 v3 h0 h1 h2 h3) :
    v0 = R0 ∧ v1 = R1 ∧ v2 = R2 ∧ v3 = R3 ∧ h0 = E0 ∧ h1 = E1 ∧ h2 = E2 ∧ h3 = E3 := h
theorem SwI.next0 {r0 r1 r2 r3 : Int} {u0 u1 u2 u3 : Bool} {R0 R1 R2 R3 : Int} {E0 E1 E2 E3 : Bool} {v0 v1 v2 v3 : Int} {h0 h1 h2 h3 : Bool} (h : SwI 0 r0 r1 r2 r3 u0 u1 u2 u3 R0 R1 R2 R3 E0 E1 E2 E3 v0 v1 v2 v3 h0 h1 h2 h3) : v0 = r0 ∧ h0 = u0 ∧ SwI 1 r0 r1 r2 r3 u0 u1 u2 u3 R0 R1 R2 R3 E0 E1 E2 E3 R0 v1 v2 v3 E0 h1 h2 h3 := by
  obtain ⟨e0, e1, e2, e3, g0, g1, g2, g3⟩ := h
  exact ⟨e0, g0, rfl, e1, e2, e3, rfl, g1, g2, g3⟩
theorem SwI.next1 {r0 r1 r2 r3 : Int} {u0 u1 u2 u3 : Bool} {R0 R1 R2 R3 : Int} {E0 E1 E2 E3 : Bool} {v0 v1 v2 v3 : Int} {h0 h1 h2 h3 : Bool} (h : SwI 1 r0 r1 r2 r3 u0 u1 u2 u3 R0 R1 R2 R3 E0 E1 E2 E3 v0 v1 v2 v3 h0 h1 h2 h3) : v1 = r1 ∧ h1 = u1 ∧ SwI 2 r0 r1 r2 r3 u0 u1 u2 u3 R0 R1 R2 R3 E0 E1 E2 E3 v0 R1 v2 v3 h0 E1 h2 h3 := by
  obtain ⟨e0, e1, e2, e3, g0, g1, g2, g3⟩ := h
  exact ⟨e1, g1, e0, rfl, e2, e3, g0, rfl, g2, g3⟩
theorem SwI.next2 {r0 r1 r2 r3 : Int} {u0 u1 u2 u3 : Bool} {R0 R1 R2 R3 : Int} {E0 E1 E2 E3 : Bool} {v0 v1 v2 v3 : Int} {h0 h1 h2 h3 : Bool} (h : SwI 2 r0 r1 r2 r3 u0 u1 u2 u3 R0 R1 R2 R3 E0 E1 E2 E3 v0 v1 v2 v3 h0 h1 h2 h3) : v2 = r2 ∧ h2 = u2 ∧ SwI 3 r0 r1 r2 r3 u0 u1 u2 u3 R0 R1 R2 R3 E0 E1 E2 E3 v0 v1 R2 v3 h0 h1 E2 h3 := by
  obtain ⟨e0, e1, e2, e3, g0, g1, g2, g3⟩ := h
  exact ⟨e2, g2, e0, e1, rfl, e3, g0, g1, rfl, g3⟩
theorem SwI.next3 {r0 r1 r2 r3 : Int} {u0 u1 u2 u3 : Bool} {R0 R1 R2 R3 : Int} {E0 E1 E2 E3 : Bool} {v0 v1 v2 v3 : Int} {h0 h1 h2 h3 : Bool} (h : SwI 3 r0 r1 r2 r3 u0 u1 u2 u3 R0 R1 R2 R3 E0 E1 E2 E3 v0 v1 v2 v3 h0 h1 h2 h3) : v3 = r3 ∧ h3 = u3 ∧ SwI 4 r0 r1 r2 r3 u0 u1 u2 u3 R0 R1 R2 R3 E0 E1 E2 E3 v0 v1 v2 R3 h0 h1 h2 E3 := by
  obtain ⟨e0, e1, e2, e3, g0, g1, g2, g3⟩ := h
  exact ⟨e3, g3, e0, e1, e2, rfl, g0, g1, g2, rfl⟩
end Go.Proofs.Ytlppolaoigbkeaa
