/- What a watch of the monitor does in a call. No program in sight. -/
import Derived.Test.YtlppolaoigbkeaaMonC
namespace Go.Proofs.Ytlppolaoigbkeaa
open Go.RowKit
set_option linter.unusedVariables false

/-- A counter behind a call: b the condition, n the counter, t the ticks. -/
def mF (b : Bool) (n t : Int) : Int := if b then (if clp n 0 t + 1 < t then clp n 0 t + 1 else t) else 0
def mG (b g : Bool) (n t : Int) : Bool := g || decide (mF b n t = t)
theorem mF_bd (b : Bool) (n t : Int) (h : 1 ≤ t) : 0 ≤ mF b n t ∧ mF b n t ≤ t := by
  have := clp_bd n 0 t (by omega)
  unfold mF; (repeat' split) <;> omega
def stI (k j : Nat) (b : Bool) (n t : Int) : Int := if j < k then mF b n t else n
def stG (k j : Nat) (b g : Bool) (n t : Int) : Bool := if j < k then mG b g n t else g
theorem stI_lt {k j : Nat} (b : Bool) (n t : Int) (h : j < k) : stI k j b n t = mF b n t := if_pos h
theorem stI_ge {k j : Nat} (b : Bool) (n t : Int) (h : ¬ j < k) : stI k j b n t = n := if_neg h
theorem stG_lt {k j : Nat} (b g : Bool) (n t : Int) (h : j < k) : stG k j b g n t = mG b g n t := if_pos h
theorem stG_ge {k j : Nat} (b g : Bool) (n t : Int) (h : ¬ j < k) : stG k j b g n t = g := if_neg h
/-- The state behind k rounds. -/
def MonI (k : Nat) (b0 b1 b2 b3 : Bool) (f0 f1 f2 f3 t0 t1 t2 t3 : Int) (g0 g1 g2 g3 : Bool) (v0 v1 v2 v3 : Int) (h0 h1 h2 h3 : Bool) : Prop :=
  v0 = stI k 0 b0 f0 t0 ∧ v1 = stI k 1 b1 f1 t1 ∧ v2 = stI k 2 b2 f2 t2 ∧ v3 = stI k 3 b3 f3 t3 ∧
  h0 = stG k 0 b0 g0 f0 t0 ∧ h1 = stG k 1 b1 g1 f1 t1 ∧ h2 = stG k 2 b2 g2 f2 t2 ∧ h3 = stG k 3 b3 g3 f3 t3
theorem MonI.start (b0 b1 b2 b3 : Bool) (f0 f1 f2 f3 t0 t1 t2 t3 : Int) (g0 g1 g2 g3 : Bool) : MonI 0 b0 b1 b2 b3 f0 f1 f2 f3 t0 t1 t2 t3 g0 g1 g2 g3 f0 f1 f2 f3 g0 g1 g2 g3 :=
  ⟨rfl, rfl, rfl, rfl, rfl, rfl, rfl, rfl⟩
theorem MonI.done {b0 b1 b2 b3 : Bool} {f0 f1 f2 f3 t0 t1 t2 t3 : Int} {g0 g1 g2 g3 : Bool} {v0 v1 v2 v3 : Int} {h0 h1 h2 h3 : Bool} (h : MonI 4 b0 b1 b2 b3 f0 f1 f2 f3 t0 t1 t2 t3 g0 g1 g2 g3 v0 v1 v2 v3 h0 h1 h2 h3) :
    v0 = mF b0 f0 t0 ∧ v1 = mF b1 f1 t1 ∧ v2 = mF b2 f2 t2 ∧ v3 = mF b3 f3 t3 ∧ h0 = mG b0 g0 f0 t0 ∧ h1 = mG b1 g1 f1 t1 ∧ h2 = mG b2 g2 f2 t2 ∧ h3 = mG b3 g3 f3 t3 := h
theorem MonI.next0 {b0 b1 b2 b3 : Bool} {f0 f1 f2 f3 t0 t1 t2 t3 : Int} {g0 g1 g2 g3 : Bool} {v0 v1 v2 v3 : Int} {h0 h1 h2 h3 : Bool} (h : MonI 0 b0 b1 b2 b3 f0 f1 f2 f3 t0 t1 t2 t3 g0 g1 g2 g3 v0 v1 v2 v3 h0 h1 h2 h3) :
    v0 = f0 ∧ h0 = g0 ∧ ∀ V H, V = mF b0 f0 t0 → H = mG b0 g0 f0 t0 → MonI 1 b0 b1 b2 b3 f0 f1 f2 f3 t0 t1 t2 t3 g0 g1 g2 g3 V v1 v2 v3 H h1 h2 h3 := by
  obtain ⟨e0, e1, e2, e3, k0, k1, k2, k3⟩ := h
  refine ⟨e0, k0, fun V H hV hH => ?_⟩
  subst hV
  subst hH
  exact ⟨rfl, e1, e2, e3, rfl, k1, k2, k3⟩
theorem MonI.next1 {b0 b1 b2 b3 : Bool} {f0 f1 f2 f3 t0 t1 t2 t3 : Int} {g0 g1 g2 g3 : Bool} {v0 v1 v2 v3 : Int} {h0 h1 h2 h3 : Bool} (h : MonI 1 b0 b1 b2 b3 f0 f1 f2 f3 t0 t1 t2 t3 g0 g1 g2 g3 v0 v1 v2 v3 h0 h1 h2 h3) :
    v1 = f1 ∧ h1 = g1 ∧ ∀ V H, V = mF b1 f1 t1 → H = mG b1 g1 f1 t1 → MonI 2 b0 b1 b2 b3 f0 f1 f2 f3 t0 t1 t2 t3 g0 g1 g2 g3 v0 V v2 v3 h0 H h2 h3 := by
  obtain ⟨e0, e1, e2, e3, k0, k1, k2, k3⟩ := h
  refine ⟨e1, k1, fun V H hV hH => ?_⟩
  subst hV
  subst hH
  exact ⟨e0, rfl, e2, e3, k0, rfl, k2, k3⟩
theorem MonI.next2 {b0 b1 b2 b3 : Bool} {f0 f1 f2 f3 t0 t1 t2 t3 : Int} {g0 g1 g2 g3 : Bool} {v0 v1 v2 v3 : Int} {h0 h1 h2 h3 : Bool} (h : MonI 2 b0 b1 b2 b3 f0 f1 f2 f3 t0 t1 t2 t3 g0 g1 g2 g3 v0 v1 v2 v3 h0 h1 h2 h3) :
    v2 = f2 ∧ h2 = g2 ∧ ∀ V H, V = mF b2 f2 t2 → H = mG b2 g2 f2 t2 → MonI 3 b0 b1 b2 b3 f0 f1 f2 f3 t0 t1 t2 t3 g0 g1 g2 g3 v0 v1 V v3 h0 h1 H h3 := by
  obtain ⟨e0, e1, e2, e3, k0, k1, k2, k3⟩ := h
  refine ⟨e2, k2, fun V H hV hH => ?_⟩
  subst hV
  subst hH
  exact ⟨e0, e1, rfl, e3, k0, k1, rfl, k3⟩
theorem MonI.next3 {b0 b1 b2 b3 : Bool} {f0 f1 f2 f3 t0 t1 t2 t3 : Int} {g0 g1 g2 g3 : Bool} {v0 v1 v2 v3 : Int} {h0 h1 h2 h3 : Bool} (h : MonI 3 b0 b1 b2 b3 f0 f1 f2 f3 t0 t1 t2 t3 g0 g1 g2 g3 v0 v1 v2 v3 h0 h1 h2 h3) :
    v3 = f3 ∧ h3 = g3 ∧ ∀ V H, V = mF b3 f3 t3 → H = mG b3 g3 f3 t3 → MonI 4 b0 b1 b2 b3 f0 f1 f2 f3 t0 t1 t2 t3 g0 g1 g2 g3 v0 v1 v2 V h0 h1 h2 H := by
  obtain ⟨e0, e1, e2, e3, k0, k1, k2, k3⟩ := h
  refine ⟨e3, k3, fun V H hV hH => ?_⟩
  subst hV
  subst hH
  exact ⟨e0, e1, e2, rfl, k0, k1, k2, rfl⟩
end Go.Proofs.Ytlppolaoigbkeaa
