/- What the voter computes. No program in sight. -/
import Derived.WalkKit
import Derived.Test.YtdincfemiignjaaAng
namespace Go.Proofs.Ytdincfemiignjaa
open Go.RowKit
set_option linter.unusedVariables false

def inE (e : Int) : Prop := 0 ≤ e ∧ e ≤ 16384
def inP (p : Int) : Prop := 0 ≤ p ∧ p ≤ 2
/-- The number of the error of a configuration: 0, 3 (range), 6 (twice). -/
def vcode (e0 e1 e2 p0 p1 p2 n : Int) : Int :=
  if (0 ≤ e0 ∧ e0 ≤ 16384) ∧ (0 ≤ e1 ∧ e1 ≤ 16384) ∧ (0 ≤ e2 ∧ e2 ≤ 16384) ∧ (0 ≤ p0 ∧ p0 ≤ 2) ∧ (0 ≤ p1 ∧ p1 ≤ 2) ∧ (0 ≤ p2 ∧ p2 ≤ 2) ∧ (1 ≤ n ∧ n ≤ 1024) then
    if p0 ≠ p1 ∧ p0 ≠ p2 ∧ p1 ≠ p2 then 0 else 6
  else 3
theorem vcode_out {e0 e1 e2 p0 p1 p2 n : Int} (h : ¬ ((0 ≤ e0 ∧ e0 ≤ 16384) ∧ (0 ≤ e1 ∧ e1 ≤ 16384) ∧ (0 ≤ e2 ∧ e2 ≤ 16384) ∧ (0 ≤ p0 ∧ p0 ≤ 2) ∧ (0 ≤ p1 ∧ p1 ≤ 2) ∧ (0 ≤ p2 ∧ p2 ≤ 2) ∧ (1 ≤ n ∧ n ≤ 1024))) : vcode e0 e1 e2 p0 p1 p2 n = 3 := if_neg h
theorem vcode_twice {e0 e1 e2 p0 p1 p2 n : Int} (h : (0 ≤ e0 ∧ e0 ≤ 16384) ∧ (0 ≤ e1 ∧ e1 ≤ 16384) ∧ (0 ≤ e2 ∧ e2 ≤ 16384) ∧ (0 ≤ p0 ∧ p0 ≤ 2) ∧ (0 ≤ p1 ∧ p1 ≤ 2) ∧ (0 ≤ p2 ∧ p2 ≤ 2) ∧ (1 ≤ n ∧ n ≤ 1024)) (g : ¬ (p0 ≠ p1 ∧ p0 ≠ p2 ∧ p1 ≠ p2)) : vcode e0 e1 e2 p0 p1 p2 n = 6 := by
  unfold vcode; rw [if_pos h, if_neg g]
theorem vcode_ok {e0 e1 e2 p0 p1 p2 n : Int} (h : (0 ≤ e0 ∧ e0 ≤ 16384) ∧ (0 ≤ e1 ∧ e1 ≤ 16384) ∧ (0 ≤ e2 ∧ e2 ≤ 16384) ∧ (0 ≤ p0 ∧ p0 ≤ 2) ∧ (0 ≤ p1 ∧ p1 ≤ 2) ∧ (0 ≤ p2 ∧ p2 ≤ 2) ∧ (1 ≤ n ∧ n ≤ 1024)) (g : p0 ≠ p1 ∧ p0 ≠ p2 ∧ p1 ≠ p2) : vcode e0 e1 e2 p0 p1 p2 n = 0 := by
  unfold vcode; rw [if_pos h, if_pos g]
theorem vcode_cases (e0 e1 e2 p0 p1 p2 n : Int) : vcode e0 e1 e2 p0 p1 p2 n = 0 ∨ vcode e0 e1 e2 p0 p1 p2 n = 3 ∨ vcode e0 e1 e2 p0 p1 p2 n = 6 := by
  unfold vcode; (repeat' split) <;> simp
theorem vcode_in {e0 e1 e2 p0 p1 p2 n : Int} (h : vcode e0 e1 e2 p0 p1 p2 n = 0) : ((0 ≤ e0 ∧ e0 ≤ 16384) ∧ (0 ≤ e1 ∧ e1 ≤ 16384) ∧ (0 ≤ e2 ∧ e2 ≤ 16384)) ∧ (1 ≤ n ∧ n ≤ 1024) ∧
    ((p0 = 0 ∧ p1 = 1 ∧ p2 = 2) ∨ (p0 = 0 ∧ p1 = 2 ∧ p2 = 1) ∨ (p0 = 1 ∧ p1 = 0 ∧ p2 = 2) ∨ (p0 = 1 ∧ p1 = 2 ∧ p2 = 0) ∨ (p0 = 2 ∧ p1 = 0 ∧ p2 = 1) ∨ (p0 = 2 ∧ p1 = 1 ∧ p2 = 0)) := by
  unfold vcode at h
  split at h
  · rename_i g
    split at h
    · rename_i g2
      refine ⟨⟨g.1, g.2.1, g.2.2.1⟩, g.2.2.2.2.2.2, ?_⟩
      obtain ⟨_, _, _, k0, k1, k2, _⟩ := g
      omega
    · omega
  · omega
/-- What Check has seen of the preferences behind k rounds. -/
def SeenI (p0 p1 p2 : Int) (k : Nat) (T s0 s1 s2 : Bool) : Prop :=
  match k with
  | 0 => T = false ∧ s0 = false ∧ s1 = false ∧ s2 = false
  | 1 => (0 ≤ p0 ∧ p0 ≤ 2) ∧ T = false ∧ s0 = decide (p0 = 0) ∧ s1 = decide (p0 = 1) ∧ s2 = decide (p0 = 2)
  | 2 => (0 ≤ p0 ∧ p0 ≤ 2) ∧ (0 ≤ p1 ∧ p1 ≤ 2) ∧ T = decide (p0 = p1) ∧ s0 = decide (p0 = 0 ∨ p1 = 0) ∧ s1 = decide (p0 = 1 ∨ p1 = 1) ∧ s2 = decide (p0 = 2 ∨ p1 = 2)
  | _ => (0 ≤ p0 ∧ p0 ≤ 2) ∧ (0 ≤ p1 ∧ p1 ≤ 2) ∧ (0 ≤ p2 ∧ p2 ≤ 2) ∧ T = decide (p0 = p1 ∨ p0 = p2 ∨ p1 = p2)
theorem SeenI.bd {p0 p1 p2 : Int} {k : Nat} {T s0 s1 s2 : Bool} (h : SeenI p0 p1 p2 k T s0 s1 s2) : (1 ≤ k → 0 ≤ p0 ∧ p0 ≤ 2) ∧ (2 ≤ k → 0 ≤ p1 ∧ p1 ≤ 2) := by
  match k, h with
  | 0, _ => exact ⟨by omega, by omega⟩
  | 1, h => exact ⟨fun _ => h.1, by omega⟩
  | 2, h => exact ⟨fun _ => h.1, fun _ => h.2.1⟩
  | k + 3, h => exact ⟨fun _ => h.1, fun _ => h.2.1⟩
theorem SeenI.done {p0 p1 p2 : Int} {T s0 s1 s2 : Bool} (h : SeenI p0 p1 p2 3 T s0 s1 s2) :
    (T = false → (0 ≤ p0 ∧ p0 ≤ 2) ∧ (0 ≤ p1 ∧ p1 ≤ 2) ∧ (0 ≤ p2 ∧ p2 ≤ 2) ∧ p0 ≠ p1 ∧ p0 ≠ p2 ∧ p1 ≠ p2) ∧ (T = true → (0 ≤ p0 ∧ p0 ≤ 2) ∧ (0 ≤ p1 ∧ p1 ≤ 2) ∧ (0 ≤ p2 ∧ p2 ≤ 2) ∧ (p0 = p1 ∨ p0 = p2 ∨ p1 = p2)) := by
  obtain ⟨h0, h1, h2, h3⟩ := h
  refine ⟨fun g => ?_, fun g => ?_⟩
  · rw [g] at h3
    have := of_decide_eq_false h3.symm
    exact ⟨h0, h1, h2, by omega, by omega, by omega⟩
  · rw [g] at h3
    exact ⟨h0, h1, h2, of_decide_eq_true h3.symm⟩
theorem SeenI.next00 {p0 p1 p2 : Int} {T s0 s1 s2 : Bool} (h : SeenI p0 p1 p2 0 T s0 s1 s2) (hv : p0 = 0) : SeenI p0 p1 p2 1 (T || s0) true s1 s2 := by
  simp only [SeenI] at h ⊢
  subst hv
  obtain ⟨rfl, rfl, rfl, rfl⟩ := h
  simp
theorem SeenI.next01 {p0 p1 p2 : Int} {T s0 s1 s2 : Bool} (h : SeenI p0 p1 p2 0 T s0 s1 s2) (hv : p0 = 1) : SeenI p0 p1 p2 1 (T || s1) s0 true s2 := by
  simp only [SeenI] at h ⊢
  subst hv
  obtain ⟨rfl, rfl, rfl, rfl⟩ := h
  simp
theorem SeenI.next02 {p0 p1 p2 : Int} {T s0 s1 s2 : Bool} (h : SeenI p0 p1 p2 0 T s0 s1 s2) (hv : p0 = 2) : SeenI p0 p1 p2 1 (T || s2) s0 s1 true := by
  simp only [SeenI] at h ⊢
  subst hv
  obtain ⟨rfl, rfl, rfl, rfl⟩ := h
  simp
theorem SeenI.next10 {p0 p1 p2 : Int} {T s0 s1 s2 : Bool} (h : SeenI p0 p1 p2 1 T s0 s1 s2) (hv : p1 = 0) : SeenI p0 p1 p2 2 (T || s0) true s1 s2 := by
  simp only [SeenI] at h ⊢
  subst hv
  obtain ⟨h0, rfl, rfl, rfl, rfl⟩ := h
  simp [h0]
theorem SeenI.next11 {p0 p1 p2 : Int} {T s0 s1 s2 : Bool} (h : SeenI p0 p1 p2 1 T s0 s1 s2) (hv : p1 = 1) : SeenI p0 p1 p2 2 (T || s1) s0 true s2 := by
  simp only [SeenI] at h ⊢
  subst hv
  obtain ⟨h0, rfl, rfl, rfl, rfl⟩ := h
  simp [h0]
theorem SeenI.next12 {p0 p1 p2 : Int} {T s0 s1 s2 : Bool} (h : SeenI p0 p1 p2 1 T s0 s1 s2) (hv : p1 = 2) : SeenI p0 p1 p2 2 (T || s2) s0 s1 true := by
  simp only [SeenI] at h ⊢
  subst hv
  obtain ⟨h0, rfl, rfl, rfl, rfl⟩ := h
  simp [h0]
theorem SeenI.next20 {p0 p1 p2 : Int} {T s0 s1 s2 : Bool} (h : SeenI p0 p1 p2 2 T s0 s1 s2) (hv : p2 = 0) : SeenI p0 p1 p2 3 (T || s0) true s1 s2 := by
  simp only [SeenI] at h ⊢
  subst hv
  obtain ⟨h0, h1, rfl, rfl, rfl, rfl⟩ := h
  refine ⟨h0, h1, by omega, ?_⟩
  rw [Bool.eq_iff_iff]
  simp <;> omega
theorem SeenI.next21 {p0 p1 p2 : Int} {T s0 s1 s2 : Bool} (h : SeenI p0 p1 p2 2 T s0 s1 s2) (hv : p2 = 1) : SeenI p0 p1 p2 3 (T || s1) s0 true s2 := by
  simp only [SeenI] at h ⊢
  subst hv
  obtain ⟨h0, h1, rfl, rfl, rfl, rfl⟩ := h
  refine ⟨h0, h1, by omega, ?_⟩
  rw [Bool.eq_iff_iff]
  simp <;> omega
theorem SeenI.next22 {p0 p1 p2 : Int} {T s0 s1 s2 : Bool} (h : SeenI p0 p1 p2 2 T s0 s1 s2) (hv : p2 = 2) : SeenI p0 p1 p2 3 (T || s2) s0 s1 true := by
  simp only [SeenI] at h ⊢
  subst hv
  obtain ⟨h0, h1, rfl, rfl, rfl, rfl⟩ := h
  refine ⟨h0, h1, by omega, ?_⟩
  rw [Bool.eq_iff_iff]
  simp <;> omega
end Go.Proofs.Ytdincfemiignjaa
