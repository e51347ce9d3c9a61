/- A block lies below what stands behind it. No program in sight. -/
import Derived.Test.YtdincfemiignjaaGar
namespace Go.Proofs.Ytdincfemiignjaa
/-- A block's number below the sums of the walk. -/
theorem lt_all {b s : Nat} (h : b < s) : (∀ k1, b < s + k1) ∧ (∀ k1 k2, b < s + k1 + k2) ∧ (∀ k1 k2 k3, b < s + k1 + k2 + k3) ∧ (∀ k1 k2 k3 k4, b < s + k1 + k2 + k3 + k4) ∧ (∀ k1 k2 k3 k4 k5, b < s + k1 + k2 + k3 + k4 + k5) ∧ (∀ k1 k2 k3 k4 k5 k6, b < s + k1 + k2 + k3 + k4 + k5 + k6) ∧ (∀ k1 k2 k3 k4 k5 k6 k7, b < s + k1 + k2 + k3 + k4 + k5 + k6 + k7) ∧ (∀ k1 k2 k3 k4 k5 k6 k7 k8, b < s + k1 + k2 + k3 + k4 + k5 + k6 + k7 + k8) := by
  refine ⟨?_, ?_, ?_, ?_, ?_, ?_, ?_, ?_⟩ <;> (intros; omega)
end Go.Proofs.Ytdincfemiignjaa
