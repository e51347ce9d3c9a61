/- A row of values of numbers and bools: its place, its cells. No program in sight. -/
import Derived.Test.YtdincfemiignjaaFlat
namespace Go.Proofs.Ytdincfemiignjaa
open Go.ChangeShapes Go.WideShapes Go.ChangeAt Go.RowKit

theorem rows_nil {ks : List (Option IntKind)} {w : World} {a : Option Addr} {len cap : Nat} {D : Nat → List Value} (h : IsRows ks w a len cap D) : len ≤ cap ∧ cap ≤ maxLen := by
  rcases h with ⟨_, rfl, rfl⟩ | ⟨x, _, h1, h2, _⟩
  · exact ⟨Nat.le_refl _, Nat.zero_le _⟩
  · exact ⟨h1, h2⟩
theorem rows_at {ks : List (Option IntKind)} {w : World} {a : Option Addr} {len cap : Nat} {D : Nat → List Value} (h : IsRows ks w a len cap D) (hp : 0 < len) (hk : 0 < ks.length) :
    ∃ b off, a = some ⟨b, off, none⟩ ∧ ∀ i, i < len → Flat ks (D i) ∧ ∀ j, j < ks.length → w.cell? ⟨b, off + (i * ks.length + j), none⟩ = some ((D i).getD j undef) := by
  rcases h with ⟨_, rfl, _⟩ | ⟨x, rfl, _, _, hc⟩
  · omega
  · obtain ⟨b, off, spot⟩ := x
    have hspot : spot = none := by simpa [Addr.add] using World.cell?_spot ((hc 0 hp).2 0 hk)
    subst hspot
    exact ⟨b, off, rfl, fun i hi => ⟨(hc i hi).1, fun j hj => by rw [← Go.WideShapes.add_plain]; exact (hc i hi).2 j hj⟩⟩

/-- The number in a list of one number. -/
def num1 : List Value → Int
  | [.int _ n] => n
  | _ => 0
theorem rows_ints {k : IntKind} {w : World} {a : Option Addr} {len cap : Nat} {D : Nat → List Value} (h : IsRows [some k] w a len cap D) (hp : 0 < len) :
    ∃ b off, a = some ⟨b, off, none⟩ ∧ ∀ i, i < len → w.cell? ⟨b, off + i, none⟩ = some (.int k (num1 (D i))) ∧ (Lit.int k (num1 (D i))).wf = true := by
  obtain ⟨b, off, rfl, hc⟩ := rows_at h hp (by simp)
  refine ⟨b, off, rfl, fun i hi => ?_⟩
  obtain ⟨hf, hj⟩ := hc i hi
  have h0 := hj 0 (by simp)
  obtain ⟨n, r, hD, hw, hr⟩ := flat_int hf
  have hr' := flat_nil hr
  subst hr'
  rw [hD] at h0 ⊢
  simp only [List.length_cons, List.length_nil, Nat.zero_add, Nat.mul_one, Nat.add_zero, List.getD_cons_zero] at h0
  exact ⟨h0, hw⟩
/-- The bool in a list of one bool. -/
def bool1 : List Value → Bool
  | [.bool b] => b
  | _ => false
theorem rows_bools {w : World} {a : Option Addr} {len cap : Nat} {D : Nat → List Value} (h : IsRows [none] w a len cap D) (hp : 0 < len) :
    ∃ b off, a = some ⟨b, off, none⟩ ∧ ∀ i, i < len → w.cell? ⟨b, off + i, none⟩ = some (.bool (bool1 (D i))) := by
  obtain ⟨b, off, rfl, hc⟩ := rows_at h hp (by simp)
  refine ⟨b, off, rfl, fun i hi => ?_⟩
  obtain ⟨hf, hj⟩ := hc i hi
  have h0 := hj 0 (by simp)
  obtain ⟨n, r, hD, hr⟩ := flat_bool hf
  have hr' := flat_nil hr
  subst hr'
  rw [hD] at h0 ⊢
  simp only [List.length_cons, List.length_nil, Nat.zero_add, Nat.mul_one, Nat.add_zero, List.getD_cons_zero] at h0
  exact h0
end Go.Proofs.Ytdincfemiignjaa
