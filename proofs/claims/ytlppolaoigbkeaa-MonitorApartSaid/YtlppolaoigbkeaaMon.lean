/- What the monitor computes. No program in sight. -/
import Derived.WalkKit
namespace Go.Proofs.Ytlppolaoigbkeaa
open Go.RowKit
def wi (n lo hi : Int) : Bool := decide (lo ≤ n) && decide (n ≤ hi)
theorem wi_in {n lo hi : Int} (h : wi n lo hi = true) : lo ≤ n ∧ n ≤ hi := by simpa [wi] using h
theorem wi_out {n lo hi : Int} (h : wi n lo hi = false) : n < lo ∨ (¬ n < lo ∧ hi < n) := by
  unfold wi at h
  by_cases g : lo ≤ n
  · simp [g] at h; omega
  · omega
def chkB (c0 c1 c2 c3 c4 c5 c6 c7 c8 c9 : Int) : Bool := wi c0 0 8388608 && wi c1 0 8388608 && wi c2 0 8388608 && wi c3 0 1073741824 && wi c4 0 16777216 && wi c5 0 32768 && wi c6 1 1048576 && wi c7 1 1048576 && wi c8 1 1048576 && wi c9 1 1048576
theorem chk_in {c0 c1 c2 c3 c4 c5 c6 c7 c8 c9 : Int} (h : chkB c0 c1 c2 c3 c4 c5 c6 c7 c8 c9 = true) : wi c0 0 8388608 = true ∧ wi c1 0 8388608 = true ∧ wi c2 0 8388608 = true ∧ wi c3 0 1073741824 = true ∧ wi c4 0 16777216 = true ∧ wi c5 0 32768 = true ∧ wi c6 1 1048576 = true ∧ wi c7 1 1048576 = true ∧ wi c8 1 1048576 = true ∧ wi c9 1 1048576 = true := by
  simpa [chkB, and_assoc] using h
theorem chk_out {c0 c1 c2 c3 c4 c5 c6 c7 c8 c9 : Int} (h : chkB c0 c1 c2 c3 c4 c5 c6 c7 c8 c9 = false) : (wi c0 0 8388608 = false) ∨ (wi c0 0 8388608 = true ∧ wi c1 0 8388608 = false) ∨ (wi c0 0 8388608 = true ∧ wi c1 0 8388608 = true ∧ wi c2 0 8388608 = false) ∨ (wi c0 0 8388608 = true ∧ wi c1 0 8388608 = true ∧ wi c2 0 8388608 = true ∧ wi c3 0 1073741824 = false) ∨ (wi c0 0 8388608 = true ∧ wi c1 0 8388608 = true ∧ wi c2 0 8388608 = true ∧ wi c3 0 1073741824 = true ∧ wi c4 0 16777216 = false) ∨ (wi c0 0 8388608 = true ∧ wi c1 0 8388608 = true ∧ wi c2 0 8388608 = true ∧ wi c3 0 1073741824 = true ∧ wi c4 0 16777216 = true ∧ wi c5 0 32768 = false) ∨ (wi c0 0 8388608 = true ∧ wi c1 0 8388608 = true ∧ wi c2 0 8388608 = true ∧ wi c3 0 1073741824 = true ∧ wi c4 0 16777216 = true ∧ wi c5 0 32768 = true ∧ wi c6 1 1048576 = false) ∨ (wi c0 0 8388608 = true ∧ wi c1 0 8388608 = true ∧ wi c2 0 8388608 = true ∧ wi c3 0 1073741824 = true ∧ wi c4 0 16777216 = true ∧ wi c5 0 32768 = true ∧ wi c6 1 1048576 = true ∧ wi c7 1 1048576 = false) ∨ (wi c0 0 8388608 = true ∧ wi c1 0 8388608 = true ∧ wi c2 0 8388608 = true ∧ wi c3 0 1073741824 = true ∧ wi c4 0 16777216 = true ∧ wi c5 0 32768 = true ∧ wi c6 1 1048576 = true ∧ wi c7 1 1048576 = true ∧ wi c8 1 1048576 = false) ∨ (wi c0 0 8388608 = true ∧ wi c1 0 8388608 = true ∧ wi c2 0 8388608 = true ∧ wi c3 0 1073741824 = true ∧ wi c4 0 16777216 = true ∧ wi c5 0 32768 = true ∧ wi c6 1 1048576 = true ∧ wi c7 1 1048576 = true ∧ wi c8 1 1048576 = true ∧ wi c9 1 1048576 = false) := by
  unfold chkB at h
  revert h
  obtain ⟨b0, hb0⟩ : ∃ b, wi c0 0 8388608 = b := ⟨_, rfl⟩
  obtain ⟨b1, hb1⟩ : ∃ b, wi c1 0 8388608 = b := ⟨_, rfl⟩
  obtain ⟨b2, hb2⟩ : ∃ b, wi c2 0 8388608 = b := ⟨_, rfl⟩
  obtain ⟨b3, hb3⟩ : ∃ b, wi c3 0 1073741824 = b := ⟨_, rfl⟩
  obtain ⟨b4, hb4⟩ : ∃ b, wi c4 0 16777216 = b := ⟨_, rfl⟩
  obtain ⟨b5, hb5⟩ : ∃ b, wi c5 0 32768 = b := ⟨_, rfl⟩
  obtain ⟨b6, hb6⟩ : ∃ b, wi c6 1 1048576 = b := ⟨_, rfl⟩
  obtain ⟨b7, hb7⟩ : ∃ b, wi c7 1 1048576 = b := ⟨_, rfl⟩
  obtain ⟨b8, hb8⟩ : ∃ b, wi c8 1 1048576 = b := ⟨_, rfl⟩
  obtain ⟨b9, hb9⟩ : ∃ b, wi c9 1 1048576 = b := ⟨_, rfl⟩
  simp only [hb0, hb1, hb2, hb3, hb4, hb5, hb6, hb7, hb8, hb9]
  clear hb0 hb1 hb2 hb3 hb4 hb5 hb6 hb7 hb8 hb9
  revert b0 b1 b2 b3 b4 b5 b6 b7 b8 b9
  intro b0 b1 b2 b3 b4 b5 b6 b7 b8 b9 h
  cases b0
  · simp
  cases b1
  · simp
  cases b2
  · simp
  cases b3
  · simp
  cases b4
  · simp
  cases b5
  · simp
  cases b6
  · simp
  cases b7
  · simp
  cases b8
  · simp
  cases b9
  · simp
  · simp at h
end Go.Proofs.Ytlppolaoigbkeaa
