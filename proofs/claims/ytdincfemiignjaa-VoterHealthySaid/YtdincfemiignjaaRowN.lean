/- Rows of elements of several cells: each element's cells, one by one. No program in sight. -/
import Derived.Test.YtdincfemiignjaaRowAt
namespace Go.Proofs.Ytdincfemiignjaa
open Go.ChangeShapes Go.WideShapes Go.ChangeAt Go.RowKit
set_option linter.unusedVariables false

theorem rows_7i {w : World} {a : Option Addr} {len cap : Nat} {D : Nat → List Value} (h : IsRows [some .i64, some .i64, some .i64, some .i64, some .i64, some .i64, some .i64] w a len cap D) (hp : 0 < len) :
    ∃ b off, a = some ⟨b, off, none⟩ ∧ ∀ i, i < len → ∃ (d0 : Int) (d1 : Int) (d2 : Int) (d3 : Int) (d4 : Int) (d5 : Int) (d6 : Int), w.cell? ⟨b, off + i * 7, none⟩ = some (.int .i64 d0) ∧ w.cell? ⟨b, off + i * 7 + 1, none⟩ = some (.int .i64 d1) ∧ w.cell? ⟨b, off + i * 7 + 2, none⟩ = some (.int .i64 d2) ∧ w.cell? ⟨b, off + i * 7 + 3, none⟩ = some (.int .i64 d3) ∧ w.cell? ⟨b, off + i * 7 + 4, none⟩ = some (.int .i64 d4) ∧ w.cell? ⟨b, off + i * 7 + 5, none⟩ = some (.int .i64 d5) ∧ w.cell? ⟨b, off + i * 7 + 6, none⟩ = some (.int .i64 d6) := by
  obtain ⟨b, off, rfl, hc⟩ := rows_at h hp (by simp)
  refine ⟨b, off, rfl, fun i hi => ?_⟩
  obtain ⟨hf, hj⟩ := hc i hi
  obtain ⟨d0, r0, e0, _, hf⟩ := flat_int hf
  obtain ⟨d1, r1, e1, _, hf⟩ := flat_int hf
  obtain ⟨d2, r2, e2, _, hf⟩ := flat_int hf
  obtain ⟨d3, r3, e3, _, hf⟩ := flat_int hf
  obtain ⟨d4, r4, e4, _, hf⟩ := flat_int hf
  obtain ⟨d5, r5, e5, _, hf⟩ := flat_int hf
  obtain ⟨d6, r6, e6, _, hf⟩ := flat_int hf
  have e := flat_nil hf
  have hD : D i = [.int .i64 d0, .int .i64 d1, .int .i64 d2, .int .i64 d3, .int .i64 d4, .int .i64 d5, .int .i64 d6] := by rw [e0, e1, e2, e3, e4, e5, e6, e]
  simp only [hD] at hj
  refine ⟨d0, d1, d2, d3, d4, d5, d6, ?_, ?_, ?_, ?_, ?_, ?_, ?_⟩
  · simpa [Nat.add_assoc] using hj 0 (by simp)
  · simpa [Nat.add_assoc] using hj 1 (by simp)
  · simpa [Nat.add_assoc] using hj 2 (by simp)
  · simpa [Nat.add_assoc] using hj 3 (by simp)
  · simpa [Nat.add_assoc] using hj 4 (by simp)
  · simpa [Nat.add_assoc] using hj 5 (by simp)
  · simpa [Nat.add_assoc] using hj 6 (by simp)
theorem rows_8i {w : World} {a : Option Addr} {len cap : Nat} {D : Nat → List Value} (h : IsRows [some .i64, some .i64, some .i64, some .i64, some .i64, some .i64, some .i64, some .i64] w a len cap D) (hp : 0 < len) :
    ∃ b off, a = some ⟨b, off, none⟩ ∧ ∀ i, i < len → ∃ (d0 : Int) (d1 : Int) (d2 : Int) (d3 : Int) (d4 : Int) (d5 : Int) (d6 : Int) (d7 : Int), w.cell? ⟨b, off + i * 8, none⟩ = some (.int .i64 d0) ∧ w.cell? ⟨b, off + i * 8 + 1, none⟩ = some (.int .i64 d1) ∧ w.cell? ⟨b, off + i * 8 + 2, none⟩ = some (.int .i64 d2) ∧ w.cell? ⟨b, off + i * 8 + 3, none⟩ = some (.int .i64 d3) ∧ w.cell? ⟨b, off + i * 8 + 4, none⟩ = some (.int .i64 d4) ∧ w.cell? ⟨b, off + i * 8 + 5, none⟩ = some (.int .i64 d5) ∧ w.cell? ⟨b, off + i * 8 + 6, none⟩ = some (.int .i64 d6) ∧ w.cell? ⟨b, off + i * 8 + 7, none⟩ = some (.int .i64 d7) := by
  obtain ⟨b, off, rfl, hc⟩ := rows_at h hp (by simp)
  refine ⟨b, off, rfl, fun i hi => ?_⟩
  obtain ⟨hf, hj⟩ := hc i hi
  obtain ⟨d0, r0, e0, _, hf⟩ := flat_int hf
  obtain ⟨d1, r1, e1, _, hf⟩ := flat_int hf
  obtain ⟨d2, r2, e2, _, hf⟩ := flat_int hf
  obtain ⟨d3, r3, e3, _, hf⟩ := flat_int hf
  obtain ⟨d4, r4, e4, _, hf⟩ := flat_int hf
  obtain ⟨d5, r5, e5, _, hf⟩ := flat_int hf
  obtain ⟨d6, r6, e6, _, hf⟩ := flat_int hf
  obtain ⟨d7, r7, e7, _, hf⟩ := flat_int hf
  have e := flat_nil hf
  have hD : D i = [.int .i64 d0, .int .i64 d1, .int .i64 d2, .int .i64 d3, .int .i64 d4, .int .i64 d5, .int .i64 d6, .int .i64 d7] := by rw [e0, e1, e2, e3, e4, e5, e6, e7, e]
  simp only [hD] at hj
  refine ⟨d0, d1, d2, d3, d4, d5, d6, d7, ?_, ?_, ?_, ?_, ?_, ?_, ?_, ?_⟩
  · simpa [Nat.add_assoc] using hj 0 (by simp)
  · simpa [Nat.add_assoc] using hj 1 (by simp)
  · simpa [Nat.add_assoc] using hj 2 (by simp)
  · simpa [Nat.add_assoc] using hj 3 (by simp)
  · simpa [Nat.add_assoc] using hj 4 (by simp)
  · simpa [Nat.add_assoc] using hj 5 (by simp)
  · simpa [Nat.add_assoc] using hj 6 (by simp)
  · simpa [Nat.add_assoc] using hj 7 (by simp)
theorem rows_14i {w : World} {a : Option Addr} {len cap : Nat} {D : Nat → List Value} (h : IsRows [some .i64, some .i64, some .i64, some .i64, some .i64, some .i64, some .i64, some .i64, some .i64, some .i64, some .i64, some .i64, some .i64, some .i64] w a len cap D) (hp : 0 < len) :
    ∃ b off, a = some ⟨b, off, none⟩ ∧ ∀ i, i < len → ∃ (d0 : Int) (d1 : Int) (d2 : Int) (d3 : Int) (d4 : Int) (d5 : Int) (d6 : Int) (d7 : Int) (d8 : Int) (d9 : Int) (d10 : Int) (d11 : Int) (d12 : Int) (d13 : Int), w.cell? ⟨b, off + i * 14, none⟩ = some (.int .i64 d0) ∧ w.cell? ⟨b, off + i * 14 + 1, none⟩ = some (.int .i64 d1) ∧ w.cell? ⟨b, off + i * 14 + 2, none⟩ = some (.int .i64 d2) ∧ w.cell? ⟨b, off + i * 14 + 3, none⟩ = some (.int .i64 d3) ∧ w.cell? ⟨b, off + i * 14 + 4, none⟩ = some (.int .i64 d4) ∧ w.cell? ⟨b, off + i * 14 + 5, none⟩ = some (.int .i64 d5) ∧ w.cell? ⟨b, off + i * 14 + 6, none⟩ = some (.int .i64 d6) ∧ w.cell? ⟨b, off + i * 14 + 7, none⟩ = some (.int .i64 d7) ∧ w.cell? ⟨b, off + i * 14 + 8, none⟩ = some (.int .i64 d8) ∧ w.cell? ⟨b, off + i * 14 + 9, none⟩ = some (.int .i64 d9) ∧ w.cell? ⟨b, off + i * 14 + 10, none⟩ = some (.int .i64 d10) ∧ w.cell? ⟨b, off + i * 14 + 11, none⟩ = some (.int .i64 d11) ∧ w.cell? ⟨b, off + i * 14 + 12, none⟩ = some (.int .i64 d12) ∧ w.cell? ⟨b, off + i * 14 + 13, none⟩ = some (.int .i64 d13) := by
  obtain ⟨b, off, rfl, hc⟩ := rows_at h hp (by simp)
  refine ⟨b, off, rfl, fun i hi => ?_⟩
  obtain ⟨hf, hj⟩ := hc i hi
  obtain ⟨d0, r0, e0, _, hf⟩ := flat_int hf
  obtain ⟨d1, r1, e1, _, hf⟩ := flat_int hf
  obtain ⟨d2, r2, e2, _, hf⟩ := flat_int hf
  obtain ⟨d3, r3, e3, _, hf⟩ := flat_int hf
  obtain ⟨d4, r4, e4, _, hf⟩ := flat_int hf
  obtain ⟨d5, r5, e5, _, hf⟩ := flat_int hf
  obtain ⟨d6, r6, e6, _, hf⟩ := flat_int hf
  obtain ⟨d7, r7, e7, _, hf⟩ := flat_int hf
  obtain ⟨d8, r8, e8, _, hf⟩ := flat_int hf
  obtain ⟨d9, r9, e9, _, hf⟩ := flat_int hf
  obtain ⟨d10, r10, e10, _, hf⟩ := flat_int hf
  obtain ⟨d11, r11, e11, _, hf⟩ := flat_int hf
  obtain ⟨d12, r12, e12, _, hf⟩ := flat_int hf
  obtain ⟨d13, r13, e13, _, hf⟩ := flat_int hf
  have e := flat_nil hf
  have hD : D i = [.int .i64 d0, .int .i64 d1, .int .i64 d2, .int .i64 d3, .int .i64 d4, .int .i64 d5, .int .i64 d6, .int .i64 d7, .int .i64 d8, .int .i64 d9, .int .i64 d10, .int .i64 d11, .int .i64 d12, .int .i64 d13] := by rw [e0, e1, e2, e3, e4, e5, e6, e7, e8, e9, e10, e11, e12, e13, e]
  simp only [hD] at hj
  refine ⟨d0, d1, d2, d3, d4, d5, d6, d7, d8, d9, d10, d11, d12, d13, ?_, ?_, ?_, ?_, ?_, ?_, ?_, ?_, ?_, ?_, ?_, ?_, ?_, ?_⟩
  · simpa [Nat.add_assoc] using hj 0 (by simp)
  · simpa [Nat.add_assoc] using hj 1 (by simp)
  · simpa [Nat.add_assoc] using hj 2 (by simp)
  · simpa [Nat.add_assoc] using hj 3 (by simp)
  · simpa [Nat.add_assoc] using hj 4 (by simp)
  · simpa [Nat.add_assoc] using hj 5 (by simp)
  · simpa [Nat.add_assoc] using hj 6 (by simp)
  · simpa [Nat.add_assoc] using hj 7 (by simp)
  · simpa [Nat.add_assoc] using hj 8 (by simp)
  · simpa [Nat.add_assoc] using hj 9 (by simp)
  · simpa [Nat.add_assoc] using hj 10 (by simp)
  · simpa [Nat.add_assoc] using hj 11 (by simp)
  · simpa [Nat.add_assoc] using hj 12 (by simp)
  · simpa [Nat.add_assoc] using hj 13 (by simp)
theorem rows_scene {w : World} {a : Option Addr} {len cap : Nat} {D : Nat → List Value} (h : IsRows [some .i64, some .i64, some .i64, some .i64, none, none, none] w a len cap D) (hp : 0 < len) :
    ∃ b off, a = some ⟨b, off, none⟩ ∧ ∀ i, i < len → ∃ (d0 : Int) (d1 : Int) (d2 : Int) (d3 : Int) (d4 : Bool) (d5 : Bool) (d6 : Bool), w.cell? ⟨b, off + i * 7, none⟩ = some (.int .i64 d0) ∧ w.cell? ⟨b, off + i * 7 + 1, none⟩ = some (.int .i64 d1) ∧ w.cell? ⟨b, off + i * 7 + 2, none⟩ = some (.int .i64 d2) ∧ w.cell? ⟨b, off + i * 7 + 3, none⟩ = some (.int .i64 d3) ∧ w.cell? ⟨b, off + i * 7 + 4, none⟩ = some (.bool d4) ∧ w.cell? ⟨b, off + i * 7 + 5, none⟩ = some (.bool d5) ∧ w.cell? ⟨b, off + i * 7 + 6, none⟩ = some (.bool d6) := by
  obtain ⟨b, off, rfl, hc⟩ := rows_at h hp (by simp)
  refine ⟨b, off, rfl, fun i hi => ?_⟩
  obtain ⟨hf, hj⟩ := hc i hi
  obtain ⟨d0, r0, e0, _, hf⟩ := flat_int hf
  obtain ⟨d1, r1, e1, _, hf⟩ := flat_int hf
  obtain ⟨d2, r2, e2, _, hf⟩ := flat_int hf
  obtain ⟨d3, r3, e3, _, hf⟩ := flat_int hf
  obtain ⟨d4, r4, e4, hf⟩ := flat_bool hf
  obtain ⟨d5, r5, e5, hf⟩ := flat_bool hf
  obtain ⟨d6, r6, e6, hf⟩ := flat_bool hf
  have e := flat_nil hf
  have hD : D i = [.int .i64 d0, .int .i64 d1, .int .i64 d2, .int .i64 d3, .bool d4, .bool d5, .bool d6] := by rw [e0, e1, e2, e3, e4, e5, e6, e]
  simp only [hD] at hj
  refine ⟨d0, d1, d2, d3, d4, d5, d6, ?_, ?_, ?_, ?_, ?_, ?_, ?_⟩
  · simpa [Nat.add_assoc] using hj 0 (by simp)
  · simpa [Nat.add_assoc] using hj 1 (by simp)
  · simpa [Nat.add_assoc] using hj 2 (by simp)
  · simpa [Nat.add_assoc] using hj 3 (by simp)
  · simpa [Nat.add_assoc] using hj 4 (by simp)
  · simpa [Nat.add_assoc] using hj 5 (by simp)
  · simpa [Nat.add_assoc] using hj 6 (by simp)
end Go.Proofs.Ytdincfemiignjaa
