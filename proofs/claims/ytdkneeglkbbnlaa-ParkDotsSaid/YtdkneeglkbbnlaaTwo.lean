/- Two boxed arrays of two integers, in whatever world comes behind. No program in sight. -/
import Derived.Test.YtdkneeglkbbnlaaBel
namespace Go.Proofs.Ytdkneeglkbbnlaa
open Go.RowKit

/-- Blocks B and B + 1, new since w, hold p, q and r, s. -/
def Two (w wx : World) (p q r s : Int) : Prop :=
  Bel w wx ∧ w.heap.size + 1 < wx.heap.size ∧
  (wx.cell? ⟨w.heap.size, 0, none⟩ = some (.int .i64 p) ∧ wx.cell? ⟨w.heap.size, 1, none⟩ = some (.int .i64 q) ∧ wx.cell? ⟨w.heap.size + 1, 0, none⟩ = some (.int .i64 r) ∧ wx.cell? ⟨w.heap.size + 1, 1, none⟩ = some (.int .i64 s)) ∧
  (wx.frozen? ⟨w.heap.size, 0, none⟩ = false ∧ wx.frozen? ⟨w.heap.size, 1, none⟩ = false ∧ wx.frozen? ⟨w.heap.size + 1, 0, none⟩ = false ∧ wx.frozen? ⟨w.heap.size + 1, 1, none⟩ = false)
theorem Two.mk (w : World) (t t' : TypeId) (p q r s : Int) : Two w ((w.alloc (.cells #[.int .i64 p, .int .i64 q] t)).alloc (.cells #[.int .i64 r, .int .i64 s] t')) p q r s :=
  ⟨((Bel.refl w).alloc _).alloc _, by simp, by simp, by simp⟩
theorem Two.bel {w wx wy : World} {p q r s : Int} (h : Two w wx p q r s) (g : Bel wx wy) : Two w wy p q r s := by
  obtain ⟨h1, h2, ⟨c0, c1, c2, c3⟩, f0, f1, f2, f3⟩ := h
  have g' : Below wx.heap.size wx wy := g
  refine ⟨h1.trans g, Nat.lt_of_lt_of_le h2 g'.size, ⟨?_, ?_, ?_, ?_⟩, ?_, ?_, ?_, ?_⟩
  · exact (g'.cell (p := ⟨w.heap.size, 0, none⟩) (by show w.heap.size < _; omega)).trans c0
  · exact (g'.cell (p := ⟨w.heap.size, 1, none⟩) (by show w.heap.size < _; omega)).trans c1
  · exact (g'.cell (p := ⟨w.heap.size + 1, 0, none⟩) h2).trans c2
  · exact (g'.cell (p := ⟨w.heap.size + 1, 1, none⟩) h2).trans c3
  · exact (g'.frozen (p := ⟨w.heap.size, 0, none⟩) (by show w.heap.size < _; omega)).trans f0
  · exact (g'.frozen (p := ⟨w.heap.size, 1, none⟩) (by show w.heap.size < _; omega)).trans f1
  · exact (g'.frozen (p := ⟨w.heap.size + 1, 0, none⟩) h2).trans f2
  · exact (g'.frozen (p := ⟨w.heap.size + 1, 1, none⟩) h2).trans f3
theorem Two.drew {w wx : World} {p q r s : Int} (h : Two w wx p q r s) : Two w wx.drew p q r s := h.bel ((Bel.refl _).drew)
theorem Two.setA0 {w wx : World} {p q r s : Int} (h : Two w wx p q r s) (x : Int) : Two w (wx.setCell ⟨w.heap.size, 0, none⟩ (.int .i64 x)) x q r s := by
  obtain ⟨h1, h2, ⟨c0, c1, c2, c3⟩, f0, f1, f2, f3⟩ := h
  exact ⟨h1.setCell (Nat.le_refl _) _, by simpa using h2, by go_simp, by go_simp⟩
theorem Two.setA1 {w wx : World} {p q r s : Int} (h : Two w wx p q r s) (x : Int) : Two w (wx.setCell ⟨w.heap.size, 1, none⟩ (.int .i64 x)) p x r s := by
  obtain ⟨h1, h2, ⟨c0, c1, c2, c3⟩, f0, f1, f2, f3⟩ := h
  exact ⟨h1.setCell (Nat.le_refl _) _, by simpa using h2, by go_simp, by go_simp⟩
theorem Two.setB0 {w wx : World} {p q r s : Int} (h : Two w wx p q r s) (x : Int) : Two w (wx.setCell ⟨w.heap.size + 1, 0, none⟩ (.int .i64 x)) p q x s := by
  obtain ⟨h1, h2, ⟨c0, c1, c2, c3⟩, f0, f1, f2, f3⟩ := h
  exact ⟨h1.setCell (Nat.le_succ _) _, by simpa using h2, by go_simp, by go_simp⟩
theorem Two.setB1 {w wx : World} {p q r s : Int} (h : Two w wx p q r s) (x : Int) : Two w (wx.setCell ⟨w.heap.size + 1, 1, none⟩ (.int .i64 x)) p q r x := by
  obtain ⟨h1, h2, ⟨c0, c1, c2, c3⟩, f0, f1, f2, f3⟩ := h
  exact ⟨h1.setCell (Nat.le_succ _) _, by simpa using h2, by go_simp, by go_simp⟩
end Go.Proofs.Ytdkneeglkbbnlaa
