/- The table as cells of a new block. -/
import Derived.WalkKit
import Derived.Test.YteplclbjiaamlaaSin
namespace Go.Proofs.Yteplclbjiaamlaa
open Go.RowKit

/-- The table as cells. -/
def tabV : Array Value := (tabL.map fun (n : Nat) => Value.int .i64 (n : Int)).toArray
theorem tab_tb : allB 65 (fun k => Nat.beq (tabL.getD k 0) (tb k)) = true := by decide +kernel
theorem tabV_at (k : Nat) (h : k < 65) : tabV[k]? = some (.int .i64 (tb k : Int)) := by
  have h1 := allB_at tab_tb k h
  have h2 : tabL.getD k 0 = tb k := Nat.eq_of_beq_eq_true h1
  have hl : k < tabL.length := h
  unfold tabV
  rw [List.getElem?_toArray, List.getElem?_map, List.getElem?_eq_getElem hl]
  rw [List.getD_eq_getElem?_getD, List.getElem?_eq_getElem hl] at h2
  simp only [Option.getD_some] at h2
  simp only [Option.map_some, h2]
theorem tab_cell (w : World) (t : TypeId) (k : Nat) (h : k < 65) : (w.alloc (.cells tabV t)).cell? ⟨w.heap.size, k, none⟩ = some (.int .i64 (tb k : Int)) := by
  rw [World.cell?_alloc_at _ _ _ _ rfl]
  exact tabV_at k h
end Go.Proofs.Yteplclbjiaamlaa
