/- The walks of sine.Table and of its reference: a new table. -/
import Derived.Test.YtdkneeglkbbnlaaNormW
import Derived.Test.YtdkneeglkbbnlaaBel
import Derived.Test.YtdkneeglkbbnlaaSinT
namespace Go.Proofs.Ytdkneeglkbbnlaa
open Go.RowKit

theorem table_any (w : World) : Calls Try.prog 28 #[] w fun e w' => e = .returned (.slice (some ⟨w.heap.size, 0, none⟩) 65 65) ∧ w.alloc (.cells tabV 3) = w' := by
  go_enter Try.func28, Try.ntmps28
  go_wp2
  go_returns
  exact ⟨rfl, rfl⟩
theorem rtable_any (w : World) : Calls Try.prog 27 #[] w fun e w' => e = .returned (.slice (some ⟨w.heap.size, 0, none⟩) 65 65) ∧ w.alloc (.cells tabV 3) = w' := by
  go_enter Try.func27, Try.ntmps27
  go_wp2
  go_returns
  exact ⟨rfl, rfl⟩
end Go.Proofs.Ytdkneeglkbbnlaa
