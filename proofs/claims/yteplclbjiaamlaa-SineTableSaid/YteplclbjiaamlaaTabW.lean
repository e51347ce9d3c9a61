/- The walks of sine.Table and of its reference: a new table. -/
import Derived.Test.YteplclbjiaamlaaNormW
import Derived.Test.YteplclbjiaamlaaBel
import Derived.Test.YteplclbjiaamlaaSinT
namespace Go.Proofs.Yteplclbjiaamlaa
open Go.RowKit

theorem table_any (w : World) : Calls Try.prog 16 #[] w fun e w' => e = .returned (.slice (some ⟨w.heap.size, 0, none⟩) 65 65) ∧ w.alloc (.cells tabV 3) = w' := by
  go_enter Try.func16, Try.ntmps16
  go_wp2
  go_returns
  exact ⟨rfl, rfl⟩
theorem rtable_any (w : World) : Calls Try.prog 18 #[] w fun e w' => e = .returned (.slice (some ⟨w.heap.size, 0, none⟩) 65 65) ∧ w.alloc (.cells tabV 3) = w' := by
  go_enter Try.func18, Try.ntmps18
  go_wp2
  go_returns
  exact ⟨rfl, rfl⟩
end Go.Proofs.Yteplclbjiaamlaa
