/- The walks of sine.Table and of its reference: a new table. -/
import Derived.Test.YtlefnahclgccbaaNormW
import Derived.Test.YtlefnahclgccbaaBel
import Derived.Test.YtlefnahclgccbaaSinT
namespace Go.Proofs.Ytlefnahclgccbaa
open Go.RowKit

theorem table_any (w : World) : Calls Try.prog 34 #[] w fun e w' => e = .returned (.slice (some ⟨w.heap.size, 0, none⟩) 65 65) ∧ w.alloc (.cells tabV 3) = w' := by
  go_enter Try.func34, Try.ntmps34
  go_wp2
  go_returns
  exact ⟨rfl, rfl⟩
theorem rtable_any (w : World) : Calls Try.prog 31 #[] w fun e w' => e = .returned (.slice (some ⟨w.heap.size, 0, none⟩) 65 65) ∧ w.alloc (.cells tabV 3) = w' := by
  go_enter Try.func31, Try.ntmps31
  go_wp2
  go_returns
  exact ⟨rfl, rfl⟩
end Go.Proofs.Ytlefnahclgccbaa
