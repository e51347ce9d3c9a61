/- The walks of angle.Norm, Diff, Dist and of the reference's (those that this seat has). -/
import Derived.Test.YteplclbjiaamlaaProg
import Derived.Test.YteplclbjiaamlaaAng
import Derived.Handy
import Derived.WalkSpells
import Derived.WalkLawsBesides
namespace Go.Proofs.Yteplclbjiaamlaa
open Go.RowKit
theorem ret_int {k : IntKind} {a b : Int} (h : a = b) : Ending.returned (.int k a) = .returned (.int k b) := by rw [h]

theorem norm_any (x : Int) (w : World) : Calls Try.prog 22 #[.int .i64 x] w fun e w' => e = .returned (.int .i64 (nrm x)) ∧ w = w' := by
  have hm := and_mask x
  go_enter Try.func22, Try.ntmps22
  go_wp2
  go_ret
  exact ⟨rfl, rfl⟩
theorem rnorm_any (x : Int) (w : World) : Calls Try.prog 19 #[.int .i64 x] w fun e w' => e = .returned (.int .i64 (nrm x)) ∧ w = w' := by
  have hb := tmod_bd x
  go_enter Try.func19, Try.ntmps19
  go_wp2
  go_ret
  exact ⟨ret_int (emod_nrm x), rfl⟩
end Go.Proofs.Yteplclbjiaamlaa
