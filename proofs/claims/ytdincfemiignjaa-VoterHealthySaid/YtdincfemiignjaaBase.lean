/- The walks of package commutatorbase: Clip, Num. -/
import Derived.Test.YtdincfemiignjaaProg
import Derived.Test.YtdincfemiignjaaAng
import Derived.Handy
import Derived.WalkSpells
import Derived.WalkLawsBesides
namespace Go.Proofs.Ytdincfemiignjaa
open Go.RowKit

/-- n, moved into lo to hi. -/
def clp (n lo hi : Int) : Int := if (if hi < n then hi else n) < lo then lo else if hi < n then hi else n
theorem clp_bd (n lo hi : Int) (h : lo ≤ hi) : lo ≤ clp n lo hi ∧ clp n lo hi ≤ hi := by unfold clp; omega
theorem clp_in {n lo hi : Int} (h : lo ≤ n) (h' : n ≤ hi) : clp n lo hi = n := by unfold clp; omega
theorem ret_i {k : IntKind} {a b : Int} (h : a = b) : Ending.returned (.int k a) = .returned (.int k b) := by rw [h]

theorem clip_any (n lo hi : Int) (w : World) : Calls Try.prog 20 #[.int .i64 n, .int .i64 lo, .int .i64 hi] w fun e w' => e = .returned (.int .i64 (clp n lo hi)) ∧ w = w' := by
  go_enter Try.func20, Try.ntmps20
  go_wp2
  all_goals
    (try go_returns)
    exact ⟨ret_i (by simp [clp]; omega), rfl⟩

theorem num_nil (w : World) : Calls Try.prog 13 #[.nilIface] w fun e w' => e = .returned (.int .i64 0) ∧ w = w' := by
  go_enter Try.func13, Try.ntmps13
  go_wp2
  (try go_returns)
  exact ⟨rfl, rfl⟩
theorem num_errno (n : Int) (w : World) : Calls Try.prog 13 #[.iface 57 (.int .i64 n)] w fun e w' => e = .returned (.int .i64 n) ∧ w = w' := by
  have ht : ∀ w, (Instr.typeAssert (.iface 57 (.int .i64 n)) 34 57 true).run Try.prog w = .ok (.tuple #[.int .i64 n, .bool true]) w := fun _ => by kernel_rfl
  go_enter Try.func13, Try.ntmps13
  go_wp2
  (try go_returns)
  exact ⟨rfl, rfl⟩
end Go.Proofs.Ytdincfemiignjaa
