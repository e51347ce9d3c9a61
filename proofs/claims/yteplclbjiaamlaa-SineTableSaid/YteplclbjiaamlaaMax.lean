/- max of four and of six integers. No program in sight. -/
import Derived.WalkKit
namespace Go.Proofs.Yteplclbjiaamlaa
open Go.RowKit
def mx (x y : Int) : Int := if y > x then y else x
theorem mx_le {x y m : Int} (h : x ≤ m) (g : y ≤ m) : mx x y ≤ m := by unfold mx; split <;> omega
theorem le_mx (x y : Int) : x ≤ mx x y ∧ y ≤ mx x y := by unfold mx; split <;> omega
def mx4 (x y z u : Int) : Int := mx (mx (mx x y) z) u
def mx6 (x y z u v t : Int) : Int := mx (mx (mx4 x y z u) v) t
theorem mx4_le {x y z u m : Int} (h1 : x ≤ m) (h2 : y ≤ m) (h3 : z ≤ m) (h4 : u ≤ m) : mx4 x y z u ≤ m := mx_le (mx_le (mx_le h1 h2) h3) h4
theorem mx6_le {x y z u v t m : Int} (h1 : x ≤ m) (h2 : y ≤ m) (h3 : z ≤ m) (h4 : u ≤ m) (h5 : v ≤ m) (h6 : t ≤ m) : mx6 x y z u v t ≤ m := mx_le (mx_le (mx4_le h1 h2 h3 h4) h5) h6
section
variable {P : Program} (w : World)
@[go_sem] theorem run_max_int4 (ts : Array TypeId) (t : TypeId) (k k1 k2 k3 : IntKind) (x y z u : Int) : (Builtin.max_ ts t #[.int k x, .int k1 y, .int k2 z, .int k3 u]).run P w = .ok (.int k (mx4 x y z u)) w := by
  simp [Builtin.max_, Builtin.max2, mx4, mx]
@[go_sem] theorem run_max_int6 (ts : Array TypeId) (t : TypeId) (k k1 k2 k3 k4 k5 : IntKind) (x y z u v s : Int) : (Builtin.max_ ts t #[.int k x, .int k1 y, .int k2 z, .int k3 u, .int k4 v, .int k5 s]).run P w = .ok (.int k (mx6 x y z u v s)) w := by
  simp [Builtin.max_, Builtin.max2, mx6, mx4, mx]
end
end Go.Proofs.Yteplclbjiaamlaa
