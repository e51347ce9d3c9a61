/- Draws stand outermost: allocations and stores are moved inside. No program in sight. -/
import Derived.Test.YtdincfemiignjaaCel
namespace Go.Proofs.Ytdincfemiignjaa
open Go.RowKit
@[go_sem] theorem alloc_drewN_in (w : World) (n : Nat) (o : Obj) : (w.drewN n).alloc o = (w.alloc o).drewN n := rfl
@[go_sem] theorem setCell_drewN_in (w : World) (n : Nat) (a : Addr) (v : Value) : (w.drewN n).setCell a v = (w.setCell a v).drewN n := rfl
end Go.Proofs.Ytdincfemiignjaa
