/- Several ways to one state. No program in sight. -/
import Derived.Test.YtdincfemiignjaaGar
namespace Go.Proofs.Ytdincfemiignjaa
open Go.RowKit
/-- Several ways to one state: the rest is walked once ('refine' merge (fun hx => ?main) ?px'; the ways end by 'exact hx.out'). -/
theorem merge {X G : Prop} (main : Hid X → G) (px : X) : G := main px
end Go.Proofs.Ytdincfemiignjaa
