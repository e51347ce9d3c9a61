/- Cells behind a call that leaves what was there. -/
import Derived.Test.YtdincfemiignjaaQui2
namespace Go.Proofs.Ytdincfemiignjaa
open Go.RowKit
theorem bel_cell {a b : World} (hb : Bel a b) {p : Addr} {v : Value} (h : a.cell? p = some v) : b.cell? p = some v :=
  (Below.cell hb (World.block_lt_of_cell? a _ h)).trans h
theorem bel_froz {a b : World} (hb : Bel a b) {p : Addr} {v : Value} (h : a.cell? p = some v) (g : a.frozen? p = false) : b.frozen? p = false :=
  (Below.frozen hb (World.block_lt_of_cell? a _ h)).trans g
end Go.Proofs.Ytdincfemiignjaa
