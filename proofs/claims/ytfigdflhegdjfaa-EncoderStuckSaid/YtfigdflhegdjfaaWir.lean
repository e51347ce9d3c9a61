/- A struct of a number, a bool and a slice of bools, opened: what the walk is told of it. No walk in sight. -/
import Derived.Test.YtfigdflhegdjfaaProg
import Derived.Test.YtfigdflhegdjfaaRowAt
import Derived.Deep.Strs
namespace Go.Proofs.Ytfigdflhegdjfaa
open Go.ChangeShapes Go.WideShapes Go.ChangeAt Go.RowKit

section
variable {H : Type} {enc : TypeId × Value → H} {P : Program} {w : World} {base : Nat} {spare : Nat → Bool} {held : Bool}

theorem rows_trod {n : Nat} {t e : TypeId} {ks : List (Option IntKind)} {fuel : Nat} {cs : List Value} {x : DataW H × List MemPlace} (hk : flatK P n e = some ks) (hc : ks.length = P.cellsOf e)
    (ht : P.underlying t = some (.slice e)) (hf : DataW.trod enc P w base spare held fuel t cs = some x) :
    ∃ (a : Option Addr) (len cap : Nat) (D : Nat → List Value), cs = [.slice a len cap] ∧ IsRows ks w a len cap D := by
  rcases DataW.trod_slice ht hf with ⟨hcs, _⟩ | ⟨y, len, cap, elems, rest, m, _, hcs, _, _, hl, hm, hel, he, _, _⟩
  · exact ⟨none, 0, 0, fun _ => [], hcs, .inl ⟨rfl, rfl, rfl⟩⟩
  · refine ⟨some y, len, cap, fun i => ((w.cells? base (y.add (i * P.cellsOf e)) (P.cellsOf e)).getD []), hcs, .inr ⟨y, rfl, hl, hm, fun i hi => ?_⟩⟩
    have h1 := he i hi
    rw [List.getElem?_eq_getElem (by omega)] at h1
    obtain ⟨cs', hcs', hx⟩ := Option.bind_eq_some_iff.1 h1
    have hfl := flat_trod n e ks hk _ _ _ hx
    simp only [hcs', Option.getD_some]
    refine ⟨hfl, fun j hj => ?_⟩
    obtain ⟨_, hlen, hcell⟩ := World.cells?_some hcs'
    have hj' : j < cs'.length := by rw [flat_length hfl]; exact hj
    rw [hc, ← add_add, hcell j (by omega)]
    simp [List.getD, hj']
end

section
variable {H : Type} {enc : TypeId × Value → H} {w : World} {base : Nat} {spare : Nat → Bool} {held : Bool}

theorem open_wire {r : Reach} {b0 : Nat} {v : Value} {d : DataW H} {p : List MemPlace} (hv : Value.okWide Try.prog w r b0 52 v) (h : DataW.Trod enc Try.prog w base spare held 52 v d p) :
    ∃ (l : Int) (b : Bool) (a : Option Addr) (len cap : Nat) (D : Nat → List Value), v = .agg #[.int .u8 l, .bool b, .slice a len cap] ∧ (Lit.int .u8 l).wf = true ∧ IsRows [none] w a len cap D := by
  have ht := Try.underlying52
  obtain ⟨fuel, hf⟩ := h
  obtain ⟨cs, rfl, hs⟩ : ∃ cs : Array Value, v = .agg cs ∧ cs.size = Try.prog.cellsOf 52 := by
    simp only [Value.okWide, ht] at hv; obtain ⟨cs, h1, h2, _⟩ := hv; exact ⟨cs, h1, h2⟩
  have hs3 : cs.size = 3 := by rw [hs]; kernel_rfl
  obtain ⟨c0, c1, c2, rfl⟩ : ∃ c0 c1 c2, cs = #[c0, c1, c2] := by
    obtain ⟨l⟩ := cs
    match l, hs3 with
    | [c0, c1, c2], _ => exact ⟨c0, c1, c2, rfl⟩
  obtain ⟨y0, y1, y2, m, _, _, g0, g1, g2⟩ := Go.Deep.trod_struct3 ht hf
  have z0 : Try.prog.cellsOf 5 = 1 := by kernel_rfl
  have z1 : Try.prog.cellsOf 4 = 1 := by kernel_rfl
  have z2 : Try.prog.cellsOf 50 = 1 := by kernel_rfl
  simp only [Value.cells, z0, z1, z2, List.drop_zero, List.drop_succ_cons, List.take_succ_cons, List.take_zero] at g0 g1 g2
  obtain ⟨l, e0, _, wl⟩ := DataW.trod_int Try.underlying5 g0
  obtain ⟨b, e1, _⟩ := DataW.trod_bool Try.underlying4 g1
  obtain ⟨a, len, cap, D, e2, hr⟩ := rows_trod (n := 2) (ks := [none]) (by kernel_rfl) (by kernel_rfl) Try.underlying50 g2
  cases e0
  cases e1
  cases e2
  exact ⟨l, b, a, len, cap, D, rfl, wl, hr⟩
end
end Go.Proofs.Ytfigdflhegdjfaa
