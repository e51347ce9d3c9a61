/- The walk of the law SineTable. -/
import Derived.Test.YteplclbjiaamlaaSinA
import Derived.Test.YteplclbjiaamlaaMax
import Derived.Test.YteplclbjiaamlaaCel
import Derived.Test.YteplclbjiaamlaaFlat
import Derived.Deep.RegionHeld3
namespace Go.Proofs.Yteplclbjiaamlaa
open Go.RowKit
set_option linter.unusedVariables false

/-- Blocks whose first 65 cells are the table. -/
def isTab (w : World) (B : Nat) : Prop := ∀ k, k < 65 → w.cell? ⟨B, k, none⟩ = some (.int .i64 (tb k : Int))
theorem isTab.bel {a b : World} {B : Nat} (h : isTab a B) (hb : Bel a b) : isTab b B := fun k hk => bel_cell hb (h k hk)
theorem isTab_mk (w : World) (t : TypeId) : isTab (w.alloc (.cells tabV t)) w.heap.size := fun k hk => tab_cell w t k hk

set_option maxHeartbeats 1000000 in
theorem ints_tab (w : World) (A B : Nat) (h : Hid (isTab w A)) (g : Hid (isTab w B)) :
    Calls Try.prog 17 #[.slice (some ⟨A, 0, none⟩) 65 65, .slice (some ⟨B, 0, none⟩) 65 65] w fun e w' => e = .returned (.bool true) ∧ ∃ n, w' = w.drewN n := by
  go_enter Try.func17, Try.ntmps17
  go_wp2
  go_loopw [13] (fun i wr => ∃ k n : Nat, i = .int .i64 k ∧ k ≤ 65 ∧ wr = w.drewN n) (fun i _ => 65 - (intOf i).toNat)
  case atStart => exact ⟨0, 0, rfl, by omega, rfl⟩
  case round =>
    obtain ⟨k, n, rfl, hk, rfl⟩ := hrel
    by_cases hlt : k < 65
    · have c1 : w.cell? ⟨A, k, none⟩ = some (.int .i64 (tb k : Int)) := h.out k hlt
      have c2 : w.cell? ⟨B, k, none⟩ = some (.int .i64 (tb k : Int)) := g.out k hlt
      have i1 : (0 : Int) ≤ (k : Int) := by omega
      have i2 : (k : Int) < 65 := by omega
      obtain ⟨v, hv⟩ : ∃ v : Int, (tb k : Int) = v := ⟨_, rfl⟩
      rw [hv] at c1 c2
      clear hv
      go_wp2
      go_quiet (fail)
      go_wp2
      go_roundw
      case rel => exact ⟨k + 1, _, by go_num, by omega, rfl⟩
      case measure => first | (simp [intOf]; done) | (simp [intOf]; omega)
    · go_wp2
      go_returns
      exact ⟨rfl, _, rfl⟩

/-- The sine of a multiple of 256 is in the table. -/
theorem bs_tab (k : Nat) (h : k < 65) : bs (256 * (k : Int)) = tb k ∧ bc (16384 - 256 * (k : Int)) = tb k := by
  have := allB_at (n := 65) (p := fun k => decide (bs (256 * (k : Int)) = tb k) && decide (bc (16384 - 256 * (k : Int)) = tb k)) (by decide +kernel) k h
  simpa using this

theorem isTab_at (w : World) (t : TypeId) (B : Nat) (h : B = w.heap.size) : isTab (w.alloc (.cells tabV t)) B := by subst h; exact isTab_mk w t

set_option maxHeartbeats 1000000 in
theorem sineTable_walk (a0 : Int) (a1 : Int) (w : World) (w0 : (Lit.int .u8 a0).wf = true) (w1 : (Lit.int .i64 a1).wf = true) :
    Calls Try.prog 4 #[.int .u8 a0, .int .i64 a1] w fun e w' => e = .returned (.bool true) ∧ Below w.heap.size w w' := by
  have b0 := bounds_u8 w0
  obtain ⟨k, hk⟩ : ∃ k : Nat, a0 % 65 = k := ⟨(a0 % 65).toNat, by omega⟩
  have k1 : k < 65 := by omega
  have k2 : (0 : Int) ≤ (k : Int) := by omega
  have k3 : (k : Int) < 65 := by omega
  obtain ⟨t1, t2⟩ := bs_tab k k1
  have T := hide (And.intro t1 t2)
  clear t1 t2 w0 w1
  go_enter Try.func4, Try.ntmps4
  have hT := tabV_at k k1
  obtain ⟨v, hv⟩ : ∃ v : Int, (tb k : Int) = v := ⟨_, rfl⟩
  rw [hv] at hT T
  clear hv
  have S1 := fun w => sin_any (256 * (k : Int)) w w (Bel.refl _)
  have S2 := fun w => cos_any (16384 - 256 * (k : Int)) w w (Bel.refl _)
  rw [T.out.1] at S1
  rw [T.out.2] at S2
  clear T
  go_wp2_with (first
    | (go_at_call 11; (with_reducible refine (awake_true _ _ (Bel.refl _)).mono ?_); rintro e w1 ⟨rfl, hb1⟩)
    | (go_at_call 16; (with_reducible refine (table_any _).mono ?_); rintro e w' ⟨rfl, rfl⟩)
    | (go_at_call 18; (with_reducible refine (rtable_any _).mono ?_); rintro e w' ⟨rfl, rfl⟩)
    | (go_at_call 17; (with_reducible refine (ints_tab _ _ _ (hide ((isTab_at _ _ _ (by simp)).bel ((Bel.refl _).alloc _))) (hide (isTab_at _ _ _ (by simp)))).mono ?_); rintro e w' ⟨rfl, n, rfl⟩)
    | (go_at_call 15; (with_reducible refine (S1 _).mono ?_); rintro e w' ⟨rfl, hb2⟩)
    | (go_at_call 14; (with_reducible refine (S2 _).mono ?_); rintro e w' ⟨rfl, hb3⟩))
  go_returns
  exact ⟨rfl, (((((hb1.alloc _).alloc _).alloc _).drewN _).trans hb2).trans hb3⟩
end Go.Proofs.Yteplclbjiaamlaa
