/- The walks of package sine. -/
import Derived.Test.YteplclbjiaamlaaTabW
import Derived.Test.YteplclbjiaamlaaSinF
namespace Go.Proofs.Yteplclbjiaamlaa
open Go.RowKit

theorem ret_two {a b c d : Int} (h : a = b) (g : c = d) : Ending.returned (.tuple #[.int .i64 a, .int .i64 c]) = .returned (.tuple #[.int .i64 b, .int .i64 d]) := by rw [h, g]

set_option maxHeartbeats 400000 in
theorem first_nat (n : Nat) (h : n < 16384) (w : World) : Calls Try.prog 23 #[.int .i64 (n : Int)] w fun e w' => e = .returned (.tuple #[.int .i64 (cs n : Int), .int .i64 (sn n : Int)]) ∧ Bel w w' := by
  have k1 := tab_cell w 3 (n / 256) (by omega)
  have k2 := tab_cell w 3 (n / 256 + 1) (by omega)
  have k3 := tab_cell w 3 (64 - n / 256) (by omega)
  have k4 := tab_cell w 3 (63 - n / 256) (by omega)
  have b1 := tb_bd (n / 256)
  have b2 := tb_bd (n / 256 + 1)
  have b3 := tb_bd (64 - n / 256)
  have b4 := tb_bd (63 - n / 256)
  obtain ⟨l1, l2, -, -⟩ := lin_bd _ _ ((n : Int) % 256) b1 b2 (by omega)
  obtain ⟨m1, m2⟩ := lin_bd' _ _ ((n : Int) % 256) b3 b4 (by omega)
  have hs := hide (sn_eq n)
  have hc := hide (cs_eq n)
  go_enter Try.func23, Try.ntmps23
  go_wp2_with (first | (go_at_call 16; (with_reducible refine (table_any _).mono ?_); rintro e w' ⟨rfl, rfl⟩))
  go_quiet (fail)
  go_wp2
  go_quiet (fail)
  go_wp2
  go_returns
  refine ⟨ret_two ?_ ?_, ((((Bel.refl w).alloc _).drewN _).drewN _)⟩
  · rw [hc.out, ← cs_prog]
  · rw [hs.out, ← sn_prog]
theorem first_any (x : Int) (h : 0 ≤ x ∧ x < 16384) (w : World) : Calls Try.prog 23 #[.int .i64 x] w fun e w' => e = .returned (.tuple #[.int .i64 (cs x.toNat : Int), .int .i64 (sn x.toNat : Int)]) ∧ Bel w w' := by
  have e : x = (x.toNat : Int) := by omega
  have := first_nat x.toNat (by omega) w
  rwa [← e] at this

theorem both_any (a : Int) (w0 w : World) (hb : Bel w0 w) : Calls Try.prog 12 #[.int .i64 a] w fun e w' => e = .returned (.tuple #[.int .i64 (bc a), .int .i64 (bs a)]) ∧ Bel w0 w' := by
  refine on_bel hb ?_
  clear hb w0
  have hn := nrm_bd a
  have b1 := cs_bd (nrm a % 16384).toNat
  have b2 := sn_bd (nrm a % 16384).toNat
  go_enter Try.func12, Try.ntmps12
  go_wp2_with (first | (go_at_call 22; (with_reducible refine (norm_any _ _).mono ?_); rintro e w' ⟨rfl, rfl⟩) | (go_at_call 23; (with_reducible refine (first_any _ (by omega) _).mono ?_); rintro e w' ⟨rfl, hb⟩))
  all_goals
    (try go_returns)
    refine ⟨ret_two ?_ ?_, by assumption⟩
  all_goals simp_all [bc, bs, c0, s0]

theorem sin_any (a : Int) (w0 w : World) (hb : Bel w0 w) : Calls Try.prog 15 #[.int .i64 a] w fun e w' => e = .returned (.int .i64 (bs a)) ∧ Bel w0 w' := by
  go_enter Try.func15, Try.ntmps15
  go_wp2_with (first | (go_at_call 12; (with_reducible refine (both_any _ _ _ (by assumption)).mono ?_); rintro e w' ⟨rfl, hb⟩))
  (try go_returns)
  exact ⟨rfl, by assumption⟩
theorem cos_any (a : Int) (w0 w : World) (hb : Bel w0 w) : Calls Try.prog 14 #[.int .i64 a] w fun e w' => e = .returned (.int .i64 (bc a)) ∧ Bel w0 w' := by
  go_enter Try.func14, Try.ntmps14
  go_wp2_with (first | (go_at_call 12; (with_reducible refine (both_any _ _ _ (by assumption)).mono ?_); rintro e w' ⟨rfl, hb⟩))
  (try go_returns)
  exact ⟨rfl, by assumption⟩
end Go.Proofs.Yteplclbjiaamlaa
