/- The walk of the reference's Both. -/
import Derived.Test.YteplclbjiaamlaaTabW
import Derived.Test.YteplclbjiaamlaaSinP
namespace Go.Proofs.Yteplclbjiaamlaa
open Go.RowKit

theorem ret_two' {a b c d : Int} (h : a = b) (g : c = d) : Ending.returned (.tuple #[.int .i64 a, .int .i64 c]) = .returned (.tuple #[.int .i64 b, .int .i64 d]) := by rw [h, g]

set_option maxHeartbeats 1000000 in
theorem rboth_nat (a : Int) (n : Nat) (h : n < 65536) (ha : nrm a = (n : Int)) (w : World) : Calls Try.prog 13 #[.int .i64 a] w fun e w' => e = .returned (.tuple #[.int .i64 (bc a), .int .i64 (bs a)]) ∧ Bel w w' := by
  have hA := hide ha
  have k1 := tab_cell w 3 (n % 16384 / 256) (by omega)
  have k2 := tab_cell w 3 (n % 16384 / 256 + 1) (by omega)
  have k3 := tab_cell w 3 (64 - n % 16384 / 256) (by omega)
  have k4 := tab_cell w 3 (63 - n % 16384 / 256) (by omega)
  have b1 := tb_bd (n % 16384 / 256)
  have b2 := tb_bd (n % 16384 / 256 + 1)
  have b3 := tb_bd (64 - n % 16384 / 256)
  have b4 := tb_bd (63 - n % 16384 / 256)
  obtain ⟨-, -, l1, l2⟩ := lin_bd _ _ ((n : Int) % 256) b1 b2 (by omega)
  obtain ⟨-, -, m1, m2⟩ := lin_bd _ _ ((n : Int) % 256) b3 b4 (by omega)
  have hs := hide (sn_eq (n % 16384))
  have hc := hide (cs_eq (n % 16384))
  go_enter Try.func13, Try.ntmps13
  go_wp2_with (first | (go_at_call 18; (with_reducible refine (rtable_any _).mono ?_); rintro e w' ⟨rfl, rfl⟩) | (go_at_call 19; (with_reducible refine (rnorm_any _ _).mono ?_); rintro e w' ⟨rfl, rfl⟩))
  go_quiet (fail)
  go_wp2
  go_quiet (fail)
  go_wp2
  have b5 := cs_bd (n % 16384)
  have b6 := sn_bd (n % 16384)
  go_loop [7, 8, 52] (fun s c i => ∃ k : Nat, k ≤ n / 16384 ∧ i = .int .i64 k ∧ c = .int .i64 (tc (cs (n % 16384)) (sn (n % 16384)) k) ∧ s = .int .i64 (ts (cs (n % 16384)) (sn (n % 16384)) k)) (fun _ _ i => n / 16384 - (intOf i).toNat)
  case atStart =>
    refine ⟨0, Nat.zero_le _, rfl, ?_, ?_⟩
    · show _ = Value.int .i64 (cs (n % 16384) : Int)
      rw [hc.out, rem_256]
    · show _ = Value.int .i64 (sn (n % 16384) : Int)
      rw [hs.out, rem_256]
  case round =>
    obtain ⟨k, hk, rfl, rfl, rfl⟩ := hrel
    by_cases hlt : k < n / 16384
    · have b7 := ts_bd (cs (n % 16384)) (sn (n % 16384)) k b5 b6
      go_wp2
      go_round
      case rel => exact ⟨k + 1, by omega, by go_num, by rw [tc_succ _ _ _ (by omega)], by rw [ts_succ _ _ _ (by omega)]⟩
      case measure => simp [intOf]; omega
    · obtain rfl : k = n / 16384 := by omega
      go_wp2
      go_returns
      obtain ⟨e1, e2⟩ := bc_tc a n h hA.out
      exact ⟨ret_two' e1 e2, ((Bel.refl w).alloc _).drewN _⟩
theorem rboth_any (a : Int) (w0 w : World) (hb : Bel w0 w) : Calls Try.prog 13 #[.int .i64 a] w fun e w' => e = .returned (.tuple #[.int .i64 (bc a), .int .i64 (bs a)]) ∧ Bel w0 w' := by
  have hn := nrm_bd a
  exact on_bel hb (rboth_nat a (nrm a).toNat (by omega) (by omega) w)
end Go.Proofs.Yteplclbjiaamlaa
