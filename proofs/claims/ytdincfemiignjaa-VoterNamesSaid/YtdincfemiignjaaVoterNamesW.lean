/- The walk of the law VoterNames. -/
import Derived.Test.YtdincfemiignjaaVotA
import Derived.Test.YtdincfemiignjaaVotY
import Derived.Test.YtdincfemiignjaaVotI
import Derived.Test.YtdincfemiignjaaFlat
import Derived.Test.YtdincfemiignjaaTail
import Derived.Test.YtdincfemiignjaaRowN
import Derived.Test.YtdincfemiignjaaLtA
import Derived.Test.YtdincfemiignjaaLtB
namespace Go.Proofs.Ytdincfemiignjaa
open Go.RowKit
set_option linter.unusedVariables false
set_option linter.unusedSimpArgs false
attribute [local go_sem ↓] Go.wp_at_zero Go.wp_at_succ

set_option maxRecDepth 100000 in
set_option maxHeartbeats 8000000 in
theorem names0 (a0x0 a0x1 a0x2 a0x3 a0x4 a0x5 a0x6 : Int) (a1 : Option Addr) (len1 cap1 : Nat) (D1 : Nat → List Value) (a2 : Int) (w : World) (w0x0 : (Lit.int .i64 a0x0).wf = true) (w0x1 : (Lit.int .i64 a0x1).wf = true) (w0x2 : (Lit.int .i64 a0x2).wf = true) (w0x3 : (Lit.int .i64 a0x3).wf = true) (w0x4 : (Lit.int .i64 a0x4).wf = true) (w0x5 : (Lit.int .i64 a0x5).wf = true) (w0x6 : (Lit.int .i64 a0x6).wf = true) (r1 : IsRows [some .i64, some .i64, some .i64, some .i64, none, none, none] w a1 len1 cap1 D1) (w2 : (Lit.int .u8 a2).wf = true) (hj : a2 % 3 = 0) :
    Calls Try.prog 4 #[.agg #[.int .i64 a0x0, .int .i64 a0x1, .int .i64 a0x2, .int .i64 a0x3, .int .i64 a0x4, .int .i64 a0x5, .int .i64 a0x6], .slice a1 len1 cap1, .int .u8 a2] w fun e w' => e = .returned (.bool true) ∧ Below w.heap.size w w' := by
  have hw2 : 0 ≤ a2 ∧ a2 ≤ 255 := by simpa [Lit.wf, IntKind.min, IntKind.max, IntKind.signed, IntKind.bits] using w2
  have hj2 : Int.tmod a2 3 = 0 := by rw [Int.tmod_eq_emod_of_nonneg hw2.1]; exact hj
  clear w0x0 w0x1 w0x2 w0x3 w0x4 w0x5 w0x6 w2
  obtain ⟨hl, hm⟩ := rows_nil r1
  unfold maxLen at hm
  have hR := hide r1
  clear r1
  obtain ⟨M, hM⟩ : ∃ M : Int, (if a0x6 < 30 then a0x6 else 30) = M := ⟨_, rfl⟩
  have hM30 : M ≤ 30 := by rw [← hM]; split <;> omega
  have mq : ∀ (ts : Array TypeId) (t : TypeId) (w : World), (Builtin.min_ ts t #[.int .i64 a0x6, .int .i64 30]).run Try.prog w = .ok (.int .i64 M) w := fun ts t w => by
    rw [← hM]; simp [Builtin.min_, Builtin.min2] <;> (repeat' split) <;> omega
  clear hM
  have KD := rcheck_any a0x0 a0x1 a0x2 a0x3 a0x4 a0x5 M
  by_cases hco : vcode a0x0 a0x1 a0x2 a0x3 a0x4 a0x5 M = 0
  rotate_left
  · generalize vcode a0x0 a0x1 a0x2 a0x3 a0x4 a0x5 M = c at *
    have hc1 : (c == 0) = false := by simpa using hco
    have hc2 : (c != 0) = true := by simpa using hco
    clear hco hj
    go_enter Try.func4, Try.ntmps4
    go_wp2_with (first | (go_at_call 15; (with_reducible refine (KD _).mono ?_); rintro e w' ⟨rfl, os0, n0, rfl⟩) | (go_at_call 8; (with_reducible refine (awake_true _ _ (Gar.refl _)).mono ?_); rintro e w' ⟨rfl, os1, n1, rfl⟩))
    go_returns
    exact ⟨rfl, show Bel _ _ from Gar.bel (by repeat (first | exact Gar.refl _ | refine Gar.drewN ?_ _ | refine Gar.drew ?_ | refine Gar.alloc ?_ _ | refine Gar.allocs ?_ _))⟩
  rw [hco] at KD
  by_cases hl0 : len1 = 0
  · subst hl0
    clear hco hj
    go_enter Try.func4, Try.ntmps4
    go_wp2_with (first | (go_at_call 15; (with_reducible refine (KD _).mono ?_); rintro e w' ⟨rfl, os0, n0, rfl⟩) | (go_at_call 8; (with_reducible refine (awake_true _ _ (Gar.refl _)).mono ?_); rintro e w' ⟨rfl, os1, n1, rfl⟩))
    go_returns
    exact ⟨rfl, show Bel _ _ from Gar.bel (by repeat (first | exact Gar.refl _ | refine Gar.drewN ?_ _ | refine Gar.drew ?_ | refine Gar.alloc ?_ _ | refine Gar.allocs ?_ _))⟩
  have hlp : 0 < len1 := by omega
  have hz1 : ((len1 : Int) == 0) = false := by simp; omega
  have hz2 : (len1 == 0) = false := by simp; omega
  have hz3 : decide (len1 = 0) = false := decide_eq_false hl0
  by_cases hl6 : 60 < len1
  · have hd6 : decide ((60 : Int) < (len1 : Int)) = true := decide_eq_true (by omega)
    clear hco hj
    go_enter Try.func4, Try.ntmps4
    go_wp2_with (first | (go_at_call 15; (with_reducible refine (KD _).mono ?_); rintro e w' ⟨rfl, os0, n0, rfl⟩) | (go_at_call 8; (with_reducible refine (awake_true _ _ (Gar.refl _)).mono ?_); rintro e w' ⟨rfl, os1, n1, rfl⟩))
    go_returns
    exact ⟨rfl, show Bel _ _ from Gar.bel (by repeat (first | exact Gar.refl _ | refine Gar.drewN ?_ _ | refine Gar.drew ?_ | refine Gar.alloc ?_ _ | refine Gar.allocs ?_ _))⟩
  have hd6 : decide ((60 : Int) < (len1 : Int)) = false := decide_eq_false (by omega)
  have he := (vcode_in hco).1
  have hn := (vcode_in hco).2.1
  go_enter Try.func4, Try.ntmps4
  go_wp2_with (first | (go_at_call 15; (with_reducible refine (KD _).mono ?_); rintro e w' ⟨rfl, os0, n0, rfl⟩) | (go_at_call 8; (with_reducible refine (awake_true _ _ (Gar.refl _)).mono ?_); rintro e w' ⟨rfl, os1, n1, rfl⟩))
  clear mq hj hj2
  go_loopw [9, 47] (fun r i wr => ∃ (k : Nat) (run s0 s1 s2 sp : Int) (m : Bool), r = .int .i64 run ∧ i = .int .i64 k ∧ (k : Int) ≤ M + 5 ∧ Gar ((allocs (allocs (w.alloc (.cells #[.int .i64 a0x0, .int .i64 a0x1, .int .i64 a0x2, .int .i64 a0x3, .int .i64 a0x4, .int .i64 a0x5, .int .i64 M] 24)) os0) os1).alloc (.cells #[.int .i64 s0, .int .i64 s1, .int .i64 s2, .bool m, .bool false, .bool false, .int .i64 sp] 27)) wr ∧ (0 ≤ run ∧ run ≤ k) ∧ NmI run M s0 m) (fun _ i _ => (M + 5).toNat - (intOf i).toNat)
  case atStart => exact ⟨0, 0, 0, 0, 0, 0, false, rfl, rfl, by omega, by repeat (first | exact Gar.refl _ | refine Gar.drewN ?_ _ | refine Gar.drew ?_ | refine Gar.alloc ?_ _ | refine Gar.allocs ?_ _), by omega, NmI.start hn.1⟩
  case round =>
    obtain ⟨k, run, s0, s1, s2, sp, m, rfl, rfl, hk, ⟨os, n1, rfl⟩, hrun, hI0⟩ := hrel
    have hI := hide hI0
    clear hI0
    by_cases hlt : (k : Int) < M + 5
    · obtain ⟨b, off, rfl, hrow⟩ := rows_scene hR.out (by omega)
      have hjl : k % len1 < len1 := Nat.mod_lt _ hlp
      have hidx : Int.tmod (k : Int) (len1 : Int) = ((k % len1 : Nat) : Int) := by rw [Int.tmod_eq_emod_of_nonneg (by omega)]; omega
      obtain ⟨d0, d1, d2, d3, d4, d5, d6, w0, w1, w2, w3, w4, w5, w6⟩ := hrow (k % len1) hjl
      clear hrow hR
      generalize k % len1 = j at *
      have hbb := World.block_lt_of_cell? w _ w0
      obtain ⟨l1, l2, l3, l4, l5, l6, l7, l8⟩ := lt_all hbb
      obtain ⟨l9, l10, l11, l12, l13, l14, l15, l16⟩ := lt_more hbb
      have j1 : (0 : Int) ≤ (j : Int) := by omega
      have j2 : (j : Int) < (len1 : Int) := by omega
      have j3 : (j : Int) < (cap1 : Int) := by omega
      have KI := fun w => input_0 d0 d1 d2 d3 true true true a0x0 a0x1 a0x2 a0x3 a0x4 a0x5 M he w w (Gar.refl _)
      obtain ⟨Q0, hQ0⟩ : ∃ q, Int.tmod d0 65536 + inO true d1 a0x0 = q := ⟨_, rfl⟩
      obtain ⟨Q1, hQ1⟩ : ∃ q, Int.tmod d0 65536 + inO false d2 a0x1 = q := ⟨_, rfl⟩
      obtain ⟨Q2, hQ2⟩ : ∃ q, Int.tmod d0 65536 + inO false d3 a0x2 = q := ⟨_, rfl⟩
      have dd1 : dst Q1 d0 ≤ a0x1 := by rw [← hQ1]; exact near (inO_ok he.2.1) he.2.1
      have dd2 : dst Q2 d0 ≤ a0x2 := by rw [← hQ2]; exact near (inO_ok he.2.2) he.2.2
      rw [hQ0, hQ1, hQ2] at KI
      clear hQ0 hQ1 hQ2
      obtain ⟨u0, u1, u2, g01, g02, g12, ct, c0, c1, c2, cs, E0, E1, E2, ci, cw, hv⟩ := VS.ex a0x0 a0x1 a0x2 a0x3 a0x4 a0x5 M s0 s1 s2 m false false sp Q0 Q1 Q2 true true true
      have K1 := fun w => vstep_ok a0x0 a0x1 a0x2 a0x3 a0x4 a0x5 M s0 s1 s2 m false false sp Q0 Q1 Q2 true true true u0 u1 u2 g01 g02 g12 ct c0 c1 c2 cs E0 E1 E2 ci cw hv hco w w (Gar.refl _)
      obtain ⟨F1, hF1⟩ : ∃ F, decide (a0x0 + a0x1 < dst Q0 Q1) = F := ⟨_, rfl⟩
      obtain ⟨F2, hF2⟩ : ∃ F, decide (a0x0 + a0x2 < dst Q0 Q2) = F := ⟨_, rfl⟩
      obtain ⟨hN, hEj, hEk, hci⟩ := named0 (t := d0) hv hco rfl rfl dd1 dd2 hF1 hF2 hI.out
      subst hEj
      subst hEk
      have hfl := hide hN.flag
      have hNx := hide hN
      have hC := hide hci
      clear hN hci hv hco dd1 dd2 hI
      have T1 := dist_any Q0 Q1
      have T2 := dist_any Q0 Q2
      generalize dst Q0 Q1 = D1 at *
      generalize dst Q0 Q2 = D2 at *
      have sA : IntKind.i64.wrap (a0x0 + a0x1) = a0x0 + a0x1 := IntWalk.i64_in _ (by omega)
      have sB : IntKind.i64.wrap (a0x0 + a0x2) = a0x0 + a0x2 := IntWalk.i64_in _ (by omega)
      obtain ⟨AX, hAX⟩ : ∃ x, (if cw = 0 then 0 else vang ci Q0 Q1 Q2) = x := ⟨_, rfl⟩
      obtain ⟨AY, hAY⟩ : ∃ x, decide (cw = 3) = x := ⟨_, rfl⟩
      obtain ⟨AF, hAF⟩ : ∃ x, decide (cw = 0) = x := ⟨_, rfl⟩
      rw [hAX, hAY, hAF] at K1
      clear hAX hAY hAF
      have HB := hide (And.intro hbb hrun)
      obtain ⟨RL, hRL⟩ : ∃ x, decide (run < M) = x := ⟨_, rfl⟩
      have bnr := nrun_bd (F1 := F1) (F2 := F2) (N := M) hrun
      go_wp2_with (first | (go_at_call 18; (with_reducible refine (KI _).mono ?_); rintro e w' ⟨rfl, os2, n2, rfl⟩))
      rcases b_ways F1 F2 with rfl | ⟨rfl, rfl⟩ | ⟨rfl, rfl⟩
      · go_quiet ((first | (go_at_call 19; (first | with_reducible exact quiet_eq2 (T1 _) | with_reducible exact quiet_eq (T1 _))) | (go_at_call 19; (first | with_reducible exact quiet_eq2 (T2 _) | with_reducible exact quiet_eq (T2 _)))))
        cases RL
        · have hnr : nrun false F2 run M = run := by unfold nrun; rw [if_neg (by simp), if_neg (of_decide_eq_false hRL)]
          rw [hnr] at hfl hNx bnr
          clear hnr
          have hfl2 : decide (M ≤ run) = E0 := hfl.out.symm
          cases m
          · go_wp2_with (first | (go_at_call 9; (with_reducible refine (K1 _).mono ?_); rintro e w' ⟨rfl, os3, n3, rfl⟩))
            go_quiet (fail)
            go_wp2_with (fail)
            go_roundw
            case rel => exact ⟨k + 1, run, _, _, _, _, _, rfl, by go_num, by omega, by repeat (first | exact Gar.refl _ | refine Gar.drewN ?_ _ | refine Gar.drew ?_ | refine Gar.alloc ?_ _ | refine Gar.allocs ?_ _), by omega, hNx.out⟩
            case measure => simp [intOf]; omega
          · have hcb : (ci == 0) = false := by simpa using hC.out rfl
            go_wp2_with (first | (go_at_call 9; (with_reducible refine (K1 _).mono ?_); rintro e w' ⟨rfl, os3, n3, rfl⟩))
            go_quiet (fail)
            go_wp2_with (fail)
            go_roundw
            case rel => exact ⟨k + 1, run, _, _, _, _, _, rfl, by go_num, by omega, by repeat (first | exact Gar.refl _ | refine Gar.drewN ?_ _ | refine Gar.drew ?_ | refine Gar.alloc ?_ _ | refine Gar.allocs ?_ _), by omega, hNx.out⟩
            case measure => simp [intOf]; omega
        · have hnr : nrun false F2 run M = 0 := by unfold nrun; rw [if_neg (by simp), if_pos (of_decide_eq_true hRL)]
          rw [hnr] at hfl hNx bnr
          clear hnr
          have hfl2 : decide (M ≤ 0) = E0 := hfl.out.symm
          cases m
          · go_wp2_with (first | (go_at_call 9; (with_reducible refine (K1 _).mono ?_); rintro e w' ⟨rfl, os3, n3, rfl⟩))
            go_quiet (fail)
            go_wp2_with (fail)
            go_roundw
            case rel => exact ⟨k + 1, 0, _, _, _, _, _, rfl, by go_num, by omega, by repeat (first | exact Gar.refl _ | refine Gar.drewN ?_ _ | refine Gar.drew ?_ | refine Gar.alloc ?_ _ | refine Gar.allocs ?_ _), by omega, hNx.out⟩
            case measure => simp [intOf]; omega
          · have hcb : (ci == 0) = false := by simpa using hC.out rfl
            go_wp2_with (first | (go_at_call 9; (with_reducible refine (K1 _).mono ?_); rintro e w' ⟨rfl, os3, n3, rfl⟩))
            go_quiet (fail)
            go_wp2_with (fail)
            go_roundw
            case rel => exact ⟨k + 1, 0, _, _, _, _, _, rfl, by go_num, by omega, by repeat (first | exact Gar.refl _ | refine Gar.drewN ?_ _ | refine Gar.drew ?_ | refine Gar.alloc ?_ _ | refine Gar.allocs ?_ _), by omega, hNx.out⟩
            case measure => simp [intOf]; omega
      · go_quiet ((first | (go_at_call 19; (first | with_reducible exact quiet_eq2 (T1 _) | with_reducible exact quiet_eq (T1 _))) | (go_at_call 19; (first | with_reducible exact quiet_eq2 (T2 _) | with_reducible exact quiet_eq (T2 _)))))
        cases RL
        · have hnr : nrun true false run M = run := by unfold nrun; rw [if_neg (by simp), if_neg (of_decide_eq_false hRL)]
          rw [hnr] at hfl hNx bnr
          clear hnr
          have hfl2 : decide (M ≤ run) = E0 := hfl.out.symm
          cases m
          · go_wp2_with (first | (go_at_call 9; (with_reducible refine (K1 _).mono ?_); rintro e w' ⟨rfl, os3, n3, rfl⟩))
            go_quiet (fail)
            go_wp2_with (fail)
            go_roundw
            case rel => exact ⟨k + 1, run, _, _, _, _, _, rfl, by go_num, by omega, by repeat (first | exact Gar.refl _ | refine Gar.drewN ?_ _ | refine Gar.drew ?_ | refine Gar.alloc ?_ _ | refine Gar.allocs ?_ _), by omega, hNx.out⟩
            case measure => simp [intOf]; omega
          · have hcb : (ci == 0) = false := by simpa using hC.out rfl
            go_wp2_with (first | (go_at_call 9; (with_reducible refine (K1 _).mono ?_); rintro e w' ⟨rfl, os3, n3, rfl⟩))
            go_quiet (fail)
            go_wp2_with (fail)
            go_roundw
            case rel => exact ⟨k + 1, run, _, _, _, _, _, rfl, by go_num, by omega, by repeat (first | exact Gar.refl _ | refine Gar.drewN ?_ _ | refine Gar.drew ?_ | refine Gar.alloc ?_ _ | refine Gar.allocs ?_ _), by omega, hNx.out⟩
            case measure => simp [intOf]; omega
        · have hnr : nrun true false run M = 0 := by unfold nrun; rw [if_neg (by simp), if_pos (of_decide_eq_true hRL)]
          rw [hnr] at hfl hNx bnr
          clear hnr
          have hfl2 : decide (M ≤ 0) = E0 := hfl.out.symm
          cases m
          · go_wp2_with (first | (go_at_call 9; (with_reducible refine (K1 _).mono ?_); rintro e w' ⟨rfl, os3, n3, rfl⟩))
            go_quiet (fail)
            go_wp2_with (fail)
            go_roundw
            case rel => exact ⟨k + 1, 0, _, _, _, _, _, rfl, by go_num, by omega, by repeat (first | exact Gar.refl _ | refine Gar.drewN ?_ _ | refine Gar.drew ?_ | refine Gar.alloc ?_ _ | refine Gar.allocs ?_ _), by omega, hNx.out⟩
            case measure => simp [intOf]; omega
          · have hcb : (ci == 0) = false := by simpa using hC.out rfl
            go_wp2_with (first | (go_at_call 9; (with_reducible refine (K1 _).mono ?_); rintro e w' ⟨rfl, os3, n3, rfl⟩))
            go_quiet (fail)
            go_wp2_with (fail)
            go_roundw
            case rel => exact ⟨k + 1, 0, _, _, _, _, _, rfl, by go_num, by omega, by repeat (first | exact Gar.refl _ | refine Gar.drewN ?_ _ | refine Gar.drew ?_ | refine Gar.alloc ?_ _ | refine Gar.allocs ?_ _), by omega, hNx.out⟩
            case measure => simp [intOf]; omega
      · go_quiet ((first | (go_at_call 19; (first | with_reducible exact quiet_eq2 (T1 _) | with_reducible exact quiet_eq (T1 _))) | (go_at_call 19; (first | with_reducible exact quiet_eq2 (T2 _) | with_reducible exact quiet_eq (T2 _)))))
        rw [show nrun true true run M = run + 1 from rfl] at hfl hNx bnr
        have hfl2 : decide (M ≤ (run + 1)) = E0 := hfl.out.symm
        cases m
        · go_wp2_with (first | (go_at_call 9; (with_reducible refine (K1 _).mono ?_); rintro e w' ⟨rfl, os3, n3, rfl⟩))
          go_quiet (fail)
          go_wp2_with (fail)
          go_roundw
          case rel => exact ⟨k + 1, (run + 1), _, _, _, _, _, rfl, by go_num, by omega, by repeat (first | exact Gar.refl _ | refine Gar.drewN ?_ _ | refine Gar.drew ?_ | refine Gar.alloc ?_ _ | refine Gar.allocs ?_ _), by omega, hNx.out⟩
          case measure => simp [intOf]; omega
        · have hcb : (ci == 0) = false := by simpa using hC.out rfl
          go_wp2_with (first | (go_at_call 9; (with_reducible refine (K1 _).mono ?_); rintro e w' ⟨rfl, os3, n3, rfl⟩))
          go_quiet (fail)
          go_wp2_with (fail)
          go_roundw
          case rel => exact ⟨k + 1, (run + 1), _, _, _, _, _, rfl, by go_num, by omega, by repeat (first | exact Gar.refl _ | refine Gar.drewN ?_ _ | refine Gar.drew ?_ | refine Gar.alloc ?_ _ | refine Gar.allocs ?_ _), by omega, hNx.out⟩
          case measure => simp [intOf]; omega
    · clear hR
      have KV := fun w => clear_any s0 s1 s2 m false false sp w w (Gar.refl _)
      have hfd : ∀ w : World, (Instr.field 27 (.agg #[.int .i64 0, .int .i64 0, .int .i64 0, .bool false, .bool false, .bool false, .int .i64 0]) 1).run Try.prog w = .ok (.agg #[.bool false, .bool false, .bool false]) w := fun _ => by kernel_rfl
      have hix : ∀ w : World, (Instr.index 25 (.agg #[.bool false, .bool false, .bool false]) (.int .i64 0)).run Try.prog w = .ok (.bool false) w := fun _ => by kernel_rfl
      go_wp2_with (first | (go_at_call 16; (with_reducible refine (KV _).mono ?_); rintro e w' ⟨rfl, os4, n4, rfl⟩))
      go_returns
      exact ⟨rfl, show Bel _ _ from Gar.bel (by repeat (first | exact Gar.refl _ | refine Gar.drewN ?_ _ | refine Gar.drew ?_ | refine Gar.alloc ?_ _ | refine Gar.allocs ?_ _))⟩
set_option maxRecDepth 100000 in
set_option maxHeartbeats 8000000 in
theorem names1 (a0x0 a0x1 a0x2 a0x3 a0x4 a0x5 a0x6 : Int) (a1 : Option Addr) (len1 cap1 : Nat) (D1 : Nat → List Value) (a2 : Int) (w : World) (w0x0 : (Lit.int .i64 a0x0).wf = true) (w0x1 : (Lit.int .i64 a0x1).wf = true) (w0x2 : (Lit.int .i64 a0x2).wf = true) (w0x3 : (Lit.int .i64 a0x3).wf = true) (w0x4 : (Lit.int .i64 a0x4).wf = true) (w0x5 : (Lit.int .i64 a0x5).wf = true) (w0x6 : (Lit.int .i64 a0x6).wf = true) (r1 : IsRows [some .i64, some .i64, some .i64, some .i64, none, none, none] w a1 len1 cap1 D1) (w2 : (Lit.int .u8 a2).wf = true) (hj : a2 % 3 = 1) :
    Calls Try.prog 4 #[.agg #[.int .i64 a0x0, .int .i64 a0x1, .int .i64 a0x2, .int .i64 a0x3, .int .i64 a0x4, .int .i64 a0x5, .int .i64 a0x6], .slice a1 len1 cap1, .int .u8 a2] w fun e w' => e = .returned (.bool true) ∧ Below w.heap.size w w' := by
  have hw2 : 0 ≤ a2 ∧ a2 ≤ 255 := by simpa [Lit.wf, IntKind.min, IntKind.max, IntKind.signed, IntKind.bits] using w2
  have hj2 : Int.tmod a2 3 = 1 := by rw [Int.tmod_eq_emod_of_nonneg hw2.1]; exact hj
  clear w0x0 w0x1 w0x2 w0x3 w0x4 w0x5 w0x6 w2
  obtain ⟨hl, hm⟩ := rows_nil r1
  unfold maxLen at hm
  have hR := hide r1
  clear r1
  obtain ⟨M, hM⟩ : ∃ M : Int, (if a0x6 < 30 then a0x6 else 30) = M := ⟨_, rfl⟩
  have hM30 : M ≤ 30 := by rw [← hM]; split <;> omega
  have mq : ∀ (ts : Array TypeId) (t : TypeId) (w : World), (Builtin.min_ ts t #[.int .i64 a0x6, .int .i64 30]).run Try.prog w = .ok (.int .i64 M) w := fun ts t w => by
    rw [← hM]; simp [Builtin.min_, Builtin.min2] <;> (repeat' split) <;> omega
  clear hM
  have KD := rcheck_any a0x0 a0x1 a0x2 a0x3 a0x4 a0x5 M
  by_cases hco : vcode a0x0 a0x1 a0x2 a0x3 a0x4 a0x5 M = 0
  rotate_left
  · generalize vcode a0x0 a0x1 a0x2 a0x3 a0x4 a0x5 M = c at *
    have hc1 : (c == 0) = false := by simpa using hco
    have hc2 : (c != 0) = true := by simpa using hco
    clear hco hj
    go_enter Try.func4, Try.ntmps4
    go_wp2_with (first | (go_at_call 15; (with_reducible refine (KD _).mono ?_); rintro e w' ⟨rfl, os0, n0, rfl⟩) | (go_at_call 8; (with_reducible refine (awake_true _ _ (Gar.refl _)).mono ?_); rintro e w' ⟨rfl, os1, n1, rfl⟩))
    go_returns
    exact ⟨rfl, show Bel _ _ from Gar.bel (by repeat (first | exact Gar.refl _ | refine Gar.drewN ?_ _ | refine Gar.drew ?_ | refine Gar.alloc ?_ _ | refine Gar.allocs ?_ _))⟩
  rw [hco] at KD
  by_cases hl0 : len1 = 0
  · subst hl0
    clear hco hj
    go_enter Try.func4, Try.ntmps4
    go_wp2_with (first | (go_at_call 15; (with_reducible refine (KD _).mono ?_); rintro e w' ⟨rfl, os0, n0, rfl⟩) | (go_at_call 8; (with_reducible refine (awake_true _ _ (Gar.refl _)).mono ?_); rintro e w' ⟨rfl, os1, n1, rfl⟩))
    go_returns
    exact ⟨rfl, show Bel _ _ from Gar.bel (by repeat (first | exact Gar.refl _ | refine Gar.drewN ?_ _ | refine Gar.drew ?_ | refine Gar.alloc ?_ _ | refine Gar.allocs ?_ _))⟩
  have hlp : 0 < len1 := by omega
  have hz1 : ((len1 : Int) == 0) = false := by simp; omega
  have hz2 : (len1 == 0) = false := by simp; omega
  have hz3 : decide (len1 = 0) = false := decide_eq_false hl0
  by_cases hl6 : 60 < len1
  · have hd6 : decide ((60 : Int) < (len1 : Int)) = true := decide_eq_true (by omega)
    clear hco hj
    go_enter Try.func4, Try.ntmps4
    go_wp2_with (first | (go_at_call 15; (with_reducible refine (KD _).mono ?_); rintro e w' ⟨rfl, os0, n0, rfl⟩) | (go_at_call 8; (with_reducible refine (awake_true _ _ (Gar.refl _)).mono ?_); rintro e w' ⟨rfl, os1, n1, rfl⟩))
    go_returns
    exact ⟨rfl, show Bel _ _ from Gar.bel (by repeat (first | exact Gar.refl _ | refine Gar.drewN ?_ _ | refine Gar.drew ?_ | refine Gar.alloc ?_ _ | refine Gar.allocs ?_ _))⟩
  have hd6 : decide ((60 : Int) < (len1 : Int)) = false := decide_eq_false (by omega)
  have he := (vcode_in hco).1
  have hn := (vcode_in hco).2.1
  go_enter Try.func4, Try.ntmps4
  go_wp2_with (first | (go_at_call 15; (with_reducible refine (KD _).mono ?_); rintro e w' ⟨rfl, os0, n0, rfl⟩) | (go_at_call 8; (with_reducible refine (awake_true _ _ (Gar.refl _)).mono ?_); rintro e w' ⟨rfl, os1, n1, rfl⟩))
  clear mq hj hj2
  go_loopw [9, 47] (fun r i wr => ∃ (k : Nat) (run s0 s1 s2 sp : Int) (m : Bool), r = .int .i64 run ∧ i = .int .i64 k ∧ (k : Int) ≤ M + 5 ∧ Gar ((allocs (allocs (w.alloc (.cells #[.int .i64 a0x0, .int .i64 a0x1, .int .i64 a0x2, .int .i64 a0x3, .int .i64 a0x4, .int .i64 a0x5, .int .i64 M] 24)) os0) os1).alloc (.cells #[.int .i64 s0, .int .i64 s1, .int .i64 s2, .bool false, .bool m, .bool false, .int .i64 sp] 27)) wr ∧ (0 ≤ run ∧ run ≤ k) ∧ NmI run M s1 m) (fun _ i _ => (M + 5).toNat - (intOf i).toNat)
  case atStart => exact ⟨0, 0, 0, 0, 0, 0, false, rfl, rfl, by omega, by repeat (first | exact Gar.refl _ | refine Gar.drewN ?_ _ | refine Gar.drew ?_ | refine Gar.alloc ?_ _ | refine Gar.allocs ?_ _), by omega, NmI.start hn.1⟩
  case round =>
    obtain ⟨k, run, s0, s1, s2, sp, m, rfl, rfl, hk, ⟨os, n1, rfl⟩, hrun, hI0⟩ := hrel
    have hI := hide hI0
    clear hI0
    by_cases hlt : (k : Int) < M + 5
    · obtain ⟨b, off, rfl, hrow⟩ := rows_scene hR.out (by omega)
      have hjl : k % len1 < len1 := Nat.mod_lt _ hlp
      have hidx : Int.tmod (k : Int) (len1 : Int) = ((k % len1 : Nat) : Int) := by rw [Int.tmod_eq_emod_of_nonneg (by omega)]; omega
      obtain ⟨d0, d1, d2, d3, d4, d5, d6, w0, w1, w2, w3, w4, w5, w6⟩ := hrow (k % len1) hjl
      clear hrow hR
      generalize k % len1 = j at *
      have hbb := World.block_lt_of_cell? w _ w0
      obtain ⟨l1, l2, l3, l4, l5, l6, l7, l8⟩ := lt_all hbb
      obtain ⟨l9, l10, l11, l12, l13, l14, l15, l16⟩ := lt_more hbb
      have j1 : (0 : Int) ≤ (j : Int) := by omega
      have j2 : (j : Int) < (len1 : Int) := by omega
      have j3 : (j : Int) < (cap1 : Int) := by omega
      have KI := fun w => input_1 d0 d1 d2 d3 true true true a0x0 a0x1 a0x2 a0x3 a0x4 a0x5 M he w w (Gar.refl _)
      obtain ⟨Q0, hQ0⟩ : ∃ q, Int.tmod d0 65536 + inO false d1 a0x0 = q := ⟨_, rfl⟩
      obtain ⟨Q1, hQ1⟩ : ∃ q, Int.tmod d0 65536 + inO true d2 a0x1 = q := ⟨_, rfl⟩
      obtain ⟨Q2, hQ2⟩ : ∃ q, Int.tmod d0 65536 + inO false d3 a0x2 = q := ⟨_, rfl⟩
      have dd2 : dst Q2 d0 ≤ a0x2 := by rw [← hQ2]; exact near (inO_ok he.2.2) he.2.2
      have dd0 : dst Q0 d0 ≤ a0x0 := by rw [← hQ0]; exact near (inO_ok he.1) he.1
      rw [hQ0, hQ1, hQ2] at KI
      clear hQ0 hQ1 hQ2
      obtain ⟨u0, u1, u2, g01, g02, g12, ct, c0, c1, c2, cs, E0, E1, E2, ci, cw, hv⟩ := VS.ex a0x0 a0x1 a0x2 a0x3 a0x4 a0x5 M s0 s1 s2 false m false sp Q0 Q1 Q2 true true true
      have K1 := fun w => vstep_ok a0x0 a0x1 a0x2 a0x3 a0x4 a0x5 M s0 s1 s2 false m false sp Q0 Q1 Q2 true true true u0 u1 u2 g01 g02 g12 ct c0 c1 c2 cs E0 E1 E2 ci cw hv hco w w (Gar.refl _)
      obtain ⟨F1, hF1⟩ : ∃ F, decide (a0x1 + a0x2 < dst Q1 Q2) = F := ⟨_, rfl⟩
      obtain ⟨F2, hF2⟩ : ∃ F, decide (a0x1 + a0x0 < dst Q1 Q0) = F := ⟨_, rfl⟩
      obtain ⟨hN, hEj, hEk, hci⟩ := named1 (t := d0) hv hco rfl rfl dd2 dd0 hF1 hF2 hI.out
      subst hEj
      subst hEk
      have hfl := hide hN.flag
      have hNx := hide hN
      have hC := hide hci
      clear hN hci hv hco dd2 dd0 hI
      have T1 := dist_any Q1 Q2
      have T2 := dist_any Q1 Q0
      generalize dst Q1 Q2 = D1 at *
      generalize dst Q1 Q0 = D2 at *
      have sA : IntKind.i64.wrap (a0x1 + a0x2) = a0x1 + a0x2 := IntWalk.i64_in _ (by omega)
      have sB : IntKind.i64.wrap (a0x1 + a0x0) = a0x1 + a0x0 := IntWalk.i64_in _ (by omega)
      obtain ⟨AX, hAX⟩ : ∃ x, (if cw = 0 then 0 else vang ci Q0 Q1 Q2) = x := ⟨_, rfl⟩
      obtain ⟨AY, hAY⟩ : ∃ x, decide (cw = 3) = x := ⟨_, rfl⟩
      obtain ⟨AF, hAF⟩ : ∃ x, decide (cw = 0) = x := ⟨_, rfl⟩
      rw [hAX, hAY, hAF] at K1
      clear hAX hAY hAF
      have HB := hide (And.intro hbb hrun)
      obtain ⟨RL, hRL⟩ : ∃ x, decide (run < M) = x := ⟨_, rfl⟩
      have bnr := nrun_bd (F1 := F1) (F2 := F2) (N := M) hrun
      go_wp2_with (first | (go_at_call 18; (with_reducible refine (KI _).mono ?_); rintro e w' ⟨rfl, os2, n2, rfl⟩))
      rcases b_ways F1 F2 with rfl | ⟨rfl, rfl⟩ | ⟨rfl, rfl⟩
      · go_quiet ((first | (go_at_call 19; (first | with_reducible exact quiet_eq2 (T1 _) | with_reducible exact quiet_eq (T1 _))) | (go_at_call 19; (first | with_reducible exact quiet_eq2 (T2 _) | with_reducible exact quiet_eq (T2 _)))))
        cases RL
        · have hnr : nrun false F2 run M = run := by unfold nrun; rw [if_neg (by simp), if_neg (of_decide_eq_false hRL)]
          rw [hnr] at hfl hNx bnr
          clear hnr
          have hfl2 : decide (M ≤ run) = E1 := hfl.out.symm
          cases m
          · go_wp2_with (first | (go_at_call 9; (with_reducible refine (K1 _).mono ?_); rintro e w' ⟨rfl, os3, n3, rfl⟩))
            go_quiet (fail)
            go_wp2_with (fail)
            go_roundw
            case rel => exact ⟨k + 1, run, _, _, _, _, _, rfl, by go_num, by omega, by repeat (first | exact Gar.refl _ | refine Gar.drewN ?_ _ | refine Gar.drew ?_ | refine Gar.alloc ?_ _ | refine Gar.allocs ?_ _), by omega, hNx.out⟩
            case measure => simp [intOf]; omega
          · have hcb : (ci == 1) = false := by simpa using hC.out rfl
            go_wp2_with (first | (go_at_call 9; (with_reducible refine (K1 _).mono ?_); rintro e w' ⟨rfl, os3, n3, rfl⟩))
            go_quiet (fail)
            go_wp2_with (fail)
            go_roundw
            case rel => exact ⟨k + 1, run, _, _, _, _, _, rfl, by go_num, by omega, by repeat (first | exact Gar.refl _ | refine Gar.drewN ?_ _ | refine Gar.drew ?_ | refine Gar.alloc ?_ _ | refine Gar.allocs ?_ _), by omega, hNx.out⟩
            case measure => simp [intOf]; omega
        · have hnr : nrun false F2 run M = 0 := by unfold nrun; rw [if_neg (by simp), if_pos (of_decide_eq_true hRL)]
          rw [hnr] at hfl hNx bnr
          clear hnr
          have hfl2 : decide (M ≤ 0) = E1 := hfl.out.symm
          cases m
          · go_wp2_with (first | (go_at_call 9; (with_reducible refine (K1 _).mono ?_); rintro e w' ⟨rfl, os3, n3, rfl⟩))
            go_quiet (fail)
            go_wp2_with (fail)
            go_roundw
            case rel => exact ⟨k + 1, 0, _, _, _, _, _, rfl, by go_num, by omega, by repeat (first | exact Gar.refl _ | refine Gar.drewN ?_ _ | refine Gar.drew ?_ | refine Gar.alloc ?_ _ | refine Gar.allocs ?_ _), by omega, hNx.out⟩
            case measure => simp [intOf]; omega
          · have hcb : (ci == 1) = false := by simpa using hC.out rfl
            go_wp2_with (first | (go_at_call 9; (with_reducible refine (K1 _).mono ?_); rintro e w' ⟨rfl, os3, n3, rfl⟩))
            go_quiet (fail)
            go_wp2_with (fail)
            go_roundw
            case rel => exact ⟨k + 1, 0, _, _, _, _, _, rfl, by go_num, by omega, by repeat (first | exact Gar.refl _ | refine Gar.drewN ?_ _ | refine Gar.drew ?_ | refine Gar.alloc ?_ _ | refine Gar.allocs ?_ _), by omega, hNx.out⟩
            case measure => simp [intOf]; omega
      · go_quiet ((first | (go_at_call 19; (first | with_reducible exact quiet_eq2 (T1 _) | with_reducible exact quiet_eq (T1 _))) | (go_at_call 19; (first | with_reducible exact quiet_eq2 (T2 _) | with_reducible exact quiet_eq (T2 _)))))
        cases RL
        · have hnr : nrun true false run M = run := by unfold nrun; rw [if_neg (by simp), if_neg (of_decide_eq_false hRL)]
          rw [hnr] at hfl hNx bnr
          clear hnr
          have hfl2 : decide (M ≤ run) = E1 := hfl.out.symm
          cases m
          · go_wp2_with (first | (go_at_call 9; (with_reducible refine (K1 _).mono ?_); rintro e w' ⟨rfl, os3, n3, rfl⟩))
            go_quiet (fail)
            go_wp2_with (fail)
            go_roundw
            case rel => exact ⟨k + 1, run, _, _, _, _, _, rfl, by go_num, by omega, by repeat (first | exact Gar.refl _ | refine Gar.drewN ?_ _ | refine Gar.drew ?_ | refine Gar.alloc ?_ _ | refine Gar.allocs ?_ _), by omega, hNx.out⟩
            case measure => simp [intOf]; omega
          · have hcb : (ci == 1) = false := by simpa using hC.out rfl
            go_wp2_with (first | (go_at_call 9; (with_reducible refine (K1 _).mono ?_); rintro e w' ⟨rfl, os3, n3, rfl⟩))
            go_quiet (fail)
            go_wp2_with (fail)
            go_roundw
            case rel => exact ⟨k + 1, run, _, _, _, _, _, rfl, by go_num, by omega, by repeat (first | exact Gar.refl _ | refine Gar.drewN ?_ _ | refine Gar.drew ?_ | refine Gar.alloc ?_ _ | refine Gar.allocs ?_ _), by omega, hNx.out⟩
            case measure => simp [intOf]; omega
        · have hnr : nrun true false run M = 0 := by unfold nrun; rw [if_neg (by simp), if_pos (of_decide_eq_true hRL)]
          rw [hnr] at hfl hNx bnr
          clear hnr
          have hfl2 : decide (M ≤ 0) = E1 := hfl.out.symm
          cases m
          · go_wp2_with (first | (go_at_call 9; (with_reducible refine (K1 _).mono ?_); rintro e w' ⟨rfl, os3, n3, rfl⟩))
            go_quiet (fail)
            go_wp2_with (fail)
            go_roundw
            case rel => exact ⟨k + 1, 0, _, _, _, _, _, rfl, by go_num, by omega, by repeat (first | exact Gar.refl _ | refine Gar.drewN ?_ _ | refine Gar.drew ?_ | refine Gar.alloc ?_ _ | refine Gar.allocs ?_ _), by omega, hNx.out⟩
            case measure => simp [intOf]; omega
          · have hcb : (ci == 1) = false := by simpa using hC.out rfl
            go_wp2_with (first | (go_at_call 9; (with_reducible refine (K1 _).mono ?_); rintro e w' ⟨rfl, os3, n3, rfl⟩))
            go_quiet (fail)
            go_wp2_with (fail)
            go_roundw
            case rel => exact ⟨k + 1, 0, _, _, _, _, _, rfl, by go_num, by omega, by repeat (first | exact Gar.refl _ | refine Gar.drewN ?_ _ | refine Gar.drew ?_ | refine Gar.alloc ?_ _ | refine Gar.allocs ?_ _), by omega, hNx.out⟩
            case measure => simp [intOf]; omega
      · go_quiet ((first | (go_at_call 19; (first | with_reducible exact quiet_eq2 (T1 _) | with_reducible exact quiet_eq (T1 _))) | (go_at_call 19; (first | with_reducible exact quiet_eq2 (T2 _) | with_reducible exact quiet_eq (T2 _)))))
        rw [show nrun true true run M = run + 1 from rfl] at hfl hNx bnr
        have hfl2 : decide (M ≤ (run + 1)) = E1 := hfl.out.symm
        cases m
        · go_wp2_with (first | (go_at_call 9; (with_reducible refine (K1 _).mono ?_); rintro e w' ⟨rfl, os3, n3, rfl⟩))
          go_quiet (fail)
          go_wp2_with (fail)
          go_roundw
          case rel => exact ⟨k + 1, (run + 1), _, _, _, _, _, rfl, by go_num, by omega, by repeat (first | exact Gar.refl _ | refine Gar.drewN ?_ _ | refine Gar.drew ?_ | refine Gar.alloc ?_ _ | refine Gar.allocs ?_ _), by omega, hNx.out⟩
          case measure => simp [intOf]; omega
        · have hcb : (ci == 1) = false := by simpa using hC.out rfl
          go_wp2_with (first | (go_at_call 9; (with_reducible refine (K1 _).mono ?_); rintro e w' ⟨rfl, os3, n3, rfl⟩))
          go_quiet (fail)
          go_wp2_with (fail)
          go_roundw
          case rel => exact ⟨k + 1, (run + 1), _, _, _, _, _, rfl, by go_num, by omega, by repeat (first | exact Gar.refl _ | refine Gar.drewN ?_ _ | refine Gar.drew ?_ | refine Gar.alloc ?_ _ | refine Gar.allocs ?_ _), by omega, hNx.out⟩
          case measure => simp [intOf]; omega
    · clear hR
      have KV := fun w => clear_any s0 s1 s2 false m false sp w w (Gar.refl _)
      have hfd : ∀ w : World, (Instr.field 27 (.agg #[.int .i64 0, .int .i64 0, .int .i64 0, .bool false, .bool false, .bool false, .int .i64 0]) 1).run Try.prog w = .ok (.agg #[.bool false, .bool false, .bool false]) w := fun _ => by kernel_rfl
      have hix : ∀ w : World, (Instr.index 25 (.agg #[.bool false, .bool false, .bool false]) (.int .i64 1)).run Try.prog w = .ok (.bool false) w := fun _ => by kernel_rfl
      go_wp2_with (first | (go_at_call 16; (with_reducible refine (KV _).mono ?_); rintro e w' ⟨rfl, os4, n4, rfl⟩))
      go_returns
      exact ⟨rfl, show Bel _ _ from Gar.bel (by repeat (first | exact Gar.refl _ | refine Gar.drewN ?_ _ | refine Gar.drew ?_ | refine Gar.alloc ?_ _ | refine Gar.allocs ?_ _))⟩
set_option maxRecDepth 100000 in
set_option maxHeartbeats 8000000 in
theorem names2 (a0x0 a0x1 a0x2 a0x3 a0x4 a0x5 a0x6 : Int) (a1 : Option Addr) (len1 cap1 : Nat) (D1 : Nat → List Value) (a2 : Int) (w : World) (w0x0 : (Lit.int .i64 a0x0).wf = true) (w0x1 : (Lit.int .i64 a0x1).wf = true) (w0x2 : (Lit.int .i64 a0x2).wf = true) (w0x3 : (Lit.int .i64 a0x3).wf = true) (w0x4 : (Lit.int .i64 a0x4).wf = true) (w0x5 : (Lit.int .i64 a0x5).wf = true) (w0x6 : (Lit.int .i64 a0x6).wf = true) (r1 : IsRows [some .i64, some .i64, some .i64, some .i64, none, none, none] w a1 len1 cap1 D1) (w2 : (Lit.int .u8 a2).wf = true) (hj : a2 % 3 = 2) :
    Calls Try.prog 4 #[.agg #[.int .i64 a0x0, .int .i64 a0x1, .int .i64 a0x2, .int .i64 a0x3, .int .i64 a0x4, .int .i64 a0x5, .int .i64 a0x6], .slice a1 len1 cap1, .int .u8 a2] w fun e w' => e = .returned (.bool true) ∧ Below w.heap.size w w' := by
  have hw2 : 0 ≤ a2 ∧ a2 ≤ 255 := by simpa [Lit.wf, IntKind.min, IntKind.max, IntKind.signed, IntKind.bits] using w2
  have hj2 : Int.tmod a2 3 = 2 := by rw [Int.tmod_eq_emod_of_nonneg hw2.1]; exact hj
  clear w0x0 w0x1 w0x2 w0x3 w0x4 w0x5 w0x6 w2
  obtain ⟨hl, hm⟩ := rows_nil r1
  unfold maxLen at hm
  have hR := hide r1
  clear r1
  obtain ⟨M, hM⟩ : ∃ M : Int, (if a0x6 < 30 then a0x6 else 30) = M := ⟨_, rfl⟩
  have hM30 : M ≤ 30 := by rw [← hM]; split <;> omega
  have mq : ∀ (ts : Array TypeId) (t : TypeId) (w : World), (Builtin.min_ ts t #[.int .i64 a0x6, .int .i64 30]).run Try.prog w = .ok (.int .i64 M) w := fun ts t w => by
    rw [← hM]; simp [Builtin.min_, Builtin.min2] <;> (repeat' split) <;> omega
  clear hM
  have KD := rcheck_any a0x0 a0x1 a0x2 a0x3 a0x4 a0x5 M
  by_cases hco : vcode a0x0 a0x1 a0x2 a0x3 a0x4 a0x5 M = 0
  rotate_left
  · generalize vcode a0x0 a0x1 a0x2 a0x3 a0x4 a0x5 M = c at *
    have hc1 : (c == 0) = false := by simpa using hco
    have hc2 : (c != 0) = true := by simpa using hco
    clear hco hj
    go_enter Try.func4, Try.ntmps4
    go_wp2_with (first | (go_at_call 15; (with_reducible refine (KD _).mono ?_); rintro e w' ⟨rfl, os0, n0, rfl⟩) | (go_at_call 8; (with_reducible refine (awake_true _ _ (Gar.refl _)).mono ?_); rintro e w' ⟨rfl, os1, n1, rfl⟩))
    go_returns
    exact ⟨rfl, show Bel _ _ from Gar.bel (by repeat (first | exact Gar.refl _ | refine Gar.drewN ?_ _ | refine Gar.drew ?_ | refine Gar.alloc ?_ _ | refine Gar.allocs ?_ _))⟩
  rw [hco] at KD
  by_cases hl0 : len1 = 0
  · subst hl0
    clear hco hj
    go_enter Try.func4, Try.ntmps4
    go_wp2_with (first | (go_at_call 15; (with_reducible refine (KD _).mono ?_); rintro e w' ⟨rfl, os0, n0, rfl⟩) | (go_at_call 8; (with_reducible refine (awake_true _ _ (Gar.refl _)).mono ?_); rintro e w' ⟨rfl, os1, n1, rfl⟩))
    go_returns
    exact ⟨rfl, show Bel _ _ from Gar.bel (by repeat (first | exact Gar.refl _ | refine Gar.drewN ?_ _ | refine Gar.drew ?_ | refine Gar.alloc ?_ _ | refine Gar.allocs ?_ _))⟩
  have hlp : 0 < len1 := by omega
  have hz1 : ((len1 : Int) == 0) = false := by simp; omega
  have hz2 : (len1 == 0) = false := by simp; omega
  have hz3 : decide (len1 = 0) = false := decide_eq_false hl0
  by_cases hl6 : 60 < len1
  · have hd6 : decide ((60 : Int) < (len1 : Int)) = true := decide_eq_true (by omega)
    clear hco hj
    go_enter Try.func4, Try.ntmps4
    go_wp2_with (first | (go_at_call 15; (with_reducible refine (KD _).mono ?_); rintro e w' ⟨rfl, os0, n0, rfl⟩) | (go_at_call 8; (with_reducible refine (awake_true _ _ (Gar.refl _)).mono ?_); rintro e w' ⟨rfl, os1, n1, rfl⟩))
    go_returns
    exact ⟨rfl, show Bel _ _ from Gar.bel (by repeat (first | exact Gar.refl _ | refine Gar.drewN ?_ _ | refine Gar.drew ?_ | refine Gar.alloc ?_ _ | refine Gar.allocs ?_ _))⟩
  have hd6 : decide ((60 : Int) < (len1 : Int)) = false := decide_eq_false (by omega)
  have he := (vcode_in hco).1
  have hn := (vcode_in hco).2.1
  go_enter Try.func4, Try.ntmps4
  go_wp2_with (first | (go_at_call 15; (with_reducible refine (KD _).mono ?_); rintro e w' ⟨rfl, os0, n0, rfl⟩) | (go_at_call 8; (with_reducible refine (awake_true _ _ (Gar.refl _)).mono ?_); rintro e w' ⟨rfl, os1, n1, rfl⟩))
  clear mq hj hj2
  go_loopw [9, 47] (fun r i wr => ∃ (k : Nat) (run s0 s1 s2 sp : Int) (m : Bool), r = .int .i64 run ∧ i = .int .i64 k ∧ (k : Int) ≤ M + 5 ∧ Gar ((allocs (allocs (w.alloc (.cells #[.int .i64 a0x0, .int .i64 a0x1, .int .i64 a0x2, .int .i64 a0x3, .int .i64 a0x4, .int .i64 a0x5, .int .i64 M] 24)) os0) os1).alloc (.cells #[.int .i64 s0, .int .i64 s1, .int .i64 s2, .bool false, .bool false, .bool m, .int .i64 sp] 27)) wr ∧ (0 ≤ run ∧ run ≤ k) ∧ NmI run M s2 m) (fun _ i _ => (M + 5).toNat - (intOf i).toNat)
  case atStart => exact ⟨0, 0, 0, 0, 0, 0, false, rfl, rfl, by omega, by repeat (first | exact Gar.refl _ | refine Gar.drewN ?_ _ | refine Gar.drew ?_ | refine Gar.alloc ?_ _ | refine Gar.allocs ?_ _), by omega, NmI.start hn.1⟩
  case round =>
    obtain ⟨k, run, s0, s1, s2, sp, m, rfl, rfl, hk, ⟨os, n1, rfl⟩, hrun, hI0⟩ := hrel
    have hI := hide hI0
    clear hI0
    by_cases hlt : (k : Int) < M + 5
    · obtain ⟨b, off, rfl, hrow⟩ := rows_scene hR.out (by omega)
      have hjl : k % len1 < len1 := Nat.mod_lt _ hlp
      have hidx : Int.tmod (k : Int) (len1 : Int) = ((k % len1 : Nat) : Int) := by rw [Int.tmod_eq_emod_of_nonneg (by omega)]; omega
      obtain ⟨d0, d1, d2, d3, d4, d5, d6, w0, w1, w2, w3, w4, w5, w6⟩ := hrow (k % len1) hjl
      clear hrow hR
      generalize k % len1 = j at *
      have hbb := World.block_lt_of_cell? w _ w0
      obtain ⟨l1, l2, l3, l4, l5, l6, l7, l8⟩ := lt_all hbb
      obtain ⟨l9, l10, l11, l12, l13, l14, l15, l16⟩ := lt_more hbb
      have j1 : (0 : Int) ≤ (j : Int) := by omega
      have j2 : (j : Int) < (len1 : Int) := by omega
      have j3 : (j : Int) < (cap1 : Int) := by omega
      have KI := fun w => input_2 d0 d1 d2 d3 true true true a0x0 a0x1 a0x2 a0x3 a0x4 a0x5 M he w w (Gar.refl _)
      obtain ⟨Q0, hQ0⟩ : ∃ q, Int.tmod d0 65536 + inO false d1 a0x0 = q := ⟨_, rfl⟩
      obtain ⟨Q1, hQ1⟩ : ∃ q, Int.tmod d0 65536 + inO false d2 a0x1 = q := ⟨_, rfl⟩
      obtain ⟨Q2, hQ2⟩ : ∃ q, Int.tmod d0 65536 + inO true d3 a0x2 = q := ⟨_, rfl⟩
      have dd0 : dst Q0 d0 ≤ a0x0 := by rw [← hQ0]; exact near (inO_ok he.1) he.1
      have dd1 : dst Q1 d0 ≤ a0x1 := by rw [← hQ1]; exact near (inO_ok he.2.1) he.2.1
      rw [hQ0, hQ1, hQ2] at KI
      clear hQ0 hQ1 hQ2
      obtain ⟨u0, u1, u2, g01, g02, g12, ct, c0, c1, c2, cs, E0, E1, E2, ci, cw, hv⟩ := VS.ex a0x0 a0x1 a0x2 a0x3 a0x4 a0x5 M s0 s1 s2 false false m sp Q0 Q1 Q2 true true true
      have K1 := fun w => vstep_ok a0x0 a0x1 a0x2 a0x3 a0x4 a0x5 M s0 s1 s2 false false m sp Q0 Q1 Q2 true true true u0 u1 u2 g01 g02 g12 ct c0 c1 c2 cs E0 E1 E2 ci cw hv hco w w (Gar.refl _)
      obtain ⟨F1, hF1⟩ : ∃ F, decide (a0x2 + a0x0 < dst Q2 Q0) = F := ⟨_, rfl⟩
      obtain ⟨F2, hF2⟩ : ∃ F, decide (a0x2 + a0x1 < dst Q2 Q1) = F := ⟨_, rfl⟩
      obtain ⟨hN, hEj, hEk, hci⟩ := named2 (t := d0) hv hco rfl rfl dd0 dd1 hF1 hF2 hI.out
      subst hEj
      subst hEk
      have hfl := hide hN.flag
      have hNx := hide hN
      have hC := hide hci
      clear hN hci hv hco dd0 dd1 hI
      have T1 := dist_any Q2 Q0
      have T2 := dist_any Q2 Q1
      generalize dst Q2 Q0 = D1 at *
      generalize dst Q2 Q1 = D2 at *
      have sA : IntKind.i64.wrap (a0x2 + a0x0) = a0x2 + a0x0 := IntWalk.i64_in _ (by omega)
      have sB : IntKind.i64.wrap (a0x2 + a0x1) = a0x2 + a0x1 := IntWalk.i64_in _ (by omega)
      obtain ⟨AX, hAX⟩ : ∃ x, (if cw = 0 then 0 else vang ci Q0 Q1 Q2) = x := ⟨_, rfl⟩
      obtain ⟨AY, hAY⟩ : ∃ x, decide (cw = 3) = x := ⟨_, rfl⟩
      obtain ⟨AF, hAF⟩ : ∃ x, decide (cw = 0) = x := ⟨_, rfl⟩
      rw [hAX, hAY, hAF] at K1
      clear hAX hAY hAF
      have HB := hide (And.intro hbb hrun)
      obtain ⟨RL, hRL⟩ : ∃ x, decide (run < M) = x := ⟨_, rfl⟩
      have bnr := nrun_bd (F1 := F1) (F2 := F2) (N := M) hrun
      go_wp2_with (first | (go_at_call 18; (with_reducible refine (KI _).mono ?_); rintro e w' ⟨rfl, os2, n2, rfl⟩))
      rcases b_ways F1 F2 with rfl | ⟨rfl, rfl⟩ | ⟨rfl, rfl⟩
      · go_quiet ((first | (go_at_call 19; (first | with_reducible exact quiet_eq2 (T1 _) | with_reducible exact quiet_eq (T1 _))) | (go_at_call 19; (first | with_reducible exact quiet_eq2 (T2 _) | with_reducible exact quiet_eq (T2 _)))))
        cases RL
        · have hnr : nrun false F2 run M = run := by unfold nrun; rw [if_neg (by simp), if_neg (of_decide_eq_false hRL)]
          rw [hnr] at hfl hNx bnr
          clear hnr
          have hfl2 : decide (M ≤ run) = E2 := hfl.out.symm
          cases m
          · go_wp2_with (first | (go_at_call 9; (with_reducible refine (K1 _).mono ?_); rintro e w' ⟨rfl, os3, n3, rfl⟩))
            go_quiet (fail)
            go_wp2_with (fail)
            go_roundw
            case rel => exact ⟨k + 1, run, _, _, _, _, _, rfl, by go_num, by omega, by repeat (first | exact Gar.refl _ | refine Gar.drewN ?_ _ | refine Gar.drew ?_ | refine Gar.alloc ?_ _ | refine Gar.allocs ?_ _), by omega, hNx.out⟩
            case measure => simp [intOf]; omega
          · have hcb : (ci == 2) = false := by simpa using hC.out rfl
            go_wp2_with (first | (go_at_call 9; (with_reducible refine (K1 _).mono ?_); rintro e w' ⟨rfl, os3, n3, rfl⟩))
            go_quiet (fail)
            go_wp2_with (fail)
            go_roundw
            case rel => exact ⟨k + 1, run, _, _, _, _, _, rfl, by go_num, by omega, by repeat (first | exact Gar.refl _ | refine Gar.drewN ?_ _ | refine Gar.drew ?_ | refine Gar.alloc ?_ _ | refine Gar.allocs ?_ _), by omega, hNx.out⟩
            case measure => simp [intOf]; omega
        · have hnr : nrun false F2 run M = 0 := by unfold nrun; rw [if_neg (by simp), if_pos (of_decide_eq_true hRL)]
          rw [hnr] at hfl hNx bnr
          clear hnr
          have hfl2 : decide (M ≤ 0) = E2 := hfl.out.symm
          cases m
          · go_wp2_with (first | (go_at_call 9; (with_reducible refine (K1 _).mono ?_); rintro e w' ⟨rfl, os3, n3, rfl⟩))
            go_quiet (fail)
            go_wp2_with (fail)
            go_roundw
            case rel => exact ⟨k + 1, 0, _, _, _, _, _, rfl, by go_num, by omega, by repeat (first | exact Gar.refl _ | refine Gar.drewN ?_ _ | refine Gar.drew ?_ | refine Gar.alloc ?_ _ | refine Gar.allocs ?_ _), by omega, hNx.out⟩
            case measure => simp [intOf]; omega
          · have hcb : (ci == 2) = false := by simpa using hC.out rfl
            go_wp2_with (first | (go_at_call 9; (with_reducible refine (K1 _).mono ?_); rintro e w' ⟨rfl, os3, n3, rfl⟩))
            go_quiet (fail)
            go_wp2_with (fail)
            go_roundw
            case rel => exact ⟨k + 1, 0, _, _, _, _, _, rfl, by go_num, by omega, by repeat (first | exact Gar.refl _ | refine Gar.drewN ?_ _ | refine Gar.drew ?_ | refine Gar.alloc ?_ _ | refine Gar.allocs ?_ _), by omega, hNx.out⟩
            case measure => simp [intOf]; omega
      · go_quiet ((first | (go_at_call 19; (first | with_reducible exact quiet_eq2 (T1 _) | with_reducible exact quiet_eq (T1 _))) | (go_at_call 19; (first | with_reducible exact quiet_eq2 (T2 _) | with_reducible exact quiet_eq (T2 _)))))
        cases RL
        · have hnr : nrun true false run M = run := by unfold nrun; rw [if_neg (by simp), if_neg (of_decide_eq_false hRL)]
          rw [hnr] at hfl hNx bnr
          clear hnr
          have hfl2 : decide (M ≤ run) = E2 := hfl.out.symm
          cases m
          · go_wp2_with (first | (go_at_call 9; (with_reducible refine (K1 _).mono ?_); rintro e w' ⟨rfl, os3, n3, rfl⟩))
            go_quiet (fail)
            go_wp2_with (fail)
            go_roundw
            case rel => exact ⟨k + 1, run, _, _, _, _, _, rfl, by go_num, by omega, by repeat (first | exact Gar.refl _ | refine Gar.drewN ?_ _ | refine Gar.drew ?_ | refine Gar.alloc ?_ _ | refine Gar.allocs ?_ _), by omega, hNx.out⟩
            case measure => simp [intOf]; omega
          · have hcb : (ci == 2) = false := by simpa using hC.out rfl
            go_wp2_with (first | (go_at_call 9; (with_reducible refine (K1 _).mono ?_); rintro e w' ⟨rfl, os3, n3, rfl⟩))
            go_quiet (fail)
            go_wp2_with (fail)
            go_roundw
            case rel => exact ⟨k + 1, run, _, _, _, _, _, rfl, by go_num, by omega, by repeat (first | exact Gar.refl _ | refine Gar.drewN ?_ _ | refine Gar.drew ?_ | refine Gar.alloc ?_ _ | refine Gar.allocs ?_ _), by omega, hNx.out⟩
            case measure => simp [intOf]; omega
        · have hnr : nrun true false run M = 0 := by unfold nrun; rw [if_neg (by simp), if_pos (of_decide_eq_true hRL)]
          rw [hnr] at hfl hNx bnr
          clear hnr
          have hfl2 : decide (M ≤ 0) = E2 := hfl.out.symm
          cases m
          · go_wp2_with (first | (go_at_call 9; (with_reducible refine (K1 _).mono ?_); rintro e w' ⟨rfl, os3, n3, rfl⟩))
            go_quiet (fail)
            go_wp2_with (fail)
            go_roundw
            case rel => exact ⟨k + 1, 0, _, _, _, _, _, rfl, by go_num, by omega, by repeat (first | exact Gar.refl _ | refine Gar.drewN ?_ _ | refine Gar.drew ?_ | refine Gar.alloc ?_ _ | refine Gar.allocs ?_ _), by omega, hNx.out⟩
            case measure => simp [intOf]; omega
          · have hcb : (ci == 2) = false := by simpa using hC.out rfl
            go_wp2_with (first | (go_at_call 9; (with_reducible refine (K1 _).mono ?_); rintro e w' ⟨rfl, os3, n3, rfl⟩))
            go_quiet (fail)
            go_wp2_with (fail)
            go_roundw
            case rel => exact ⟨k + 1, 0, _, _, _, _, _, rfl, by go_num, by omega, by repeat (first | exact Gar.refl _ | refine Gar.drewN ?_ _ | refine Gar.drew ?_ | refine Gar.alloc ?_ _ | refine Gar.allocs ?_ _), by omega, hNx.out⟩
            case measure => simp [intOf]; omega
      · go_quiet ((first | (go_at_call 19; (first | with_reducible exact quiet_eq2 (T1 _) | with_reducible exact quiet_eq (T1 _))) | (go_at_call 19; (first | with_reducible exact quiet_eq2 (T2 _) | with_reducible exact quiet_eq (T2 _)))))
        rw [show nrun true true run M = run + 1 from rfl] at hfl hNx bnr
        have hfl2 : decide (M ≤ (run + 1)) = E2 := hfl.out.symm
        cases m
        · go_wp2_with (first | (go_at_call 9; (with_reducible refine (K1 _).mono ?_); rintro e w' ⟨rfl, os3, n3, rfl⟩))
          go_quiet (fail)
          go_wp2_with (fail)
          go_roundw
          case rel => exact ⟨k + 1, (run + 1), _, _, _, _, _, rfl, by go_num, by omega, by repeat (first | exact Gar.refl _ | refine Gar.drewN ?_ _ | refine Gar.drew ?_ | refine Gar.alloc ?_ _ | refine Gar.allocs ?_ _), by omega, hNx.out⟩
          case measure => simp [intOf]; omega
        · have hcb : (ci == 2) = false := by simpa using hC.out rfl
          go_wp2_with (first | (go_at_call 9; (with_reducible refine (K1 _).mono ?_); rintro e w' ⟨rfl, os3, n3, rfl⟩))
          go_quiet (fail)
          go_wp2_with (fail)
          go_roundw
          case rel => exact ⟨k + 1, (run + 1), _, _, _, _, _, rfl, by go_num, by omega, by repeat (first | exact Gar.refl _ | refine Gar.drewN ?_ _ | refine Gar.drew ?_ | refine Gar.alloc ?_ _ | refine Gar.allocs ?_ _), by omega, hNx.out⟩
          case measure => simp [intOf]; omega
    · clear hR
      have KV := fun w => clear_any s0 s1 s2 false false m sp w w (Gar.refl _)
      have hfd : ∀ w : World, (Instr.field 27 (.agg #[.int .i64 0, .int .i64 0, .int .i64 0, .bool false, .bool false, .bool false, .int .i64 0]) 1).run Try.prog w = .ok (.agg #[.bool false, .bool false, .bool false]) w := fun _ => by kernel_rfl
      have hix : ∀ w : World, (Instr.index 25 (.agg #[.bool false, .bool false, .bool false]) (.int .i64 2)).run Try.prog w = .ok (.bool false) w := fun _ => by kernel_rfl
      go_wp2_with (first | (go_at_call 16; (with_reducible refine (KV _).mono ?_); rintro e w' ⟨rfl, os4, n4, rfl⟩))
      go_returns
      exact ⟨rfl, show Bel _ _ from Gar.bel (by repeat (first | exact Gar.refl _ | refine Gar.drewN ?_ _ | refine Gar.drew ?_ | refine Gar.alloc ?_ _ | refine Gar.allocs ?_ _))⟩
theorem voterNames_walk (a0x0 a0x1 a0x2 a0x3 a0x4 a0x5 a0x6 : Int) (a1 : Option Addr) (len1 cap1 : Nat) (D1 : Nat → List Value) (a2 : Int) (w : World) (w0x0 : (Lit.int .i64 a0x0).wf = true) (w0x1 : (Lit.int .i64 a0x1).wf = true) (w0x2 : (Lit.int .i64 a0x2).wf = true) (w0x3 : (Lit.int .i64 a0x3).wf = true) (w0x4 : (Lit.int .i64 a0x4).wf = true) (w0x5 : (Lit.int .i64 a0x5).wf = true) (w0x6 : (Lit.int .i64 a0x6).wf = true) (r1 : IsRows [some .i64, some .i64, some .i64, some .i64, none, none, none] w a1 len1 cap1 D1) (w2 : (Lit.int .u8 a2).wf = true) :
    Calls Try.prog 4 #[.agg #[.int .i64 a0x0, .int .i64 a0x1, .int .i64 a0x2, .int .i64 a0x3, .int .i64 a0x4, .int .i64 a0x5, .int .i64 a0x6], .slice a1 len1 cap1, .int .u8 a2] w fun e w' => e = .returned (.bool true) ∧ Below w.heap.size w w' := by
  have hw2 : 0 ≤ a2 ∧ a2 ≤ 255 := by simpa [Lit.wf, IntKind.min, IntKind.max, IntKind.signed, IntKind.bits] using w2
  rcases (show a2 % 3 = 0 ∨ a2 % 3 = 1 ∨ a2 % 3 = 2 by omega) with hj | hj | hj
  · exact names0 a0x0 a0x1 a0x2 a0x3 a0x4 a0x5 a0x6 a1 len1 cap1 D1 a2 w w0x0 w0x1 w0x2 w0x3 w0x4 w0x5 w0x6 r1 w2 hj
  · exact names1 a0x0 a0x1 a0x2 a0x3 a0x4 a0x5 a0x6 a1 len1 cap1 D1 a2 w w0x0 w0x1 w0x2 w0x3 w0x4 w0x5 w0x6 r1 w2 hj
  · exact names2 a0x0 a0x1 a0x2 a0x3 a0x4 a0x5 a0x6 a1 len1 cap1 D1 a2 w w0x0 w0x1 w0x2 w0x3 w0x4 w0x5 w0x6 r1 w2 hj
end Go.Proofs.Ytdincfemiignjaa
