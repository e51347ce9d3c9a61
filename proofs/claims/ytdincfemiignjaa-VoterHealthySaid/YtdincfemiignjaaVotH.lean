/- The contract of the voter's view: choose. -/
import Derived.Test.YtdincfemiignjaaVotP
namespace Go.Proofs.Ytdincfemiignjaa
open Go.RowKit
set_option linter.unusedVariables false
set_option linter.unusedSimpArgs false
attribute [local go_sem ↓] Go.wp_at_zero Go.wp_at_succ

theorem eq_b3z (a b c : Bool) (w : World) : (Op.equalIn 10000 25 (.agg #[.bool a, .bool b, .bool c]) (.agg #[.bool false, .bool false, .bool false])).run Try.prog w = .ok (!(a || b || c)) w := by
  have u3 := Try.underlying4
  have a3 := Try.isAgg4
  have z3 := Try.sizeOf4
  cases a <;> cases b <;> cases c
  all_goals
    rw [show (10000 : Nat) = 9999 + 1 from rfl, Op.equalIn]
    simp only [Sem.run_bind, run_underlying Try.underlying25, Result.andThen_ok]
    simp only [Std.Legacy.Range.forIn_eq_forIn_range', Std.Legacy.Range.size, Nat.sub_zero, Nat.add_sub_cancel, Nat.div_one, List.range'_succ, List.range'_zero, List.forIn_cons, List.forIn_nil]
    go_simp
set_option maxHeartbeats 4000000 in
theorem choose_mid (e0 e1 e2 p0 p1 p2 n a0 a1 a2 : Int) (x0 x1 x2 : Bool) (ct : Int) (y0 y1 y2 y3 y4 y5 y6 y7 y8 : Bool) (sp : Int) (hp0 : 0 ≤ p0 ∧ p0 ≤ 2) (hp1 : 0 ≤ p1 ∧ p1 ≤ 2) (hp2 : 0 ≤ p2 ∧ p2 ≤ 2) (h3 : ct = 3) (hm : midB a0 a1 a2 = true) (w0 w : World) (hb : Gar w0 w) :
    Calls Try.prog 25 #[.agg #[.int .i64 e0, .int .i64 e1, .int .i64 e2, .int .i64 p0, .int .i64 p1, .int .i64 p2, .int .i64 n, .int .i64 a0, .int .i64 a1, .int .i64 a2, .bool x0, .bool x1, .bool x2, .int .i64 ct, .bool y0, .bool y1, .bool y2, .bool y3, .bool y4, .bool y5, .bool y6, .bool y7, .bool y8], .int .i64 sp] w fun e w' => e = .returned (.tuple #[.int .i64 (chs p0 p1 p2 x0 x1 x2 (y0 || y1 || y2) (y3 || y4 || y5) (y6 || y7 || y8) (decide (ct = 3) && midB a0 a1 a2) (decide (ct = 1)) (decide (ct = 2)) (decide (sp < n)) (mdx a0 a1 a2)).1, .int .i64 (chs p0 p1 p2 x0 x1 x2 (y0 || y1 || y2) (y3 || y4 || y5) (y6 || y7 || y8) (decide (ct = 3) && midB a0 a1 a2) (decide (ct = 1)) (decide (ct = 2)) (decide (sp < n)) (mdx a0 a1 a2)).2]) ∧ Gar w0 w' := by
  refine on_gar hb ?_
  clear hb w0 hp0 hp1 hp2
  subst h3
  have hmem := mid_mem hm
  have hr : chs p0 p1 p2 x0 x1 x2 (y0 || y1 || y2) (y3 || y4 || y5) (y6 || y7 || y8) (decide ((3 : Int) = 3) && midB a0 a1 a2) (decide ((3 : Int) = 1)) (decide ((3 : Int) = 2)) (decide (sp < n)) (mdx a0 a1 a2) = (mdx a0 a1 a2, 1) := by rw [hm]; exact chs_m
  rw [hr]
  clear hr
  have KN := norm_any
  have KM := middle_any a0 a1 a2
  rw [hm] at KM
  have K0 := norm_any a0
  have K1 := norm_any a1
  have K2 := norm_any a2
  have hd : mdx a0 a1 a2 = (if nrm a0 = mid a0 a1 a2 then 0 else if nrm a1 = mid a0 a1 a2 then 1 else 2) := rfl
  generalize mdx a0 a1 a2 = D at *
  generalize mid a0 a1 a2 = Q at *
  generalize nrm a0 = P0 at *
  generalize nrm a1 = P1 at *
  generalize nrm a2 = P2 at *
  clear hm
  have ia0 : ∀ w, (Instr.index 22 (.agg #[.int .i64 a0, .int .i64 a1, .int .i64 a2]) (.int .i64 0)).run Try.prog w = .ok (.int .i64 a0) w := fun _ => by kernel_rfl
  have ia1 : ∀ w, (Instr.index 22 (.agg #[.int .i64 a0, .int .i64 a1, .int .i64 a2]) (.int .i64 1)).run Try.prog w = .ok (.int .i64 a1) w := fun _ => by kernel_rfl
  have ia2 : ∀ w, (Instr.index 22 (.agg #[.int .i64 a0, .int .i64 a1, .int .i64 a2]) (.int .i64 2)).run Try.prog w = .ok (.int .i64 a2) w := fun _ => by kernel_rfl
  by_cases h0 : P0 = Q
  · rw [if_pos h0] at hd
    subst hd
    have g0 : (P0 == Q) = true := by simpa using h0
    clear h0 hmem KN
    go_enter Try.func25, Try.ntmps25
    go_wp2_with (first | (go_at_call 35; (with_reducible refine (KM _).mono ?_); rintro e w' ⟨rfl, rfl⟩))
    refine wp_loop_rounds 4 ?_
    repeat any_goals (rw [rounds_succ]; go_wp2_with (first | (go_at_call 22; (first | (with_reducible refine (K0 _).mono ?_) | (with_reducible refine (K1 _).mono ?_) | (with_reducible refine (K2 _).mono ?_)); rintro e w' ⟨rfl, rfl⟩)))
    go_ret2
    exact ⟨rfl, by repeat (first | exact Gar.refl _ | refine Gar.drewN ?_ _ | refine Gar.drew ?_ | refine Gar.alloc ?_ _ | refine Gar.allocs ?_ _)⟩
  by_cases h1 : P1 = Q
  · rw [if_neg h0, if_pos h1] at hd
    subst hd
    have g0 : (P0 == Q) = false := by simpa using h0
    have g1 : (P1 == Q) = true := by simpa using h1
    clear h0 h1 hmem KN
    go_enter Try.func25, Try.ntmps25
    go_wp2_with (first | (go_at_call 35; (with_reducible refine (KM _).mono ?_); rintro e w' ⟨rfl, rfl⟩))
    refine wp_loop_rounds 4 ?_
    repeat any_goals (rw [rounds_succ]; go_wp2_with (first | (go_at_call 22; (first | (with_reducible refine (K0 _).mono ?_) | (with_reducible refine (K1 _).mono ?_) | (with_reducible refine (K2 _).mono ?_)); rintro e w' ⟨rfl, rfl⟩)))
    go_ret2
    exact ⟨rfl, by repeat (first | exact Gar.refl _ | refine Gar.drewN ?_ _ | refine Gar.drew ?_ | refine Gar.alloc ?_ _ | refine Gar.allocs ?_ _)⟩
  · rw [if_neg h0, if_neg h1] at hd
    subst hd
    have g0 : (P0 == Q) = false := by simpa using h0
    have g1 : (P1 == Q) = false := by simpa using h1
    have g2 : (P2 == Q) = true := by simp; omega
    clear h0 h1 hmem KN
    go_enter Try.func25, Try.ntmps25
    go_wp2_with (first | (go_at_call 35; (with_reducible refine (KM _).mono ?_); rintro e w' ⟨rfl, rfl⟩))
    refine wp_loop_rounds 4 ?_
    repeat any_goals (rw [rounds_succ]; go_wp2_with (first | (go_at_call 22; (first | (with_reducible refine (K0 _).mono ?_) | (with_reducible refine (K1 _).mono ?_) | (with_reducible refine (K2 _).mono ?_)); rintro e w' ⟨rfl, rfl⟩)))
    go_ret2
    exact ⟨rfl, by repeat (first | exact Gar.refl _ | refine Gar.drewN ?_ _ | refine Gar.drew ?_ | refine Gar.alloc ?_ _ | refine Gar.allocs ?_ _)⟩
theorem ch_ways (x T1 T2 S : Bool) : (x = false) ∨ (x = true ∧ T1 = true) ∨ (x = true ∧ T1 = false ∧ T2 = true ∧ S = true) ∨ (x = true ∧ T1 = false ∧ T2 = true ∧ S = false) ∨ (x = true ∧ T1 = false ∧ T2 = false) := by
  revert x T1 T2 S; decide
set_option maxHeartbeats 8000000 in
theorem choose_far (e0 e1 e2 p0 p1 p2 n a0 a1 a2 : Int) (x0 x1 x2 : Bool) (ct : Int) (y0 y1 y2 y3 y4 y5 y6 y7 y8 : Bool) (sp : Int) (hp0 : 0 ≤ p0 ∧ p0 ≤ 2) (hp1 : 0 ≤ p1 ∧ p1 ≤ 2) (hp2 : 0 ≤ p2 ∧ p2 ≤ 2) (h3 : ct ≠ 3) (w0 w : World) (hb : Gar w0 w) :
    Calls Try.prog 25 #[.agg #[.int .i64 e0, .int .i64 e1, .int .i64 e2, .int .i64 p0, .int .i64 p1, .int .i64 p2, .int .i64 n, .int .i64 a0, .int .i64 a1, .int .i64 a2, .bool x0, .bool x1, .bool x2, .int .i64 ct, .bool y0, .bool y1, .bool y2, .bool y3, .bool y4, .bool y5, .bool y6, .bool y7, .bool y8], .int .i64 sp] w fun e w' => e = .returned (.tuple #[.int .i64 (chs p0 p1 p2 x0 x1 x2 (y0 || y1 || y2) (y3 || y4 || y5) (y6 || y7 || y8) (decide (ct = 3) && midB a0 a1 a2) (decide (ct = 1)) (decide (ct = 2)) (decide (sp < n)) (mdx a0 a1 a2)).1, .int .i64 (chs p0 p1 p2 x0 x1 x2 (y0 || y1 || y2) (y3 || y4 || y5) (y6 || y7 || y8) (decide (ct = 3) && midB a0 a1 a2) (decide (ct = 1)) (decide (ct = 2)) (decide (sp < n)) (mdx a0 a1 a2)).2]) ∧ Gar w0 w' := by
  refine on_gar hb ?_
  clear hb w0
  have h3b : (ct == 3) = false := by simpa using h3
  rw [show (decide (ct = 3) && midB a0 a1 a2) = false by rw [decide_eq_false h3]; rfl]
  clear h3
  have q0 := fun w => eq_b3z y0 y1 y2 w
  have q1 := fun w => eq_b3z y3 y4 y5 w
  have q2 := fun w => eq_b3z y6 y7 y8 w
  obtain ⟨r0, hr0⟩ : ∃ r, (y0 || y1 || y2) = r := ⟨_, rfl⟩
  obtain ⟨r1, hr1⟩ : ∃ r, (y3 || y4 || y5) = r := ⟨_, rfl⟩
  obtain ⟨r2, hr2⟩ : ∃ r, (y6 || y7 || y8) = r := ⟨_, rfl⟩
  rw [hr0] at q0
  rw [hr1] at q1
  rw [hr2] at q2
  rw [hr0, hr1, hr2]
  clear hr0 hr1 hr2
  obtain ⟨T1, t1⟩ : ∃ T, decide (ct = 1) = T := ⟨_, rfl⟩
  obtain ⟨T2, t2⟩ : ∃ T, decide (ct = 2) = T := ⟨_, rfl⟩
  obtain ⟨S, ts⟩ : ∃ T, decide (sp < n) = T := ⟨_, rfl⟩
  rw [t1, t2, ts]
  have t1b : (ct == 1) = T1 := t1
  have t2b : (ct == 2) = T2 := t2
  have U1 := hide t1b
  have U2 := hide t2b
  clear t1 t2 t1b t2b
  have US := hide ts
  clear ts
  generalize mdx a0 a1 a2 = D
  have i0 : ∀ w, (Instr.index 22 (.agg #[.int .i64 p0, .int .i64 p1, .int .i64 p2]) (.int .i64 0)).run Try.prog w = .ok (.int .i64 p0) w := fun _ => by kernel_rfl
  have i1 : ∀ w, (Instr.index 22 (.agg #[.int .i64 p0, .int .i64 p1, .int .i64 p2]) (.int .i64 1)).run Try.prog w = .ok (.int .i64 p1) w := fun _ => by kernel_rfl
  have i2 : ∀ w, (Instr.index 22 (.agg #[.int .i64 p0, .int .i64 p1, .int .i64 p2]) (.int .i64 2)).run Try.prog w = .ok (.int .i64 p2) w := fun _ => by kernel_rfl
  go_enter Try.func25, Try.ntmps25
  go_wp2_with (fail)
  go_loop [46] (fun i => ∃ k : Nat, i = .int .i64 k ∧ k ≤ 3 ∧ PrI p0 p1 p2 r0 r1 r2 k) (fun i => 3 - (intOf i).toNat)
  case atStart => exact ⟨0, rfl, by omega, PrI.start⟩
  case round =>
    obtain ⟨k, rfl, hk, hI0⟩ := hrel
    have hI := hide hI0
    clear hI0
    rcases (show k = 0 ∨ k = 1 ∨ k = 2 ∨ k = 3 by omega) with rfl | rfl | rfl | rfl
    · rcases (show p0 = 0 ∨ p0 = 1 ∨ p0 = 2 by omega) with hv | hv | hv
      · have iv : ∀ w, (Instr.index 22 (.agg #[.int .i64 p0, .int .i64 p1, .int .i64 p2]) (.int .i64 0)).run Try.prog w = .ok (.int .i64 0) w := fun w => by rw [i0, hv]
        have hw := hide hv
        clear i0 i1 i2 hv
        cases r0
        · go_wp2_with (fail)
          go_round
          case rel => exact ⟨1, rfl, by omega, PrI.next0 hI.out (sel0 hw.out)⟩
          case measure => first | (simp; done) | (simp [intOf]; done) | (simp [intOf]; omega)
        · go_wp2_with (fail)
          go_ret2
          exact ⟨ret_ii ((chs_f0 hI.out (sel0 hw.out)).trans (by rw [hw.out])), by repeat (first | exact Gar.refl _ | refine Gar.drewN ?_ _ | refine Gar.drew ?_ | refine Gar.alloc ?_ _ | refine Gar.allocs ?_ _)⟩
      · have iv : ∀ w, (Instr.index 22 (.agg #[.int .i64 p0, .int .i64 p1, .int .i64 p2]) (.int .i64 0)).run Try.prog w = .ok (.int .i64 1) w := fun w => by rw [i0, hv]
        have hw := hide hv
        clear i0 i1 i2 hv
        cases r1
        · go_wp2_with (fail)
          go_round
          case rel => exact ⟨1, rfl, by omega, PrI.next0 hI.out (sel1 hw.out)⟩
          case measure => first | (simp; done) | (simp [intOf]; done) | (simp [intOf]; omega)
        · go_wp2_with (fail)
          go_ret2
          exact ⟨ret_ii ((chs_f0 hI.out (sel1 hw.out)).trans (by rw [hw.out])), by repeat (first | exact Gar.refl _ | refine Gar.drewN ?_ _ | refine Gar.drew ?_ | refine Gar.alloc ?_ _ | refine Gar.allocs ?_ _)⟩
      · have iv : ∀ w, (Instr.index 22 (.agg #[.int .i64 p0, .int .i64 p1, .int .i64 p2]) (.int .i64 0)).run Try.prog w = .ok (.int .i64 2) w := fun w => by rw [i0, hv]
        have hw := hide hv
        clear i0 i1 i2 hv
        cases r2
        · go_wp2_with (fail)
          go_round
          case rel => exact ⟨1, rfl, by omega, PrI.next0 hI.out (sel2 hw.out)⟩
          case measure => first | (simp; done) | (simp [intOf]; done) | (simp [intOf]; omega)
        · go_wp2_with (fail)
          go_ret2
          exact ⟨ret_ii ((chs_f0 hI.out (sel2 hw.out)).trans (by rw [hw.out])), by repeat (first | exact Gar.refl _ | refine Gar.drewN ?_ _ | refine Gar.drew ?_ | refine Gar.alloc ?_ _ | refine Gar.allocs ?_ _)⟩
    · rcases (show p1 = 0 ∨ p1 = 1 ∨ p1 = 2 by omega) with hv | hv | hv
      · have iv : ∀ w, (Instr.index 22 (.agg #[.int .i64 p0, .int .i64 p1, .int .i64 p2]) (.int .i64 1)).run Try.prog w = .ok (.int .i64 0) w := fun w => by rw [i1, hv]
        have hw := hide hv
        clear i0 i1 i2 hv
        cases r0
        · go_wp2_with (fail)
          go_round
          case rel => exact ⟨2, rfl, by omega, PrI.next1 hI.out (sel0 hw.out)⟩
          case measure => first | (simp; done) | (simp [intOf]; done) | (simp [intOf]; omega)
        · go_wp2_with (fail)
          go_ret2
          exact ⟨ret_ii ((chs_f1 hI.out (sel0 hw.out)).trans (by rw [hw.out])), by repeat (first | exact Gar.refl _ | refine Gar.drewN ?_ _ | refine Gar.drew ?_ | refine Gar.alloc ?_ _ | refine Gar.allocs ?_ _)⟩
      · have iv : ∀ w, (Instr.index 22 (.agg #[.int .i64 p0, .int .i64 p1, .int .i64 p2]) (.int .i64 1)).run Try.prog w = .ok (.int .i64 1) w := fun w => by rw [i1, hv]
        have hw := hide hv
        clear i0 i1 i2 hv
        cases r1
        · go_wp2_with (fail)
          go_round
          case rel => exact ⟨2, rfl, by omega, PrI.next1 hI.out (sel1 hw.out)⟩
          case measure => first | (simp; done) | (simp [intOf]; done) | (simp [intOf]; omega)
        · go_wp2_with (fail)
          go_ret2
          exact ⟨ret_ii ((chs_f1 hI.out (sel1 hw.out)).trans (by rw [hw.out])), by repeat (first | exact Gar.refl _ | refine Gar.drewN ?_ _ | refine Gar.drew ?_ | refine Gar.alloc ?_ _ | refine Gar.allocs ?_ _)⟩
      · have iv : ∀ w, (Instr.index 22 (.agg #[.int .i64 p0, .int .i64 p1, .int .i64 p2]) (.int .i64 1)).run Try.prog w = .ok (.int .i64 2) w := fun w => by rw [i1, hv]
        have hw := hide hv
        clear i0 i1 i2 hv
        cases r2
        · go_wp2_with (fail)
          go_round
          case rel => exact ⟨2, rfl, by omega, PrI.next1 hI.out (sel2 hw.out)⟩
          case measure => first | (simp; done) | (simp [intOf]; done) | (simp [intOf]; omega)
        · go_wp2_with (fail)
          go_ret2
          exact ⟨ret_ii ((chs_f1 hI.out (sel2 hw.out)).trans (by rw [hw.out])), by repeat (first | exact Gar.refl _ | refine Gar.drewN ?_ _ | refine Gar.drew ?_ | refine Gar.alloc ?_ _ | refine Gar.allocs ?_ _)⟩
    · rcases (show p2 = 0 ∨ p2 = 1 ∨ p2 = 2 by omega) with hv | hv | hv
      · have iv : ∀ w, (Instr.index 22 (.agg #[.int .i64 p0, .int .i64 p1, .int .i64 p2]) (.int .i64 2)).run Try.prog w = .ok (.int .i64 0) w := fun w => by rw [i2, hv]
        have hw := hide hv
        clear i0 i1 i2 hv
        cases r0
        · go_wp2_with (fail)
          go_round
          case rel => exact ⟨3, rfl, by omega, PrI.next2 hI.out (sel0 hw.out)⟩
          case measure => first | (simp; done) | (simp [intOf]; done) | (simp [intOf]; omega)
        · go_wp2_with (fail)
          go_ret2
          exact ⟨ret_ii ((chs_f2 hI.out (sel0 hw.out)).trans (by rw [hw.out])), by repeat (first | exact Gar.refl _ | refine Gar.drewN ?_ _ | refine Gar.drew ?_ | refine Gar.alloc ?_ _ | refine Gar.allocs ?_ _)⟩
      · have iv : ∀ w, (Instr.index 22 (.agg #[.int .i64 p0, .int .i64 p1, .int .i64 p2]) (.int .i64 2)).run Try.prog w = .ok (.int .i64 1) w := fun w => by rw [i2, hv]
        have hw := hide hv
        clear i0 i1 i2 hv
        cases r1
        · go_wp2_with (fail)
          go_round
          case rel => exact ⟨3, rfl, by omega, PrI.next2 hI.out (sel1 hw.out)⟩
          case measure => first | (simp; done) | (simp [intOf]; done) | (simp [intOf]; omega)
        · go_wp2_with (fail)
          go_ret2
          exact ⟨ret_ii ((chs_f2 hI.out (sel1 hw.out)).trans (by rw [hw.out])), by repeat (first | exact Gar.refl _ | refine Gar.drewN ?_ _ | refine Gar.drew ?_ | refine Gar.alloc ?_ _ | refine Gar.allocs ?_ _)⟩
      · have iv : ∀ w, (Instr.index 22 (.agg #[.int .i64 p0, .int .i64 p1, .int .i64 p2]) (.int .i64 2)).run Try.prog w = .ok (.int .i64 2) w := fun w => by rw [i2, hv]
        have hw := hide hv
        clear i0 i1 i2 hv
        cases r2
        · go_wp2_with (fail)
          go_round
          case rel => exact ⟨3, rfl, by omega, PrI.next2 hI.out (sel2 hw.out)⟩
          case measure => first | (simp; done) | (simp [intOf]; done) | (simp [intOf]; omega)
        · go_wp2_with (fail)
          go_ret2
          exact ⟨ret_ii ((chs_f2 hI.out (sel2 hw.out)).trans (by rw [hw.out])), by repeat (first | exact Gar.refl _ | refine Gar.drewN ?_ _ | refine Gar.drew ?_ | refine Gar.alloc ?_ _ | refine Gar.allocs ?_ _)⟩
    · clear q0 q1 q2
      go_wp2_with (fail)
      go_loop [60] (fun i => ∃ k : Nat, i = .int .i64 k ∧ k ≤ 3 ∧ TkI p0 p1 p2 x0 x1 x2 T1 T2 S k) (fun i => 3 - (intOf i).toNat)
      case atStart => exact ⟨0, rfl, by omega, TkI.start⟩
      case round =>
        obtain ⟨k, rfl, hk, hJ0⟩ := hrel
        have hJ := hide hJ0
        clear hJ0
        rcases (show k = 0 ∨ k = 1 ∨ k = 2 ∨ k = 3 by omega) with rfl | rfl | rfl | rfl
        · rcases (show p0 = 0 ∨ p0 = 1 ∨ p0 = 2 by omega) with hv | hv | hv
          · have iv : ∀ w, (Instr.index 22 (.agg #[.int .i64 p0, .int .i64 p1, .int .i64 p2]) (.int .i64 0)).run Try.prog w = .ok (.int .i64 0) w := fun w => by rw [i0, hv]
            have hw := hide hv
            clear i0 i1 i2 hv
            rcases (show (x0 = false) ∨ (x0 = true ∧ T1 = true) ∨ (x0 = true ∧ T1 = false ∧ T2 = true ∧ S = true) ∨ (x0 = true ∧ T1 = false ∧ T2 = true ∧ S = false) ∨ (x0 = true ∧ T1 = false ∧ T2 = false) from ch_ways x0 T1 T2 S) with rfl | ⟨rfl, rfl⟩ | ⟨rfl, rfl, rfl, rfl⟩ | ⟨rfl, rfl, rfl, rfl⟩ | ⟨rfl, rfl, rfl⟩
            · go_wp2_with (fail)
              go_round
              case rel => exact ⟨1, rfl, by omega, TkI.next0 hJ.out (by rw [sel0 hw.out]; rfl)⟩
              case measure => first | (simp; done) | (simp [intOf]; done) | (simp [intOf]; omega)
            · have u1 := U1.out
              go_wp2_with (fail)
              go_ret2
              exact ⟨ret_ii ((chs_t0 hI.out hJ.out (by rw [sel0 hw.out]; rfl)).trans (by rw [hw.out]; rfl)), by repeat (first | exact Gar.refl _ | refine Gar.drewN ?_ _ | refine Gar.drew ?_ | refine Gar.alloc ?_ _ | refine Gar.allocs ?_ _)⟩
            · have u1 := U1.out
              have u2 := U2.out
              have us := US.out
              go_wp2_with (fail)
              go_ret2
              exact ⟨ret_ii ((chs_t0 hI.out hJ.out (by rw [sel0 hw.out]; rfl)).trans (by rw [hw.out]; rfl)), by repeat (first | exact Gar.refl _ | refine Gar.drewN ?_ _ | refine Gar.drew ?_ | refine Gar.alloc ?_ _ | refine Gar.allocs ?_ _)⟩
            · have u1 := U1.out
              have u2 := U2.out
              have us := US.out
              go_wp2_with (fail)
              go_round
              case rel => exact ⟨1, rfl, by omega, TkI.next0 hJ.out (by rw [sel0 hw.out]; rfl)⟩
              case measure => first | (simp; done) | (simp [intOf]; done) | (simp [intOf]; omega)
            · have u1 := U1.out
              have u2 := U2.out
              go_wp2_with (fail)
              go_round
              case rel => exact ⟨1, rfl, by omega, TkI.next0 hJ.out (by rw [sel0 hw.out]; rfl)⟩
              case measure => first | (simp; done) | (simp [intOf]; done) | (simp [intOf]; omega)
          · have iv : ∀ w, (Instr.index 22 (.agg #[.int .i64 p0, .int .i64 p1, .int .i64 p2]) (.int .i64 0)).run Try.prog w = .ok (.int .i64 1) w := fun w => by rw [i0, hv]
            have hw := hide hv
            clear i0 i1 i2 hv
            rcases (show (x1 = false) ∨ (x1 = true ∧ T1 = true) ∨ (x1 = true ∧ T1 = false ∧ T2 = true ∧ S = true) ∨ (x1 = true ∧ T1 = false ∧ T2 = true ∧ S = false) ∨ (x1 = true ∧ T1 = false ∧ T2 = false) from ch_ways x1 T1 T2 S) with rfl | ⟨rfl, rfl⟩ | ⟨rfl, rfl, rfl, rfl⟩ | ⟨rfl, rfl, rfl, rfl⟩ | ⟨rfl, rfl, rfl⟩
            · go_wp2_with (fail)
              go_round
              case rel => exact ⟨1, rfl, by omega, TkI.next0 hJ.out (by rw [sel1 hw.out]; rfl)⟩
              case measure => first | (simp; done) | (simp [intOf]; done) | (simp [intOf]; omega)
            · have u1 := U1.out
              go_wp2_with (fail)
              go_ret2
              exact ⟨ret_ii ((chs_t0 hI.out hJ.out (by rw [sel1 hw.out]; rfl)).trans (by rw [hw.out]; rfl)), by repeat (first | exact Gar.refl _ | refine Gar.drewN ?_ _ | refine Gar.drew ?_ | refine Gar.alloc ?_ _ | refine Gar.allocs ?_ _)⟩
            · have u1 := U1.out
              have u2 := U2.out
              have us := US.out
              go_wp2_with (fail)
              go_ret2
              exact ⟨ret_ii ((chs_t0 hI.out hJ.out (by rw [sel1 hw.out]; rfl)).trans (by rw [hw.out]; rfl)), by repeat (first | exact Gar.refl _ | refine Gar.drewN ?_ _ | refine Gar.drew ?_ | refine Gar.alloc ?_ _ | refine Gar.allocs ?_ _)⟩
            · have u1 := U1.out
              have u2 := U2.out
              have us := US.out
              go_wp2_with (fail)
              go_round
              case rel => exact ⟨1, rfl, by omega, TkI.next0 hJ.out (by rw [sel1 hw.out]; rfl)⟩
              case measure => first | (simp; done) | (simp [intOf]; done) | (simp [intOf]; omega)
            · have u1 := U1.out
              have u2 := U2.out
              go_wp2_with (fail)
              go_round
              case rel => exact ⟨1, rfl, by omega, TkI.next0 hJ.out (by rw [sel1 hw.out]; rfl)⟩
              case measure => first | (simp; done) | (simp [intOf]; done) | (simp [intOf]; omega)
          · have iv : ∀ w, (Instr.index 22 (.agg #[.int .i64 p0, .int .i64 p1, .int .i64 p2]) (.int .i64 0)).run Try.prog w = .ok (.int .i64 2) w := fun w => by rw [i0, hv]
            have hw := hide hv
            clear i0 i1 i2 hv
            rcases (show (x2 = false) ∨ (x2 = true ∧ T1 = true) ∨ (x2 = true ∧ T1 = false ∧ T2 = true ∧ S = true) ∨ (x2 = true ∧ T1 = false ∧ T2 = true ∧ S = false) ∨ (x2 = true ∧ T1 = false ∧ T2 = false) from ch_ways x2 T1 T2 S) with rfl | ⟨rfl, rfl⟩ | ⟨rfl, rfl, rfl, rfl⟩ | ⟨rfl, rfl, rfl, rfl⟩ | ⟨rfl, rfl, rfl⟩
            · go_wp2_with (fail)
              go_round
              case rel => exact ⟨1, rfl, by omega, TkI.next0 hJ.out (by rw [sel2 hw.out]; rfl)⟩
              case measure => first | (simp; done) | (simp [intOf]; done) | (simp [intOf]; omega)
            · have u1 := U1.out
              go_wp2_with (fail)
              go_ret2
              exact ⟨ret_ii ((chs_t0 hI.out hJ.out (by rw [sel2 hw.out]; rfl)).trans (by rw [hw.out]; rfl)), by repeat (first | exact Gar.refl _ | refine Gar.drewN ?_ _ | refine Gar.drew ?_ | refine Gar.alloc ?_ _ | refine Gar.allocs ?_ _)⟩
            · have u1 := U1.out
              have u2 := U2.out
              have us := US.out
              go_wp2_with (fail)
              go_ret2
              exact ⟨ret_ii ((chs_t0 hI.out hJ.out (by rw [sel2 hw.out]; rfl)).trans (by rw [hw.out]; rfl)), by repeat (first | exact Gar.refl _ | refine Gar.drewN ?_ _ | refine Gar.drew ?_ | refine Gar.alloc ?_ _ | refine Gar.allocs ?_ _)⟩
            · have u1 := U1.out
              have u2 := U2.out
              have us := US.out
              go_wp2_with (fail)
              go_round
              case rel => exact ⟨1, rfl, by omega, TkI.next0 hJ.out (by rw [sel2 hw.out]; rfl)⟩
              case measure => first | (simp; done) | (simp [intOf]; done) | (simp [intOf]; omega)
            · have u1 := U1.out
              have u2 := U2.out
              go_wp2_with (fail)
              go_round
              case rel => exact ⟨1, rfl, by omega, TkI.next0 hJ.out (by rw [sel2 hw.out]; rfl)⟩
              case measure => first | (simp; done) | (simp [intOf]; done) | (simp [intOf]; omega)
        · rcases (show p1 = 0 ∨ p1 = 1 ∨ p1 = 2 by omega) with hv | hv | hv
          · have iv : ∀ w, (Instr.index 22 (.agg #[.int .i64 p0, .int .i64 p1, .int .i64 p2]) (.int .i64 1)).run Try.prog w = .ok (.int .i64 0) w := fun w => by rw [i1, hv]
            have hw := hide hv
            clear i0 i1 i2 hv
            rcases (show (x0 = false) ∨ (x0 = true ∧ T1 = true) ∨ (x0 = true ∧ T1 = false ∧ T2 = true ∧ S = true) ∨ (x0 = true ∧ T1 = false ∧ T2 = true ∧ S = false) ∨ (x0 = true ∧ T1 = false ∧ T2 = false) from ch_ways x0 T1 T2 S) with rfl | ⟨rfl, rfl⟩ | ⟨rfl, rfl, rfl, rfl⟩ | ⟨rfl, rfl, rfl, rfl⟩ | ⟨rfl, rfl, rfl⟩
            · go_wp2_with (fail)
              go_round
              case rel => exact ⟨2, rfl, by omega, TkI.next1 hJ.out (by rw [sel0 hw.out]; rfl)⟩
              case measure => first | (simp; done) | (simp [intOf]; done) | (simp [intOf]; omega)
            · have u1 := U1.out
              go_wp2_with (fail)
              go_ret2
              exact ⟨ret_ii ((chs_t1 hI.out hJ.out (by rw [sel0 hw.out]; rfl)).trans (by rw [hw.out]; rfl)), by repeat (first | exact Gar.refl _ | refine Gar.drewN ?_ _ | refine Gar.drew ?_ | refine Gar.alloc ?_ _ | refine Gar.allocs ?_ _)⟩
            · have u1 := U1.out
              have u2 := U2.out
              have us := US.out
              go_wp2_with (fail)
              go_ret2
              exact ⟨ret_ii ((chs_t1 hI.out hJ.out (by rw [sel0 hw.out]; rfl)).trans (by rw [hw.out]; rfl)), by repeat (first | exact Gar.refl _ | refine Gar.drewN ?_ _ | refine Gar.drew ?_ | refine Gar.alloc ?_ _ | refine Gar.allocs ?_ _)⟩
            · have u1 := U1.out
              have u2 := U2.out
              have us := US.out
              go_wp2_with (fail)
              go_round
              case rel => exact ⟨2, rfl, by omega, TkI.next1 hJ.out (by rw [sel0 hw.out]; rfl)⟩
              case measure => first | (simp; done) | (simp [intOf]; done) | (simp [intOf]; omega)
            · have u1 := U1.out
              have u2 := U2.out
              go_wp2_with (fail)
              go_round
              case rel => exact ⟨2, rfl, by omega, TkI.next1 hJ.out (by rw [sel0 hw.out]; rfl)⟩
              case measure => first | (simp; done) | (simp [intOf]; done) | (simp [intOf]; omega)
          · have iv : ∀ w, (Instr.index 22 (.agg #[.int .i64 p0, .int .i64 p1, .int .i64 p2]) (.int .i64 1)).run Try.prog w = .ok (.int .i64 1) w := fun w => by rw [i1, hv]
            have hw := hide hv
            clear i0 i1 i2 hv
            rcases (show (x1 = false) ∨ (x1 = true ∧ T1 = true) ∨ (x1 = true ∧ T1 = false ∧ T2 = true ∧ S = true) ∨ (x1 = true ∧ T1 = false ∧ T2 = true ∧ S = false) ∨ (x1 = true ∧ T1 = false ∧ T2 = false) from ch_ways x1 T1 T2 S) with rfl | ⟨rfl, rfl⟩ | ⟨rfl, rfl, rfl, rfl⟩ | ⟨rfl, rfl, rfl, rfl⟩ | ⟨rfl, rfl, rfl⟩
            · go_wp2_with (fail)
              go_round
              case rel => exact ⟨2, rfl, by omega, TkI.next1 hJ.out (by rw [sel1 hw.out]; rfl)⟩
              case measure => first | (simp; done) | (simp [intOf]; done) | (simp [intOf]; omega)
            · have u1 := U1.out
              go_wp2_with (fail)
              go_ret2
              exact ⟨ret_ii ((chs_t1 hI.out hJ.out (by rw [sel1 hw.out]; rfl)).trans (by rw [hw.out]; rfl)), by repeat (first | exact Gar.refl _ | refine Gar.drewN ?_ _ | refine Gar.drew ?_ | refine Gar.alloc ?_ _ | refine Gar.allocs ?_ _)⟩
            · have u1 := U1.out
              have u2 := U2.out
              have us := US.out
              go_wp2_with (fail)
              go_ret2
              exact ⟨ret_ii ((chs_t1 hI.out hJ.out (by rw [sel1 hw.out]; rfl)).trans (by rw [hw.out]; rfl)), by repeat (first | exact Gar.refl _ | refine Gar.drewN ?_ _ | refine Gar.drew ?_ | refine Gar.alloc ?_ _ | refine Gar.allocs ?_ _)⟩
            · have u1 := U1.out
              have u2 := U2.out
              have us := US.out
              go_wp2_with (fail)
              go_round
              case rel => exact ⟨2, rfl, by omega, TkI.next1 hJ.out (by rw [sel1 hw.out]; rfl)⟩
              case measure => first | (simp; done) | (simp [intOf]; done) | (simp [intOf]; omega)
            · have u1 := U1.out
              have u2 := U2.out
              go_wp2_with (fail)
              go_round
              case rel => exact ⟨2, rfl, by omega, TkI.next1 hJ.out (by rw [sel1 hw.out]; rfl)⟩
              case measure => first | (simp; done) | (simp [intOf]; done) | (simp [intOf]; omega)
          · have iv : ∀ w, (Instr.index 22 (.agg #[.int .i64 p0, .int .i64 p1, .int .i64 p2]) (.int .i64 1)).run Try.prog w = .ok (.int .i64 2) w := fun w => by rw [i1, hv]
            have hw := hide hv
            clear i0 i1 i2 hv
            rcases (show (x2 = false) ∨ (x2 = true ∧ T1 = true) ∨ (x2 = true ∧ T1 = false ∧ T2 = true ∧ S = true) ∨ (x2 = true ∧ T1 = false ∧ T2 = true ∧ S = false) ∨ (x2 = true ∧ T1 = false ∧ T2 = false) from ch_ways x2 T1 T2 S) with rfl | ⟨rfl, rfl⟩ | ⟨rfl, rfl, rfl, rfl⟩ | ⟨rfl, rfl, rfl, rfl⟩ | ⟨rfl, rfl, rfl⟩
            · go_wp2_with (fail)
              go_round
              case rel => exact ⟨2, rfl, by omega, TkI.next1 hJ.out (by rw [sel2 hw.out]; rfl)⟩
              case measure => first | (simp; done) | (simp [intOf]; done) | (simp [intOf]; omega)
            · have u1 := U1.out
              go_wp2_with (fail)
              go_ret2
              exact ⟨ret_ii ((chs_t1 hI.out hJ.out (by rw [sel2 hw.out]; rfl)).trans (by rw [hw.out]; rfl)), by repeat (first | exact Gar.refl _ | refine Gar.drewN ?_ _ | refine Gar.drew ?_ | refine Gar.alloc ?_ _ | refine Gar.allocs ?_ _)⟩
            · have u1 := U1.out
              have u2 := U2.out
              have us := US.out
              go_wp2_with (fail)
              go_ret2
              exact ⟨ret_ii ((chs_t1 hI.out hJ.out (by rw [sel2 hw.out]; rfl)).trans (by rw [hw.out]; rfl)), by repeat (first | exact Gar.refl _ | refine Gar.drewN ?_ _ | refine Gar.drew ?_ | refine Gar.alloc ?_ _ | refine Gar.allocs ?_ _)⟩
            · have u1 := U1.out
              have u2 := U2.out
              have us := US.out
              go_wp2_with (fail)
              go_round
              case rel => exact ⟨2, rfl, by omega, TkI.next1 hJ.out (by rw [sel2 hw.out]; rfl)⟩
              case measure => first | (simp; done) | (simp [intOf]; done) | (simp [intOf]; omega)
            · have u1 := U1.out
              have u2 := U2.out
              go_wp2_with (fail)
              go_round
              case rel => exact ⟨2, rfl, by omega, TkI.next1 hJ.out (by rw [sel2 hw.out]; rfl)⟩
              case measure => first | (simp; done) | (simp [intOf]; done) | (simp [intOf]; omega)
        · rcases (show p2 = 0 ∨ p2 = 1 ∨ p2 = 2 by omega) with hv | hv | hv
          · have iv : ∀ w, (Instr.index 22 (.agg #[.int .i64 p0, .int .i64 p1, .int .i64 p2]) (.int .i64 2)).run Try.prog w = .ok (.int .i64 0) w := fun w => by rw [i2, hv]
            have hw := hide hv
            clear i0 i1 i2 hv
            rcases (show (x0 = false) ∨ (x0 = true ∧ T1 = true) ∨ (x0 = true ∧ T1 = false ∧ T2 = true ∧ S = true) ∨ (x0 = true ∧ T1 = false ∧ T2 = true ∧ S = false) ∨ (x0 = true ∧ T1 = false ∧ T2 = false) from ch_ways x0 T1 T2 S) with rfl | ⟨rfl, rfl⟩ | ⟨rfl, rfl, rfl, rfl⟩ | ⟨rfl, rfl, rfl, rfl⟩ | ⟨rfl, rfl, rfl⟩
            · go_wp2_with (fail)
              go_round
              case rel => exact ⟨3, rfl, by omega, TkI.next2 hJ.out (by rw [sel0 hw.out]; rfl)⟩
              case measure => first | (simp; done) | (simp [intOf]; done) | (simp [intOf]; omega)
            · have u1 := U1.out
              go_wp2_with (fail)
              go_ret2
              exact ⟨ret_ii ((chs_t2 hI.out hJ.out (by rw [sel0 hw.out]; rfl)).trans (by rw [hw.out]; rfl)), by repeat (first | exact Gar.refl _ | refine Gar.drewN ?_ _ | refine Gar.drew ?_ | refine Gar.alloc ?_ _ | refine Gar.allocs ?_ _)⟩
            · have u1 := U1.out
              have u2 := U2.out
              have us := US.out
              go_wp2_with (fail)
              go_ret2
              exact ⟨ret_ii ((chs_t2 hI.out hJ.out (by rw [sel0 hw.out]; rfl)).trans (by rw [hw.out]; rfl)), by repeat (first | exact Gar.refl _ | refine Gar.drewN ?_ _ | refine Gar.drew ?_ | refine Gar.alloc ?_ _ | refine Gar.allocs ?_ _)⟩
            · have u1 := U1.out
              have u2 := U2.out
              have us := US.out
              go_wp2_with (fail)
              go_round
              case rel => exact ⟨3, rfl, by omega, TkI.next2 hJ.out (by rw [sel0 hw.out]; rfl)⟩
              case measure => first | (simp; done) | (simp [intOf]; done) | (simp [intOf]; omega)
            · have u1 := U1.out
              have u2 := U2.out
              go_wp2_with (fail)
              go_round
              case rel => exact ⟨3, rfl, by omega, TkI.next2 hJ.out (by rw [sel0 hw.out]; rfl)⟩
              case measure => first | (simp; done) | (simp [intOf]; done) | (simp [intOf]; omega)
          · have iv : ∀ w, (Instr.index 22 (.agg #[.int .i64 p0, .int .i64 p1, .int .i64 p2]) (.int .i64 2)).run Try.prog w = .ok (.int .i64 1) w := fun w => by rw [i2, hv]
            have hw := hide hv
            clear i0 i1 i2 hv
            rcases (show (x1 = false) ∨ (x1 = true ∧ T1 = true) ∨ (x1 = true ∧ T1 = false ∧ T2 = true ∧ S = true) ∨ (x1 = true ∧ T1 = false ∧ T2 = true ∧ S = false) ∨ (x1 = true ∧ T1 = false ∧ T2 = false) from ch_ways x1 T1 T2 S) with rfl | ⟨rfl, rfl⟩ | ⟨rfl, rfl, rfl, rfl⟩ | ⟨rfl, rfl, rfl, rfl⟩ | ⟨rfl, rfl, rfl⟩
            · go_wp2_with (fail)
              go_round
              case rel => exact ⟨3, rfl, by omega, TkI.next2 hJ.out (by rw [sel1 hw.out]; rfl)⟩
              case measure => first | (simp; done) | (simp [intOf]; done) | (simp [intOf]; omega)
            · have u1 := U1.out
              go_wp2_with (fail)
              go_ret2
              exact ⟨ret_ii ((chs_t2 hI.out hJ.out (by rw [sel1 hw.out]; rfl)).trans (by rw [hw.out]; rfl)), by repeat (first | exact Gar.refl _ | refine Gar.drewN ?_ _ | refine Gar.drew ?_ | refine Gar.alloc ?_ _ | refine Gar.allocs ?_ _)⟩
            · have u1 := U1.out
              have u2 := U2.out
              have us := US.out
              go_wp2_with (fail)
              go_ret2
              exact ⟨ret_ii ((chs_t2 hI.out hJ.out (by rw [sel1 hw.out]; rfl)).trans (by rw [hw.out]; rfl)), by repeat (first | exact Gar.refl _ | refine Gar.drewN ?_ _ | refine Gar.drew ?_ | refine Gar.alloc ?_ _ | refine Gar.allocs ?_ _)⟩
            · have u1 := U1.out
              have u2 := U2.out
              have us := US.out
              go_wp2_with (fail)
              go_round
              case rel => exact ⟨3, rfl, by omega, TkI.next2 hJ.out (by rw [sel1 hw.out]; rfl)⟩
              case measure => first | (simp; done) | (simp [intOf]; done) | (simp [intOf]; omega)
            · have u1 := U1.out
              have u2 := U2.out
              go_wp2_with (fail)
              go_round
              case rel => exact ⟨3, rfl, by omega, TkI.next2 hJ.out (by rw [sel1 hw.out]; rfl)⟩
              case measure => first | (simp; done) | (simp [intOf]; done) | (simp [intOf]; omega)
          · have iv : ∀ w, (Instr.index 22 (.agg #[.int .i64 p0, .int .i64 p1, .int .i64 p2]) (.int .i64 2)).run Try.prog w = .ok (.int .i64 2) w := fun w => by rw [i2, hv]
            have hw := hide hv
            clear i0 i1 i2 hv
            rcases (show (x2 = false) ∨ (x2 = true ∧ T1 = true) ∨ (x2 = true ∧ T1 = false ∧ T2 = true ∧ S = true) ∨ (x2 = true ∧ T1 = false ∧ T2 = true ∧ S = false) ∨ (x2 = true ∧ T1 = false ∧ T2 = false) from ch_ways x2 T1 T2 S) with rfl | ⟨rfl, rfl⟩ | ⟨rfl, rfl, rfl, rfl⟩ | ⟨rfl, rfl, rfl, rfl⟩ | ⟨rfl, rfl, rfl⟩
            · go_wp2_with (fail)
              go_round
              case rel => exact ⟨3, rfl, by omega, TkI.next2 hJ.out (by rw [sel2 hw.out]; rfl)⟩
              case measure => first | (simp; done) | (simp [intOf]; done) | (simp [intOf]; omega)
            · have u1 := U1.out
              go_wp2_with (fail)
              go_ret2
              exact ⟨ret_ii ((chs_t2 hI.out hJ.out (by rw [sel2 hw.out]; rfl)).trans (by rw [hw.out]; rfl)), by repeat (first | exact Gar.refl _ | refine Gar.drewN ?_ _ | refine Gar.drew ?_ | refine Gar.alloc ?_ _ | refine Gar.allocs ?_ _)⟩
            · have u1 := U1.out
              have u2 := U2.out
              have us := US.out
              go_wp2_with (fail)
              go_ret2
              exact ⟨ret_ii ((chs_t2 hI.out hJ.out (by rw [sel2 hw.out]; rfl)).trans (by rw [hw.out]; rfl)), by repeat (first | exact Gar.refl _ | refine Gar.drewN ?_ _ | refine Gar.drew ?_ | refine Gar.alloc ?_ _ | refine Gar.allocs ?_ _)⟩
            · have u1 := U1.out
              have u2 := U2.out
              have us := US.out
              go_wp2_with (fail)
              go_round
              case rel => exact ⟨3, rfl, by omega, TkI.next2 hJ.out (by rw [sel2 hw.out]; rfl)⟩
              case measure => first | (simp; done) | (simp [intOf]; done) | (simp [intOf]; omega)
            · have u1 := U1.out
              have u2 := U2.out
              go_wp2_with (fail)
              go_round
              case rel => exact ⟨3, rfl, by omega, TkI.next2 hJ.out (by rw [sel2 hw.out]; rfl)⟩
              case measure => first | (simp; done) | (simp [intOf]; done) | (simp [intOf]; omega)
        · go_wp2_with (fail)
          go_ret2
          exact ⟨ret_ii (chs_n hI.out hJ.out), by repeat (first | exact Gar.refl _ | refine Gar.drewN ?_ _ | refine Gar.drew ?_ | refine Gar.alloc ?_ _ | refine Gar.allocs ?_ _)⟩
set_option maxHeartbeats 8000000 in
theorem choose_wide (e0 e1 e2 p0 p1 p2 n a0 a1 a2 : Int) (x0 x1 x2 : Bool) (ct : Int) (y0 y1 y2 y3 y4 y5 y6 y7 y8 : Bool) (sp : Int) (hp0 : 0 ≤ p0 ∧ p0 ≤ 2) (hp1 : 0 ≤ p1 ∧ p1 ≤ 2) (hp2 : 0 ≤ p2 ∧ p2 ≤ 2) (h3 : ct = 3) (hm : midB a0 a1 a2 = false) (w0 w : World) (hb : Gar w0 w) :
    Calls Try.prog 25 #[.agg #[.int .i64 e0, .int .i64 e1, .int .i64 e2, .int .i64 p0, .int .i64 p1, .int .i64 p2, .int .i64 n, .int .i64 a0, .int .i64 a1, .int .i64 a2, .bool x0, .bool x1, .bool x2, .int .i64 ct, .bool y0, .bool y1, .bool y2, .bool y3, .bool y4, .bool y5, .bool y6, .bool y7, .bool y8], .int .i64 sp] w fun e w' => e = .returned (.tuple #[.int .i64 (chs p0 p1 p2 x0 x1 x2 (y0 || y1 || y2) (y3 || y4 || y5) (y6 || y7 || y8) (decide (ct = 3) && midB a0 a1 a2) (decide (ct = 1)) (decide (ct = 2)) (decide (sp < n)) (mdx a0 a1 a2)).1, .int .i64 (chs p0 p1 p2 x0 x1 x2 (y0 || y1 || y2) (y3 || y4 || y5) (y6 || y7 || y8) (decide (ct = 3) && midB a0 a1 a2) (decide (ct = 1)) (decide (ct = 2)) (decide (sp < n)) (mdx a0 a1 a2)).2]) ∧ Gar w0 w' := by
  refine on_gar hb ?_
  clear hb w0
  subst h3
  rw [show (decide ((3 : Int) = 3) && midB a0 a1 a2) = false by rw [hm]; rfl]
  have KM := middle_any a0 a1 a2
  rw [hm] at KM
  generalize mid a0 a1 a2 = Q at KM
  clear hm
  have q0 := fun w => eq_b3z y0 y1 y2 w
  have q1 := fun w => eq_b3z y3 y4 y5 w
  have q2 := fun w => eq_b3z y6 y7 y8 w
  obtain ⟨r0, hr0⟩ : ∃ r, (y0 || y1 || y2) = r := ⟨_, rfl⟩
  obtain ⟨r1, hr1⟩ : ∃ r, (y3 || y4 || y5) = r := ⟨_, rfl⟩
  obtain ⟨r2, hr2⟩ : ∃ r, (y6 || y7 || y8) = r := ⟨_, rfl⟩
  rw [hr0] at q0
  rw [hr1] at q1
  rw [hr2] at q2
  rw [hr0, hr1, hr2]
  clear hr0 hr1 hr2
  obtain ⟨T1, t1⟩ : ∃ T, decide ((3 : Int) = 1) = T := ⟨_, rfl⟩
  obtain ⟨T2, t2⟩ : ∃ T, decide ((3 : Int) = 2) = T := ⟨_, rfl⟩
  obtain ⟨S, ts⟩ : ∃ T, decide (sp < n) = T := ⟨_, rfl⟩
  rw [t1, t2, ts]
  obtain rfl : T1 = false := t1.symm
  obtain rfl : T2 = false := t2.symm
  clear t1 t2
  have US := hide ts
  clear ts
  generalize mdx a0 a1 a2 = D
  have i0 : ∀ w, (Instr.index 22 (.agg #[.int .i64 p0, .int .i64 p1, .int .i64 p2]) (.int .i64 0)).run Try.prog w = .ok (.int .i64 p0) w := fun _ => by kernel_rfl
  have i1 : ∀ w, (Instr.index 22 (.agg #[.int .i64 p0, .int .i64 p1, .int .i64 p2]) (.int .i64 1)).run Try.prog w = .ok (.int .i64 p1) w := fun _ => by kernel_rfl
  have i2 : ∀ w, (Instr.index 22 (.agg #[.int .i64 p0, .int .i64 p1, .int .i64 p2]) (.int .i64 2)).run Try.prog w = .ok (.int .i64 p2) w := fun _ => by kernel_rfl
  go_enter Try.func25, Try.ntmps25
  go_wp2_with (first | (go_at_call 35; (with_reducible refine (KM _).mono ?_); rintro e w' ⟨rfl, rfl⟩))
  go_loop [46] (fun i => ∃ k : Nat, i = .int .i64 k ∧ k ≤ 3 ∧ PrI p0 p1 p2 r0 r1 r2 k) (fun i => 3 - (intOf i).toNat)
  case atStart => exact ⟨0, rfl, by omega, PrI.start⟩
  case round =>
    obtain ⟨k, rfl, hk, hI0⟩ := hrel
    have hI := hide hI0
    clear hI0
    rcases (show k = 0 ∨ k = 1 ∨ k = 2 ∨ k = 3 by omega) with rfl | rfl | rfl | rfl
    · rcases (show p0 = 0 ∨ p0 = 1 ∨ p0 = 2 by omega) with hv | hv | hv
      · have iv : ∀ w, (Instr.index 22 (.agg #[.int .i64 p0, .int .i64 p1, .int .i64 p2]) (.int .i64 0)).run Try.prog w = .ok (.int .i64 0) w := fun w => by rw [i0, hv]
        have hw := hide hv
        clear i0 i1 i2 hv
        cases r0
        · go_wp2_with (fail)
          go_round
          case rel => exact ⟨1, rfl, by omega, PrI.next0 hI.out (sel0 hw.out)⟩
          case measure => first | (simp; done) | (simp [intOf]; done) | (simp [intOf]; omega)
        · go_wp2_with (fail)
          go_ret2
          exact ⟨ret_ii ((chs_f0 hI.out (sel0 hw.out)).trans (by rw [hw.out])), by repeat (first | exact Gar.refl _ | refine Gar.drewN ?_ _ | refine Gar.drew ?_ | refine Gar.alloc ?_ _ | refine Gar.allocs ?_ _)⟩
      · have iv : ∀ w, (Instr.index 22 (.agg #[.int .i64 p0, .int .i64 p1, .int .i64 p2]) (.int .i64 0)).run Try.prog w = .ok (.int .i64 1) w := fun w => by rw [i0, hv]
        have hw := hide hv
        clear i0 i1 i2 hv
        cases r1
        · go_wp2_with (fail)
          go_round
          case rel => exact ⟨1, rfl, by omega, PrI.next0 hI.out (sel1 hw.out)⟩
          case measure => first | (simp; done) | (simp [intOf]; done) | (simp [intOf]; omega)
        · go_wp2_with (fail)
          go_ret2
          exact ⟨ret_ii ((chs_f0 hI.out (sel1 hw.out)).trans (by rw [hw.out])), by repeat (first | exact Gar.refl _ | refine Gar.drewN ?_ _ | refine Gar.drew ?_ | refine Gar.alloc ?_ _ | refine Gar.allocs ?_ _)⟩
      · have iv : ∀ w, (Instr.index 22 (.agg #[.int .i64 p0, .int .i64 p1, .int .i64 p2]) (.int .i64 0)).run Try.prog w = .ok (.int .i64 2) w := fun w => by rw [i0, hv]
        have hw := hide hv
        clear i0 i1 i2 hv
        cases r2
        · go_wp2_with (fail)
          go_round
          case rel => exact ⟨1, rfl, by omega, PrI.next0 hI.out (sel2 hw.out)⟩
          case measure => first | (simp; done) | (simp [intOf]; done) | (simp [intOf]; omega)
        · go_wp2_with (fail)
          go_ret2
          exact ⟨ret_ii ((chs_f0 hI.out (sel2 hw.out)).trans (by rw [hw.out])), by repeat (first | exact Gar.refl _ | refine Gar.drewN ?_ _ | refine Gar.drew ?_ | refine Gar.alloc ?_ _ | refine Gar.allocs ?_ _)⟩
    · rcases (show p1 = 0 ∨ p1 = 1 ∨ p1 = 2 by omega) with hv | hv | hv
      · have iv : ∀ w, (Instr.index 22 (.agg #[.int .i64 p0, .int .i64 p1, .int .i64 p2]) (.int .i64 1)).run Try.prog w = .ok (.int .i64 0) w := fun w => by rw [i1, hv]
        have hw := hide hv
        clear i0 i1 i2 hv
        cases r0
        · go_wp2_with (fail)
          go_round
          case rel => exact ⟨2, rfl, by omega, PrI.next1 hI.out (sel0 hw.out)⟩
          case measure => first | (simp; done) | (simp [intOf]; done) | (simp [intOf]; omega)
        · go_wp2_with (fail)
          go_ret2
          exact ⟨ret_ii ((chs_f1 hI.out (sel0 hw.out)).trans (by rw [hw.out])), by repeat (first | exact Gar.refl _ | refine Gar.drewN ?_ _ | refine Gar.drew ?_ | refine Gar.alloc ?_ _ | refine Gar.allocs ?_ _)⟩
      · have iv : ∀ w, (Instr.index 22 (.agg #[.int .i64 p0, .int .i64 p1, .int .i64 p2]) (.int .i64 1)).run Try.prog w = .ok (.int .i64 1) w := fun w => by rw [i1, hv]
        have hw := hide hv
        clear i0 i1 i2 hv
        cases r1
        · go_wp2_with (fail)
          go_round
          case rel => exact ⟨2, rfl, by omega, PrI.next1 hI.out (sel1 hw.out)⟩
          case measure => first | (simp; done) | (simp [intOf]; done) | (simp [intOf]; omega)
        · go_wp2_with (fail)
          go_ret2
          exact ⟨ret_ii ((chs_f1 hI.out (sel1 hw.out)).trans (by rw [hw.out])), by repeat (first | exact Gar.refl _ | refine Gar.drewN ?_ _ | refine Gar.drew ?_ | refine Gar.alloc ?_ _ | refine Gar.allocs ?_ _)⟩
      · have iv : ∀ w, (Instr.index 22 (.agg #[.int .i64 p0, .int .i64 p1, .int .i64 p2]) (.int .i64 1)).run Try.prog w = .ok (.int .i64 2) w := fun w => by rw [i1, hv]
        have hw := hide hv
        clear i0 i1 i2 hv
        cases r2
        · go_wp2_with (fail)
          go_round
          case rel => exact ⟨2, rfl, by omega, PrI.next1 hI.out (sel2 hw.out)⟩
          case measure => first | (simp; done) | (simp [intOf]; done) | (simp [intOf]; omega)
        · go_wp2_with (fail)
          go_ret2
          exact ⟨ret_ii ((chs_f1 hI.out (sel2 hw.out)).trans (by rw [hw.out])), by repeat (first | exact Gar.refl _ | refine Gar.drewN ?_ _ | refine Gar.drew ?_ | refine Gar.alloc ?_ _ | refine Gar.allocs ?_ _)⟩
    · rcases (show p2 = 0 ∨ p2 = 1 ∨ p2 = 2 by omega) with hv | hv | hv
      · have iv : ∀ w, (Instr.index 22 (.agg #[.int .i64 p0, .int .i64 p1, .int .i64 p2]) (.int .i64 2)).run Try.prog w = .ok (.int .i64 0) w := fun w => by rw [i2, hv]
        have hw := hide hv
        clear i0 i1 i2 hv
        cases r0
        · go_wp2_with (fail)
          go_round
          case rel => exact ⟨3, rfl, by omega, PrI.next2 hI.out (sel0 hw.out)⟩
          case measure => first | (simp; done) | (simp [intOf]; done) | (simp [intOf]; omega)
        · go_wp2_with (fail)
          go_ret2
          exact ⟨ret_ii ((chs_f2 hI.out (sel0 hw.out)).trans (by rw [hw.out])), by repeat (first | exact Gar.refl _ | refine Gar.drewN ?_ _ | refine Gar.drew ?_ | refine Gar.alloc ?_ _ | refine Gar.allocs ?_ _)⟩
      · have iv : ∀ w, (Instr.index 22 (.agg #[.int .i64 p0, .int .i64 p1, .int .i64 p2]) (.int .i64 2)).run Try.prog w = .ok (.int .i64 1) w := fun w => by rw [i2, hv]
        have hw := hide hv
        clear i0 i1 i2 hv
        cases r1
        · go_wp2_with (fail)
          go_round
          case rel => exact ⟨3, rfl, by omega, PrI.next2 hI.out (sel1 hw.out)⟩
          case measure => first | (simp; done) | (simp [intOf]; done) | (simp [intOf]; omega)
        · go_wp2_with (fail)
          go_ret2
          exact ⟨ret_ii ((chs_f2 hI.out (sel1 hw.out)).trans (by rw [hw.out])), by repeat (first | exact Gar.refl _ | refine Gar.drewN ?_ _ | refine Gar.drew ?_ | refine Gar.alloc ?_ _ | refine Gar.allocs ?_ _)⟩
      · have iv : ∀ w, (Instr.index 22 (.agg #[.int .i64 p0, .int .i64 p1, .int .i64 p2]) (.int .i64 2)).run Try.prog w = .ok (.int .i64 2) w := fun w => by rw [i2, hv]
        have hw := hide hv
        clear i0 i1 i2 hv
        cases r2
        · go_wp2_with (fail)
          go_round
          case rel => exact ⟨3, rfl, by omega, PrI.next2 hI.out (sel2 hw.out)⟩
          case measure => first | (simp; done) | (simp [intOf]; done) | (simp [intOf]; omega)
        · go_wp2_with (fail)
          go_ret2
          exact ⟨ret_ii ((chs_f2 hI.out (sel2 hw.out)).trans (by rw [hw.out])), by repeat (first | exact Gar.refl _ | refine Gar.drewN ?_ _ | refine Gar.drew ?_ | refine Gar.alloc ?_ _ | refine Gar.allocs ?_ _)⟩
    · clear q0 q1 q2
      go_wp2_with (fail)
      go_loop [60] (fun i => ∃ k : Nat, i = .int .i64 k ∧ k ≤ 3 ∧ TkI p0 p1 p2 x0 x1 x2 false false S k) (fun i => 3 - (intOf i).toNat)
      case atStart => exact ⟨0, rfl, by omega, TkI.start⟩
      case round =>
        obtain ⟨k, rfl, hk, hJ0⟩ := hrel
        have hJ := hide hJ0
        clear hJ0
        rcases (show k = 0 ∨ k = 1 ∨ k = 2 ∨ k = 3 by omega) with rfl | rfl | rfl | rfl
        · rcases (show p0 = 0 ∨ p0 = 1 ∨ p0 = 2 by omega) with hv | hv | hv
          · have iv : ∀ w, (Instr.index 22 (.agg #[.int .i64 p0, .int .i64 p1, .int .i64 p2]) (.int .i64 0)).run Try.prog w = .ok (.int .i64 0) w := fun w => by rw [i0, hv]
            have hw := hide hv
            clear i0 i1 i2 hv
            cases x0
            all_goals
              go_wp2_with (fail)
              go_round
              case rel => exact ⟨1, rfl, by omega, TkI.next0 hJ.out (by rw [sel0 hw.out]; simp)⟩
              case measure => first | (simp; done) | (simp [intOf]; done) | (simp [intOf]; omega)
          · have iv : ∀ w, (Instr.index 22 (.agg #[.int .i64 p0, .int .i64 p1, .int .i64 p2]) (.int .i64 0)).run Try.prog w = .ok (.int .i64 1) w := fun w => by rw [i0, hv]
            have hw := hide hv
            clear i0 i1 i2 hv
            cases x1
            all_goals
              go_wp2_with (fail)
              go_round
              case rel => exact ⟨1, rfl, by omega, TkI.next0 hJ.out (by rw [sel1 hw.out]; simp)⟩
              case measure => first | (simp; done) | (simp [intOf]; done) | (simp [intOf]; omega)
          · have iv : ∀ w, (Instr.index 22 (.agg #[.int .i64 p0, .int .i64 p1, .int .i64 p2]) (.int .i64 0)).run Try.prog w = .ok (.int .i64 2) w := fun w => by rw [i0, hv]
            have hw := hide hv
            clear i0 i1 i2 hv
            cases x2
            all_goals
              go_wp2_with (fail)
              go_round
              case rel => exact ⟨1, rfl, by omega, TkI.next0 hJ.out (by rw [sel2 hw.out]; simp)⟩
              case measure => first | (simp; done) | (simp [intOf]; done) | (simp [intOf]; omega)
        · rcases (show p1 = 0 ∨ p1 = 1 ∨ p1 = 2 by omega) with hv | hv | hv
          · have iv : ∀ w, (Instr.index 22 (.agg #[.int .i64 p0, .int .i64 p1, .int .i64 p2]) (.int .i64 1)).run Try.prog w = .ok (.int .i64 0) w := fun w => by rw [i1, hv]
            have hw := hide hv
            clear i0 i1 i2 hv
            cases x0
            all_goals
              go_wp2_with (fail)
              go_round
              case rel => exact ⟨2, rfl, by omega, TkI.next1 hJ.out (by rw [sel0 hw.out]; simp)⟩
              case measure => first | (simp; done) | (simp [intOf]; done) | (simp [intOf]; omega)
          · have iv : ∀ w, (Instr.index 22 (.agg #[.int .i64 p0, .int .i64 p1, .int .i64 p2]) (.int .i64 1)).run Try.prog w = .ok (.int .i64 1) w := fun w => by rw [i1, hv]
            have hw := hide hv
            clear i0 i1 i2 hv
            cases x1
            all_goals
              go_wp2_with (fail)
              go_round
              case rel => exact ⟨2, rfl, by omega, TkI.next1 hJ.out (by rw [sel1 hw.out]; simp)⟩
              case measure => first | (simp; done) | (simp [intOf]; done) | (simp [intOf]; omega)
          · have iv : ∀ w, (Instr.index 22 (.agg #[.int .i64 p0, .int .i64 p1, .int .i64 p2]) (.int .i64 1)).run Try.prog w = .ok (.int .i64 2) w := fun w => by rw [i1, hv]
            have hw := hide hv
            clear i0 i1 i2 hv
            cases x2
            all_goals
              go_wp2_with (fail)
              go_round
              case rel => exact ⟨2, rfl, by omega, TkI.next1 hJ.out (by rw [sel2 hw.out]; simp)⟩
              case measure => first | (simp; done) | (simp [intOf]; done) | (simp [intOf]; omega)
        · rcases (show p2 = 0 ∨ p2 = 1 ∨ p2 = 2 by omega) with hv | hv | hv
          · have iv : ∀ w, (Instr.index 22 (.agg #[.int .i64 p0, .int .i64 p1, .int .i64 p2]) (.int .i64 2)).run Try.prog w = .ok (.int .i64 0) w := fun w => by rw [i2, hv]
            have hw := hide hv
            clear i0 i1 i2 hv
            cases x0
            all_goals
              go_wp2_with (fail)
              go_round
              case rel => exact ⟨3, rfl, by omega, TkI.next2 hJ.out (by rw [sel0 hw.out]; simp)⟩
              case measure => first | (simp; done) | (simp [intOf]; done) | (simp [intOf]; omega)
          · have iv : ∀ w, (Instr.index 22 (.agg #[.int .i64 p0, .int .i64 p1, .int .i64 p2]) (.int .i64 2)).run Try.prog w = .ok (.int .i64 1) w := fun w => by rw [i2, hv]
            have hw := hide hv
            clear i0 i1 i2 hv
            cases x1
            all_goals
              go_wp2_with (fail)
              go_round
              case rel => exact ⟨3, rfl, by omega, TkI.next2 hJ.out (by rw [sel1 hw.out]; simp)⟩
              case measure => first | (simp; done) | (simp [intOf]; done) | (simp [intOf]; omega)
          · have iv : ∀ w, (Instr.index 22 (.agg #[.int .i64 p0, .int .i64 p1, .int .i64 p2]) (.int .i64 2)).run Try.prog w = .ok (.int .i64 2) w := fun w => by rw [i2, hv]
            have hw := hide hv
            clear i0 i1 i2 hv
            cases x2
            all_goals
              go_wp2_with (fail)
              go_round
              case rel => exact ⟨3, rfl, by omega, TkI.next2 hJ.out (by rw [sel2 hw.out]; simp)⟩
              case measure => first | (simp; done) | (simp [intOf]; done) | (simp [intOf]; omega)
        · go_wp2_with (fail)
          go_ret2
          exact ⟨ret_ii (chs_n hI.out hJ.out), by repeat (first | exact Gar.refl _ | refine Gar.drewN ?_ _ | refine Gar.drew ?_ | refine Gar.alloc ?_ _ | refine Gar.allocs ?_ _)⟩
theorem choose_any (e0 e1 e2 p0 p1 p2 n a0 a1 a2 : Int) (x0 x1 x2 : Bool) (ct : Int) (y0 y1 y2 y3 y4 y5 y6 y7 y8 : Bool) (sp : Int) (hp0 : 0 ≤ p0 ∧ p0 ≤ 2) (hp1 : 0 ≤ p1 ∧ p1 ≤ 2) (hp2 : 0 ≤ p2 ∧ p2 ≤ 2) (w0 w : World) (hb : Gar w0 w) :
    Calls Try.prog 25 #[.agg #[.int .i64 e0, .int .i64 e1, .int .i64 e2, .int .i64 p0, .int .i64 p1, .int .i64 p2, .int .i64 n, .int .i64 a0, .int .i64 a1, .int .i64 a2, .bool x0, .bool x1, .bool x2, .int .i64 ct, .bool y0, .bool y1, .bool y2, .bool y3, .bool y4, .bool y5, .bool y6, .bool y7, .bool y8], .int .i64 sp] w fun e w' => e = .returned (.tuple #[.int .i64 (chs p0 p1 p2 x0 x1 x2 (y0 || y1 || y2) (y3 || y4 || y5) (y6 || y7 || y8) (decide (ct = 3) && midB a0 a1 a2) (decide (ct = 1)) (decide (ct = 2)) (decide (sp < n)) (mdx a0 a1 a2)).1, .int .i64 (chs p0 p1 p2 x0 x1 x2 (y0 || y1 || y2) (y3 || y4 || y5) (y6 || y7 || y8) (decide (ct = 3) && midB a0 a1 a2) (decide (ct = 1)) (decide (ct = 2)) (decide (sp < n)) (mdx a0 a1 a2)).2]) ∧ Gar w0 w' := by
  by_cases h3 : ct = 3
  · cases hm : midB a0 a1 a2
    · rw [← hm]; exact choose_wide e0 e1 e2 p0 p1 p2 n a0 a1 a2 x0 x1 x2 ct y0 y1 y2 y3 y4 y5 y6 y7 y8 sp hp0 hp1 hp2 h3 hm w0 w hb
    · rw [← hm]; exact choose_mid e0 e1 e2 p0 p1 p2 n a0 a1 a2 x0 x1 x2 ct y0 y1 y2 y3 y4 y5 y6 y7 y8 sp hp0 hp1 hp2 h3 hm w0 w hb
  · exact choose_far e0 e1 e2 p0 p1 p2 n a0 a1 a2 x0 x1 x2 ct y0 y1 y2 y3 y4 y5 y6 y7 y8 sp hp0 hp1 hp2 h3 w0 w hb
end Go.Proofs.Ytdincfemiignjaa
