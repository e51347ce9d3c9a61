/- The contract of the reference's choose. -/
import Derived.Test.YtdincfemiignjaaVotQ
namespace Go.Proofs.Ytdincfemiignjaa
open Go.RowKit
set_option linter.unusedVariables false
set_option linter.unusedSimpArgs false
attribute [local go_sem ↓] Go.wp_at_zero Go.wp_at_succ

set_option maxRecDepth 100000 in
set_option maxHeartbeats 8000000 in
theorem rchoose_mid (e0 e1 e2 p0 p1 p2 n s0 s1 s2 : Int) (m0 m1 m2 : Bool) (sp a0 a1 a2 : Int) (r0 r1 r2 : Bool) (u0 u1 u2 g01 g02 g12 : Bool) (ct c0 c1 c2 cs : Int) (E0 E1 E2 : Bool) (ci cw : Int) (hv : VS e0 e1 e2 p0 p1 p2 n s0 s1 s2 m0 m1 m2 sp a0 a1 a2 r0 r1 r2 u0 u1 u2 g01 g02 g12 ct c0 c1 c2 cs E0 E1 E2 ci cw) (hco : vcode e0 e1 e2 p0 p1 p2 n = 0) (h3 : ct = 3) (hm : midB a0 a1 a2 = true) (w0 w : World) (hb : Gar w0 w) :
    Calls Try.prog 26 #[.agg #[.int .i64 e0, .int .i64 e1, .int .i64 e2, .int .i64 p0, .int .i64 p1, .int .i64 p2, .int .i64 n], .agg #[.int .i64 s0, .int .i64 s1, .int .i64 s2, .bool m0, .bool m1, .bool m2, .int .i64 sp], .agg #[.int .i64 a0, .int .i64 a1, .int .i64 a2, .bool r0, .bool r1, .bool r2]] w fun e w' => e = .returned (.tuple #[.int .i64 ci, .int .i64 cw]) ∧ Gar w0 w' := by
  refine on_gar hb ?_
  clear hb w0
  obtain ⟨he, hn, hpp⟩ := vcode_in hco
  have hp0 : 0 ≤ p0 ∧ p0 ≤ 2 := by omega
  have hp1 : 0 ≤ p1 ∧ p1 ≤ 2 := by omega
  have hp2 : 0 ≤ p2 ∧ p2 ≤ 2 := by omega
  clear hpp hco
  obtain ⟨hu0, hu1, hu2, hg01, hg02, hg12, hct, hc0, hc1, hc2, hcs, hE0, hE1, hE2, hch⟩ := hv
  have KA := fun w => ractive_any s0 s1 s2 m0 m1 m2 sp a0 a1 a2 r0 r1 r2 w w (Gar.refl _)
  rw [hu0, hu1, hu2, hct] at KA
  subst h3
  rw [hm, show (decide ((3 : Int) = 3) && true) = true from rfl, chs_m] at hch
  have hcw : cw = 1 := (congrArg Prod.snd hch).symm
  have hci : mdx a0 a1 a2 = ci := congrArg Prod.fst hch
  subst hcw
  clear hch hu0 hu1 hu2 hg01 hg02 hg12 hct hc0 hc1 hc2 hcs hE0 hE1 hE2 he hn hp0 hp1 hp2
  have hmem := mid_mem hm
  have KM := rmiddle_any a0 a1 a2
  rw [hm] at KM
  have K0 := rnorm_any a0
  have K1 := rnorm_any a1
  have K2 := rnorm_any a2
  have hd : mdx a0 a1 a2 = (if nrm a0 = mid a0 a1 a2 then 0 else if nrm a1 = mid a0 a1 a2 then 1 else 2) := rfl
  rw [hci] at hd
  clear hci
  generalize mid a0 a1 a2 = Q at *
  generalize nrm a0 = P0 at *
  generalize nrm a1 = P1 at *
  generalize nrm a2 = P2 at *
  clear hm
  by_cases h0 : P0 = Q
  · rw [if_pos h0] at hd
    subst hd
    have g0 : (P0 == Q) = true := by simpa using h0
    clear h0 hmem
    go_enter Try.func26, Try.ntmps26
    go_wp2_with (first | (go_at_call 29; (with_reducible refine (KA _).mono ?_); rintro e w' ⟨rfl, os1, n1, rfl⟩) | (go_at_call 36; (with_reducible refine (KM _).mono ?_); rintro e w' ⟨rfl, rfl⟩))
    refine wp_loop_rounds 4 ?_
    repeat any_goals (rw [rounds_succ]; go_wp2_with (first | (go_at_call 28; (first | (with_reducible refine (K0 _).mono ?_) | (with_reducible refine (K1 _).mono ?_) | (with_reducible refine (K2 _).mono ?_)); rintro e w' ⟨rfl, rfl⟩)))
    go_ret2
    exact ⟨rfl, by repeat (first | exact Gar.refl _ | refine Gar.drewN ?_ _ | refine Gar.drew ?_ | refine Gar.alloc ?_ _ | refine Gar.allocs ?_ _)⟩
  by_cases h1 : P1 = Q
  · rw [if_neg h0, if_pos h1] at hd
    subst hd
    have g0 : (P0 == Q) = false := by simpa using h0
    have g1 : (P1 == Q) = true := by simpa using h1
    clear h0 h1 hmem
    go_enter Try.func26, Try.ntmps26
    go_wp2_with (first | (go_at_call 29; (with_reducible refine (KA _).mono ?_); rintro e w' ⟨rfl, os1, n1, rfl⟩) | (go_at_call 36; (with_reducible refine (KM _).mono ?_); rintro e w' ⟨rfl, rfl⟩))
    refine wp_loop_rounds 4 ?_
    repeat any_goals (rw [rounds_succ]; go_wp2_with (first | (go_at_call 28; (first | (with_reducible refine (K0 _).mono ?_) | (with_reducible refine (K1 _).mono ?_) | (with_reducible refine (K2 _).mono ?_)); rintro e w' ⟨rfl, rfl⟩)))
    go_ret2
    exact ⟨rfl, by repeat (first | exact Gar.refl _ | refine Gar.drewN ?_ _ | refine Gar.drew ?_ | refine Gar.alloc ?_ _ | refine Gar.allocs ?_ _)⟩
  · rw [if_neg h0, if_neg h1] at hd
    subst hd
    have g0 : (P0 == Q) = false := by simpa using h0
    have g1 : (P1 == Q) = false := by simpa using h1
    have g2 : (P2 == Q) = true := by simp; omega
    clear h0 h1 hmem
    go_enter Try.func26, Try.ntmps26
    go_wp2_with (first | (go_at_call 29; (with_reducible refine (KA _).mono ?_); rintro e w' ⟨rfl, os1, n1, rfl⟩) | (go_at_call 36; (with_reducible refine (KM _).mono ?_); rintro e w' ⟨rfl, rfl⟩))
    refine wp_loop_rounds 4 ?_
    repeat any_goals (rw [rounds_succ]; go_wp2_with (first | (go_at_call 28; (first | (with_reducible refine (K0 _).mono ?_) | (with_reducible refine (K1 _).mono ?_) | (with_reducible refine (K2 _).mono ?_)); rintro e w' ⟨rfl, rfl⟩)))
    go_ret2
    exact ⟨rfl, by repeat (first | exact Gar.refl _ | refine Gar.drewN ?_ _ | refine Gar.drew ?_ | refine Gar.alloc ?_ _ | refine Gar.allocs ?_ _)⟩
theorem ch_waysZ (x T1 T2 S : Bool) : (x = false) ∨ (x = true ∧ T1 = true) ∨ (x = true ∧ T1 = false ∧ T2 = true ∧ S = true) ∨ (x = true ∧ T1 = false ∧ T2 = true ∧ S = false) ∨ (x = true ∧ T1 = false ∧ T2 = false) := by
  revert x T1 T2 S; decide
theorem ret_ii2 {a b c d : Int} (h : ((a, b) : Int × Int) = (c, d)) : Ending.returned (.tuple #[.int .i64 c, .int .i64 d]) = .returned (.tuple #[.int .i64 a, .int .i64 b]) := by
  rw [(Prod.mk.inj h).1, (Prod.mk.inj h).2]
set_option maxRecDepth 100000 in
set_option maxHeartbeats 8000000 in
theorem rchoose_far (e0 e1 e2 p0 p1 p2 n s0 s1 s2 : Int) (m0 m1 m2 : Bool) (sp a0 a1 a2 : Int) (r0 r1 r2 : Bool) (u0 u1 u2 g01 g02 g12 : Bool) (ct c0 c1 c2 cs : Int) (E0 E1 E2 : Bool) (ci cw : Int) (hv : VS e0 e1 e2 p0 p1 p2 n s0 s1 s2 m0 m1 m2 sp a0 a1 a2 r0 r1 r2 u0 u1 u2 g01 g02 g12 ct c0 c1 c2 cs E0 E1 E2 ci cw) (hco : vcode e0 e1 e2 p0 p1 p2 n = 0) (h3 : ct ≠ 3) (w0 w : World) (hb : Gar w0 w) :
    Calls Try.prog 26 #[.agg #[.int .i64 e0, .int .i64 e1, .int .i64 e2, .int .i64 p0, .int .i64 p1, .int .i64 p2, .int .i64 n], .agg #[.int .i64 s0, .int .i64 s1, .int .i64 s2, .bool m0, .bool m1, .bool m2, .int .i64 sp], .agg #[.int .i64 a0, .int .i64 a1, .int .i64 a2, .bool r0, .bool r1, .bool r2]] w fun e w' => e = .returned (.tuple #[.int .i64 ci, .int .i64 cw]) ∧ Gar w0 w' := by
  refine on_gar hb ?_
  clear hb w0
  obtain ⟨he, hn, hpp⟩ := vcode_in hco
  have hp0 : 0 ≤ p0 ∧ p0 ≤ 2 := by omega
  have hp1 : 0 ≤ p1 ∧ p1 ≤ 2 := by omega
  have hp2 : 0 ≤ p2 ∧ p2 ≤ 2 := by omega
  clear hpp hco
  have KN := fun w0 w hb => rnext_ok e0 e1 e2 p0 p1 p2 n s0 s1 s2 m0 m1 m2 sp a0 a1 a2 r0 r1 r2 u0 u1 u2 g01 g02 g12 ct c0 c1 c2 cs E0 E1 E2 ci cw hv he hn w0 w hb
  obtain ⟨hu0, hu1, hu2, hg01, hg02, hg12, hct, hc0, hc1, hc2, hcs, hE0, hE1, hE2, hch⟩ := hv
  have KA := fun w => ractive_any s0 s1 s2 m0 m1 m2 sp a0 a1 a2 r0 r1 r2 w w (Gar.refl _)
  rw [hu0, hu1, hu2, hct] at KA
  have F0 := fun w => friends_0 e0 e1 e2 p0 p1 p2 n u0 u1 u2 a0 a1 a2 r0 r1 r2 he w w (Gar.refl _)
  have F1 := fun w => friends_1 e0 e1 e2 p0 p1 p2 n u0 u1 u2 a0 a1 a2 r0 r1 r2 he w w (Gar.refl _)
  have F2 := fun w => friends_2 e0 e1 e2 p0 p1 p2 n u0 u1 u2 a0 a1 a2 r0 r1 r2 he w w (Gar.refl _)
  rw [hg01, hg02] at F0
  rw [hg12, gg_comm u1 u0, hg01, Bool.or_comm g12 g01] at F1
  rw [gg_comm u2 u0, hg02, gg_comm u2 u1, hg12] at F2
  clear hu0 hu1 hu2 hg01 hg02 hg12 hct hc0 hc1 hc2 hcs hE0 hE1 hE2 he hn
  generalize (g01 || g02) = r0f at *
  generalize (g01 || g12) = r1f at *
  generalize (g02 || g12) = r2f at *
  have h3b : (ct == 3) = false := by simpa using h3
  rw [show (decide (ct = 3) && midB a0 a1 a2) = false by rw [decide_eq_false h3]; rfl] at hch
  clear h3
  obtain ⟨T1, t1⟩ : ∃ T, decide (ct = 1) = T := ⟨_, rfl⟩
  obtain ⟨T2, t2⟩ : ∃ T, decide (ct = 2) = T := ⟨_, rfl⟩
  rw [t1, t2] at hch
  have U1 := hide (show (ct == 1) = T1 from t1)
  have U2 := hide (show (ct == 2) = T2 from t2)
  clear t1 t2
  obtain ⟨S, ts⟩ : ∃ T, decide (cs < n) = T := ⟨_, rfl⟩
  rw [ts] at hch
  have US := hide ts
  have HC := hide hch
  clear ts hch
  have hfd : ∀ w : World, (Instr.field 27 (.agg #[.int .i64 c0, .int .i64 c1, .int .i64 c2, .bool E0, .bool E1, .bool E2, .int .i64 cs]) 2).run Try.prog w = .ok (.int .i64 cs) w := fun _ => by kernel_rfl
  have i0 : ∀ w, (Instr.index 22 (.agg #[.int .i64 p0, .int .i64 p1, .int .i64 p2]) (.int .i64 0)).run Try.prog w = .ok (.int .i64 p0) w := fun _ => by kernel_rfl
  have i1 : ∀ w, (Instr.index 22 (.agg #[.int .i64 p0, .int .i64 p1, .int .i64 p2]) (.int .i64 1)).run Try.prog w = .ok (.int .i64 p1) w := fun _ => by kernel_rfl
  have i2 : ∀ w, (Instr.index 22 (.agg #[.int .i64 p0, .int .i64 p1, .int .i64 p2]) (.int .i64 2)).run Try.prog w = .ok (.int .i64 p2) w := fun _ => by kernel_rfl
  go_enter Try.func26, Try.ntmps26
  go_wp2_with (first | (go_at_call 29; (with_reducible refine (KA _).mono ?_); rintro e w' ⟨rfl, os1, n1, rfl⟩))
  go_loopw [53] (fun i wr => ∃ k : Nat, i = .int .i64 k ∧ k ≤ 3 ∧ Gar ((allocs (((w.alloc (.cells #[.int .i64 e0, .int .i64 e1, .int .i64 e2, .int .i64 p0, .int .i64 p1, .int .i64 p2, .int .i64 n] 24)).alloc (.cells #[.int .i64 s0, .int .i64 s1, .int .i64 s2, .bool m0, .bool m1, .bool m2, .int .i64 sp] 27)).alloc (.cells #[.int .i64 a0, .int .i64 a1, .int .i64 a2, .bool r0, .bool r1, .bool r2] 29)) os1).alloc (.cells #[.bool u0, .bool u1, .bool u2] 25)) wr ∧ PrI p0 p1 p2 r0f r1f r2f k) (fun i _ => 3 - (intOf i).toNat)
  case atStart => exact ⟨0, rfl, by omega, by repeat (first | exact Gar.refl _ | refine Gar.drewN ?_ _ | refine Gar.drew ?_ | refine Gar.alloc ?_ _ | refine Gar.allocs ?_ _), PrI.start⟩
  case round =>
    obtain ⟨k, rfl, hk, ⟨os, n2, rfl⟩, hI0⟩ := hrel
    have hI := hide hI0
    clear hI0
    rcases (show k = 0 ∨ k = 1 ∨ k = 2 ∨ k = 3 by omega) with rfl | rfl | rfl | rfl
    · rcases (show p0 = 0 ∨ p0 = 1 ∨ p0 = 2 by omega) with hv | hv | hv
      · have iv : ∀ w, (Instr.index 22 (.agg #[.int .i64 p0, .int .i64 p1, .int .i64 p2]) (.int .i64 0)).run Try.prog w = .ok (.int .i64 0) w := fun w => by rw [i0, hv]
        have hw := hide hv
        clear i0 i1 i2 hv
        cases r0f
        · go_wp2_with (first | (go_at_call 37; (with_reducible refine (F0 _).mono ?_); rintro e w' ⟨rfl, os3, n3, rfl⟩))
          go_roundw
          case rel => exact ⟨1, rfl, by omega, by repeat (first | exact Gar.refl _ | refine Gar.drewN ?_ _ | refine Gar.drew ?_ | refine Gar.alloc ?_ _ | refine Gar.allocs ?_ _), PrI.next0 hI.out (sel0 hw.out)⟩
          case measure => first | (simp; done) | (simp [intOf]; done) | (simp [intOf]; omega)
        · go_wp2_with (first | (go_at_call 37; (with_reducible refine (F0 _).mono ?_); rintro e w' ⟨rfl, os3, n3, rfl⟩))
          go_ret2
          exact ⟨ret_ii2 (HC.out.symm.trans ((chs_f0 hI.out (sel0 hw.out)).trans (by rw [hw.out]))), by repeat (first | exact Gar.refl _ | refine Gar.drewN ?_ _ | refine Gar.drew ?_ | refine Gar.alloc ?_ _ | refine Gar.allocs ?_ _)⟩
      · have iv : ∀ w, (Instr.index 22 (.agg #[.int .i64 p0, .int .i64 p1, .int .i64 p2]) (.int .i64 0)).run Try.prog w = .ok (.int .i64 1) w := fun w => by rw [i0, hv]
        have hw := hide hv
        clear i0 i1 i2 hv
        cases r1f
        · go_wp2_with (first | (go_at_call 37; (with_reducible refine (F1 _).mono ?_); rintro e w' ⟨rfl, os3, n3, rfl⟩))
          go_roundw
          case rel => exact ⟨1, rfl, by omega, by repeat (first | exact Gar.refl _ | refine Gar.drewN ?_ _ | refine Gar.drew ?_ | refine Gar.alloc ?_ _ | refine Gar.allocs ?_ _), PrI.next0 hI.out (sel1 hw.out)⟩
          case measure => first | (simp; done) | (simp [intOf]; done) | (simp [intOf]; omega)
        · go_wp2_with (first | (go_at_call 37; (with_reducible refine (F1 _).mono ?_); rintro e w' ⟨rfl, os3, n3, rfl⟩))
          go_ret2
          exact ⟨ret_ii2 (HC.out.symm.trans ((chs_f0 hI.out (sel1 hw.out)).trans (by rw [hw.out]))), by repeat (first | exact Gar.refl _ | refine Gar.drewN ?_ _ | refine Gar.drew ?_ | refine Gar.alloc ?_ _ | refine Gar.allocs ?_ _)⟩
      · have iv : ∀ w, (Instr.index 22 (.agg #[.int .i64 p0, .int .i64 p1, .int .i64 p2]) (.int .i64 0)).run Try.prog w = .ok (.int .i64 2) w := fun w => by rw [i0, hv]
        have hw := hide hv
        clear i0 i1 i2 hv
        cases r2f
        · go_wp2_with (first | (go_at_call 37; (with_reducible refine (F2 _).mono ?_); rintro e w' ⟨rfl, os3, n3, rfl⟩))
          go_roundw
          case rel => exact ⟨1, rfl, by omega, by repeat (first | exact Gar.refl _ | refine Gar.drewN ?_ _ | refine Gar.drew ?_ | refine Gar.alloc ?_ _ | refine Gar.allocs ?_ _), PrI.next0 hI.out (sel2 hw.out)⟩
          case measure => first | (simp; done) | (simp [intOf]; done) | (simp [intOf]; omega)
        · go_wp2_with (first | (go_at_call 37; (with_reducible refine (F2 _).mono ?_); rintro e w' ⟨rfl, os3, n3, rfl⟩))
          go_ret2
          exact ⟨ret_ii2 (HC.out.symm.trans ((chs_f0 hI.out (sel2 hw.out)).trans (by rw [hw.out]))), by repeat (first | exact Gar.refl _ | refine Gar.drewN ?_ _ | refine Gar.drew ?_ | refine Gar.alloc ?_ _ | refine Gar.allocs ?_ _)⟩
    · rcases (show p1 = 0 ∨ p1 = 1 ∨ p1 = 2 by omega) with hv | hv | hv
      · have iv : ∀ w, (Instr.index 22 (.agg #[.int .i64 p0, .int .i64 p1, .int .i64 p2]) (.int .i64 1)).run Try.prog w = .ok (.int .i64 0) w := fun w => by rw [i1, hv]
        have hw := hide hv
        clear i0 i1 i2 hv
        cases r0f
        · go_wp2_with (first | (go_at_call 37; (with_reducible refine (F0 _).mono ?_); rintro e w' ⟨rfl, os3, n3, rfl⟩))
          go_roundw
          case rel => exact ⟨2, rfl, by omega, by repeat (first | exact Gar.refl _ | refine Gar.drewN ?_ _ | refine Gar.drew ?_ | refine Gar.alloc ?_ _ | refine Gar.allocs ?_ _), PrI.next1 hI.out (sel0 hw.out)⟩
          case measure => first | (simp; done) | (simp [intOf]; done) | (simp [intOf]; omega)
        · go_wp2_with (first | (go_at_call 37; (with_reducible refine (F0 _).mono ?_); rintro e w' ⟨rfl, os3, n3, rfl⟩))
          go_ret2
          exact ⟨ret_ii2 (HC.out.symm.trans ((chs_f1 hI.out (sel0 hw.out)).trans (by rw [hw.out]))), by repeat (first | exact Gar.refl _ | refine Gar.drewN ?_ _ | refine Gar.drew ?_ | refine Gar.alloc ?_ _ | refine Gar.allocs ?_ _)⟩
      · have iv : ∀ w, (Instr.index 22 (.agg #[.int .i64 p0, .int .i64 p1, .int .i64 p2]) (.int .i64 1)).run Try.prog w = .ok (.int .i64 1) w := fun w => by rw [i1, hv]
        have hw := hide hv
        clear i0 i1 i2 hv
        cases r1f
        · go_wp2_with (first | (go_at_call 37; (with_reducible refine (F1 _).mono ?_); rintro e w' ⟨rfl, os3, n3, rfl⟩))
          go_roundw
          case rel => exact ⟨2, rfl, by omega, by repeat (first | exact Gar.refl _ | refine Gar.drewN ?_ _ | refine Gar.drew ?_ | refine Gar.alloc ?_ _ | refine Gar.allocs ?_ _), PrI.next1 hI.out (sel1 hw.out)⟩
          case measure => first | (simp; done) | (simp [intOf]; done) | (simp [intOf]; omega)
        · go_wp2_with (first | (go_at_call 37; (with_reducible refine (F1 _).mono ?_); rintro e w' ⟨rfl, os3, n3, rfl⟩))
          go_ret2
          exact ⟨ret_ii2 (HC.out.symm.trans ((chs_f1 hI.out (sel1 hw.out)).trans (by rw [hw.out]))), by repeat (first | exact Gar.refl _ | refine Gar.drewN ?_ _ | refine Gar.drew ?_ | refine Gar.alloc ?_ _ | refine Gar.allocs ?_ _)⟩
      · have iv : ∀ w, (Instr.index 22 (.agg #[.int .i64 p0, .int .i64 p1, .int .i64 p2]) (.int .i64 1)).run Try.prog w = .ok (.int .i64 2) w := fun w => by rw [i1, hv]
        have hw := hide hv
        clear i0 i1 i2 hv
        cases r2f
        · go_wp2_with (first | (go_at_call 37; (with_reducible refine (F2 _).mono ?_); rintro e w' ⟨rfl, os3, n3, rfl⟩))
          go_roundw
          case rel => exact ⟨2, rfl, by omega, by repeat (first | exact Gar.refl _ | refine Gar.drewN ?_ _ | refine Gar.drew ?_ | refine Gar.alloc ?_ _ | refine Gar.allocs ?_ _), PrI.next1 hI.out (sel2 hw.out)⟩
          case measure => first | (simp; done) | (simp [intOf]; done) | (simp [intOf]; omega)
        · go_wp2_with (first | (go_at_call 37; (with_reducible refine (F2 _).mono ?_); rintro e w' ⟨rfl, os3, n3, rfl⟩))
          go_ret2
          exact ⟨ret_ii2 (HC.out.symm.trans ((chs_f1 hI.out (sel2 hw.out)).trans (by rw [hw.out]))), by repeat (first | exact Gar.refl _ | refine Gar.drewN ?_ _ | refine Gar.drew ?_ | refine Gar.alloc ?_ _ | refine Gar.allocs ?_ _)⟩
    · rcases (show p2 = 0 ∨ p2 = 1 ∨ p2 = 2 by omega) with hv | hv | hv
      · have iv : ∀ w, (Instr.index 22 (.agg #[.int .i64 p0, .int .i64 p1, .int .i64 p2]) (.int .i64 2)).run Try.prog w = .ok (.int .i64 0) w := fun w => by rw [i2, hv]
        have hw := hide hv
        clear i0 i1 i2 hv
        cases r0f
        · go_wp2_with (first | (go_at_call 37; (with_reducible refine (F0 _).mono ?_); rintro e w' ⟨rfl, os3, n3, rfl⟩))
          go_roundw
          case rel => exact ⟨3, rfl, by omega, by repeat (first | exact Gar.refl _ | refine Gar.drewN ?_ _ | refine Gar.drew ?_ | refine Gar.alloc ?_ _ | refine Gar.allocs ?_ _), PrI.next2 hI.out (sel0 hw.out)⟩
          case measure => first | (simp; done) | (simp [intOf]; done) | (simp [intOf]; omega)
        · go_wp2_with (first | (go_at_call 37; (with_reducible refine (F0 _).mono ?_); rintro e w' ⟨rfl, os3, n3, rfl⟩))
          go_ret2
          exact ⟨ret_ii2 (HC.out.symm.trans ((chs_f2 hI.out (sel0 hw.out)).trans (by rw [hw.out]))), by repeat (first | exact Gar.refl _ | refine Gar.drewN ?_ _ | refine Gar.drew ?_ | refine Gar.alloc ?_ _ | refine Gar.allocs ?_ _)⟩
      · have iv : ∀ w, (Instr.index 22 (.agg #[.int .i64 p0, .int .i64 p1, .int .i64 p2]) (.int .i64 2)).run Try.prog w = .ok (.int .i64 1) w := fun w => by rw [i2, hv]
        have hw := hide hv
        clear i0 i1 i2 hv
        cases r1f
        · go_wp2_with (first | (go_at_call 37; (with_reducible refine (F1 _).mono ?_); rintro e w' ⟨rfl, os3, n3, rfl⟩))
          go_roundw
          case rel => exact ⟨3, rfl, by omega, by repeat (first | exact Gar.refl _ | refine Gar.drewN ?_ _ | refine Gar.drew ?_ | refine Gar.alloc ?_ _ | refine Gar.allocs ?_ _), PrI.next2 hI.out (sel1 hw.out)⟩
          case measure => first | (simp; done) | (simp [intOf]; done) | (simp [intOf]; omega)
        · go_wp2_with (first | (go_at_call 37; (with_reducible refine (F1 _).mono ?_); rintro e w' ⟨rfl, os3, n3, rfl⟩))
          go_ret2
          exact ⟨ret_ii2 (HC.out.symm.trans ((chs_f2 hI.out (sel1 hw.out)).trans (by rw [hw.out]))), by repeat (first | exact Gar.refl _ | refine Gar.drewN ?_ _ | refine Gar.drew ?_ | refine Gar.alloc ?_ _ | refine Gar.allocs ?_ _)⟩
      · have iv : ∀ w, (Instr.index 22 (.agg #[.int .i64 p0, .int .i64 p1, .int .i64 p2]) (.int .i64 2)).run Try.prog w = .ok (.int .i64 2) w := fun w => by rw [i2, hv]
        have hw := hide hv
        clear i0 i1 i2 hv
        cases r2f
        · go_wp2_with (first | (go_at_call 37; (with_reducible refine (F2 _).mono ?_); rintro e w' ⟨rfl, os3, n3, rfl⟩))
          go_roundw
          case rel => exact ⟨3, rfl, by omega, by repeat (first | exact Gar.refl _ | refine Gar.drewN ?_ _ | refine Gar.drew ?_ | refine Gar.alloc ?_ _ | refine Gar.allocs ?_ _), PrI.next2 hI.out (sel2 hw.out)⟩
          case measure => first | (simp; done) | (simp [intOf]; done) | (simp [intOf]; omega)
        · go_wp2_with (first | (go_at_call 37; (with_reducible refine (F2 _).mono ?_); rintro e w' ⟨rfl, os3, n3, rfl⟩))
          go_ret2
          exact ⟨ret_ii2 (HC.out.symm.trans ((chs_f2 hI.out (sel2 hw.out)).trans (by rw [hw.out]))), by repeat (first | exact Gar.refl _ | refine Gar.drewN ?_ _ | refine Gar.drew ?_ | refine Gar.alloc ?_ _ | refine Gar.allocs ?_ _)⟩
    · go_wp2_with (fail)
      go_loopw [65] (fun i wr => ∃ k : Nat, i = .int .i64 k ∧ k ≤ 3 ∧ Gar ((allocs (((w.alloc (.cells #[.int .i64 e0, .int .i64 e1, .int .i64 e2, .int .i64 p0, .int .i64 p1, .int .i64 p2, .int .i64 n] 24)).alloc (.cells #[.int .i64 s0, .int .i64 s1, .int .i64 s2, .bool m0, .bool m1, .bool m2, .int .i64 sp] 27)).alloc (.cells #[.int .i64 a0, .int .i64 a1, .int .i64 a2, .bool r0, .bool r1, .bool r2] 29)) os1).alloc (.cells #[.bool u0, .bool u1, .bool u2] 25)) wr ∧ TkI p0 p1 p2 u0 u1 u2 T1 T2 S k) (fun i _ => 3 - (intOf i).toNat)
      case atStart => exact ⟨0, rfl, by omega, by repeat (first | exact Gar.refl _ | refine Gar.drewN ?_ _ | refine Gar.drew ?_ | refine Gar.alloc ?_ _ | refine Gar.allocs ?_ _), TkI.start⟩
      case round =>
        clear F0 F1 F2
        obtain ⟨k, rfl, hk, ⟨os, n2, rfl⟩, hJ0⟩ := hrel
        have hJ := hide hJ0
        clear hJ0
        rcases (show k = 0 ∨ k = 1 ∨ k = 2 ∨ k = 3 by omega) with rfl | rfl | rfl | rfl
        · rcases (show p0 = 0 ∨ p0 = 1 ∨ p0 = 2 by omega) with hv | hv | hv
          · have iv : ∀ w, (Instr.index 22 (.agg #[.int .i64 p0, .int .i64 p1, .int .i64 p2]) (.int .i64 0)).run Try.prog w = .ok (.int .i64 0) w := fun w => by rw [i0, hv]
            have hw := hide hv
            clear i0 i1 i2 hv
            rcases ch_waysZ u0 T1 T2 S with rfl | ⟨rfl, rfl⟩ | ⟨rfl, rfl, rfl, rfl⟩ | ⟨rfl, rfl, rfl, rfl⟩ | ⟨rfl, rfl, rfl⟩
            · cases T1 <;> cases T2
              all_goals
                have u1 := U1.out
                have u2 := U2.out
                go_wp2_with (fail)
                (first | with_reducible refine wp_region_qtail (fun w' => ∃ g : Gp, w' = (allocs _ g.os).drewN g.n) 16 (by kernel_rfl) (by kernel_rfl) (gp_drewN _ _) ?_ | with_reducible refine wp_region_qtail (fun w' => ∃ g : Gp, w' = (allocs _ g.os).drewN g.n) 16 (by kernel_rfl) (by kernel_rfl) (gp_drew2 _ _) ?_ | with_reducible refine wp_region_qtail (fun w' => ∃ g : Gp, w' = (allocs _ g.os).drewN g.n) 16 (by kernel_rfl) (by kernel_rfl) (gp_drew _) ?_)
                simp only [List.take_succ_cons, List.take_zero, List.drop_succ_cons, List.drop_zero]
                repeat (first | go_big_quiet_skip | (go_big_quiet_want; (first | (go_big_quiet_op; (first | go_big_quiet_on | (apply Exists.intro; (refine And.intro (fun g => ?_) ?_); (first | (go_at_call 27; with_reducible exact calls_gp (fun _ hg => KN _ _ hg) g)); go_big_quiet_on))))))
                refine wpQuiet_nil ?_
                refine gp_all (fun os' n' => ?_)
                go_wp2_with (fail)
                go_roundw
                case rel => exact ⟨1, rfl, by omega, by repeat (first | exact Gar.refl _ | refine Gar.drewN ?_ _ | refine Gar.drew ?_ | refine Gar.alloc ?_ _ | refine Gar.allocs ?_ _), TkI.next0 hJ.out (by rw [sel0 hw.out]; rfl)⟩
                case measure => first | (simp; done) | (simp [intOf]; done) | (simp [intOf]; omega)
            · have u1 := U1.out
              go_wp2_with (fail)
              go_ret2
              exact ⟨ret_ii2 (HC.out.symm.trans ((chs_t0 hI.out hJ.out (by rw [sel0 hw.out]; rfl)).trans (by rw [hw.out]; rfl))), by repeat (first | exact Gar.refl _ | refine Gar.drewN ?_ _ | refine Gar.drew ?_ | refine Gar.alloc ?_ _ | refine Gar.allocs ?_ _)⟩
            · have u1 := U1.out
              have u2 := U2.out
              have us := US.out
              go_wp2_with (fail)
              (first | with_reducible refine wp_region_qtail (fun w' => ∃ g : Gp, w' = (allocs _ g.os).drewN g.n) 16 (by kernel_rfl) (by kernel_rfl) (gp_drewN _ _) ?_ | with_reducible refine wp_region_qtail (fun w' => ∃ g : Gp, w' = (allocs _ g.os).drewN g.n) 16 (by kernel_rfl) (by kernel_rfl) (gp_drew2 _ _) ?_ | with_reducible refine wp_region_qtail (fun w' => ∃ g : Gp, w' = (allocs _ g.os).drewN g.n) 16 (by kernel_rfl) (by kernel_rfl) (gp_drew _) ?_)
              simp only [List.take_succ_cons, List.take_zero, List.drop_succ_cons, List.drop_zero]
              repeat (first | go_big_quiet_skip | (go_big_quiet_want; (first | (go_big_quiet_op; (first | go_big_quiet_on | (apply Exists.intro; (refine And.intro (fun g => ?_) ?_); (first | (go_at_call 27; with_reducible exact calls_gp (fun _ hg => KN _ _ hg) g)); go_big_quiet_on))))))
              refine wpQuiet_nil ?_
              refine gp_all (fun os' n' => ?_)
              go_wp2_with (fail)
              go_ret2
              exact ⟨ret_ii2 (HC.out.symm.trans ((chs_t0 hI.out hJ.out (by rw [sel0 hw.out]; rfl)).trans (by rw [hw.out]; rfl))), by repeat (first | exact Gar.refl _ | refine Gar.drewN ?_ _ | refine Gar.drew ?_ | refine Gar.alloc ?_ _ | refine Gar.allocs ?_ _)⟩
            · have u1 := U1.out
              have u2 := U2.out
              have us := US.out
              go_wp2_with (fail)
              (first | with_reducible refine wp_region_qtail (fun w' => ∃ g : Gp, w' = (allocs _ g.os).drewN g.n) 16 (by kernel_rfl) (by kernel_rfl) (gp_drewN _ _) ?_ | with_reducible refine wp_region_qtail (fun w' => ∃ g : Gp, w' = (allocs _ g.os).drewN g.n) 16 (by kernel_rfl) (by kernel_rfl) (gp_drew2 _ _) ?_ | with_reducible refine wp_region_qtail (fun w' => ∃ g : Gp, w' = (allocs _ g.os).drewN g.n) 16 (by kernel_rfl) (by kernel_rfl) (gp_drew _) ?_)
              simp only [List.take_succ_cons, List.take_zero, List.drop_succ_cons, List.drop_zero]
              repeat (first | go_big_quiet_skip | (go_big_quiet_want; (first | (go_big_quiet_op; (first | go_big_quiet_on | (apply Exists.intro; (refine And.intro (fun g => ?_) ?_); (first | (go_at_call 27; with_reducible exact calls_gp (fun _ hg => KN _ _ hg) g)); go_big_quiet_on))))))
              refine wpQuiet_nil ?_
              refine gp_all (fun os' n' => ?_)
              go_wp2_with (fail)
              go_roundw
              case rel => exact ⟨1, rfl, by omega, by repeat (first | exact Gar.refl _ | refine Gar.drewN ?_ _ | refine Gar.drew ?_ | refine Gar.alloc ?_ _ | refine Gar.allocs ?_ _), TkI.next0 hJ.out (by rw [sel0 hw.out]; rfl)⟩
              case measure => first | (simp; done) | (simp [intOf]; done) | (simp [intOf]; omega)
            · have u1 := U1.out
              have u2 := U2.out
              go_wp2_with (fail)
              (first | with_reducible refine wp_region_qtail (fun w' => ∃ g : Gp, w' = (allocs _ g.os).drewN g.n) 16 (by kernel_rfl) (by kernel_rfl) (gp_drewN _ _) ?_ | with_reducible refine wp_region_qtail (fun w' => ∃ g : Gp, w' = (allocs _ g.os).drewN g.n) 16 (by kernel_rfl) (by kernel_rfl) (gp_drew2 _ _) ?_ | with_reducible refine wp_region_qtail (fun w' => ∃ g : Gp, w' = (allocs _ g.os).drewN g.n) 16 (by kernel_rfl) (by kernel_rfl) (gp_drew _) ?_)
              simp only [List.take_succ_cons, List.take_zero, List.drop_succ_cons, List.drop_zero]
              repeat (first | go_big_quiet_skip | (go_big_quiet_want; (first | (go_big_quiet_op; (first | go_big_quiet_on | (apply Exists.intro; (refine And.intro (fun g => ?_) ?_); (first | (go_at_call 27; with_reducible exact calls_gp (fun _ hg => KN _ _ hg) g)); go_big_quiet_on))))))
              refine wpQuiet_nil ?_
              refine gp_all (fun os' n' => ?_)
              go_wp2_with (fail)
              go_roundw
              case rel => exact ⟨1, rfl, by omega, by repeat (first | exact Gar.refl _ | refine Gar.drewN ?_ _ | refine Gar.drew ?_ | refine Gar.alloc ?_ _ | refine Gar.allocs ?_ _), TkI.next0 hJ.out (by rw [sel0 hw.out]; rfl)⟩
              case measure => first | (simp; done) | (simp [intOf]; done) | (simp [intOf]; omega)
          · have iv : ∀ w, (Instr.index 22 (.agg #[.int .i64 p0, .int .i64 p1, .int .i64 p2]) (.int .i64 0)).run Try.prog w = .ok (.int .i64 1) w := fun w => by rw [i0, hv]
            have hw := hide hv
            clear i0 i1 i2 hv
            rcases ch_waysZ u1 T1 T2 S with rfl | ⟨rfl, rfl⟩ | ⟨rfl, rfl, rfl, rfl⟩ | ⟨rfl, rfl, rfl, rfl⟩ | ⟨rfl, rfl, rfl⟩
            · cases T1 <;> cases T2
              all_goals
                have u1 := U1.out
                have u2 := U2.out
                go_wp2_with (fail)
                (first | with_reducible refine wp_region_qtail (fun w' => ∃ g : Gp, w' = (allocs _ g.os).drewN g.n) 16 (by kernel_rfl) (by kernel_rfl) (gp_drewN _ _) ?_ | with_reducible refine wp_region_qtail (fun w' => ∃ g : Gp, w' = (allocs _ g.os).drewN g.n) 16 (by kernel_rfl) (by kernel_rfl) (gp_drew2 _ _) ?_ | with_reducible refine wp_region_qtail (fun w' => ∃ g : Gp, w' = (allocs _ g.os).drewN g.n) 16 (by kernel_rfl) (by kernel_rfl) (gp_drew _) ?_)
                simp only [List.take_succ_cons, List.take_zero, List.drop_succ_cons, List.drop_zero]
                repeat (first | go_big_quiet_skip | (go_big_quiet_want; (first | (go_big_quiet_op; (first | go_big_quiet_on | (apply Exists.intro; (refine And.intro (fun g => ?_) ?_); (first | (go_at_call 27; with_reducible exact calls_gp (fun _ hg => KN _ _ hg) g)); go_big_quiet_on))))))
                refine wpQuiet_nil ?_
                refine gp_all (fun os' n' => ?_)
                go_wp2_with (fail)
                go_roundw
                case rel => exact ⟨1, rfl, by omega, by repeat (first | exact Gar.refl _ | refine Gar.drewN ?_ _ | refine Gar.drew ?_ | refine Gar.alloc ?_ _ | refine Gar.allocs ?_ _), TkI.next0 hJ.out (by rw [sel1 hw.out]; rfl)⟩
                case measure => first | (simp; done) | (simp [intOf]; done) | (simp [intOf]; omega)
            · have u1 := U1.out
              go_wp2_with (fail)
              go_ret2
              exact ⟨ret_ii2 (HC.out.symm.trans ((chs_t0 hI.out hJ.out (by rw [sel1 hw.out]; rfl)).trans (by rw [hw.out]; rfl))), by repeat (first | exact Gar.refl _ | refine Gar.drewN ?_ _ | refine Gar.drew ?_ | refine Gar.alloc ?_ _ | refine Gar.allocs ?_ _)⟩
            · have u1 := U1.out
              have u2 := U2.out
              have us := US.out
              go_wp2_with (fail)
              (first | with_reducible refine wp_region_qtail (fun w' => ∃ g : Gp, w' = (allocs _ g.os).drewN g.n) 16 (by kernel_rfl) (by kernel_rfl) (gp_drewN _ _) ?_ | with_reducible refine wp_region_qtail (fun w' => ∃ g : Gp, w' = (allocs _ g.os).drewN g.n) 16 (by kernel_rfl) (by kernel_rfl) (gp_drew2 _ _) ?_ | with_reducible refine wp_region_qtail (fun w' => ∃ g : Gp, w' = (allocs _ g.os).drewN g.n) 16 (by kernel_rfl) (by kernel_rfl) (gp_drew _) ?_)
              simp only [List.take_succ_cons, List.take_zero, List.drop_succ_cons, List.drop_zero]
              repeat (first | go_big_quiet_skip | (go_big_quiet_want; (first | (go_big_quiet_op; (first | go_big_quiet_on | (apply Exists.intro; (refine And.intro (fun g => ?_) ?_); (first | (go_at_call 27; with_reducible exact calls_gp (fun _ hg => KN _ _ hg) g)); go_big_quiet_on))))))
              refine wpQuiet_nil ?_
              refine gp_all (fun os' n' => ?_)
              go_wp2_with (fail)
              go_ret2
              exact ⟨ret_ii2 (HC.out.symm.trans ((chs_t0 hI.out hJ.out (by rw [sel1 hw.out]; rfl)).trans (by rw [hw.out]; rfl))), by repeat (first | exact Gar.refl _ | refine Gar.drewN ?_ _ | refine Gar.drew ?_ | refine Gar.alloc ?_ _ | refine Gar.allocs ?_ _)⟩
            · have u1 := U1.out
              have u2 := U2.out
              have us := US.out
              go_wp2_with (fail)
              (first | with_reducible refine wp_region_qtail (fun w' => ∃ g : Gp, w' = (allocs _ g.os).drewN g.n) 16 (by kernel_rfl) (by kernel_rfl) (gp_drewN _ _) ?_ | with_reducible refine wp_region_qtail (fun w' => ∃ g : Gp, w' = (allocs _ g.os).drewN g.n) 16 (by kernel_rfl) (by kernel_rfl) (gp_drew2 _ _) ?_ | with_reducible refine wp_region_qtail (fun w' => ∃ g : Gp, w' = (allocs _ g.os).drewN g.n) 16 (by kernel_rfl) (by kernel_rfl) (gp_drew _) ?_)
              simp only [List.take_succ_cons, List.take_zero, List.drop_succ_cons, List.drop_zero]
              repeat (first | go_big_quiet_skip | (go_big_quiet_want; (first | (go_big_quiet_op; (first | go_big_quiet_on | (apply Exists.intro; (refine And.intro (fun g => ?_) ?_); (first | (go_at_call 27; with_reducible exact calls_gp (fun _ hg => KN _ _ hg) g)); go_big_quiet_on))))))
              refine wpQuiet_nil ?_
              refine gp_all (fun os' n' => ?_)
              go_wp2_with (fail)
              go_roundw
              case rel => exact ⟨1, rfl, by omega, by repeat (first | exact Gar.refl _ | refine Gar.drewN ?_ _ | refine Gar.drew ?_ | refine Gar.alloc ?_ _ | refine Gar.allocs ?_ _), TkI.next0 hJ.out (by rw [sel1 hw.out]; rfl)⟩
              case measure => first | (simp; done) | (simp [intOf]; done) | (simp [intOf]; omega)
            · have u1 := U1.out
              have u2 := U2.out
              go_wp2_with (fail)
              (first | with_reducible refine wp_region_qtail (fun w' => ∃ g : Gp, w' = (allocs _ g.os).drewN g.n) 16 (by kernel_rfl) (by kernel_rfl) (gp_drewN _ _) ?_ | with_reducible refine wp_region_qtail (fun w' => ∃ g : Gp, w' = (allocs _ g.os).drewN g.n) 16 (by kernel_rfl) (by kernel_rfl) (gp_drew2 _ _) ?_ | with_reducible refine wp_region_qtail (fun w' => ∃ g : Gp, w' = (allocs _ g.os).drewN g.n) 16 (by kernel_rfl) (by kernel_rfl) (gp_drew _) ?_)
              simp only [List.take_succ_cons, List.take_zero, List.drop_succ_cons, List.drop_zero]
              repeat (first | go_big_quiet_skip | (go_big_quiet_want; (first | (go_big_quiet_op; (first | go_big_quiet_on | (apply Exists.intro; (refine And.intro (fun g => ?_) ?_); (first | (go_at_call 27; with_reducible exact calls_gp (fun _ hg => KN _ _ hg) g)); go_big_quiet_on))))))
              refine wpQuiet_nil ?_
              refine gp_all (fun os' n' => ?_)
              go_wp2_with (fail)
              go_roundw
              case rel => exact ⟨1, rfl, by omega, by repeat (first | exact Gar.refl _ | refine Gar.drewN ?_ _ | refine Gar.drew ?_ | refine Gar.alloc ?_ _ | refine Gar.allocs ?_ _), TkI.next0 hJ.out (by rw [sel1 hw.out]; rfl)⟩
              case measure => first | (simp; done) | (simp [intOf]; done) | (simp [intOf]; omega)
          · have iv : ∀ w, (Instr.index 22 (.agg #[.int .i64 p0, .int .i64 p1, .int .i64 p2]) (.int .i64 0)).run Try.prog w = .ok (.int .i64 2) w := fun w => by rw [i0, hv]
            have hw := hide hv
            clear i0 i1 i2 hv
            rcases ch_waysZ u2 T1 T2 S with rfl | ⟨rfl, rfl⟩ | ⟨rfl, rfl, rfl, rfl⟩ | ⟨rfl, rfl, rfl, rfl⟩ | ⟨rfl, rfl, rfl⟩
            · cases T1 <;> cases T2
              all_goals
                have u1 := U1.out
                have u2 := U2.out
                go_wp2_with (fail)
                (first | with_reducible refine wp_region_qtail (fun w' => ∃ g : Gp, w' = (allocs _ g.os).drewN g.n) 16 (by kernel_rfl) (by kernel_rfl) (gp_drewN _ _) ?_ | with_reducible refine wp_region_qtail (fun w' => ∃ g : Gp, w' = (allocs _ g.os).drewN g.n) 16 (by kernel_rfl) (by kernel_rfl) (gp_drew2 _ _) ?_ | with_reducible refine wp_region_qtail (fun w' => ∃ g : Gp, w' = (allocs _ g.os).drewN g.n) 16 (by kernel_rfl) (by kernel_rfl) (gp_drew _) ?_)
                simp only [List.take_succ_cons, List.take_zero, List.drop_succ_cons, List.drop_zero]
                repeat (first | go_big_quiet_skip | (go_big_quiet_want; (first | (go_big_quiet_op; (first | go_big_quiet_on | (apply Exists.intro; (refine And.intro (fun g => ?_) ?_); (first | (go_at_call 27; with_reducible exact calls_gp (fun _ hg => KN _ _ hg) g)); go_big_quiet_on))))))
                refine wpQuiet_nil ?_
                refine gp_all (fun os' n' => ?_)
                go_wp2_with (fail)
                go_roundw
                case rel => exact ⟨1, rfl, by omega, by repeat (first | exact Gar.refl _ | refine Gar.drewN ?_ _ | refine Gar.drew ?_ | refine Gar.alloc ?_ _ | refine Gar.allocs ?_ _), TkI.next0 hJ.out (by rw [sel2 hw.out]; rfl)⟩
                case measure => first | (simp; done) | (simp [intOf]; done) | (simp [intOf]; omega)
            · have u1 := U1.out
              go_wp2_with (fail)
              go_ret2
              exact ⟨ret_ii2 (HC.out.symm.trans ((chs_t0 hI.out hJ.out (by rw [sel2 hw.out]; rfl)).trans (by rw [hw.out]; rfl))), by repeat (first | exact Gar.refl _ | refine Gar.drewN ?_ _ | refine Gar.drew ?_ | refine Gar.alloc ?_ _ | refine Gar.allocs ?_ _)⟩
            · have u1 := U1.out
              have u2 := U2.out
              have us := US.out
              go_wp2_with (fail)
              (first | with_reducible refine wp_region_qtail (fun w' => ∃ g : Gp, w' = (allocs _ g.os).drewN g.n) 16 (by kernel_rfl) (by kernel_rfl) (gp_drewN _ _) ?_ | with_reducible refine wp_region_qtail (fun w' => ∃ g : Gp, w' = (allocs _ g.os).drewN g.n) 16 (by kernel_rfl) (by kernel_rfl) (gp_drew2 _ _) ?_ | with_reducible refine wp_region_qtail (fun w' => ∃ g : Gp, w' = (allocs _ g.os).drewN g.n) 16 (by kernel_rfl) (by kernel_rfl) (gp_drew _) ?_)
              simp only [List.take_succ_cons, List.take_zero, List.drop_succ_cons, List.drop_zero]
              repeat (first | go_big_quiet_skip | (go_big_quiet_want; (first | (go_big_quiet_op; (first | go_big_quiet_on | (apply Exists.intro; (refine And.intro (fun g => ?_) ?_); (first | (go_at_call 27; with_reducible exact calls_gp (fun _ hg => KN _ _ hg) g)); go_big_quiet_on))))))
              refine wpQuiet_nil ?_
              refine gp_all (fun os' n' => ?_)
              go_wp2_with (fail)
              go_ret2
              exact ⟨ret_ii2 (HC.out.symm.trans ((chs_t0 hI.out hJ.out (by rw [sel2 hw.out]; rfl)).trans (by rw [hw.out]; rfl))), by repeat (first | exact Gar.refl _ | refine Gar.drewN ?_ _ | refine Gar.drew ?_ | refine Gar.alloc ?_ _ | refine Gar.allocs ?_ _)⟩
            · have u1 := U1.out
              have u2 := U2.out
              have us := US.out
              go_wp2_with (fail)
              (first | with_reducible refine wp_region_qtail (fun w' => ∃ g : Gp, w' = (allocs _ g.os).drewN g.n) 16 (by kernel_rfl) (by kernel_rfl) (gp_drewN _ _) ?_ | with_reducible refine wp_region_qtail (fun w' => ∃ g : Gp, w' = (allocs _ g.os).drewN g.n) 16 (by kernel_rfl) (by kernel_rfl) (gp_drew2 _ _) ?_ | with_reducible refine wp_region_qtail (fun w' => ∃ g : Gp, w' = (allocs _ g.os).drewN g.n) 16 (by kernel_rfl) (by kernel_rfl) (gp_drew _) ?_)
              simp only [List.take_succ_cons, List.take_zero, List.drop_succ_cons, List.drop_zero]
              repeat (first | go_big_quiet_skip | (go_big_quiet_want; (first | (go_big_quiet_op; (first | go_big_quiet_on | (apply Exists.intro; (refine And.intro (fun g => ?_) ?_); (first | (go_at_call 27; with_reducible exact calls_gp (fun _ hg => KN _ _ hg) g)); go_big_quiet_on))))))
              refine wpQuiet_nil ?_
              refine gp_all (fun os' n' => ?_)
              go_wp2_with (fail)
              go_roundw
              case rel => exact ⟨1, rfl, by omega, by repeat (first | exact Gar.refl _ | refine Gar.drewN ?_ _ | refine Gar.drew ?_ | refine Gar.alloc ?_ _ | refine Gar.allocs ?_ _), TkI.next0 hJ.out (by rw [sel2 hw.out]; rfl)⟩
              case measure => first | (simp; done) | (simp [intOf]; done) | (simp [intOf]; omega)
            · have u1 := U1.out
              have u2 := U2.out
              go_wp2_with (fail)
              (first | with_reducible refine wp_region_qtail (fun w' => ∃ g : Gp, w' = (allocs _ g.os).drewN g.n) 16 (by kernel_rfl) (by kernel_rfl) (gp_drewN _ _) ?_ | with_reducible refine wp_region_qtail (fun w' => ∃ g : Gp, w' = (allocs _ g.os).drewN g.n) 16 (by kernel_rfl) (by kernel_rfl) (gp_drew2 _ _) ?_ | with_reducible refine wp_region_qtail (fun w' => ∃ g : Gp, w' = (allocs _ g.os).drewN g.n) 16 (by kernel_rfl) (by kernel_rfl) (gp_drew _) ?_)
              simp only [List.take_succ_cons, List.take_zero, List.drop_succ_cons, List.drop_zero]
              repeat (first | go_big_quiet_skip | (go_big_quiet_want; (first | (go_big_quiet_op; (first | go_big_quiet_on | (apply Exists.intro; (refine And.intro (fun g => ?_) ?_); (first | (go_at_call 27; with_reducible exact calls_gp (fun _ hg => KN _ _ hg) g)); go_big_quiet_on))))))
              refine wpQuiet_nil ?_
              refine gp_all (fun os' n' => ?_)
              go_wp2_with (fail)
              go_roundw
              case rel => exact ⟨1, rfl, by omega, by repeat (first | exact Gar.refl _ | refine Gar.drewN ?_ _ | refine Gar.drew ?_ | refine Gar.alloc ?_ _ | refine Gar.allocs ?_ _), TkI.next0 hJ.out (by rw [sel2 hw.out]; rfl)⟩
              case measure => first | (simp; done) | (simp [intOf]; done) | (simp [intOf]; omega)
        · rcases (show p1 = 0 ∨ p1 = 1 ∨ p1 = 2 by omega) with hv | hv | hv
          · have iv : ∀ w, (Instr.index 22 (.agg #[.int .i64 p0, .int .i64 p1, .int .i64 p2]) (.int .i64 1)).run Try.prog w = .ok (.int .i64 0) w := fun w => by rw [i1, hv]
            have hw := hide hv
            clear i0 i1 i2 hv
            rcases ch_waysZ u0 T1 T2 S with rfl | ⟨rfl, rfl⟩ | ⟨rfl, rfl, rfl, rfl⟩ | ⟨rfl, rfl, rfl, rfl⟩ | ⟨rfl, rfl, rfl⟩
            · cases T1 <;> cases T2
              all_goals
                have u1 := U1.out
                have u2 := U2.out
                go_wp2_with (fail)
                (first | with_reducible refine wp_region_qtail (fun w' => ∃ g : Gp, w' = (allocs _ g.os).drewN g.n) 16 (by kernel_rfl) (by kernel_rfl) (gp_drewN _ _) ?_ | with_reducible refine wp_region_qtail (fun w' => ∃ g : Gp, w' = (allocs _ g.os).drewN g.n) 16 (by kernel_rfl) (by kernel_rfl) (gp_drew2 _ _) ?_ | with_reducible refine wp_region_qtail (fun w' => ∃ g : Gp, w' = (allocs _ g.os).drewN g.n) 16 (by kernel_rfl) (by kernel_rfl) (gp_drew _) ?_)
                simp only [List.take_succ_cons, List.take_zero, List.drop_succ_cons, List.drop_zero]
                repeat (first | go_big_quiet_skip | (go_big_quiet_want; (first | (go_big_quiet_op; (first | go_big_quiet_on | (apply Exists.intro; (refine And.intro (fun g => ?_) ?_); (first | (go_at_call 27; with_reducible exact calls_gp (fun _ hg => KN _ _ hg) g)); go_big_quiet_on))))))
                refine wpQuiet_nil ?_
                refine gp_all (fun os' n' => ?_)
                go_wp2_with (fail)
                go_roundw
                case rel => exact ⟨2, rfl, by omega, by repeat (first | exact Gar.refl _ | refine Gar.drewN ?_ _ | refine Gar.drew ?_ | refine Gar.alloc ?_ _ | refine Gar.allocs ?_ _), TkI.next1 hJ.out (by rw [sel0 hw.out]; rfl)⟩
                case measure => first | (simp; done) | (simp [intOf]; done) | (simp [intOf]; omega)
            · have u1 := U1.out
              go_wp2_with (fail)
              go_ret2
              exact ⟨ret_ii2 (HC.out.symm.trans ((chs_t1 hI.out hJ.out (by rw [sel0 hw.out]; rfl)).trans (by rw [hw.out]; rfl))), by repeat (first | exact Gar.refl _ | refine Gar.drewN ?_ _ | refine Gar.drew ?_ | refine Gar.alloc ?_ _ | refine Gar.allocs ?_ _)⟩
            · have u1 := U1.out
              have u2 := U2.out
              have us := US.out
              go_wp2_with (fail)
              (first | with_reducible refine wp_region_qtail (fun w' => ∃ g : Gp, w' = (allocs _ g.os).drewN g.n) 16 (by kernel_rfl) (by kernel_rfl) (gp_drewN _ _) ?_ | with_reducible refine wp_region_qtail (fun w' => ∃ g : Gp, w' = (allocs _ g.os).drewN g.n) 16 (by kernel_rfl) (by kernel_rfl) (gp_drew2 _ _) ?_ | with_reducible refine wp_region_qtail (fun w' => ∃ g : Gp, w' = (allocs _ g.os).drewN g.n) 16 (by kernel_rfl) (by kernel_rfl) (gp_drew _) ?_)
              simp only [List.take_succ_cons, List.take_zero, List.drop_succ_cons, List.drop_zero]
              repeat (first | go_big_quiet_skip | (go_big_quiet_want; (first | (go_big_quiet_op; (first | go_big_quiet_on | (apply Exists.intro; (refine And.intro (fun g => ?_) ?_); (first | (go_at_call 27; with_reducible exact calls_gp (fun _ hg => KN _ _ hg) g)); go_big_quiet_on))))))
              refine wpQuiet_nil ?_
              refine gp_all (fun os' n' => ?_)
              go_wp2_with (fail)
              go_ret2
              exact ⟨ret_ii2 (HC.out.symm.trans ((chs_t1 hI.out hJ.out (by rw [sel0 hw.out]; rfl)).trans (by rw [hw.out]; rfl))), by repeat (first | exact Gar.refl _ | refine Gar.drewN ?_ _ | refine Gar.drew ?_ | refine Gar.alloc ?_ _ | refine Gar.allocs ?_ _)⟩
            · have u1 := U1.out
              have u2 := U2.out
              have us := US.out
              go_wp2_with (fail)
              (first | with_reducible refine wp_region_qtail (fun w' => ∃ g : Gp, w' = (allocs _ g.os).drewN g.n) 16 (by kernel_rfl) (by kernel_rfl) (gp_drewN _ _) ?_ | with_reducible refine wp_region_qtail (fun w' => ∃ g : Gp, w' = (allocs _ g.os).drewN g.n) 16 (by kernel_rfl) (by kernel_rfl) (gp_drew2 _ _) ?_ | with_reducible refine wp_region_qtail (fun w' => ∃ g : Gp, w' = (allocs _ g.os).drewN g.n) 16 (by kernel_rfl) (by kernel_rfl) (gp_drew _) ?_)
              simp only [List.take_succ_cons, List.take_zero, List.drop_succ_cons, List.drop_zero]
              repeat (first | go_big_quiet_skip | (go_big_quiet_want; (first | (go_big_quiet_op; (first | go_big_quiet_on | (apply Exists.intro; (refine And.intro (fun g => ?_) ?_); (first | (go_at_call 27; with_reducible exact calls_gp (fun _ hg => KN _ _ hg) g)); go_big_quiet_on))))))
              refine wpQuiet_nil ?_
              refine gp_all (fun os' n' => ?_)
              go_wp2_with (fail)
              go_roundw
              case rel => exact ⟨2, rfl, by omega, by repeat (first | exact Gar.refl _ | refine Gar.drewN ?_ _ | refine Gar.drew ?_ | refine Gar.alloc ?_ _ | refine Gar.allocs ?_ _), TkI.next1 hJ.out (by rw [sel0 hw.out]; rfl)⟩
              case measure => first | (simp; done) | (simp [intOf]; done) | (simp [intOf]; omega)
            · have u1 := U1.out
              have u2 := U2.out
              go_wp2_with (fail)
              (first | with_reducible refine wp_region_qtail (fun w' => ∃ g : Gp, w' = (allocs _ g.os).drewN g.n) 16 (by kernel_rfl) (by kernel_rfl) (gp_drewN _ _) ?_ | with_reducible refine wp_region_qtail (fun w' => ∃ g : Gp, w' = (allocs _ g.os).drewN g.n) 16 (by kernel_rfl) (by kernel_rfl) (gp_drew2 _ _) ?_ | with_reducible refine wp_region_qtail (fun w' => ∃ g : Gp, w' = (allocs _ g.os).drewN g.n) 16 (by kernel_rfl) (by kernel_rfl) (gp_drew _) ?_)
              simp only [List.take_succ_cons, List.take_zero, List.drop_succ_cons, List.drop_zero]
              repeat (first | go_big_quiet_skip | (go_big_quiet_want; (first | (go_big_quiet_op; (first | go_big_quiet_on | (apply Exists.intro; (refine And.intro (fun g => ?_) ?_); (first | (go_at_call 27; with_reducible exact calls_gp (fun _ hg => KN _ _ hg) g)); go_big_quiet_on))))))
              refine wpQuiet_nil ?_
              refine gp_all (fun os' n' => ?_)
              go_wp2_with (fail)
              go_roundw
              case rel => exact ⟨2, rfl, by omega, by repeat (first | exact Gar.refl _ | refine Gar.drewN ?_ _ | refine Gar.drew ?_ | refine Gar.alloc ?_ _ | refine Gar.allocs ?_ _), TkI.next1 hJ.out (by rw [sel0 hw.out]; rfl)⟩
              case measure => first | (simp; done) | (simp [intOf]; done) | (simp [intOf]; omega)
          · have iv : ∀ w, (Instr.index 22 (.agg #[.int .i64 p0, .int .i64 p1, .int .i64 p2]) (.int .i64 1)).run Try.prog w = .ok (.int .i64 1) w := fun w => by rw [i1, hv]
            have hw := hide hv
            clear i0 i1 i2 hv
            rcases ch_waysZ u1 T1 T2 S with rfl | ⟨rfl, rfl⟩ | ⟨rfl, rfl, rfl, rfl⟩ | ⟨rfl, rfl, rfl, rfl⟩ | ⟨rfl, rfl, rfl⟩
            · cases T1 <;> cases T2
              all_goals
                have u1 := U1.out
                have u2 := U2.out
                go_wp2_with (fail)
                (first | with_reducible refine wp_region_qtail (fun w' => ∃ g : Gp, w' = (allocs _ g.os).drewN g.n) 16 (by kernel_rfl) (by kernel_rfl) (gp_drewN _ _) ?_ | with_reducible refine wp_region_qtail (fun w' => ∃ g : Gp, w' = (allocs _ g.os).drewN g.n) 16 (by kernel_rfl) (by kernel_rfl) (gp_drew2 _ _) ?_ | with_reducible refine wp_region_qtail (fun w' => ∃ g : Gp, w' = (allocs _ g.os).drewN g.n) 16 (by kernel_rfl) (by kernel_rfl) (gp_drew _) ?_)
                simp only [List.take_succ_cons, List.take_zero, List.drop_succ_cons, List.drop_zero]
                repeat (first | go_big_quiet_skip | (go_big_quiet_want; (first | (go_big_quiet_op; (first | go_big_quiet_on | (apply Exists.intro; (refine And.intro (fun g => ?_) ?_); (first | (go_at_call 27; with_reducible exact calls_gp (fun _ hg => KN _ _ hg) g)); go_big_quiet_on))))))
                refine wpQuiet_nil ?_
                refine gp_all (fun os' n' => ?_)
                go_wp2_with (fail)
                go_roundw
                case rel => exact ⟨2, rfl, by omega, by repeat (first | exact Gar.refl _ | refine Gar.drewN ?_ _ | refine Gar.drew ?_ | refine Gar.alloc ?_ _ | refine Gar.allocs ?_ _), TkI.next1 hJ.out (by rw [sel1 hw.out]; rfl)⟩
                case measure => first | (simp; done) | (simp [intOf]; done) | (simp [intOf]; omega)
            · have u1 := U1.out
              go_wp2_with (fail)
              go_ret2
              exact ⟨ret_ii2 (HC.out.symm.trans ((chs_t1 hI.out hJ.out (by rw [sel1 hw.out]; rfl)).trans (by rw [hw.out]; rfl))), by repeat (first | exact Gar.refl _ | refine Gar.drewN ?_ _ | refine Gar.drew ?_ | refine Gar.alloc ?_ _ | refine Gar.allocs ?_ _)⟩
            · have u1 := U1.out
              have u2 := U2.out
              have us := US.out
              go_wp2_with (fail)
              (first | with_reducible refine wp_region_qtail (fun w' => ∃ g : Gp, w' = (allocs _ g.os).drewN g.n) 16 (by kernel_rfl) (by kernel_rfl) (gp_drewN _ _) ?_ | with_reducible refine wp_region_qtail (fun w' => ∃ g : Gp, w' = (allocs _ g.os).drewN g.n) 16 (by kernel_rfl) (by kernel_rfl) (gp_drew2 _ _) ?_ | with_reducible refine wp_region_qtail (fun w' => ∃ g : Gp, w' = (allocs _ g.os).drewN g.n) 16 (by kernel_rfl) (by kernel_rfl) (gp_drew _) ?_)
              simp only [List.take_succ_cons, List.take_zero, List.drop_succ_cons, List.drop_zero]
              repeat (first | go_big_quiet_skip | (go_big_quiet_want; (first | (go_big_quiet_op; (first | go_big_quiet_on | (apply Exists.intro; (refine And.intro (fun g => ?_) ?_); (first | (go_at_call 27; with_reducible exact calls_gp (fun _ hg => KN _ _ hg) g)); go_big_quiet_on))))))
              refine wpQuiet_nil ?_
              refine gp_all (fun os' n' => ?_)
              go_wp2_with (fail)
              go_ret2
              exact ⟨ret_ii2 (HC.out.symm.trans ((chs_t1 hI.out hJ.out (by rw [sel1 hw.out]; rfl)).trans (by rw [hw.out]; rfl))), by repeat (first | exact Gar.refl _ | refine Gar.drewN ?_ _ | refine Gar.drew ?_ | refine Gar.alloc ?_ _ | refine Gar.allocs ?_ _)⟩
            · have u1 := U1.out
              have u2 := U2.out
              have us := US.out
              go_wp2_with (fail)
              (first | with_reducible refine wp_region_qtail (fun w' => ∃ g : Gp, w' = (allocs _ g.os).drewN g.n) 16 (by kernel_rfl) (by kernel_rfl) (gp_drewN _ _) ?_ | with_reducible refine wp_region_qtail (fun w' => ∃ g : Gp, w' = (allocs _ g.os).drewN g.n) 16 (by kernel_rfl) (by kernel_rfl) (gp_drew2 _ _) ?_ | with_reducible refine wp_region_qtail (fun w' => ∃ g : Gp, w' = (allocs _ g.os).drewN g.n) 16 (by kernel_rfl) (by kernel_rfl) (gp_drew _) ?_)
              simp only [List.take_succ_cons, List.take_zero, List.drop_succ_cons, List.drop_zero]
              repeat (first | go_big_quiet_skip | (go_big_quiet_want; (first | (go_big_quiet_op; (first | go_big_quiet_on | (apply Exists.intro; (refine And.intro (fun g => ?_) ?_); (first | (go_at_call 27; with_reducible exact calls_gp (fun _ hg => KN _ _ hg) g)); go_big_quiet_on))))))
              refine wpQuiet_nil ?_
              refine gp_all (fun os' n' => ?_)
              go_wp2_with (fail)
              go_roundw
              case rel => exact ⟨2, rfl, by omega, by repeat (first | exact Gar.refl _ | refine Gar.drewN ?_ _ | refine Gar.drew ?_ | refine Gar.alloc ?_ _ | refine Gar.allocs ?_ _), TkI.next1 hJ.out (by rw [sel1 hw.out]; rfl)⟩
              case measure => first | (simp; done) | (simp [intOf]; done) | (simp [intOf]; omega)
            · have u1 := U1.out
              have u2 := U2.out
              go_wp2_with (fail)
              (first | with_reducible refine wp_region_qtail (fun w' => ∃ g : Gp, w' = (allocs _ g.os).drewN g.n) 16 (by kernel_rfl) (by kernel_rfl) (gp_drewN _ _) ?_ | with_reducible refine wp_region_qtail (fun w' => ∃ g : Gp, w' = (allocs _ g.os).drewN g.n) 16 (by kernel_rfl) (by kernel_rfl) (gp_drew2 _ _) ?_ | with_reducible refine wp_region_qtail (fun w' => ∃ g : Gp, w' = (allocs _ g.os).drewN g.n) 16 (by kernel_rfl) (by kernel_rfl) (gp_drew _) ?_)
              simp only [List.take_succ_cons, List.take_zero, List.drop_succ_cons, List.drop_zero]
              repeat (first | go_big_quiet_skip | (go_big_quiet_want; (first | (go_big_quiet_op; (first | go_big_quiet_on | (apply Exists.intro; (refine And.intro (fun g => ?_) ?_); (first | (go_at_call 27; with_reducible exact calls_gp (fun _ hg => KN _ _ hg) g)); go_big_quiet_on))))))
              refine wpQuiet_nil ?_
              refine gp_all (fun os' n' => ?_)
              go_wp2_with (fail)
              go_roundw
              case rel => exact ⟨2, rfl, by omega, by repeat (first | exact Gar.refl _ | refine Gar.drewN ?_ _ | refine Gar.drew ?_ | refine Gar.alloc ?_ _ | refine Gar.allocs ?_ _), TkI.next1 hJ.out (by rw [sel1 hw.out]; rfl)⟩
              case measure => first | (simp; done) | (simp [intOf]; done) | (simp [intOf]; omega)
          · have iv : ∀ w, (Instr.index 22 (.agg #[.int .i64 p0, .int .i64 p1, .int .i64 p2]) (.int .i64 1)).run Try.prog w = .ok (.int .i64 2) w := fun w => by rw [i1, hv]
            have hw := hide hv
            clear i0 i1 i2 hv
            rcases ch_waysZ u2 T1 T2 S with rfl | ⟨rfl, rfl⟩ | ⟨rfl, rfl, rfl, rfl⟩ | ⟨rfl, rfl, rfl, rfl⟩ | ⟨rfl, rfl, rfl⟩
            · cases T1 <;> cases T2
              all_goals
                have u1 := U1.out
                have u2 := U2.out
                go_wp2_with (fail)
                (first | with_reducible refine wp_region_qtail (fun w' => ∃ g : Gp, w' = (allocs _ g.os).drewN g.n) 16 (by kernel_rfl) (by kernel_rfl) (gp_drewN _ _) ?_ | with_reducible refine wp_region_qtail (fun w' => ∃ g : Gp, w' = (allocs _ g.os).drewN g.n) 16 (by kernel_rfl) (by kernel_rfl) (gp_drew2 _ _) ?_ | with_reducible refine wp_region_qtail (fun w' => ∃ g : Gp, w' = (allocs _ g.os).drewN g.n) 16 (by kernel_rfl) (by kernel_rfl) (gp_drew _) ?_)
                simp only [List.take_succ_cons, List.take_zero, List.drop_succ_cons, List.drop_zero]
                repeat (first | go_big_quiet_skip | (go_big_quiet_want; (first | (go_big_quiet_op; (first | go_big_quiet_on | (apply Exists.intro; (refine And.intro (fun g => ?_) ?_); (first | (go_at_call 27; with_reducible exact calls_gp (fun _ hg => KN _ _ hg) g)); go_big_quiet_on))))))
                refine wpQuiet_nil ?_
                refine gp_all (fun os' n' => ?_)
                go_wp2_with (fail)
                go_roundw
                case rel => exact ⟨2, rfl, by omega, by repeat (first | exact Gar.refl _ | refine Gar.drewN ?_ _ | refine Gar.drew ?_ | refine Gar.alloc ?_ _ | refine Gar.allocs ?_ _), TkI.next1 hJ.out (by rw [sel2 hw.out]; rfl)⟩
                case measure => first | (simp; done) | (simp [intOf]; done) | (simp [intOf]; omega)
            · have u1 := U1.out
              go_wp2_with (fail)
              go_ret2
              exact ⟨ret_ii2 (HC.out.symm.trans ((chs_t1 hI.out hJ.out (by rw [sel2 hw.out]; rfl)).trans (by rw [hw.out]; rfl))), by repeat (first | exact Gar.refl _ | refine Gar.drewN ?_ _ | refine Gar.drew ?_ | refine Gar.alloc ?_ _ | refine Gar.allocs ?_ _)⟩
            · have u1 := U1.out
              have u2 := U2.out
              have us := US.out
              go_wp2_with (fail)
              (first | with_reducible refine wp_region_qtail (fun w' => ∃ g : Gp, w' = (allocs _ g.os).drewN g.n) 16 (by kernel_rfl) (by kernel_rfl) (gp_drewN _ _) ?_ | with_reducible refine wp_region_qtail (fun w' => ∃ g : Gp, w' = (allocs _ g.os).drewN g.n) 16 (by kernel_rfl) (by kernel_rfl) (gp_drew2 _ _) ?_ | with_reducible refine wp_region_qtail (fun w' => ∃ g : Gp, w' = (allocs _ g.os).drewN g.n) 16 (by kernel_rfl) (by kernel_rfl) (gp_drew _) ?_)
              simp only [List.take_succ_cons, List.take_zero, List.drop_succ_cons, List.drop_zero]
              repeat (first | go_big_quiet_skip | (go_big_quiet_want; (first | (go_big_quiet_op; (first | go_big_quiet_on | (apply Exists.intro; (refine And.intro (fun g => ?_) ?_); (first | (go_at_call 27; with_reducible exact calls_gp (fun _ hg => KN _ _ hg) g)); go_big_quiet_on))))))
              refine wpQuiet_nil ?_
              refine gp_all (fun os' n' => ?_)
              go_wp2_with (fail)
              go_ret2
              exact ⟨ret_ii2 (HC.out.symm.trans ((chs_t1 hI.out hJ.out (by rw [sel2 hw.out]; rfl)).trans (by rw [hw.out]; rfl))), by repeat (first | exact Gar.refl _ | refine Gar.drewN ?_ _ | refine Gar.drew ?_ | refine Gar.alloc ?_ _ | refine Gar.allocs ?_ _)⟩
            · have u1 := U1.out
              have u2 := U2.out
              have us := US.out
              go_wp2_with (fail)
              (first | with_reducible refine wp_region_qtail (fun w' => ∃ g : Gp, w' = (allocs _ g.os).drewN g.n) 16 (by kernel_rfl) (by kernel_rfl) (gp_drewN _ _) ?_ | with_reducible refine wp_region_qtail (fun w' => ∃ g : Gp, w' = (allocs _ g.os).drewN g.n) 16 (by kernel_rfl) (by kernel_rfl) (gp_drew2 _ _) ?_ | with_reducible refine wp_region_qtail (fun w' => ∃ g : Gp, w' = (allocs _ g.os).drewN g.n) 16 (by kernel_rfl) (by kernel_rfl) (gp_drew _) ?_)
              simp only [List.take_succ_cons, List.take_zero, List.drop_succ_cons, List.drop_zero]
              repeat (first | go_big_quiet_skip | (go_big_quiet_want; (first | (go_big_quiet_op; (first | go_big_quiet_on | (apply Exists.intro; (refine And.intro (fun g => ?_) ?_); (first | (go_at_call 27; with_reducible exact calls_gp (fun _ hg => KN _ _ hg) g)); go_big_quiet_on))))))
              refine wpQuiet_nil ?_
              refine gp_all (fun os' n' => ?_)
              go_wp2_with (fail)
              go_roundw
              case rel => exact ⟨2, rfl, by omega, by repeat (first | exact Gar.refl _ | refine Gar.drewN ?_ _ | refine Gar.drew ?_ | refine Gar.alloc ?_ _ | refine Gar.allocs ?_ _), TkI.next1 hJ.out (by rw [sel2 hw.out]; rfl)⟩
              case measure => first | (simp; done) | (simp [intOf]; done) | (simp [intOf]; omega)
            · have u1 := U1.out
              have u2 := U2.out
              go_wp2_with (fail)
              (first | with_reducible refine wp_region_qtail (fun w' => ∃ g : Gp, w' = (allocs _ g.os).drewN g.n) 16 (by kernel_rfl) (by kernel_rfl) (gp_drewN _ _) ?_ | with_reducible refine wp_region_qtail (fun w' => ∃ g : Gp, w' = (allocs _ g.os).drewN g.n) 16 (by kernel_rfl) (by kernel_rfl) (gp_drew2 _ _) ?_ | with_reducible refine wp_region_qtail (fun w' => ∃ g : Gp, w' = (allocs _ g.os).drewN g.n) 16 (by kernel_rfl) (by kernel_rfl) (gp_drew _) ?_)
              simp only [List.take_succ_cons, List.take_zero, List.drop_succ_cons, List.drop_zero]
              repeat (first | go_big_quiet_skip | (go_big_quiet_want; (first | (go_big_quiet_op; (first | go_big_quiet_on | (apply Exists.intro; (refine And.intro (fun g => ?_) ?_); (first | (go_at_call 27; with_reducible exact calls_gp (fun _ hg => KN _ _ hg) g)); go_big_quiet_on))))))
              refine wpQuiet_nil ?_
              refine gp_all (fun os' n' => ?_)
              go_wp2_with (fail)
              go_roundw
              case rel => exact ⟨2, rfl, by omega, by repeat (first | exact Gar.refl _ | refine Gar.drewN ?_ _ | refine Gar.drew ?_ | refine Gar.alloc ?_ _ | refine Gar.allocs ?_ _), TkI.next1 hJ.out (by rw [sel2 hw.out]; rfl)⟩
              case measure => first | (simp; done) | (simp [intOf]; done) | (simp [intOf]; omega)
        · rcases (show p2 = 0 ∨ p2 = 1 ∨ p2 = 2 by omega) with hv | hv | hv
          · have iv : ∀ w, (Instr.index 22 (.agg #[.int .i64 p0, .int .i64 p1, .int .i64 p2]) (.int .i64 2)).run Try.prog w = .ok (.int .i64 0) w := fun w => by rw [i2, hv]
            have hw := hide hv
            clear i0 i1 i2 hv
            rcases ch_waysZ u0 T1 T2 S with rfl | ⟨rfl, rfl⟩ | ⟨rfl, rfl, rfl, rfl⟩ | ⟨rfl, rfl, rfl, rfl⟩ | ⟨rfl, rfl, rfl⟩
            · cases T1 <;> cases T2
              all_goals
                have u1 := U1.out
                have u2 := U2.out
                go_wp2_with (fail)
                (first | with_reducible refine wp_region_qtail (fun w' => ∃ g : Gp, w' = (allocs _ g.os).drewN g.n) 16 (by kernel_rfl) (by kernel_rfl) (gp_drewN _ _) ?_ | with_reducible refine wp_region_qtail (fun w' => ∃ g : Gp, w' = (allocs _ g.os).drewN g.n) 16 (by kernel_rfl) (by kernel_rfl) (gp_drew2 _ _) ?_ | with_reducible refine wp_region_qtail (fun w' => ∃ g : Gp, w' = (allocs _ g.os).drewN g.n) 16 (by kernel_rfl) (by kernel_rfl) (gp_drew _) ?_)
                simp only [List.take_succ_cons, List.take_zero, List.drop_succ_cons, List.drop_zero]
                repeat (first | go_big_quiet_skip | (go_big_quiet_want; (first | (go_big_quiet_op; (first | go_big_quiet_on | (apply Exists.intro; (refine And.intro (fun g => ?_) ?_); (first | (go_at_call 27; with_reducible exact calls_gp (fun _ hg => KN _ _ hg) g)); go_big_quiet_on))))))
                refine wpQuiet_nil ?_
                refine gp_all (fun os' n' => ?_)
                go_wp2_with (fail)
                go_roundw
                case rel => exact ⟨3, rfl, by omega, by repeat (first | exact Gar.refl _ | refine Gar.drewN ?_ _ | refine Gar.drew ?_ | refine Gar.alloc ?_ _ | refine Gar.allocs ?_ _), TkI.next2 hJ.out (by rw [sel0 hw.out]; rfl)⟩
                case measure => first | (simp; done) | (simp [intOf]; done) | (simp [intOf]; omega)
            · have u1 := U1.out
              go_wp2_with (fail)
              go_ret2
              exact ⟨ret_ii2 (HC.out.symm.trans ((chs_t2 hI.out hJ.out (by rw [sel0 hw.out]; rfl)).trans (by rw [hw.out]; rfl))), by repeat (first | exact Gar.refl _ | refine Gar.drewN ?_ _ | refine Gar.drew ?_ | refine Gar.alloc ?_ _ | refine Gar.allocs ?_ _)⟩
            · have u1 := U1.out
              have u2 := U2.out
              have us := US.out
              go_wp2_with (fail)
              (first | with_reducible refine wp_region_qtail (fun w' => ∃ g : Gp, w' = (allocs _ g.os).drewN g.n) 16 (by kernel_rfl) (by kernel_rfl) (gp_drewN _ _) ?_ | with_reducible refine wp_region_qtail (fun w' => ∃ g : Gp, w' = (allocs _ g.os).drewN g.n) 16 (by kernel_rfl) (by kernel_rfl) (gp_drew2 _ _) ?_ | with_reducible refine wp_region_qtail (fun w' => ∃ g : Gp, w' = (allocs _ g.os).drewN g.n) 16 (by kernel_rfl) (by kernel_rfl) (gp_drew _) ?_)
              simp only [List.take_succ_cons, List.take_zero, List.drop_succ_cons, List.drop_zero]
              repeat (first | go_big_quiet_skip | (go_big_quiet_want; (first | (go_big_quiet_op; (first | go_big_quiet_on | (apply Exists.intro; (refine And.intro (fun g => ?_) ?_); (first | (go_at_call 27; with_reducible exact calls_gp (fun _ hg => KN _ _ hg) g)); go_big_quiet_on))))))
              refine wpQuiet_nil ?_
              refine gp_all (fun os' n' => ?_)
              go_wp2_with (fail)
              go_ret2
              exact ⟨ret_ii2 (HC.out.symm.trans ((chs_t2 hI.out hJ.out (by rw [sel0 hw.out]; rfl)).trans (by rw [hw.out]; rfl))), by repeat (first | exact Gar.refl _ | refine Gar.drewN ?_ _ | refine Gar.drew ?_ | refine Gar.alloc ?_ _ | refine Gar.allocs ?_ _)⟩
            · have u1 := U1.out
              have u2 := U2.out
              have us := US.out
              go_wp2_with (fail)
              (first | with_reducible refine wp_region_qtail (fun w' => ∃ g : Gp, w' = (allocs _ g.os).drewN g.n) 16 (by kernel_rfl) (by kernel_rfl) (gp_drewN _ _) ?_ | with_reducible refine wp_region_qtail (fun w' => ∃ g : Gp, w' = (allocs _ g.os).drewN g.n) 16 (by kernel_rfl) (by kernel_rfl) (gp_drew2 _ _) ?_ | with_reducible refine wp_region_qtail (fun w' => ∃ g : Gp, w' = (allocs _ g.os).drewN g.n) 16 (by kernel_rfl) (by kernel_rfl) (gp_drew _) ?_)
              simp only [List.take_succ_cons, List.take_zero, List.drop_succ_cons, List.drop_zero]
              repeat (first | go_big_quiet_skip | (go_big_quiet_want; (first | (go_big_quiet_op; (first | go_big_quiet_on | (apply Exists.intro; (refine And.intro (fun g => ?_) ?_); (first | (go_at_call 27; with_reducible exact calls_gp (fun _ hg => KN _ _ hg) g)); go_big_quiet_on))))))
              refine wpQuiet_nil ?_
              refine gp_all (fun os' n' => ?_)
              go_wp2_with (fail)
              go_roundw
              case rel => exact ⟨3, rfl, by omega, by repeat (first | exact Gar.refl _ | refine Gar.drewN ?_ _ | refine Gar.drew ?_ | refine Gar.alloc ?_ _ | refine Gar.allocs ?_ _), TkI.next2 hJ.out (by rw [sel0 hw.out]; rfl)⟩
              case measure => first | (simp; done) | (simp [intOf]; done) | (simp [intOf]; omega)
            · have u1 := U1.out
              have u2 := U2.out
              go_wp2_with (fail)
              (first | with_reducible refine wp_region_qtail (fun w' => ∃ g : Gp, w' = (allocs _ g.os).drewN g.n) 16 (by kernel_rfl) (by kernel_rfl) (gp_drewN _ _) ?_ | with_reducible refine wp_region_qtail (fun w' => ∃ g : Gp, w' = (allocs _ g.os).drewN g.n) 16 (by kernel_rfl) (by kernel_rfl) (gp_drew2 _ _) ?_ | with_reducible refine wp_region_qtail (fun w' => ∃ g : Gp, w' = (allocs _ g.os).drewN g.n) 16 (by kernel_rfl) (by kernel_rfl) (gp_drew _) ?_)
              simp only [List.take_succ_cons, List.take_zero, List.drop_succ_cons, List.drop_zero]
              repeat (first | go_big_quiet_skip | (go_big_quiet_want; (first | (go_big_quiet_op; (first | go_big_quiet_on | (apply Exists.intro; (refine And.intro (fun g => ?_) ?_); (first | (go_at_call 27; with_reducible exact calls_gp (fun _ hg => KN _ _ hg) g)); go_big_quiet_on))))))
              refine wpQuiet_nil ?_
              refine gp_all (fun os' n' => ?_)
              go_wp2_with (fail)
              go_roundw
              case rel => exact ⟨3, rfl, by omega, by repeat (first | exact Gar.refl _ | refine Gar.drewN ?_ _ | refine Gar.drew ?_ | refine Gar.alloc ?_ _ | refine Gar.allocs ?_ _), TkI.next2 hJ.out (by rw [sel0 hw.out]; rfl)⟩
              case measure => first | (simp; done) | (simp [intOf]; done) | (simp [intOf]; omega)
          · have iv : ∀ w, (Instr.index 22 (.agg #[.int .i64 p0, .int .i64 p1, .int .i64 p2]) (.int .i64 2)).run Try.prog w = .ok (.int .i64 1) w := fun w => by rw [i2, hv]
            have hw := hide hv
            clear i0 i1 i2 hv
            rcases ch_waysZ u1 T1 T2 S with rfl | ⟨rfl, rfl⟩ | ⟨rfl, rfl, rfl, rfl⟩ | ⟨rfl, rfl, rfl, rfl⟩ | ⟨rfl, rfl, rfl⟩
            · cases T1 <;> cases T2
              all_goals
                have u1 := U1.out
                have u2 := U2.out
                go_wp2_with (fail)
                (first | with_reducible refine wp_region_qtail (fun w' => ∃ g : Gp, w' = (allocs _ g.os).drewN g.n) 16 (by kernel_rfl) (by kernel_rfl) (gp_drewN _ _) ?_ | with_reducible refine wp_region_qtail (fun w' => ∃ g : Gp, w' = (allocs _ g.os).drewN g.n) 16 (by kernel_rfl) (by kernel_rfl) (gp_drew2 _ _) ?_ | with_reducible refine wp_region_qtail (fun w' => ∃ g : Gp, w' = (allocs _ g.os).drewN g.n) 16 (by kernel_rfl) (by kernel_rfl) (gp_drew _) ?_)
                simp only [List.take_succ_cons, List.take_zero, List.drop_succ_cons, List.drop_zero]
                repeat (first | go_big_quiet_skip | (go_big_quiet_want; (first | (go_big_quiet_op; (first | go_big_quiet_on | (apply Exists.intro; (refine And.intro (fun g => ?_) ?_); (first | (go_at_call 27; with_reducible exact calls_gp (fun _ hg => KN _ _ hg) g)); go_big_quiet_on))))))
                refine wpQuiet_nil ?_
                refine gp_all (fun os' n' => ?_)
                go_wp2_with (fail)
                go_roundw
                case rel => exact ⟨3, rfl, by omega, by repeat (first | exact Gar.refl _ | refine Gar.drewN ?_ _ | refine Gar.drew ?_ | refine Gar.alloc ?_ _ | refine Gar.allocs ?_ _), TkI.next2 hJ.out (by rw [sel1 hw.out]; rfl)⟩
                case measure => first | (simp; done) | (simp [intOf]; done) | (simp [intOf]; omega)
            · have u1 := U1.out
              go_wp2_with (fail)
              go_ret2
              exact ⟨ret_ii2 (HC.out.symm.trans ((chs_t2 hI.out hJ.out (by rw [sel1 hw.out]; rfl)).trans (by rw [hw.out]; rfl))), by repeat (first | exact Gar.refl _ | refine Gar.drewN ?_ _ | refine Gar.drew ?_ | refine Gar.alloc ?_ _ | refine Gar.allocs ?_ _)⟩
            · have u1 := U1.out
              have u2 := U2.out
              have us := US.out
              go_wp2_with (fail)
              (first | with_reducible refine wp_region_qtail (fun w' => ∃ g : Gp, w' = (allocs _ g.os).drewN g.n) 16 (by kernel_rfl) (by kernel_rfl) (gp_drewN _ _) ?_ | with_reducible refine wp_region_qtail (fun w' => ∃ g : Gp, w' = (allocs _ g.os).drewN g.n) 16 (by kernel_rfl) (by kernel_rfl) (gp_drew2 _ _) ?_ | with_reducible refine wp_region_qtail (fun w' => ∃ g : Gp, w' = (allocs _ g.os).drewN g.n) 16 (by kernel_rfl) (by kernel_rfl) (gp_drew _) ?_)
              simp only [List.take_succ_cons, List.take_zero, List.drop_succ_cons, List.drop_zero]
              repeat (first | go_big_quiet_skip | (go_big_quiet_want; (first | (go_big_quiet_op; (first | go_big_quiet_on | (apply Exists.intro; (refine And.intro (fun g => ?_) ?_); (first | (go_at_call 27; with_reducible exact calls_gp (fun _ hg => KN _ _ hg) g)); go_big_quiet_on))))))
              refine wpQuiet_nil ?_
              refine gp_all (fun os' n' => ?_)
              go_wp2_with (fail)
              go_ret2
              exact ⟨ret_ii2 (HC.out.symm.trans ((chs_t2 hI.out hJ.out (by rw [sel1 hw.out]; rfl)).trans (by rw [hw.out]; rfl))), by repeat (first | exact Gar.refl _ | refine Gar.drewN ?_ _ | refine Gar.drew ?_ | refine Gar.alloc ?_ _ | refine Gar.allocs ?_ _)⟩
            · have u1 := U1.out
              have u2 := U2.out
              have us := US.out
              go_wp2_with (fail)
              (first | with_reducible refine wp_region_qtail (fun w' => ∃ g : Gp, w' = (allocs _ g.os).drewN g.n) 16 (by kernel_rfl) (by kernel_rfl) (gp_drewN _ _) ?_ | with_reducible refine wp_region_qtail (fun w' => ∃ g : Gp, w' = (allocs _ g.os).drewN g.n) 16 (by kernel_rfl) (by kernel_rfl) (gp_drew2 _ _) ?_ | with_reducible refine wp_region_qtail (fun w' => ∃ g : Gp, w' = (allocs _ g.os).drewN g.n) 16 (by kernel_rfl) (by kernel_rfl) (gp_drew _) ?_)
              simp only [List.take_succ_cons, List.take_zero, List.drop_succ_cons, List.drop_zero]
              repeat (first | go_big_quiet_skip | (go_big_quiet_want; (first | (go_big_quiet_op; (first | go_big_quiet_on | (apply Exists.intro; (refine And.intro (fun g => ?_) ?_); (first | (go_at_call 27; with_reducible exact calls_gp (fun _ hg => KN _ _ hg) g)); go_big_quiet_on))))))
              refine wpQuiet_nil ?_
              refine gp_all (fun os' n' => ?_)
              go_wp2_with (fail)
              go_roundw
              case rel => exact ⟨3, rfl, by omega, by repeat (first | exact Gar.refl _ | refine Gar.drewN ?_ _ | refine Gar.drew ?_ | refine Gar.alloc ?_ _ | refine Gar.allocs ?_ _), TkI.next2 hJ.out (by rw [sel1 hw.out]; rfl)⟩
              case measure => first | (simp; done) | (simp [intOf]; done) | (simp [intOf]; omega)
            · have u1 := U1.out
              have u2 := U2.out
              go_wp2_with (fail)
              (first | with_reducible refine wp_region_qtail (fun w' => ∃ g : Gp, w' = (allocs _ g.os).drewN g.n) 16 (by kernel_rfl) (by kernel_rfl) (gp_drewN _ _) ?_ | with_reducible refine wp_region_qtail (fun w' => ∃ g : Gp, w' = (allocs _ g.os).drewN g.n) 16 (by kernel_rfl) (by kernel_rfl) (gp_drew2 _ _) ?_ | with_reducible refine wp_region_qtail (fun w' => ∃ g : Gp, w' = (allocs _ g.os).drewN g.n) 16 (by kernel_rfl) (by kernel_rfl) (gp_drew _) ?_)
              simp only [List.take_succ_cons, List.take_zero, List.drop_succ_cons, List.drop_zero]
              repeat (first | go_big_quiet_skip | (go_big_quiet_want; (first | (go_big_quiet_op; (first | go_big_quiet_on | (apply Exists.intro; (refine And.intro (fun g => ?_) ?_); (first | (go_at_call 27; with_reducible exact calls_gp (fun _ hg => KN _ _ hg) g)); go_big_quiet_on))))))
              refine wpQuiet_nil ?_
              refine gp_all (fun os' n' => ?_)
              go_wp2_with (fail)
              go_roundw
              case rel => exact ⟨3, rfl, by omega, by repeat (first | exact Gar.refl _ | refine Gar.drewN ?_ _ | refine Gar.drew ?_ | refine Gar.alloc ?_ _ | refine Gar.allocs ?_ _), TkI.next2 hJ.out (by rw [sel1 hw.out]; rfl)⟩
              case measure => first | (simp; done) | (simp [intOf]; done) | (simp [intOf]; omega)
          · have iv : ∀ w, (Instr.index 22 (.agg #[.int .i64 p0, .int .i64 p1, .int .i64 p2]) (.int .i64 2)).run Try.prog w = .ok (.int .i64 2) w := fun w => by rw [i2, hv]
            have hw := hide hv
            clear i0 i1 i2 hv
            rcases ch_waysZ u2 T1 T2 S with rfl | ⟨rfl, rfl⟩ | ⟨rfl, rfl, rfl, rfl⟩ | ⟨rfl, rfl, rfl, rfl⟩ | ⟨rfl, rfl, rfl⟩
            · cases T1 <;> cases T2
              all_goals
                have u1 := U1.out
                have u2 := U2.out
                go_wp2_with (fail)
                (first | with_reducible refine wp_region_qtail (fun w' => ∃ g : Gp, w' = (allocs _ g.os).drewN g.n) 16 (by kernel_rfl) (by kernel_rfl) (gp_drewN _ _) ?_ | with_reducible refine wp_region_qtail (fun w' => ∃ g : Gp, w' = (allocs _ g.os).drewN g.n) 16 (by kernel_rfl) (by kernel_rfl) (gp_drew2 _ _) ?_ | with_reducible refine wp_region_qtail (fun w' => ∃ g : Gp, w' = (allocs _ g.os).drewN g.n) 16 (by kernel_rfl) (by kernel_rfl) (gp_drew _) ?_)
                simp only [List.take_succ_cons, List.take_zero, List.drop_succ_cons, List.drop_zero]
                repeat (first | go_big_quiet_skip | (go_big_quiet_want; (first | (go_big_quiet_op; (first | go_big_quiet_on | (apply Exists.intro; (refine And.intro (fun g => ?_) ?_); (first | (go_at_call 27; with_reducible exact calls_gp (fun _ hg => KN _ _ hg) g)); go_big_quiet_on))))))
                refine wpQuiet_nil ?_
                refine gp_all (fun os' n' => ?_)
                go_wp2_with (fail)
                go_roundw
                case rel => exact ⟨3, rfl, by omega, by repeat (first | exact Gar.refl _ | refine Gar.drewN ?_ _ | refine Gar.drew ?_ | refine Gar.alloc ?_ _ | refine Gar.allocs ?_ _), TkI.next2 hJ.out (by rw [sel2 hw.out]; rfl)⟩
                case measure => first | (simp; done) | (simp [intOf]; done) | (simp [intOf]; omega)
            · have u1 := U1.out
              go_wp2_with (fail)
              go_ret2
              exact ⟨ret_ii2 (HC.out.symm.trans ((chs_t2 hI.out hJ.out (by rw [sel2 hw.out]; rfl)).trans (by rw [hw.out]; rfl))), by repeat (first | exact Gar.refl _ | refine Gar.drewN ?_ _ | refine Gar.drew ?_ | refine Gar.alloc ?_ _ | refine Gar.allocs ?_ _)⟩
            · have u1 := U1.out
              have u2 := U2.out
              have us := US.out
              go_wp2_with (fail)
              (first | with_reducible refine wp_region_qtail (fun w' => ∃ g : Gp, w' = (allocs _ g.os).drewN g.n) 16 (by kernel_rfl) (by kernel_rfl) (gp_drewN _ _) ?_ | with_reducible refine wp_region_qtail (fun w' => ∃ g : Gp, w' = (allocs _ g.os).drewN g.n) 16 (by kernel_rfl) (by kernel_rfl) (gp_drew2 _ _) ?_ | with_reducible refine wp_region_qtail (fun w' => ∃ g : Gp, w' = (allocs _ g.os).drewN g.n) 16 (by kernel_rfl) (by kernel_rfl) (gp_drew _) ?_)
              simp only [List.take_succ_cons, List.take_zero, List.drop_succ_cons, List.drop_zero]
              repeat (first | go_big_quiet_skip | (go_big_quiet_want; (first | (go_big_quiet_op; (first | go_big_quiet_on | (apply Exists.intro; (refine And.intro (fun g => ?_) ?_); (first | (go_at_call 27; with_reducible exact calls_gp (fun _ hg => KN _ _ hg) g)); go_big_quiet_on))))))
              refine wpQuiet_nil ?_
              refine gp_all (fun os' n' => ?_)
              go_wp2_with (fail)
              go_ret2
              exact ⟨ret_ii2 (HC.out.symm.trans ((chs_t2 hI.out hJ.out (by rw [sel2 hw.out]; rfl)).trans (by rw [hw.out]; rfl))), by repeat (first | exact Gar.refl _ | refine Gar.drewN ?_ _ | refine Gar.drew ?_ | refine Gar.alloc ?_ _ | refine Gar.allocs ?_ _)⟩
            · have u1 := U1.out
              have u2 := U2.out
              have us := US.out
              go_wp2_with (fail)
              (first | with_reducible refine wp_region_qtail (fun w' => ∃ g : Gp, w' = (allocs _ g.os).drewN g.n) 16 (by kernel_rfl) (by kernel_rfl) (gp_drewN _ _) ?_ | with_reducible refine wp_region_qtail (fun w' => ∃ g : Gp, w' = (allocs _ g.os).drewN g.n) 16 (by kernel_rfl) (by kernel_rfl) (gp_drew2 _ _) ?_ | with_reducible refine wp_region_qtail (fun w' => ∃ g : Gp, w' = (allocs _ g.os).drewN g.n) 16 (by kernel_rfl) (by kernel_rfl) (gp_drew _) ?_)
              simp only [List.take_succ_cons, List.take_zero, List.drop_succ_cons, List.drop_zero]
              repeat (first | go_big_quiet_skip | (go_big_quiet_want; (first | (go_big_quiet_op; (first | go_big_quiet_on | (apply Exists.intro; (refine And.intro (fun g => ?_) ?_); (first | (go_at_call 27; with_reducible exact calls_gp (fun _ hg => KN _ _ hg) g)); go_big_quiet_on))))))
              refine wpQuiet_nil ?_
              refine gp_all (fun os' n' => ?_)
              go_wp2_with (fail)
              go_roundw
              case rel => exact ⟨3, rfl, by omega, by repeat (first | exact Gar.refl _ | refine Gar.drewN ?_ _ | refine Gar.drew ?_ | refine Gar.alloc ?_ _ | refine Gar.allocs ?_ _), TkI.next2 hJ.out (by rw [sel2 hw.out]; rfl)⟩
              case measure => first | (simp; done) | (simp [intOf]; done) | (simp [intOf]; omega)
            · have u1 := U1.out
              have u2 := U2.out
              go_wp2_with (fail)
              (first | with_reducible refine wp_region_qtail (fun w' => ∃ g : Gp, w' = (allocs _ g.os).drewN g.n) 16 (by kernel_rfl) (by kernel_rfl) (gp_drewN _ _) ?_ | with_reducible refine wp_region_qtail (fun w' => ∃ g : Gp, w' = (allocs _ g.os).drewN g.n) 16 (by kernel_rfl) (by kernel_rfl) (gp_drew2 _ _) ?_ | with_reducible refine wp_region_qtail (fun w' => ∃ g : Gp, w' = (allocs _ g.os).drewN g.n) 16 (by kernel_rfl) (by kernel_rfl) (gp_drew _) ?_)
              simp only [List.take_succ_cons, List.take_zero, List.drop_succ_cons, List.drop_zero]
              repeat (first | go_big_quiet_skip | (go_big_quiet_want; (first | (go_big_quiet_op; (first | go_big_quiet_on | (apply Exists.intro; (refine And.intro (fun g => ?_) ?_); (first | (go_at_call 27; with_reducible exact calls_gp (fun _ hg => KN _ _ hg) g)); go_big_quiet_on))))))
              refine wpQuiet_nil ?_
              refine gp_all (fun os' n' => ?_)
              go_wp2_with (fail)
              go_roundw
              case rel => exact ⟨3, rfl, by omega, by repeat (first | exact Gar.refl _ | refine Gar.drewN ?_ _ | refine Gar.drew ?_ | refine Gar.alloc ?_ _ | refine Gar.allocs ?_ _), TkI.next2 hJ.out (by rw [sel2 hw.out]; rfl)⟩
              case measure => first | (simp; done) | (simp [intOf]; done) | (simp [intOf]; omega)
        · go_wp2_with (fail)
          go_ret2
          exact ⟨ret_ii2 (HC.out.symm.trans (chs_n hI.out hJ.out)), by repeat (first | exact Gar.refl _ | refine Gar.drewN ?_ _ | refine Gar.drew ?_ | refine Gar.alloc ?_ _ | refine Gar.allocs ?_ _)⟩
set_option maxRecDepth 100000 in
set_option maxHeartbeats 8000000 in
theorem rchoose_wide (e0 e1 e2 p0 p1 p2 n s0 s1 s2 : Int) (m0 m1 m2 : Bool) (sp a0 a1 a2 : Int) (r0 r1 r2 : Bool) (u0 u1 u2 g01 g02 g12 : Bool) (ct c0 c1 c2 cs : Int) (E0 E1 E2 : Bool) (ci cw : Int) (hv : VS e0 e1 e2 p0 p1 p2 n s0 s1 s2 m0 m1 m2 sp a0 a1 a2 r0 r1 r2 u0 u1 u2 g01 g02 g12 ct c0 c1 c2 cs E0 E1 E2 ci cw) (hco : vcode e0 e1 e2 p0 p1 p2 n = 0) (h3 : ct = 3) (hm : midB a0 a1 a2 = false) (w0 w : World) (hb : Gar w0 w) :
    Calls Try.prog 26 #[.agg #[.int .i64 e0, .int .i64 e1, .int .i64 e2, .int .i64 p0, .int .i64 p1, .int .i64 p2, .int .i64 n], .agg #[.int .i64 s0, .int .i64 s1, .int .i64 s2, .bool m0, .bool m1, .bool m2, .int .i64 sp], .agg #[.int .i64 a0, .int .i64 a1, .int .i64 a2, .bool r0, .bool r1, .bool r2]] w fun e w' => e = .returned (.tuple #[.int .i64 ci, .int .i64 cw]) ∧ Gar w0 w' := by
  refine on_gar hb ?_
  clear hb w0
  obtain ⟨he, hn, hpp⟩ := vcode_in hco
  have hp0 : 0 ≤ p0 ∧ p0 ≤ 2 := by omega
  have hp1 : 0 ≤ p1 ∧ p1 ≤ 2 := by omega
  have hp2 : 0 ≤ p2 ∧ p2 ≤ 2 := by omega
  clear hpp hco
  have KN := fun w0 w hb => rnext_ok e0 e1 e2 p0 p1 p2 n s0 s1 s2 m0 m1 m2 sp a0 a1 a2 r0 r1 r2 u0 u1 u2 g01 g02 g12 ct c0 c1 c2 cs E0 E1 E2 ci cw hv he hn w0 w hb
  obtain ⟨hu0, hu1, hu2, hg01, hg02, hg12, hct, hc0, hc1, hc2, hcs, hE0, hE1, hE2, hch⟩ := hv
  have KA := fun w => ractive_any s0 s1 s2 m0 m1 m2 sp a0 a1 a2 r0 r1 r2 w w (Gar.refl _)
  rw [hu0, hu1, hu2, hct] at KA
  have F0 := fun w => friends_0 e0 e1 e2 p0 p1 p2 n u0 u1 u2 a0 a1 a2 r0 r1 r2 he w w (Gar.refl _)
  have F1 := fun w => friends_1 e0 e1 e2 p0 p1 p2 n u0 u1 u2 a0 a1 a2 r0 r1 r2 he w w (Gar.refl _)
  have F2 := fun w => friends_2 e0 e1 e2 p0 p1 p2 n u0 u1 u2 a0 a1 a2 r0 r1 r2 he w w (Gar.refl _)
  rw [hg01, hg02] at F0
  rw [hg12, gg_comm u1 u0, hg01, Bool.or_comm g12 g01] at F1
  rw [gg_comm u2 u0, hg02, gg_comm u2 u1, hg12] at F2
  clear hu0 hu1 hu2 hg01 hg02 hg12 hct hc0 hc1 hc2 hcs hE0 hE1 hE2 he hn
  generalize (g01 || g02) = r0f at *
  generalize (g01 || g12) = r1f at *
  generalize (g02 || g12) = r2f at *
  subst h3
  rw [hm, show (decide ((3 : Int) = 3) && false) = false from rfl, show decide ((3 : Int) = 1) = false from rfl, show decide ((3 : Int) = 2) = false from rfl] at hch
  have KM := rmiddle_any a0 a1 a2
  rw [hm] at KM
  generalize mid a0 a1 a2 = Q at KM
  clear hm
  obtain ⟨S, ts⟩ : ∃ T, decide (cs < n) = T := ⟨_, rfl⟩
  rw [ts] at hch
  have US := hide ts
  have HC := hide hch
  clear ts hch
  have hfd : ∀ w : World, (Instr.field 27 (.agg #[.int .i64 c0, .int .i64 c1, .int .i64 c2, .bool E0, .bool E1, .bool E2, .int .i64 cs]) 2).run Try.prog w = .ok (.int .i64 cs) w := fun _ => by kernel_rfl
  have i0 : ∀ w, (Instr.index 22 (.agg #[.int .i64 p0, .int .i64 p1, .int .i64 p2]) (.int .i64 0)).run Try.prog w = .ok (.int .i64 p0) w := fun _ => by kernel_rfl
  have i1 : ∀ w, (Instr.index 22 (.agg #[.int .i64 p0, .int .i64 p1, .int .i64 p2]) (.int .i64 1)).run Try.prog w = .ok (.int .i64 p1) w := fun _ => by kernel_rfl
  have i2 : ∀ w, (Instr.index 22 (.agg #[.int .i64 p0, .int .i64 p1, .int .i64 p2]) (.int .i64 2)).run Try.prog w = .ok (.int .i64 p2) w := fun _ => by kernel_rfl
  go_enter Try.func26, Try.ntmps26
  go_wp2_with (first | (go_at_call 29; (with_reducible refine (KA _).mono ?_); rintro e w' ⟨rfl, os1, n1, rfl⟩) | (go_at_call 36; (with_reducible refine (KM _).mono ?_); rintro e w' ⟨rfl, rfl⟩))
  go_loopw [53] (fun i wr => ∃ k : Nat, i = .int .i64 k ∧ k ≤ 3 ∧ Gar ((allocs (((w.alloc (.cells #[.int .i64 e0, .int .i64 e1, .int .i64 e2, .int .i64 p0, .int .i64 p1, .int .i64 p2, .int .i64 n] 24)).alloc (.cells #[.int .i64 s0, .int .i64 s1, .int .i64 s2, .bool m0, .bool m1, .bool m2, .int .i64 sp] 27)).alloc (.cells #[.int .i64 a0, .int .i64 a1, .int .i64 a2, .bool r0, .bool r1, .bool r2] 29)) os1).alloc (.cells #[.bool u0, .bool u1, .bool u2] 25)) wr ∧ PrI p0 p1 p2 r0f r1f r2f k) (fun i _ => 3 - (intOf i).toNat)
  case atStart => exact ⟨0, rfl, by omega, by repeat (first | exact Gar.refl _ | refine Gar.drewN ?_ _ | refine Gar.drew ?_ | refine Gar.alloc ?_ _ | refine Gar.allocs ?_ _), PrI.start⟩
  case round =>
    obtain ⟨k, rfl, hk, ⟨os, n2, rfl⟩, hI0⟩ := hrel
    have hI := hide hI0
    clear hI0
    rcases (show k = 0 ∨ k = 1 ∨ k = 2 ∨ k = 3 by omega) with rfl | rfl | rfl | rfl
    · rcases (show p0 = 0 ∨ p0 = 1 ∨ p0 = 2 by omega) with hv | hv | hv
      · have iv : ∀ w, (Instr.index 22 (.agg #[.int .i64 p0, .int .i64 p1, .int .i64 p2]) (.int .i64 0)).run Try.prog w = .ok (.int .i64 0) w := fun w => by rw [i0, hv]
        have hw := hide hv
        clear i0 i1 i2 hv
        cases r0f
        · go_wp2_with (first | (go_at_call 37; (with_reducible refine (F0 _).mono ?_); rintro e w' ⟨rfl, os3, n3, rfl⟩))
          go_roundw
          case rel => exact ⟨1, rfl, by omega, by repeat (first | exact Gar.refl _ | refine Gar.drewN ?_ _ | refine Gar.drew ?_ | refine Gar.alloc ?_ _ | refine Gar.allocs ?_ _), PrI.next0 hI.out (sel0 hw.out)⟩
          case measure => first | (simp; done) | (simp [intOf]; done) | (simp [intOf]; omega)
        · go_wp2_with (first | (go_at_call 37; (with_reducible refine (F0 _).mono ?_); rintro e w' ⟨rfl, os3, n3, rfl⟩))
          go_ret2
          exact ⟨ret_ii2 (HC.out.symm.trans ((chs_f0 hI.out (sel0 hw.out)).trans (by rw [hw.out]))), by repeat (first | exact Gar.refl _ | refine Gar.drewN ?_ _ | refine Gar.drew ?_ | refine Gar.alloc ?_ _ | refine Gar.allocs ?_ _)⟩
      · have iv : ∀ w, (Instr.index 22 (.agg #[.int .i64 p0, .int .i64 p1, .int .i64 p2]) (.int .i64 0)).run Try.prog w = .ok (.int .i64 1) w := fun w => by rw [i0, hv]
        have hw := hide hv
        clear i0 i1 i2 hv
        cases r1f
        · go_wp2_with (first | (go_at_call 37; (with_reducible refine (F1 _).mono ?_); rintro e w' ⟨rfl, os3, n3, rfl⟩))
          go_roundw
          case rel => exact ⟨1, rfl, by omega, by repeat (first | exact Gar.refl _ | refine Gar.drewN ?_ _ | refine Gar.drew ?_ | refine Gar.alloc ?_ _ | refine Gar.allocs ?_ _), PrI.next0 hI.out (sel1 hw.out)⟩
          case measure => first | (simp; done) | (simp [intOf]; done) | (simp [intOf]; omega)
        · go_wp2_with (first | (go_at_call 37; (with_reducible refine (F1 _).mono ?_); rintro e w' ⟨rfl, os3, n3, rfl⟩))
          go_ret2
          exact ⟨ret_ii2 (HC.out.symm.trans ((chs_f0 hI.out (sel1 hw.out)).trans (by rw [hw.out]))), by repeat (first | exact Gar.refl _ | refine Gar.drewN ?_ _ | refine Gar.drew ?_ | refine Gar.alloc ?_ _ | refine Gar.allocs ?_ _)⟩
      · have iv : ∀ w, (Instr.index 22 (.agg #[.int .i64 p0, .int .i64 p1, .int .i64 p2]) (.int .i64 0)).run Try.prog w = .ok (.int .i64 2) w := fun w => by rw [i0, hv]
        have hw := hide hv
        clear i0 i1 i2 hv
        cases r2f
        · go_wp2_with (first | (go_at_call 37; (with_reducible refine (F2 _).mono ?_); rintro e w' ⟨rfl, os3, n3, rfl⟩))
          go_roundw
          case rel => exact ⟨1, rfl, by omega, by repeat (first | exact Gar.refl _ | refine Gar.drewN ?_ _ | refine Gar.drew ?_ | refine Gar.alloc ?_ _ | refine Gar.allocs ?_ _), PrI.next0 hI.out (sel2 hw.out)⟩
          case measure => first | (simp; done) | (simp [intOf]; done) | (simp [intOf]; omega)
        · go_wp2_with (first | (go_at_call 37; (with_reducible refine (F2 _).mono ?_); rintro e w' ⟨rfl, os3, n3, rfl⟩))
          go_ret2
          exact ⟨ret_ii2 (HC.out.symm.trans ((chs_f0 hI.out (sel2 hw.out)).trans (by rw [hw.out]))), by repeat (first | exact Gar.refl _ | refine Gar.drewN ?_ _ | refine Gar.drew ?_ | refine Gar.alloc ?_ _ | refine Gar.allocs ?_ _)⟩
    · rcases (show p1 = 0 ∨ p1 = 1 ∨ p1 = 2 by omega) with hv | hv | hv
      · have iv : ∀ w, (Instr.index 22 (.agg #[.int .i64 p0, .int .i64 p1, .int .i64 p2]) (.int .i64 1)).run Try.prog w = .ok (.int .i64 0) w := fun w => by rw [i1, hv]
        have hw := hide hv
        clear i0 i1 i2 hv
        cases r0f
        · go_wp2_with (first | (go_at_call 37; (with_reducible refine (F0 _).mono ?_); rintro e w' ⟨rfl, os3, n3, rfl⟩))
          go_roundw
          case rel => exact ⟨2, rfl, by omega, by repeat (first | exact Gar.refl _ | refine Gar.drewN ?_ _ | refine Gar.drew ?_ | refine Gar.alloc ?_ _ | refine Gar.allocs ?_ _), PrI.next1 hI.out (sel0 hw.out)⟩
          case measure => first | (simp; done) | (simp [intOf]; done) | (simp [intOf]; omega)
        · go_wp2_with (first | (go_at_call 37; (with_reducible refine (F0 _).mono ?_); rintro e w' ⟨rfl, os3, n3, rfl⟩))
          go_ret2
          exact ⟨ret_ii2 (HC.out.symm.trans ((chs_f1 hI.out (sel0 hw.out)).trans (by rw [hw.out]))), by repeat (first | exact Gar.refl _ | refine Gar.drewN ?_ _ | refine Gar.drew ?_ | refine Gar.alloc ?_ _ | refine Gar.allocs ?_ _)⟩
      · have iv : ∀ w, (Instr.index 22 (.agg #[.int .i64 p0, .int .i64 p1, .int .i64 p2]) (.int .i64 1)).run Try.prog w = .ok (.int .i64 1) w := fun w => by rw [i1, hv]
        have hw := hide hv
        clear i0 i1 i2 hv
        cases r1f
        · go_wp2_with (first | (go_at_call 37; (with_reducible refine (F1 _).mono ?_); rintro e w' ⟨rfl, os3, n3, rfl⟩))
          go_roundw
          case rel => exact ⟨2, rfl, by omega, by repeat (first | exact Gar.refl _ | refine Gar.drewN ?_ _ | refine Gar.drew ?_ | refine Gar.alloc ?_ _ | refine Gar.allocs ?_ _), PrI.next1 hI.out (sel1 hw.out)⟩
          case measure => first | (simp; done) | (simp [intOf]; done) | (simp [intOf]; omega)
        · go_wp2_with (first | (go_at_call 37; (with_reducible refine (F1 _).mono ?_); rintro e w' ⟨rfl, os3, n3, rfl⟩))
          go_ret2
          exact ⟨ret_ii2 (HC.out.symm.trans ((chs_f1 hI.out (sel1 hw.out)).trans (by rw [hw.out]))), by repeat (first | exact Gar.refl _ | refine Gar.drewN ?_ _ | refine Gar.drew ?_ | refine Gar.alloc ?_ _ | refine Gar.allocs ?_ _)⟩
      · have iv : ∀ w, (Instr.index 22 (.agg #[.int .i64 p0, .int .i64 p1, .int .i64 p2]) (.int .i64 1)).run Try.prog w = .ok (.int .i64 2) w := fun w => by rw [i1, hv]
        have hw := hide hv
        clear i0 i1 i2 hv
        cases r2f
        · go_wp2_with (first | (go_at_call 37; (with_reducible refine (F2 _).mono ?_); rintro e w' ⟨rfl, os3, n3, rfl⟩))
          go_roundw
          case rel => exact ⟨2, rfl, by omega, by repeat (first | exact Gar.refl _ | refine Gar.drewN ?_ _ | refine Gar.drew ?_ | refine Gar.alloc ?_ _ | refine Gar.allocs ?_ _), PrI.next1 hI.out (sel2 hw.out)⟩
          case measure => first | (simp; done) | (simp [intOf]; done) | (simp [intOf]; omega)
        · go_wp2_with (first | (go_at_call 37; (with_reducible refine (F2 _).mono ?_); rintro e w' ⟨rfl, os3, n3, rfl⟩))
          go_ret2
          exact ⟨ret_ii2 (HC.out.symm.trans ((chs_f1 hI.out (sel2 hw.out)).trans (by rw [hw.out]))), by repeat (first | exact Gar.refl _ | refine Gar.drewN ?_ _ | refine Gar.drew ?_ | refine Gar.alloc ?_ _ | refine Gar.allocs ?_ _)⟩
    · rcases (show p2 = 0 ∨ p2 = 1 ∨ p2 = 2 by omega) with hv | hv | hv
      · have iv : ∀ w, (Instr.index 22 (.agg #[.int .i64 p0, .int .i64 p1, .int .i64 p2]) (.int .i64 2)).run Try.prog w = .ok (.int .i64 0) w := fun w => by rw [i2, hv]
        have hw := hide hv
        clear i0 i1 i2 hv
        cases r0f
        · go_wp2_with (first | (go_at_call 37; (with_reducible refine (F0 _).mono ?_); rintro e w' ⟨rfl, os3, n3, rfl⟩))
          go_roundw
          case rel => exact ⟨3, rfl, by omega, by repeat (first | exact Gar.refl _ | refine Gar.drewN ?_ _ | refine Gar.drew ?_ | refine Gar.alloc ?_ _ | refine Gar.allocs ?_ _), PrI.next2 hI.out (sel0 hw.out)⟩
          case measure => first | (simp; done) | (simp [intOf]; done) | (simp [intOf]; omega)
        · go_wp2_with (first | (go_at_call 37; (with_reducible refine (F0 _).mono ?_); rintro e w' ⟨rfl, os3, n3, rfl⟩))
          go_ret2
          exact ⟨ret_ii2 (HC.out.symm.trans ((chs_f2 hI.out (sel0 hw.out)).trans (by rw [hw.out]))), by repeat (first | exact Gar.refl _ | refine Gar.drewN ?_ _ | refine Gar.drew ?_ | refine Gar.alloc ?_ _ | refine Gar.allocs ?_ _)⟩
      · have iv : ∀ w, (Instr.index 22 (.agg #[.int .i64 p0, .int .i64 p1, .int .i64 p2]) (.int .i64 2)).run Try.prog w = .ok (.int .i64 1) w := fun w => by rw [i2, hv]
        have hw := hide hv
        clear i0 i1 i2 hv
        cases r1f
        · go_wp2_with (first | (go_at_call 37; (with_reducible refine (F1 _).mono ?_); rintro e w' ⟨rfl, os3, n3, rfl⟩))
          go_roundw
          case rel => exact ⟨3, rfl, by omega, by repeat (first | exact Gar.refl _ | refine Gar.drewN ?_ _ | refine Gar.drew ?_ | refine Gar.alloc ?_ _ | refine Gar.allocs ?_ _), PrI.next2 hI.out (sel1 hw.out)⟩
          case measure => first | (simp; done) | (simp [intOf]; done) | (simp [intOf]; omega)
        · go_wp2_with (first | (go_at_call 37; (with_reducible refine (F1 _).mono ?_); rintro e w' ⟨rfl, os3, n3, rfl⟩))
          go_ret2
          exact ⟨ret_ii2 (HC.out.symm.trans ((chs_f2 hI.out (sel1 hw.out)).trans (by rw [hw.out]))), by repeat (first | exact Gar.refl _ | refine Gar.drewN ?_ _ | refine Gar.drew ?_ | refine Gar.alloc ?_ _ | refine Gar.allocs ?_ _)⟩
      · have iv : ∀ w, (Instr.index 22 (.agg #[.int .i64 p0, .int .i64 p1, .int .i64 p2]) (.int .i64 2)).run Try.prog w = .ok (.int .i64 2) w := fun w => by rw [i2, hv]
        have hw := hide hv
        clear i0 i1 i2 hv
        cases r2f
        · go_wp2_with (first | (go_at_call 37; (with_reducible refine (F2 _).mono ?_); rintro e w' ⟨rfl, os3, n3, rfl⟩))
          go_roundw
          case rel => exact ⟨3, rfl, by omega, by repeat (first | exact Gar.refl _ | refine Gar.drewN ?_ _ | refine Gar.drew ?_ | refine Gar.alloc ?_ _ | refine Gar.allocs ?_ _), PrI.next2 hI.out (sel2 hw.out)⟩
          case measure => first | (simp; done) | (simp [intOf]; done) | (simp [intOf]; omega)
        · go_wp2_with (first | (go_at_call 37; (with_reducible refine (F2 _).mono ?_); rintro e w' ⟨rfl, os3, n3, rfl⟩))
          go_ret2
          exact ⟨ret_ii2 (HC.out.symm.trans ((chs_f2 hI.out (sel2 hw.out)).trans (by rw [hw.out]))), by repeat (first | exact Gar.refl _ | refine Gar.drewN ?_ _ | refine Gar.drew ?_ | refine Gar.alloc ?_ _ | refine Gar.allocs ?_ _)⟩
    · go_wp2_with (fail)
      go_loopw [65] (fun i wr => ∃ k : Nat, i = .int .i64 k ∧ k ≤ 3 ∧ Gar ((allocs (((w.alloc (.cells #[.int .i64 e0, .int .i64 e1, .int .i64 e2, .int .i64 p0, .int .i64 p1, .int .i64 p2, .int .i64 n] 24)).alloc (.cells #[.int .i64 s0, .int .i64 s1, .int .i64 s2, .bool m0, .bool m1, .bool m2, .int .i64 sp] 27)).alloc (.cells #[.int .i64 a0, .int .i64 a1, .int .i64 a2, .bool r0, .bool r1, .bool r2] 29)) os1).alloc (.cells #[.bool u0, .bool u1, .bool u2] 25)) wr ∧ TkI p0 p1 p2 u0 u1 u2 false false S k) (fun i _ => 3 - (intOf i).toNat)
      case atStart => exact ⟨0, rfl, by omega, by repeat (first | exact Gar.refl _ | refine Gar.drewN ?_ _ | refine Gar.drew ?_ | refine Gar.alloc ?_ _ | refine Gar.allocs ?_ _), TkI.start⟩
      case round =>
        clear F0 F1 F2
        obtain ⟨k, rfl, hk, ⟨os, n2, rfl⟩, hJ0⟩ := hrel
        have hJ := hide hJ0
        clear hJ0
        rcases (show k = 0 ∨ k = 1 ∨ k = 2 ∨ k = 3 by omega) with rfl | rfl | rfl | rfl
        · rcases (show p0 = 0 ∨ p0 = 1 ∨ p0 = 2 by omega) with hv | hv | hv
          · have iv : ∀ w, (Instr.index 22 (.agg #[.int .i64 p0, .int .i64 p1, .int .i64 p2]) (.int .i64 0)).run Try.prog w = .ok (.int .i64 0) w := fun w => by rw [i0, hv]
            have hw := hide hv
            clear i0 i1 i2 hv
            cases u0
            all_goals
              go_wp2_with (fail)
              (first | with_reducible refine wp_region_qtail (fun w' => ∃ g : Gp, w' = (allocs _ g.os).drewN g.n) 16 (by kernel_rfl) (by kernel_rfl) (gp_drewN _ _) ?_ | with_reducible refine wp_region_qtail (fun w' => ∃ g : Gp, w' = (allocs _ g.os).drewN g.n) 16 (by kernel_rfl) (by kernel_rfl) (gp_drew2 _ _) ?_ | with_reducible refine wp_region_qtail (fun w' => ∃ g : Gp, w' = (allocs _ g.os).drewN g.n) 16 (by kernel_rfl) (by kernel_rfl) (gp_drew _) ?_)
              simp only [List.take_succ_cons, List.take_zero, List.drop_succ_cons, List.drop_zero]
              repeat (first | go_big_quiet_skip | (go_big_quiet_want; (first | (go_big_quiet_op; (first | go_big_quiet_on | (apply Exists.intro; (refine And.intro (fun g => ?_) ?_); (first | (go_at_call 27; with_reducible exact calls_gp (fun _ hg => KN _ _ hg) g)); go_big_quiet_on))))))
              refine wpQuiet_nil ?_
              refine gp_all (fun os' n' => ?_)
              go_wp2_with (fail)
              go_roundw
              case rel => exact ⟨1, rfl, by omega, by repeat (first | exact Gar.refl _ | refine Gar.drewN ?_ _ | refine Gar.drew ?_ | refine Gar.alloc ?_ _ | refine Gar.allocs ?_ _), TkI.next0 hJ.out (by rw [sel0 hw.out]; simp)⟩
              case measure => first | (simp; done) | (simp [intOf]; done) | (simp [intOf]; omega)
          · have iv : ∀ w, (Instr.index 22 (.agg #[.int .i64 p0, .int .i64 p1, .int .i64 p2]) (.int .i64 0)).run Try.prog w = .ok (.int .i64 1) w := fun w => by rw [i0, hv]
            have hw := hide hv
            clear i0 i1 i2 hv
            cases u1
            all_goals
              go_wp2_with (fail)
              (first | with_reducible refine wp_region_qtail (fun w' => ∃ g : Gp, w' = (allocs _ g.os).drewN g.n) 16 (by kernel_rfl) (by kernel_rfl) (gp_drewN _ _) ?_ | with_reducible refine wp_region_qtail (fun w' => ∃ g : Gp, w' = (allocs _ g.os).drewN g.n) 16 (by kernel_rfl) (by kernel_rfl) (gp_drew2 _ _) ?_ | with_reducible refine wp_region_qtail (fun w' => ∃ g : Gp, w' = (allocs _ g.os).drewN g.n) 16 (by kernel_rfl) (by kernel_rfl) (gp_drew _) ?_)
              simp only [List.take_succ_cons, List.take_zero, List.drop_succ_cons, List.drop_zero]
              repeat (first | go_big_quiet_skip | (go_big_quiet_want; (first | (go_big_quiet_op; (first | go_big_quiet_on | (apply Exists.intro; (refine And.intro (fun g => ?_) ?_); (first | (go_at_call 27; with_reducible exact calls_gp (fun _ hg => KN _ _ hg) g)); go_big_quiet_on))))))
              refine wpQuiet_nil ?_
              refine gp_all (fun os' n' => ?_)
              go_wp2_with (fail)
              go_roundw
              case rel => exact ⟨1, rfl, by omega, by repeat (first | exact Gar.refl _ | refine Gar.drewN ?_ _ | refine Gar.drew ?_ | refine Gar.alloc ?_ _ | refine Gar.allocs ?_ _), TkI.next0 hJ.out (by rw [sel1 hw.out]; simp)⟩
              case measure => first | (simp; done) | (simp [intOf]; done) | (simp [intOf]; omega)
          · have iv : ∀ w, (Instr.index 22 (.agg #[.int .i64 p0, .int .i64 p1, .int .i64 p2]) (.int .i64 0)).run Try.prog w = .ok (.int .i64 2) w := fun w => by rw [i0, hv]
            have hw := hide hv
            clear i0 i1 i2 hv
            cases u2
            all_goals
              go_wp2_with (fail)
              (first | with_reducible refine wp_region_qtail (fun w' => ∃ g : Gp, w' = (allocs _ g.os).drewN g.n) 16 (by kernel_rfl) (by kernel_rfl) (gp_drewN _ _) ?_ | with_reducible refine wp_region_qtail (fun w' => ∃ g : Gp, w' = (allocs _ g.os).drewN g.n) 16 (by kernel_rfl) (by kernel_rfl) (gp_drew2 _ _) ?_ | with_reducible refine wp_region_qtail (fun w' => ∃ g : Gp, w' = (allocs _ g.os).drewN g.n) 16 (by kernel_rfl) (by kernel_rfl) (gp_drew _) ?_)
              simp only [List.take_succ_cons, List.take_zero, List.drop_succ_cons, List.drop_zero]
              repeat (first | go_big_quiet_skip | (go_big_quiet_want; (first | (go_big_quiet_op; (first | go_big_quiet_on | (apply Exists.intro; (refine And.intro (fun g => ?_) ?_); (first | (go_at_call 27; with_reducible exact calls_gp (fun _ hg => KN _ _ hg) g)); go_big_quiet_on))))))
              refine wpQuiet_nil ?_
              refine gp_all (fun os' n' => ?_)
              go_wp2_with (fail)
              go_roundw
              case rel => exact ⟨1, rfl, by omega, by repeat (first | exact Gar.refl _ | refine Gar.drewN ?_ _ | refine Gar.drew ?_ | refine Gar.alloc ?_ _ | refine Gar.allocs ?_ _), TkI.next0 hJ.out (by rw [sel2 hw.out]; simp)⟩
              case measure => first | (simp; done) | (simp [intOf]; done) | (simp [intOf]; omega)
        · rcases (show p1 = 0 ∨ p1 = 1 ∨ p1 = 2 by omega) with hv | hv | hv
          · have iv : ∀ w, (Instr.index 22 (.agg #[.int .i64 p0, .int .i64 p1, .int .i64 p2]) (.int .i64 1)).run Try.prog w = .ok (.int .i64 0) w := fun w => by rw [i1, hv]
            have hw := hide hv
            clear i0 i1 i2 hv
            cases u0
            all_goals
              go_wp2_with (fail)
              (first | with_reducible refine wp_region_qtail (fun w' => ∃ g : Gp, w' = (allocs _ g.os).drewN g.n) 16 (by kernel_rfl) (by kernel_rfl) (gp_drewN _ _) ?_ | with_reducible refine wp_region_qtail (fun w' => ∃ g : Gp, w' = (allocs _ g.os).drewN g.n) 16 (by kernel_rfl) (by kernel_rfl) (gp_drew2 _ _) ?_ | with_reducible refine wp_region_qtail (fun w' => ∃ g : Gp, w' = (allocs _ g.os).drewN g.n) 16 (by kernel_rfl) (by kernel_rfl) (gp_drew _) ?_)
              simp only [List.take_succ_cons, List.take_zero, List.drop_succ_cons, List.drop_zero]
              repeat (first | go_big_quiet_skip | (go_big_quiet_want; (first | (go_big_quiet_op; (first | go_big_quiet_on | (apply Exists.intro; (refine And.intro (fun g => ?_) ?_); (first | (go_at_call 27; with_reducible exact calls_gp (fun _ hg => KN _ _ hg) g)); go_big_quiet_on))))))
              refine wpQuiet_nil ?_
              refine gp_all (fun os' n' => ?_)
              go_wp2_with (fail)
              go_roundw
              case rel => exact ⟨2, rfl, by omega, by repeat (first | exact Gar.refl _ | refine Gar.drewN ?_ _ | refine Gar.drew ?_ | refine Gar.alloc ?_ _ | refine Gar.allocs ?_ _), TkI.next1 hJ.out (by rw [sel0 hw.out]; simp)⟩
              case measure => first | (simp; done) | (simp [intOf]; done) | (simp [intOf]; omega)
          · have iv : ∀ w, (Instr.index 22 (.agg #[.int .i64 p0, .int .i64 p1, .int .i64 p2]) (.int .i64 1)).run Try.prog w = .ok (.int .i64 1) w := fun w => by rw [i1, hv]
            have hw := hide hv
            clear i0 i1 i2 hv
            cases u1
            all_goals
              go_wp2_with (fail)
              (first | with_reducible refine wp_region_qtail (fun w' => ∃ g : Gp, w' = (allocs _ g.os).drewN g.n) 16 (by kernel_rfl) (by kernel_rfl) (gp_drewN _ _) ?_ | with_reducible refine wp_region_qtail (fun w' => ∃ g : Gp, w' = (allocs _ g.os).drewN g.n) 16 (by kernel_rfl) (by kernel_rfl) (gp_drew2 _ _) ?_ | with_reducible refine wp_region_qtail (fun w' => ∃ g : Gp, w' = (allocs _ g.os).drewN g.n) 16 (by kernel_rfl) (by kernel_rfl) (gp_drew _) ?_)
              simp only [List.take_succ_cons, List.take_zero, List.drop_succ_cons, List.drop_zero]
              repeat (first | go_big_quiet_skip | (go_big_quiet_want; (first | (go_big_quiet_op; (first | go_big_quiet_on | (apply Exists.intro; (refine And.intro (fun g => ?_) ?_); (first | (go_at_call 27; with_reducible exact calls_gp (fun _ hg => KN _ _ hg) g)); go_big_quiet_on))))))
              refine wpQuiet_nil ?_
              refine gp_all (fun os' n' => ?_)
              go_wp2_with (fail)
              go_roundw
              case rel => exact ⟨2, rfl, by omega, by repeat (first | exact Gar.refl _ | refine Gar.drewN ?_ _ | refine Gar.drew ?_ | refine Gar.alloc ?_ _ | refine Gar.allocs ?_ _), TkI.next1 hJ.out (by rw [sel1 hw.out]; simp)⟩
              case measure => first | (simp; done) | (simp [intOf]; done) | (simp [intOf]; omega)
          · have iv : ∀ w, (Instr.index 22 (.agg #[.int .i64 p0, .int .i64 p1, .int .i64 p2]) (.int .i64 1)).run Try.prog w = .ok (.int .i64 2) w := fun w => by rw [i1, hv]
            have hw := hide hv
            clear i0 i1 i2 hv
            cases u2
            all_goals
              go_wp2_with (fail)
              (first | with_reducible refine wp_region_qtail (fun w' => ∃ g : Gp, w' = (allocs _ g.os).drewN g.n) 16 (by kernel_rfl) (by kernel_rfl) (gp_drewN _ _) ?_ | with_reducible refine wp_region_qtail (fun w' => ∃ g : Gp, w' = (allocs _ g.os).drewN g.n) 16 (by kernel_rfl) (by kernel_rfl) (gp_drew2 _ _) ?_ | with_reducible refine wp_region_qtail (fun w' => ∃ g : Gp, w' = (allocs _ g.os).drewN g.n) 16 (by kernel_rfl) (by kernel_rfl) (gp_drew _) ?_)
              simp only [List.take_succ_cons, List.take_zero, List.drop_succ_cons, List.drop_zero]
              repeat (first | go_big_quiet_skip | (go_big_quiet_want; (first | (go_big_quiet_op; (first | go_big_quiet_on | (apply Exists.intro; (refine And.intro (fun g => ?_) ?_); (first | (go_at_call 27; with_reducible exact calls_gp (fun _ hg => KN _ _ hg) g)); go_big_quiet_on))))))
              refine wpQuiet_nil ?_
              refine gp_all (fun os' n' => ?_)
              go_wp2_with (fail)
              go_roundw
              case rel => exact ⟨2, rfl, by omega, by repeat (first | exact Gar.refl _ | refine Gar.drewN ?_ _ | refine Gar.drew ?_ | refine Gar.alloc ?_ _ | refine Gar.allocs ?_ _), TkI.next1 hJ.out (by rw [sel2 hw.out]; simp)⟩
              case measure => first | (simp; done) | (simp [intOf]; done) | (simp [intOf]; omega)
        · rcases (show p2 = 0 ∨ p2 = 1 ∨ p2 = 2 by omega) with hv | hv | hv
          · have iv : ∀ w, (Instr.index 22 (.agg #[.int .i64 p0, .int .i64 p1, .int .i64 p2]) (.int .i64 2)).run Try.prog w = .ok (.int .i64 0) w := fun w => by rw [i2, hv]
            have hw := hide hv
            clear i0 i1 i2 hv
            cases u0
            all_goals
              go_wp2_with (fail)
              (first | with_reducible refine wp_region_qtail (fun w' => ∃ g : Gp, w' = (allocs _ g.os).drewN g.n) 16 (by kernel_rfl) (by kernel_rfl) (gp_drewN _ _) ?_ | with_reducible refine wp_region_qtail (fun w' => ∃ g : Gp, w' = (allocs _ g.os).drewN g.n) 16 (by kernel_rfl) (by kernel_rfl) (gp_drew2 _ _) ?_ | with_reducible refine wp_region_qtail (fun w' => ∃ g : Gp, w' = (allocs _ g.os).drewN g.n) 16 (by kernel_rfl) (by kernel_rfl) (gp_drew _) ?_)
              simp only [List.take_succ_cons, List.take_zero, List.drop_succ_cons, List.drop_zero]
              repeat (first | go_big_quiet_skip | (go_big_quiet_want; (first | (go_big_quiet_op; (first | go_big_quiet_on | (apply Exists.intro; (refine And.intro (fun g => ?_) ?_); (first | (go_at_call 27; with_reducible exact calls_gp (fun _ hg => KN _ _ hg) g)); go_big_quiet_on))))))
              refine wpQuiet_nil ?_
              refine gp_all (fun os' n' => ?_)
              go_wp2_with (fail)
              go_roundw
              case rel => exact ⟨3, rfl, by omega, by repeat (first | exact Gar.refl _ | refine Gar.drewN ?_ _ | refine Gar.drew ?_ | refine Gar.alloc ?_ _ | refine Gar.allocs ?_ _), TkI.next2 hJ.out (by rw [sel0 hw.out]; simp)⟩
              case measure => first | (simp; done) | (simp [intOf]; done) | (simp [intOf]; omega)
          · have iv : ∀ w, (Instr.index 22 (.agg #[.int .i64 p0, .int .i64 p1, .int .i64 p2]) (.int .i64 2)).run Try.prog w = .ok (.int .i64 1) w := fun w => by rw [i2, hv]
            have hw := hide hv
            clear i0 i1 i2 hv
            cases u1
            all_goals
              go_wp2_with (fail)
              (first | with_reducible refine wp_region_qtail (fun w' => ∃ g : Gp, w' = (allocs _ g.os).drewN g.n) 16 (by kernel_rfl) (by kernel_rfl) (gp_drewN _ _) ?_ | with_reducible refine wp_region_qtail (fun w' => ∃ g : Gp, w' = (allocs _ g.os).drewN g.n) 16 (by kernel_rfl) (by kernel_rfl) (gp_drew2 _ _) ?_ | with_reducible refine wp_region_qtail (fun w' => ∃ g : Gp, w' = (allocs _ g.os).drewN g.n) 16 (by kernel_rfl) (by kernel_rfl) (gp_drew _) ?_)
              simp only [List.take_succ_cons, List.take_zero, List.drop_succ_cons, List.drop_zero]
              repeat (first | go_big_quiet_skip | (go_big_quiet_want; (first | (go_big_quiet_op; (first | go_big_quiet_on | (apply Exists.intro; (refine And.intro (fun g => ?_) ?_); (first | (go_at_call 27; with_reducible exact calls_gp (fun _ hg => KN _ _ hg) g)); go_big_quiet_on))))))
              refine wpQuiet_nil ?_
              refine gp_all (fun os' n' => ?_)
              go_wp2_with (fail)
              go_roundw
              case rel => exact ⟨3, rfl, by omega, by repeat (first | exact Gar.refl _ | refine Gar.drewN ?_ _ | refine Gar.drew ?_ | refine Gar.alloc ?_ _ | refine Gar.allocs ?_ _), TkI.next2 hJ.out (by rw [sel1 hw.out]; simp)⟩
              case measure => first | (simp; done) | (simp [intOf]; done) | (simp [intOf]; omega)
          · have iv : ∀ w, (Instr.index 22 (.agg #[.int .i64 p0, .int .i64 p1, .int .i64 p2]) (.int .i64 2)).run Try.prog w = .ok (.int .i64 2) w := fun w => by rw [i2, hv]
            have hw := hide hv
            clear i0 i1 i2 hv
            cases u2
            all_goals
              go_wp2_with (fail)
              (first | with_reducible refine wp_region_qtail (fun w' => ∃ g : Gp, w' = (allocs _ g.os).drewN g.n) 16 (by kernel_rfl) (by kernel_rfl) (gp_drewN _ _) ?_ | with_reducible refine wp_region_qtail (fun w' => ∃ g : Gp, w' = (allocs _ g.os).drewN g.n) 16 (by kernel_rfl) (by kernel_rfl) (gp_drew2 _ _) ?_ | with_reducible refine wp_region_qtail (fun w' => ∃ g : Gp, w' = (allocs _ g.os).drewN g.n) 16 (by kernel_rfl) (by kernel_rfl) (gp_drew _) ?_)
              simp only [List.take_succ_cons, List.take_zero, List.drop_succ_cons, List.drop_zero]
              repeat (first | go_big_quiet_skip | (go_big_quiet_want; (first | (go_big_quiet_op; (first | go_big_quiet_on | (apply Exists.intro; (refine And.intro (fun g => ?_) ?_); (first | (go_at_call 27; with_reducible exact calls_gp (fun _ hg => KN _ _ hg) g)); go_big_quiet_on))))))
              refine wpQuiet_nil ?_
              refine gp_all (fun os' n' => ?_)
              go_wp2_with (fail)
              go_roundw
              case rel => exact ⟨3, rfl, by omega, by repeat (first | exact Gar.refl _ | refine Gar.drewN ?_ _ | refine Gar.drew ?_ | refine Gar.alloc ?_ _ | refine Gar.allocs ?_ _), TkI.next2 hJ.out (by rw [sel2 hw.out]; simp)⟩
              case measure => first | (simp; done) | (simp [intOf]; done) | (simp [intOf]; omega)
        · go_wp2_with (fail)
          go_ret2
          exact ⟨ret_ii2 (HC.out.symm.trans (chs_n hI.out hJ.out)), by repeat (first | exact Gar.refl _ | refine Gar.drewN ?_ _ | refine Gar.drew ?_ | refine Gar.alloc ?_ _ | refine Gar.allocs ?_ _)⟩
theorem rchoose_ok (e0 e1 e2 p0 p1 p2 n s0 s1 s2 : Int) (m0 m1 m2 : Bool) (sp a0 a1 a2 : Int) (r0 r1 r2 : Bool) (u0 u1 u2 g01 g02 g12 : Bool) (ct c0 c1 c2 cs : Int) (E0 E1 E2 : Bool) (ci cw : Int) (hv : VS e0 e1 e2 p0 p1 p2 n s0 s1 s2 m0 m1 m2 sp a0 a1 a2 r0 r1 r2 u0 u1 u2 g01 g02 g12 ct c0 c1 c2 cs E0 E1 E2 ci cw) (hco : vcode e0 e1 e2 p0 p1 p2 n = 0) (w0 w : World) (hb : Gar w0 w) :
    Calls Try.prog 26 #[.agg #[.int .i64 e0, .int .i64 e1, .int .i64 e2, .int .i64 p0, .int .i64 p1, .int .i64 p2, .int .i64 n], .agg #[.int .i64 s0, .int .i64 s1, .int .i64 s2, .bool m0, .bool m1, .bool m2, .int .i64 sp], .agg #[.int .i64 a0, .int .i64 a1, .int .i64 a2, .bool r0, .bool r1, .bool r2]] w fun e w' => e = .returned (.tuple #[.int .i64 ci, .int .i64 cw]) ∧ Gar w0 w' := by
  by_cases h3 : ct = 3
  · cases hm : midB a0 a1 a2
    · exact rchoose_wide e0 e1 e2 p0 p1 p2 n s0 s1 s2 m0 m1 m2 sp a0 a1 a2 r0 r1 r2 u0 u1 u2 g01 g02 g12 ct c0 c1 c2 cs E0 E1 E2 ci cw hv hco h3 hm w0 w hb
    · exact rchoose_mid e0 e1 e2 p0 p1 p2 n s0 s1 s2 m0 m1 m2 sp a0 a1 a2 r0 r1 r2 u0 u1 u2 g01 g02 g12 ct c0 c1 c2 cs E0 E1 E2 ci cw hv hco h3 hm w0 w hb
  · exact rchoose_far e0 e1 e2 p0 p1 p2 n s0 s1 s2 m0 m1 m2 sp a0 a1 a2 r0 r1 r2 u0 u1 u2 g01 g02 g12 ct c0 c1 c2 cs E0 E1 E2 ci cw hv hco h3 w0 w hb
end Go.Proofs.Ytdincfemiignjaa
