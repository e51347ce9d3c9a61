/- The contract of the reference's Bound. -/
import Derived.Test.YtdincfemiignjaaVotZ
import Derived.Deep.RegionHeld3
namespace Go.Proofs.Ytdincfemiignjaa
open Go.RowKit
set_option linter.unusedVariables false
set_option linter.unusedSimpArgs false
attribute [local go_sem ↓] Go.wp_at_zero Go.wp_at_succ

theorem or_waysR {f g : Bool} (h : (f || g) = true) : (f = true ∧ g = true) ∨ (f = true ∧ g = false) ∨ (f = false ∧ g = true) := by revert f g; decide
set_option maxHeartbeats 4000000 in
theorem rbound_bad (e0 e1 e2 p0 p1 p2 n s0 s1 s2 : Int) (m0 m1 m2 : Bool) (sp a0 a1 a2 : Int) (r0 r1 r2 : Bool) (hco : vcode e0 e1 e2 p0 p1 p2 n ≠ 0) (w0 w : World) (hb : Gar w0 w) :
    Calls Try.prog 12 #[.agg #[.int .i64 e0, .int .i64 e1, .int .i64 e2, .int .i64 p0, .int .i64 p1, .int .i64 p2, .int .i64 n], .agg #[.int .i64 s0, .int .i64 s1, .int .i64 s2, .bool m0, .bool m1, .bool m2, .int .i64 sp], .agg #[.int .i64 a0, .int .i64 a1, .int .i64 a2, .bool r0, .bool r1, .bool r2]] w fun e w' => e = .returned (.tuple #[.int .i64 0, .int .i64 (vcode e0 e1 e2 p0 p1 p2 n)]) ∧ Gar w0 w' := by
  refine on_gar hb ?_
  clear hb w0
  have KC := rcheck_any e0 e1 e2 p0 p1 p2 n
  generalize vcode e0 e1 e2 p0 p1 p2 n = c at *
  have hcb : (c == 0) = false := by simpa using hco
  clear hco
  go_enter Try.func12, Try.ntmps12
  go_wp2_with (first | (go_at_call 15; (with_reducible refine (KC _).mono ?_); rintro e w' ⟨rfl, os1, n1, rfl⟩))
  go_ret2
  exact ⟨rfl, by repeat (first | exact Gar.refl _ | refine Gar.drewN ?_ _ | refine Gar.drew ?_ | refine Gar.alloc ?_ _ | refine Gar.allocs ?_ _)⟩
set_option maxRecDepth 100000 in
set_option maxHeartbeats 8000000 in
theorem rbound_ok (e0 e1 e2 p0 p1 p2 n s0 s1 s2 : Int) (m0 m1 m2 : Bool) (sp a0 a1 a2 : Int) (r0 r1 r2 : Bool) (u0 u1 u2 g01 g02 g12 : Bool) (ct c0 c1 c2 cs : Int) (E0 E1 E2 : Bool) (ci cw : Int) (hv : VS e0 e1 e2 p0 p1 p2 n s0 s1 s2 m0 m1 m2 sp a0 a1 a2 r0 r1 r2 u0 u1 u2 g01 g02 g12 ct c0 c1 c2 cs E0 E1 E2 ci cw) (hco : vcode e0 e1 e2 p0 p1 p2 n = 0) (w0 w : World) (hb : Gar w0 w) :
    Calls Try.prog 12 #[.agg #[.int .i64 e0, .int .i64 e1, .int .i64 e2, .int .i64 p0, .int .i64 p1, .int .i64 p2, .int .i64 n], .agg #[.int .i64 s0, .int .i64 s1, .int .i64 s2, .bool m0, .bool m1, .bool m2, .int .i64 sp], .agg #[.int .i64 a0, .int .i64 a1, .int .i64 a2, .bool r0, .bool r1, .bool r2]] w fun e w' => e = .returned (.tuple #[.int .i64 (vbnd ci cw g01 g02 g12 e0 e1 e2), .int .i64 (berr cw)]) ∧ Gar w0 w' := by
  refine on_gar hb ?_
  clear hb w0
  have KH := fun w0 w hb => rchoose_ok e0 e1 e2 p0 p1 p2 n s0 s1 s2 m0 m1 m2 sp a0 a1 a2 r0 r1 r2 u0 u1 u2 g01 g02 g12 ct c0 c1 c2 cs E0 E1 E2 ci cw hv hco w0 w hb
  obtain ⟨he, hn, hpp⟩ := vcode_in hco
  have hp0 : 0 ≤ p0 ∧ p0 ≤ 2 := by omega
  have hp1 : 0 ≤ p1 ∧ p1 ≤ 2 := by omega
  have hp2 : 0 ≤ p2 ∧ p2 ≤ 2 := by omega
  clear hpp
  have KN := fun w0 w hb => rnext_ok e0 e1 e2 p0 p1 p2 n s0 s1 s2 m0 m1 m2 sp a0 a1 a2 r0 r1 r2 u0 u1 u2 g01 g02 g12 ct c0 c1 c2 cs E0 E1 E2 ci cw hv he hn w0 w hb
  obtain ⟨hu0, hu1, hu2, hg01, hg02, hg12, hct, hc0, hc1, hc2, hcs, hE0, hE1, hE2, hch⟩ := hv
  have KC := rcheck_any e0 e1 e2 p0 p1 p2 n
  rw [hco] at KC
  have hfr : cw = 2 → sel ci (g01 || g02) (g01 || g12) (g02 || g12) = true := fun h => chs_2 (by rw [← h]; exact hch)
  have KA := fun w => ractive_any s0 s1 s2 m0 m1 m2 sp a0 a1 a2 r0 r1 r2 w w (Gar.refl _)
  rw [hu0, hu1, hu2, hct] at KA
  have P00 := fun w => ragree_00 e0 e1 e2 p0 p1 p2 n u0 u1 u2 a0 a1 a2 r0 r1 r2 he w w (Gar.refl _)
  have P01 := fun w => ragree_01 e0 e1 e2 p0 p1 p2 n u0 u1 u2 a0 a1 a2 r0 r1 r2 he w w (Gar.refl _)
  rw [hg01] at P01
  have P02 := fun w => ragree_02 e0 e1 e2 p0 p1 p2 n u0 u1 u2 a0 a1 a2 r0 r1 r2 he w w (Gar.refl _)
  rw [hg02] at P02
  have P10 := fun w => ragree_10 e0 e1 e2 p0 p1 p2 n u0 u1 u2 a0 a1 a2 r0 r1 r2 he w w (Gar.refl _)
  rw [gg_comm u1 u0, hg01] at P10
  have P11 := fun w => ragree_11 e0 e1 e2 p0 p1 p2 n u0 u1 u2 a0 a1 a2 r0 r1 r2 he w w (Gar.refl _)
  have P12 := fun w => ragree_12 e0 e1 e2 p0 p1 p2 n u0 u1 u2 a0 a1 a2 r0 r1 r2 he w w (Gar.refl _)
  rw [hg12] at P12
  have P20 := fun w => ragree_20 e0 e1 e2 p0 p1 p2 n u0 u1 u2 a0 a1 a2 r0 r1 r2 he w w (Gar.refl _)
  rw [gg_comm u2 u0, hg02] at P20
  have P21 := fun w => ragree_21 e0 e1 e2 p0 p1 p2 n u0 u1 u2 a0 a1 a2 r0 r1 r2 he w w (Gar.refl _)
  rw [gg_comm u2 u1, hg12] at P21
  have P22 := fun w => ragree_22 e0 e1 e2 p0 p1 p2 n u0 u1 u2 a0 a1 a2 r0 r1 r2 he w w (Gar.refl _)
  rcases chs_bd hch hp0 hp1 hp2 (mdx_bd _ _ _) with ⟨rfl, rfl⟩ | ⟨hi, hw⟩
  · clear hu0 hu1 hu2 hg01 hg02 hg12 hct hc0 hc1 hc2 hcs hE0 hE1 hE2 hch hn hp0 hp1 hp2 hco KN he hfr
    rw [show vbnd (-1) 0 g01 g02 g12 e0 e1 e2 = 0 from rfl, show berr 0 = 28 from rfl]
    go_enter Try.func12, Try.ntmps12
    go_wp2_with (first | (go_at_call 15; (with_reducible refine (KC _).mono ?_); rintro e w' ⟨rfl, os1, n1, rfl⟩) | (go_at_call 26; (with_reducible refine (KH _ _ (Gar.refl _)).mono ?_); rintro e w' ⟨rfl, os2, n2, rfl⟩) | (go_at_call 29; (with_reducible refine (KA _).mono ?_); rintro e w' ⟨rfl, os4, n4, rfl⟩))
    go_ret2
    exact ⟨rfl, by repeat (first | exact Gar.refl _ | refine Gar.drewN ?_ _ | refine Gar.drew ?_ | refine Gar.alloc ?_ _ | refine Gar.allocs ?_ _)⟩
  clear hu0 hu1 hu2 hg01 hg02 hg12 hct hc0 hc1 hc2 hcs hE0 hE1 hE2 hch hn hp0 hp1 hp2 hco KN
  obtain ⟨⟨he0, he0b⟩, ⟨he1, he1b⟩, ⟨he2, he2b⟩⟩ := he
  rcases (show cw = 1 ∨ cw = 2 ∨ (cw = 3 ∨ cw = 4) by omega) with rfl | rfl | hw34
  · clear hfr
    rw [show vbnd ci 1 g01 g02 g12 e0 e1 e2 = mx3 e0 e1 e2 from rfl, show berr 1 = 0 from rfl]
    obtain ⟨Mx, hMx⟩ : ∃ M, mx3 e0 e1 e2 = M := ⟨_, rfl⟩
    rw [hMx]
    have mq : ∀ (ts : Array TypeId) (t : TypeId) (w : World), (Builtin.max_ ts t #[.int .i64 e0, .int .i64 e1, .int .i64 e2]).run Try.prog w = .ok (.int .i64 Mx) w := fun ts t w => by
      rw [← hMx]; simp [Builtin.max_, Builtin.max2, mx3] <;> (repeat' split) <;> omega
    clear hMx
    go_enter Try.func12, Try.ntmps12
    go_wp2_with (first | (go_at_call 15; (with_reducible refine (KC _).mono ?_); rintro e w' ⟨rfl, os1, n1, rfl⟩) | (go_at_call 26; (with_reducible refine (KH _ _ (Gar.refl _)).mono ?_); rintro e w' ⟨rfl, os2, n2, rfl⟩) | (go_at_call 29; (with_reducible refine (KA _).mono ?_); rintro e w' ⟨rfl, os4, n4, rfl⟩))
    go_ret2
    exact ⟨rfl, by repeat (first | exact Gar.refl _ | refine Gar.drewN ?_ _ | refine Gar.drew ?_ | refine Gar.alloc ?_ _ | refine Gar.allocs ?_ _)⟩
  · have hs := hfr rfl
    clear hfr
    rw [show berr 2 = 0 from rfl, show vbnd ci 2 g01 g02 g12 e0 e1 e2 = bl ci g01 g02 g12 e0 e1 e2 from rfl]
    rcases (show ci = 0 ∨ ci = 1 ∨ ci = 2 by omega) with rfl | rfl | rfl
    · have hs2 : (g01 || g02) = true := hs
      clear hs hi hw
      rcases (show (g01 = true ∧ g02 = true) ∨ (g01 = true ∧ g02 = false) ∨ (g01 = false ∧ g02 = true) from or_waysR hs2) with ⟨rfl, rfl⟩ | ⟨rfl, rfl⟩ | ⟨rfl, rfl⟩
      · clear hs2
        obtain ⟨M, hM⟩ : ∃ M : Int, (if e2 < e1 then e2 else e1) = M := ⟨_, rfl⟩
        have hMb : 0 ≤ M ∧ M ≤ 16384 := by rw [← hM]; split <;> omega
        have mn0 : ∀ (ts : Array TypeId) (t : TypeId) (w : World), (Builtin.min_ ts t #[.int .i64 1048576, .int .i64 e1]).run Try.prog w = .ok (.int .i64 e1) w := fun ts t w => by
          simp [Builtin.min_, Builtin.min2] <;> (repeat' split) <;> omega
        have mn1 : ∀ (ts : Array TypeId) (t : TypeId) (w : World), (Builtin.min_ ts t #[.int .i64 e1, .int .i64 e2]).run Try.prog w = .ok (.int .i64 M) w := fun ts t w => by
          rw [← hM]; simp [Builtin.min_, Builtin.min2] <;> (repeat' split) <;> omega
        rw [show bl 0 true true g12 e0 e1 e2 = e0 + 2 * M by simp [bl, mn2, hM]]
        clear hM
        go_enter Try.func12, Try.ntmps12
        go_wp2_with (first | (go_at_call 15; (with_reducible refine (KC _).mono ?_); rintro e w' ⟨rfl, os1, n1, rfl⟩) | (go_at_call 26; (with_reducible refine (KH _ _ (Gar.refl _)).mono ?_); rintro e w' ⟨rfl, os2, n2, rfl⟩) | (go_at_call 29; (with_reducible refine (KA _).mono ?_); rintro e w' ⟨rfl, os4, n4, rfl⟩))
        refine wp_loop_rounds 4 ?_
        repeat any_goals (rw [rounds_succ]; go_wp2_with (first | (go_at_call 30; (first | (with_reducible refine (P00 _).mono ?_) | (with_reducible refine (P01 _).mono ?_) | (with_reducible refine (P02 _).mono ?_)); rintro e w' ⟨rfl, os5, n5, rfl⟩)))
        go_ret2
        exact ⟨rfl, by repeat (first | exact Gar.refl _ | refine Gar.drewN ?_ _ | refine Gar.drew ?_ | refine Gar.alloc ?_ _ | refine Gar.allocs ?_ _)⟩
      · clear hs2
        have mn0 : ∀ (ts : Array TypeId) (t : TypeId) (w : World), (Builtin.min_ ts t #[.int .i64 1048576, .int .i64 e1]).run Try.prog w = .ok (.int .i64 e1) w := fun ts t w => by
          simp [Builtin.min_, Builtin.min2] <;> (repeat' split) <;> omega
        rw [show bl 0 true false g12 e0 e1 e2 = e0 + 2 * e1 by simp [bl, mn2]]
        go_enter Try.func12, Try.ntmps12
        go_wp2_with (first | (go_at_call 15; (with_reducible refine (KC _).mono ?_); rintro e w' ⟨rfl, os1, n1, rfl⟩) | (go_at_call 26; (with_reducible refine (KH _ _ (Gar.refl _)).mono ?_); rintro e w' ⟨rfl, os2, n2, rfl⟩) | (go_at_call 29; (with_reducible refine (KA _).mono ?_); rintro e w' ⟨rfl, os4, n4, rfl⟩))
        refine wp_loop_rounds 4 ?_
        repeat any_goals (rw [rounds_succ]; go_wp2_with (first | (go_at_call 30; (first | (with_reducible refine (P00 _).mono ?_) | (with_reducible refine (P01 _).mono ?_) | (with_reducible refine (P02 _).mono ?_)); rintro e w' ⟨rfl, os5, n5, rfl⟩)))
        go_ret2
        exact ⟨rfl, by repeat (first | exact Gar.refl _ | refine Gar.drewN ?_ _ | refine Gar.drew ?_ | refine Gar.alloc ?_ _ | refine Gar.allocs ?_ _)⟩
      · clear hs2
        have mn0 : ∀ (ts : Array TypeId) (t : TypeId) (w : World), (Builtin.min_ ts t #[.int .i64 1048576, .int .i64 e2]).run Try.prog w = .ok (.int .i64 e2) w := fun ts t w => by
          simp [Builtin.min_, Builtin.min2] <;> (repeat' split) <;> omega
        rw [show bl 0 false true g12 e0 e1 e2 = e0 + 2 * e2 by simp [bl, mn2]]
        go_enter Try.func12, Try.ntmps12
        go_wp2_with (first | (go_at_call 15; (with_reducible refine (KC _).mono ?_); rintro e w' ⟨rfl, os1, n1, rfl⟩) | (go_at_call 26; (with_reducible refine (KH _ _ (Gar.refl _)).mono ?_); rintro e w' ⟨rfl, os2, n2, rfl⟩) | (go_at_call 29; (with_reducible refine (KA _).mono ?_); rintro e w' ⟨rfl, os4, n4, rfl⟩))
        refine wp_loop_rounds 4 ?_
        repeat any_goals (rw [rounds_succ]; go_wp2_with (first | (go_at_call 30; (first | (with_reducible refine (P00 _).mono ?_) | (with_reducible refine (P01 _).mono ?_) | (with_reducible refine (P02 _).mono ?_)); rintro e w' ⟨rfl, os5, n5, rfl⟩)))
        go_ret2
        exact ⟨rfl, by repeat (first | exact Gar.refl _ | refine Gar.drewN ?_ _ | refine Gar.drew ?_ | refine Gar.alloc ?_ _ | refine Gar.allocs ?_ _)⟩
    · have hs2 : (g01 || g12) = true := hs
      clear hs hi hw
      rcases (show (g01 = true ∧ g12 = true) ∨ (g01 = true ∧ g12 = false) ∨ (g01 = false ∧ g12 = true) from or_waysR hs2) with ⟨rfl, rfl⟩ | ⟨rfl, rfl⟩ | ⟨rfl, rfl⟩
      · clear hs2
        obtain ⟨M, hM⟩ : ∃ M : Int, (if e2 < e0 then e2 else e0) = M := ⟨_, rfl⟩
        have hMb : 0 ≤ M ∧ M ≤ 16384 := by rw [← hM]; split <;> omega
        have mn0 : ∀ (ts : Array TypeId) (t : TypeId) (w : World), (Builtin.min_ ts t #[.int .i64 1048576, .int .i64 e0]).run Try.prog w = .ok (.int .i64 e0) w := fun ts t w => by
          simp [Builtin.min_, Builtin.min2] <;> (repeat' split) <;> omega
        have mn1 : ∀ (ts : Array TypeId) (t : TypeId) (w : World), (Builtin.min_ ts t #[.int .i64 e0, .int .i64 e2]).run Try.prog w = .ok (.int .i64 M) w := fun ts t w => by
          rw [← hM]; simp [Builtin.min_, Builtin.min2] <;> (repeat' split) <;> omega
        rw [show bl 1 true g02 true e0 e1 e2 = e1 + 2 * M by simp [bl, mn2, hM]]
        clear hM
        go_enter Try.func12, Try.ntmps12
        go_wp2_with (first | (go_at_call 15; (with_reducible refine (KC _).mono ?_); rintro e w' ⟨rfl, os1, n1, rfl⟩) | (go_at_call 26; (with_reducible refine (KH _ _ (Gar.refl _)).mono ?_); rintro e w' ⟨rfl, os2, n2, rfl⟩) | (go_at_call 29; (with_reducible refine (KA _).mono ?_); rintro e w' ⟨rfl, os4, n4, rfl⟩))
        refine wp_loop_rounds 4 ?_
        repeat any_goals (rw [rounds_succ]; go_wp2_with (first | (go_at_call 30; (first | (with_reducible refine (P10 _).mono ?_) | (with_reducible refine (P11 _).mono ?_) | (with_reducible refine (P12 _).mono ?_)); rintro e w' ⟨rfl, os5, n5, rfl⟩)))
        go_ret2
        exact ⟨rfl, by repeat (first | exact Gar.refl _ | refine Gar.drewN ?_ _ | refine Gar.drew ?_ | refine Gar.alloc ?_ _ | refine Gar.allocs ?_ _)⟩
      · clear hs2
        have mn0 : ∀ (ts : Array TypeId) (t : TypeId) (w : World), (Builtin.min_ ts t #[.int .i64 1048576, .int .i64 e0]).run Try.prog w = .ok (.int .i64 e0) w := fun ts t w => by
          simp [Builtin.min_, Builtin.min2] <;> (repeat' split) <;> omega
        rw [show bl 1 true g02 false e0 e1 e2 = e1 + 2 * e0 by simp [bl, mn2]]
        go_enter Try.func12, Try.ntmps12
        go_wp2_with (first | (go_at_call 15; (with_reducible refine (KC _).mono ?_); rintro e w' ⟨rfl, os1, n1, rfl⟩) | (go_at_call 26; (with_reducible refine (KH _ _ (Gar.refl _)).mono ?_); rintro e w' ⟨rfl, os2, n2, rfl⟩) | (go_at_call 29; (with_reducible refine (KA _).mono ?_); rintro e w' ⟨rfl, os4, n4, rfl⟩))
        refine wp_loop_rounds 4 ?_
        repeat any_goals (rw [rounds_succ]; go_wp2_with (first | (go_at_call 30; (first | (with_reducible refine (P10 _).mono ?_) | (with_reducible refine (P11 _).mono ?_) | (with_reducible refine (P12 _).mono ?_)); rintro e w' ⟨rfl, os5, n5, rfl⟩)))
        go_ret2
        exact ⟨rfl, by repeat (first | exact Gar.refl _ | refine Gar.drewN ?_ _ | refine Gar.drew ?_ | refine Gar.alloc ?_ _ | refine Gar.allocs ?_ _)⟩
      · clear hs2
        have mn0 : ∀ (ts : Array TypeId) (t : TypeId) (w : World), (Builtin.min_ ts t #[.int .i64 1048576, .int .i64 e2]).run Try.prog w = .ok (.int .i64 e2) w := fun ts t w => by
          simp [Builtin.min_, Builtin.min2] <;> (repeat' split) <;> omega
        rw [show bl 1 false g02 true e0 e1 e2 = e1 + 2 * e2 by simp [bl, mn2]]
        go_enter Try.func12, Try.ntmps12
        go_wp2_with (first | (go_at_call 15; (with_reducible refine (KC _).mono ?_); rintro e w' ⟨rfl, os1, n1, rfl⟩) | (go_at_call 26; (with_reducible refine (KH _ _ (Gar.refl _)).mono ?_); rintro e w' ⟨rfl, os2, n2, rfl⟩) | (go_at_call 29; (with_reducible refine (KA _).mono ?_); rintro e w' ⟨rfl, os4, n4, rfl⟩))
        refine wp_loop_rounds 4 ?_
        repeat any_goals (rw [rounds_succ]; go_wp2_with (first | (go_at_call 30; (first | (with_reducible refine (P10 _).mono ?_) | (with_reducible refine (P11 _).mono ?_) | (with_reducible refine (P12 _).mono ?_)); rintro e w' ⟨rfl, os5, n5, rfl⟩)))
        go_ret2
        exact ⟨rfl, by repeat (first | exact Gar.refl _ | refine Gar.drewN ?_ _ | refine Gar.drew ?_ | refine Gar.alloc ?_ _ | refine Gar.allocs ?_ _)⟩
    · have hs2 : (g02 || g12) = true := hs
      clear hs hi hw
      rcases (show (g02 = true ∧ g12 = true) ∨ (g02 = true ∧ g12 = false) ∨ (g02 = false ∧ g12 = true) from or_waysR hs2) with ⟨rfl, rfl⟩ | ⟨rfl, rfl⟩ | ⟨rfl, rfl⟩
      · clear hs2
        obtain ⟨M, hM⟩ : ∃ M : Int, (if e1 < e0 then e1 else e0) = M := ⟨_, rfl⟩
        have hMb : 0 ≤ M ∧ M ≤ 16384 := by rw [← hM]; split <;> omega
        have mn0 : ∀ (ts : Array TypeId) (t : TypeId) (w : World), (Builtin.min_ ts t #[.int .i64 1048576, .int .i64 e0]).run Try.prog w = .ok (.int .i64 e0) w := fun ts t w => by
          simp [Builtin.min_, Builtin.min2] <;> (repeat' split) <;> omega
        have mn1 : ∀ (ts : Array TypeId) (t : TypeId) (w : World), (Builtin.min_ ts t #[.int .i64 e0, .int .i64 e1]).run Try.prog w = .ok (.int .i64 M) w := fun ts t w => by
          rw [← hM]; simp [Builtin.min_, Builtin.min2] <;> (repeat' split) <;> omega
        rw [show bl 2 g01 true true e0 e1 e2 = e2 + 2 * M by simp [bl, mn2, hM]]
        clear hM
        go_enter Try.func12, Try.ntmps12
        go_wp2_with (first | (go_at_call 15; (with_reducible refine (KC _).mono ?_); rintro e w' ⟨rfl, os1, n1, rfl⟩) | (go_at_call 26; (with_reducible refine (KH _ _ (Gar.refl _)).mono ?_); rintro e w' ⟨rfl, os2, n2, rfl⟩) | (go_at_call 29; (with_reducible refine (KA _).mono ?_); rintro e w' ⟨rfl, os4, n4, rfl⟩))
        refine wp_loop_rounds 4 ?_
        repeat any_goals (rw [rounds_succ]; go_wp2_with (first | (go_at_call 30; (first | (with_reducible refine (P20 _).mono ?_) | (with_reducible refine (P21 _).mono ?_) | (with_reducible refine (P22 _).mono ?_)); rintro e w' ⟨rfl, os5, n5, rfl⟩)))
        go_ret2
        exact ⟨rfl, by repeat (first | exact Gar.refl _ | refine Gar.drewN ?_ _ | refine Gar.drew ?_ | refine Gar.alloc ?_ _ | refine Gar.allocs ?_ _)⟩
      · clear hs2
        have mn0 : ∀ (ts : Array TypeId) (t : TypeId) (w : World), (Builtin.min_ ts t #[.int .i64 1048576, .int .i64 e0]).run Try.prog w = .ok (.int .i64 e0) w := fun ts t w => by
          simp [Builtin.min_, Builtin.min2] <;> (repeat' split) <;> omega
        rw [show bl 2 g01 true false e0 e1 e2 = e2 + 2 * e0 by simp [bl, mn2]]
        go_enter Try.func12, Try.ntmps12
        go_wp2_with (first | (go_at_call 15; (with_reducible refine (KC _).mono ?_); rintro e w' ⟨rfl, os1, n1, rfl⟩) | (go_at_call 26; (with_reducible refine (KH _ _ (Gar.refl _)).mono ?_); rintro e w' ⟨rfl, os2, n2, rfl⟩) | (go_at_call 29; (with_reducible refine (KA _).mono ?_); rintro e w' ⟨rfl, os4, n4, rfl⟩))
        refine wp_loop_rounds 4 ?_
        repeat any_goals (rw [rounds_succ]; go_wp2_with (first | (go_at_call 30; (first | (with_reducible refine (P20 _).mono ?_) | (with_reducible refine (P21 _).mono ?_) | (with_reducible refine (P22 _).mono ?_)); rintro e w' ⟨rfl, os5, n5, rfl⟩)))
        go_ret2
        exact ⟨rfl, by repeat (first | exact Gar.refl _ | refine Gar.drewN ?_ _ | refine Gar.drew ?_ | refine Gar.alloc ?_ _ | refine Gar.allocs ?_ _)⟩
      · clear hs2
        have mn0 : ∀ (ts : Array TypeId) (t : TypeId) (w : World), (Builtin.min_ ts t #[.int .i64 1048576, .int .i64 e1]).run Try.prog w = .ok (.int .i64 e1) w := fun ts t w => by
          simp [Builtin.min_, Builtin.min2] <;> (repeat' split) <;> omega
        rw [show bl 2 g01 false true e0 e1 e2 = e2 + 2 * e1 by simp [bl, mn2]]
        go_enter Try.func12, Try.ntmps12
        go_wp2_with (first | (go_at_call 15; (with_reducible refine (KC _).mono ?_); rintro e w' ⟨rfl, os1, n1, rfl⟩) | (go_at_call 26; (with_reducible refine (KH _ _ (Gar.refl _)).mono ?_); rintro e w' ⟨rfl, os2, n2, rfl⟩) | (go_at_call 29; (with_reducible refine (KA _).mono ?_); rintro e w' ⟨rfl, os4, n4, rfl⟩))
        refine wp_loop_rounds 4 ?_
        repeat any_goals (rw [rounds_succ]; go_wp2_with (first | (go_at_call 30; (first | (with_reducible refine (P20 _).mono ?_) | (with_reducible refine (P21 _).mono ?_) | (with_reducible refine (P22 _).mono ?_)); rintro e w' ⟨rfl, os5, n5, rfl⟩)))
        go_ret2
        exact ⟨rfl, by repeat (first | exact Gar.refl _ | refine Gar.drewN ?_ _ | refine Gar.drew ?_ | refine Gar.alloc ?_ _ | refine Gar.allocs ?_ _)⟩
  · clear hfr
    rw [show vbnd ci cw g01 g02 g12 e0 e1 e2 = 0 by unfold vbnd; rw [if_neg (by omega), if_neg (by omega)], show berr cw = 22 by rcases hw34 with rfl | rfl <;> rfl]
    have t0 : (cw == 0) = false := by simp; omega
    have t1 : (cw == 1) = false := by simp; omega
    have t2 : (cw == 2) = false := by simp; omega
    clear hw34 hw hi
    go_enter Try.func12, Try.ntmps12
    go_wp2_with (first | (go_at_call 15; (with_reducible refine (KC _).mono ?_); rintro e w' ⟨rfl, os1, n1, rfl⟩) | (go_at_call 26; (with_reducible refine (KH _ _ (Gar.refl _)).mono ?_); rintro e w' ⟨rfl, os2, n2, rfl⟩) | (go_at_call 29; (with_reducible refine (KA _).mono ?_); rintro e w' ⟨rfl, os4, n4, rfl⟩))
    go_ret2
    exact ⟨rfl, by repeat (first | exact Gar.refl _ | refine Gar.drewN ?_ _ | refine Gar.drew ?_ | refine Gar.alloc ?_ _ | refine Gar.allocs ?_ _)⟩
end Go.Proofs.Ytdincfemiignjaa
