/- The contract of voter.Bound. -/
import Derived.Test.YtdincfemiignjaaVotV
import Derived.Test.YtdincfemiignjaaVotN
import Derived.Test.YtdincfemiignjaaVotH
import Derived.Deep.RegionHeld3
namespace Go.Proofs.Ytdincfemiignjaa
open Go.RowKit
set_option linter.unusedVariables false
set_option linter.unusedSimpArgs false
attribute [local go_sem ↓] Go.wp_at_zero Go.wp_at_succ

theorem ret_iv {a b : Int} {u v : Value} (h : a = b) (g : u = v) : Ending.returned (.tuple #[.int .i64 a, u]) = .returned (.tuple #[.int .i64 b, v]) := by rw [h, g]
theorem or_ways {f g : Bool} (h : (f || g) = true) : (f = true ∧ g = true) ∨ (f = true ∧ g = false) ∨ (f = false ∧ g = true) := by revert f g; decide
set_option maxHeartbeats 4000000 in
theorem vbound_bad (e0 e1 e2 p0 p1 p2 n s0 s1 s2 : Int) (m0 m1 m2 : Bool) (sp a0 a1 a2 : Int) (r0 r1 r2 : Bool) (hco : vcode e0 e1 e2 p0 p1 p2 n ≠ 0) (w0 w : World) (hb : Gar w0 w) :
    Calls Try.prog 10 #[.agg #[.int .i64 e0, .int .i64 e1, .int .i64 e2, .int .i64 p0, .int .i64 p1, .int .i64 p2, .int .i64 n], .agg #[.int .i64 s0, .int .i64 s1, .int .i64 s2, .bool m0, .bool m1, .bool m2, .int .i64 sp], .agg #[.int .i64 a0, .int .i64 a1, .int .i64 a2, .bool r0, .bool r1, .bool r2]] w fun e w' => e = .returned (.tuple #[.int .i64 0, verr (vcode e0 e1 e2 p0 p1 p2 n)]) ∧ Gar w0 w' := by
  refine on_gar hb ?_
  clear hb w0
  have KC := check_any e0 e1 e2 p0 p1 p2 n
  generalize vcode e0 e1 e2 p0 p1 p2 n = c at *
  rw [show verr c = .iface 57 (.int .i64 c) from if_neg hco] at KC ⊢
  clear hco
  go_enter Try.func10, Try.ntmps10
  go_wp2_with (first | (go_at_call 14; (with_reducible refine (KC _).mono ?_); rintro e w' ⟨rfl, os1, n1, rfl⟩))
  go_ret2
  exact ⟨rfl, by repeat (first | exact Gar.refl _ | refine Gar.drewN ?_ _ | refine Gar.drew ?_ | refine Gar.alloc ?_ _ | refine Gar.allocs ?_ _)⟩
set_option maxRecDepth 100000 in
set_option maxHeartbeats 8000000 in
theorem vbound_ok (e0 e1 e2 p0 p1 p2 n s0 s1 s2 : Int) (m0 m1 m2 : Bool) (sp a0 a1 a2 : Int) (r0 r1 r2 : Bool) (u0 u1 u2 g01 g02 g12 : Bool) (ct c0 c1 c2 cs : Int) (E0 E1 E2 : Bool) (ci cw : Int) (hv : VS e0 e1 e2 p0 p1 p2 n s0 s1 s2 m0 m1 m2 sp a0 a1 a2 r0 r1 r2 u0 u1 u2 g01 g02 g12 ct c0 c1 c2 cs E0 E1 E2 ci cw) (hco : vcode e0 e1 e2 p0 p1 p2 n = 0) (w0 w : World) (hb : Gar w0 w) :
    Calls Try.prog 10 #[.agg #[.int .i64 e0, .int .i64 e1, .int .i64 e2, .int .i64 p0, .int .i64 p1, .int .i64 p2, .int .i64 n], .agg #[.int .i64 s0, .int .i64 s1, .int .i64 s2, .bool m0, .bool m1, .bool m2, .int .i64 sp], .agg #[.int .i64 a0, .int .i64 a1, .int .i64 a2, .bool r0, .bool r1, .bool r2]] w fun e w' => e = .returned (.tuple #[.int .i64 (vbnd ci cw g01 g02 g12 e0 e1 e2), verr (berr cw)]) ∧ Gar w0 w' := by
  refine on_gar hb ?_
  clear hb w0
  obtain ⟨he, hn, hpp⟩ := vcode_in hco
  have hp0 : 0 ≤ p0 ∧ p0 ≤ 2 := by omega
  have hp1 : 0 ≤ p1 ∧ p1 ≤ 2 := by omega
  have hp2 : 0 ≤ p2 ∧ p2 ≤ 2 := by omega
  clear hpp
  obtain ⟨hu0, hu1, hu2, hg01, hg02, hg12, hct, hc0, hc1, hc2, hcs, hE0, hE1, hE2, hch⟩ := hv
  have KC := check_any e0 e1 e2 p0 p1 p2 n
  rw [hco, show verr 0 = Value.nilIface from rfl] at KC
  have KL := fun w0 w hb => look_any e0 e1 e2 p0 p1 p2 n s0 s1 s2 m0 m1 m2 sp a0 a1 a2 r0 r1 r2 he w0 w hb
  rw [hu0, hu1, hu2, hg01, hg02, hg12, hct] at KL
  have KN := fun w0 w hb => next_any e0 e1 e2 p0 p1 p2 n a0 a1 a2 u0 u1 u2 ct false g01 g02 g01 false g12 g02 g12 false s0 s1 s2 m0 m1 m2 sp hn w0 w hb
  rw [hc0, hc1, hc2, hcs, hE0, hE1, hE2] at KN
  have KH := fun w0 w hb => choose_any e0 e1 e2 p0 p1 p2 n a0 a1 a2 u0 u1 u2 ct false g01 g02 g01 false g12 g02 g12 false cs hp0 hp1 hp2 w0 w hb
  simp only [Bool.false_or, Bool.or_false] at KH
  rw [hch] at KH
  dsimp only at KH
  have hfd : ∀ w : World, (Instr.field 27 (.agg #[.int .i64 c0, .int .i64 c1, .int .i64 c2, .bool E0, .bool E1, .bool E2, .int .i64 cs]) 2).run Try.prog w = .ok (.int .i64 cs) w := fun _ => by kernel_rfl
  have hfr : cw = 2 → sel ci (g01 || g02) (g01 || g12) (g02 || g12) = true := fun h => chs_2 (by rw [← h]; exact hch)
  have hbd := chs_bd hch hp0 hp1 hp2 (mdx_bd _ _ _)
  clear hu0 hu1 hu2 hg01 hg02 hg12 hct hc0 hc1 hc2 hcs hE0 hE1 hE2 hch hn hp0 hp1 hp2 hco
  have HB := hide (And.intro hfr hbd)
  clear hfr hbd
  obtain ⟨⟨he0, he0b⟩, ⟨he1, he1b⟩, ⟨he2, he2b⟩⟩ := he
  go_enter Try.func10, Try.ntmps10
  go_wp2_with (first | (go_at_call 14; (with_reducible refine (KC _).mono ?_); rintro e w' ⟨rfl, os1, n1, rfl⟩) | (go_at_call 23; (with_reducible refine (KL _ _ (Gar.refl _)).mono ?_); rintro e w' ⟨rfl, os2, n2, rfl⟩) | (refine wpList_load_row rfl 63 _ rfl _ rfl 63 _ (0, 0) _ (by repeat (first | with_reducible refine hp_drewN ?_ | with_reducible refine hp_drew ?_ | with_reducible refine hp_allocs ?_ | (with_reducible refine hp_last ?_; simp; done) | with_reducible refine hp_past ?_)) Try.underlying63 rfl (by kernel_rfl) ?_) | (refine wpList_store_blk rfl 63 _ _ rfl _ _ _ rfl rfl (by repeat (first | with_reducible refine hp_drewN ?_ | with_reducible refine hp_drew ?_ | with_reducible refine hp_allocs ?_ | (with_reducible refine hp_last ?_; simp; done) | with_reducible refine hp_past ?_)) (by kernel_rfl) (by simp) (by simp [Value.oneCell']) (by (repeat (first | rewrite [rw_drewN] | rewrite [rw_drew] | (rewrite [rw_allocs]; rotate_left; focus (simp; done)) | (rewrite [rw_last]; rotate_left; focus (simp; done)) | (rewrite [rw_past]; rotate_left; focus (simp; done)))); exact rfl) ?_))
  simp only [Act.put]
  (first | with_reducible refine wp_region_qtail (fun w' => ∃ g : Gp, w' = (allocs _ g.os).drewN g.n) 10 (by kernel_rfl) (by kernel_rfl) (gp_drewN _ _) ?_ | with_reducible refine wp_region_qtail (fun w' => ∃ g : Gp, w' = (allocs _ g.os).drewN g.n) 10 (by kernel_rfl) (by kernel_rfl) (gp_drew2 _ _) ?_ | with_reducible refine wp_region_qtail (fun w' => ∃ g : Gp, w' = (allocs _ g.os).drewN g.n) 10 (by kernel_rfl) (by kernel_rfl) (gp_drew _) ?_)
  simp only [List.take_succ_cons, List.take_zero, List.drop_succ_cons, List.drop_zero]
  repeat (first | go_big_quiet_skip | (go_big_quiet_want; (first | (refine quiet_load_row 63 _ rfl _ rfl 63 _ (0, 0) _ (by rintro _ ⟨g, rfl⟩; repeat (first | with_reducible refine hp_drewN ?_ | with_reducible refine hp_drew ?_ | with_reducible refine hp_allocs ?_ | (with_reducible refine hp_last ?_; simp; done) | with_reducible refine hp_past ?_)) Try.underlying63 rfl (by kernel_rfl) ?_; simp only [Act.put, List.setIfInBounds_toArray, List.set_cons_succ, List.set_cons_zero]; go_big_quiet_on) | (go_big_quiet_op; (first | go_big_quiet_on | (apply Exists.intro; (refine And.intro (fun g => ?_) ?_); (first | (go_at_call 24; with_reducible exact calls_gp (fun _ hg => KN _ _ hg) g) | (go_at_call 25; with_reducible exact calls_gp (fun _ hg => KH _ _ hg) g)); go_big_quiet_on))))))
  refine wpQuiet_nil ?_
  refine gp_all (fun os' n' => ?_)
  clear KN KH KL hfd KC
  obtain ⟨hfr, hbd⟩ := HB.out
  clear HB
  rcases hbd with ⟨rfl, rfl⟩ | ⟨hi, hw⟩
  · clear hfr
    go_wp2_with (fail)
    go_ret2
    exact ⟨ret_iv (rfl) (rfl), by repeat (first | exact Gar.refl _ | refine Gar.drewN ?_ _ | refine Gar.drew ?_ | refine Gar.alloc ?_ _ | refine Gar.allocs ?_ _)⟩
  rcases (show cw = 1 ∨ cw = 2 ∨ (cw = 3 ∨ cw = 4) by omega) with rfl | rfl | hw34
  · clear hfr
    obtain ⟨Mx, hMx⟩ : ∃ M, mx3 e0 e1 e2 = M := ⟨_, rfl⟩
    have mq : ∀ (ts : Array TypeId) (t : TypeId) (w : World), (Builtin.max_ ts t #[.int .i64 e0, .int .i64 e1, .int .i64 e2]).run Try.prog w = .ok (.int .i64 Mx) w := fun ts t w => by
      rw [← hMx]; simp [Builtin.max_, Builtin.max2, mx3] <;> (repeat' split) <;> omega
    have HM := hide hMx
    clear hMx
    go_wp2_with (fail)
    go_ret2
    exact ⟨ret_iv (HM.out.symm) (rfl), by repeat (first | exact Gar.refl _ | refine Gar.drewN ?_ _ | refine Gar.drew ?_ | refine Gar.alloc ?_ _ | refine Gar.allocs ?_ _)⟩
  · have hs := hfr rfl
    clear hfr
    rcases (show ci = 0 ∨ ci = 1 ∨ ci = 2 by omega) with rfl | rfl | rfl
    · have hs2 : (g01 || g02) = true := hs
      clear hs hi hw
      rcases or_ways hs2 with ⟨rfl, rfl⟩ | ⟨rfl, rfl⟩ | ⟨rfl, rfl⟩
      · clear hs2
        have ib0 : ∀ w, (Instr.index 25 (.agg #[.bool false, .bool true, .bool true]) (.int .i64 0)).run Try.prog w = .ok (.bool false) w := fun _ => by kernel_rfl
        have ib1 : ∀ w, (Instr.index 25 (.agg #[.bool false, .bool true, .bool true]) (.int .i64 1)).run Try.prog w = .ok (.bool true) w := fun _ => by kernel_rfl
        have ib2 : ∀ w, (Instr.index 25 (.agg #[.bool false, .bool true, .bool true]) (.int .i64 2)).run Try.prog w = .ok (.bool true) w := fun _ => by kernel_rfl
        obtain ⟨M, hM⟩ : ∃ M : Int, (if e2 < e1 then e2 else e1) = M := ⟨_, rfl⟩
        have hMb : 0 ≤ M ∧ M ≤ 16384 := by rw [← hM]; split <;> omega
        have mn0 : ∀ (ts : Array TypeId) (t : TypeId) (w : World), (Builtin.min_ ts t #[.int .i64 16384, .int .i64 e1]).run Try.prog w = .ok (.int .i64 e1) w := fun ts t w => by
          simp [Builtin.min_, Builtin.min2] <;> (repeat' split) <;> omega
        have mn1 : ∀ (ts : Array TypeId) (t : TypeId) (w : World), (Builtin.min_ ts t #[.int .i64 e1, .int .i64 e2]).run Try.prog w = .ok (.int .i64 M) w := fun ts t w => by
          rw [← hM]; simp [Builtin.min_, Builtin.min2] <;> (repeat' split) <;> omega
        have HM := hide hM
        clear hM
        go_wp2_with (fail)
        refine wp_loop_rounds 4 ?_
        repeat any_goals (rw [rounds_succ]; go_wp2_with (fail))
        go_ret2
        exact ⟨ret_iv (by simp [vbnd, bl, mn2, HM.out]) (rfl), by repeat (first | exact Gar.refl _ | refine Gar.drewN ?_ _ | refine Gar.drew ?_ | refine Gar.alloc ?_ _ | refine Gar.allocs ?_ _)⟩
      · clear hs2
        have ib0 : ∀ w, (Instr.index 25 (.agg #[.bool false, .bool true, .bool false]) (.int .i64 0)).run Try.prog w = .ok (.bool false) w := fun _ => by kernel_rfl
        have ib1 : ∀ w, (Instr.index 25 (.agg #[.bool false, .bool true, .bool false]) (.int .i64 1)).run Try.prog w = .ok (.bool true) w := fun _ => by kernel_rfl
        have ib2 : ∀ w, (Instr.index 25 (.agg #[.bool false, .bool true, .bool false]) (.int .i64 2)).run Try.prog w = .ok (.bool false) w := fun _ => by kernel_rfl
        have mn0 : ∀ (ts : Array TypeId) (t : TypeId) (w : World), (Builtin.min_ ts t #[.int .i64 16384, .int .i64 e1]).run Try.prog w = .ok (.int .i64 e1) w := fun ts t w => by
          simp [Builtin.min_, Builtin.min2] <;> (repeat' split) <;> omega
        go_wp2_with (fail)
        refine wp_loop_rounds 4 ?_
        repeat any_goals (rw [rounds_succ]; go_wp2_with (fail))
        go_ret2
        exact ⟨ret_iv (by simp [vbnd, bl, mn2]) (rfl), by repeat (first | exact Gar.refl _ | refine Gar.drewN ?_ _ | refine Gar.drew ?_ | refine Gar.alloc ?_ _ | refine Gar.allocs ?_ _)⟩
      · clear hs2
        have ib0 : ∀ w, (Instr.index 25 (.agg #[.bool false, .bool false, .bool true]) (.int .i64 0)).run Try.prog w = .ok (.bool false) w := fun _ => by kernel_rfl
        have ib1 : ∀ w, (Instr.index 25 (.agg #[.bool false, .bool false, .bool true]) (.int .i64 1)).run Try.prog w = .ok (.bool false) w := fun _ => by kernel_rfl
        have ib2 : ∀ w, (Instr.index 25 (.agg #[.bool false, .bool false, .bool true]) (.int .i64 2)).run Try.prog w = .ok (.bool true) w := fun _ => by kernel_rfl
        have mn0 : ∀ (ts : Array TypeId) (t : TypeId) (w : World), (Builtin.min_ ts t #[.int .i64 16384, .int .i64 e2]).run Try.prog w = .ok (.int .i64 e2) w := fun ts t w => by
          simp [Builtin.min_, Builtin.min2] <;> (repeat' split) <;> omega
        go_wp2_with (fail)
        refine wp_loop_rounds 4 ?_
        repeat any_goals (rw [rounds_succ]; go_wp2_with (fail))
        go_ret2
        exact ⟨ret_iv (by simp [vbnd, bl, mn2]) (rfl), by repeat (first | exact Gar.refl _ | refine Gar.drewN ?_ _ | refine Gar.drew ?_ | refine Gar.alloc ?_ _ | refine Gar.allocs ?_ _)⟩
    · have hs2 : (g01 || g12) = true := hs
      clear hs hi hw
      rcases or_ways hs2 with ⟨rfl, rfl⟩ | ⟨rfl, rfl⟩ | ⟨rfl, rfl⟩
      · clear hs2
        have ib0 : ∀ w, (Instr.index 25 (.agg #[.bool true, .bool false, .bool true]) (.int .i64 0)).run Try.prog w = .ok (.bool true) w := fun _ => by kernel_rfl
        have ib1 : ∀ w, (Instr.index 25 (.agg #[.bool true, .bool false, .bool true]) (.int .i64 1)).run Try.prog w = .ok (.bool false) w := fun _ => by kernel_rfl
        have ib2 : ∀ w, (Instr.index 25 (.agg #[.bool true, .bool false, .bool true]) (.int .i64 2)).run Try.prog w = .ok (.bool true) w := fun _ => by kernel_rfl
        obtain ⟨M, hM⟩ : ∃ M : Int, (if e2 < e0 then e2 else e0) = M := ⟨_, rfl⟩
        have hMb : 0 ≤ M ∧ M ≤ 16384 := by rw [← hM]; split <;> omega
        have mn0 : ∀ (ts : Array TypeId) (t : TypeId) (w : World), (Builtin.min_ ts t #[.int .i64 16384, .int .i64 e0]).run Try.prog w = .ok (.int .i64 e0) w := fun ts t w => by
          simp [Builtin.min_, Builtin.min2] <;> (repeat' split) <;> omega
        have mn1 : ∀ (ts : Array TypeId) (t : TypeId) (w : World), (Builtin.min_ ts t #[.int .i64 e0, .int .i64 e2]).run Try.prog w = .ok (.int .i64 M) w := fun ts t w => by
          rw [← hM]; simp [Builtin.min_, Builtin.min2] <;> (repeat' split) <;> omega
        have HM := hide hM
        clear hM
        go_wp2_with (fail)
        refine wp_loop_rounds 4 ?_
        repeat any_goals (rw [rounds_succ]; go_wp2_with (fail))
        go_ret2
        exact ⟨ret_iv (by simp [vbnd, bl, mn2, HM.out]) (rfl), by repeat (first | exact Gar.refl _ | refine Gar.drewN ?_ _ | refine Gar.drew ?_ | refine Gar.alloc ?_ _ | refine Gar.allocs ?_ _)⟩
      · clear hs2
        have ib0 : ∀ w, (Instr.index 25 (.agg #[.bool true, .bool false, .bool false]) (.int .i64 0)).run Try.prog w = .ok (.bool true) w := fun _ => by kernel_rfl
        have ib1 : ∀ w, (Instr.index 25 (.agg #[.bool true, .bool false, .bool false]) (.int .i64 1)).run Try.prog w = .ok (.bool false) w := fun _ => by kernel_rfl
        have ib2 : ∀ w, (Instr.index 25 (.agg #[.bool true, .bool false, .bool false]) (.int .i64 2)).run Try.prog w = .ok (.bool false) w := fun _ => by kernel_rfl
        have mn0 : ∀ (ts : Array TypeId) (t : TypeId) (w : World), (Builtin.min_ ts t #[.int .i64 16384, .int .i64 e0]).run Try.prog w = .ok (.int .i64 e0) w := fun ts t w => by
          simp [Builtin.min_, Builtin.min2] <;> (repeat' split) <;> omega
        go_wp2_with (fail)
        refine wp_loop_rounds 4 ?_
        repeat any_goals (rw [rounds_succ]; go_wp2_with (fail))
        go_ret2
        exact ⟨ret_iv (by simp [vbnd, bl, mn2]) (rfl), by repeat (first | exact Gar.refl _ | refine Gar.drewN ?_ _ | refine Gar.drew ?_ | refine Gar.alloc ?_ _ | refine Gar.allocs ?_ _)⟩
      · clear hs2
        have ib0 : ∀ w, (Instr.index 25 (.agg #[.bool false, .bool false, .bool true]) (.int .i64 0)).run Try.prog w = .ok (.bool false) w := fun _ => by kernel_rfl
        have ib1 : ∀ w, (Instr.index 25 (.agg #[.bool false, .bool false, .bool true]) (.int .i64 1)).run Try.prog w = .ok (.bool false) w := fun _ => by kernel_rfl
        have ib2 : ∀ w, (Instr.index 25 (.agg #[.bool false, .bool false, .bool true]) (.int .i64 2)).run Try.prog w = .ok (.bool true) w := fun _ => by kernel_rfl
        have mn0 : ∀ (ts : Array TypeId) (t : TypeId) (w : World), (Builtin.min_ ts t #[.int .i64 16384, .int .i64 e2]).run Try.prog w = .ok (.int .i64 e2) w := fun ts t w => by
          simp [Builtin.min_, Builtin.min2] <;> (repeat' split) <;> omega
        go_wp2_with (fail)
        refine wp_loop_rounds 4 ?_
        repeat any_goals (rw [rounds_succ]; go_wp2_with (fail))
        go_ret2
        exact ⟨ret_iv (by simp [vbnd, bl, mn2]) (rfl), by repeat (first | exact Gar.refl _ | refine Gar.drewN ?_ _ | refine Gar.drew ?_ | refine Gar.alloc ?_ _ | refine Gar.allocs ?_ _)⟩
    · have hs2 : (g02 || g12) = true := hs
      clear hs hi hw
      rcases or_ways hs2 with ⟨rfl, rfl⟩ | ⟨rfl, rfl⟩ | ⟨rfl, rfl⟩
      · clear hs2
        have ib0 : ∀ w, (Instr.index 25 (.agg #[.bool true, .bool true, .bool false]) (.int .i64 0)).run Try.prog w = .ok (.bool true) w := fun _ => by kernel_rfl
        have ib1 : ∀ w, (Instr.index 25 (.agg #[.bool true, .bool true, .bool false]) (.int .i64 1)).run Try.prog w = .ok (.bool true) w := fun _ => by kernel_rfl
        have ib2 : ∀ w, (Instr.index 25 (.agg #[.bool true, .bool true, .bool false]) (.int .i64 2)).run Try.prog w = .ok (.bool false) w := fun _ => by kernel_rfl
        obtain ⟨M, hM⟩ : ∃ M : Int, (if e1 < e0 then e1 else e0) = M := ⟨_, rfl⟩
        have hMb : 0 ≤ M ∧ M ≤ 16384 := by rw [← hM]; split <;> omega
        have mn0 : ∀ (ts : Array TypeId) (t : TypeId) (w : World), (Builtin.min_ ts t #[.int .i64 16384, .int .i64 e0]).run Try.prog w = .ok (.int .i64 e0) w := fun ts t w => by
          simp [Builtin.min_, Builtin.min2] <;> (repeat' split) <;> omega
        have mn1 : ∀ (ts : Array TypeId) (t : TypeId) (w : World), (Builtin.min_ ts t #[.int .i64 e0, .int .i64 e1]).run Try.prog w = .ok (.int .i64 M) w := fun ts t w => by
          rw [← hM]; simp [Builtin.min_, Builtin.min2] <;> (repeat' split) <;> omega
        have HM := hide hM
        clear hM
        go_wp2_with (fail)
        refine wp_loop_rounds 4 ?_
        repeat any_goals (rw [rounds_succ]; go_wp2_with (fail))
        go_ret2
        exact ⟨ret_iv (by simp [vbnd, bl, mn2, HM.out]) (rfl), by repeat (first | exact Gar.refl _ | refine Gar.drewN ?_ _ | refine Gar.drew ?_ | refine Gar.alloc ?_ _ | refine Gar.allocs ?_ _)⟩
      · clear hs2
        have ib0 : ∀ w, (Instr.index 25 (.agg #[.bool true, .bool false, .bool false]) (.int .i64 0)).run Try.prog w = .ok (.bool true) w := fun _ => by kernel_rfl
        have ib1 : ∀ w, (Instr.index 25 (.agg #[.bool true, .bool false, .bool false]) (.int .i64 1)).run Try.prog w = .ok (.bool false) w := fun _ => by kernel_rfl
        have ib2 : ∀ w, (Instr.index 25 (.agg #[.bool true, .bool false, .bool false]) (.int .i64 2)).run Try.prog w = .ok (.bool false) w := fun _ => by kernel_rfl
        have mn0 : ∀ (ts : Array TypeId) (t : TypeId) (w : World), (Builtin.min_ ts t #[.int .i64 16384, .int .i64 e0]).run Try.prog w = .ok (.int .i64 e0) w := fun ts t w => by
          simp [Builtin.min_, Builtin.min2] <;> (repeat' split) <;> omega
        go_wp2_with (fail)
        refine wp_loop_rounds 4 ?_
        repeat any_goals (rw [rounds_succ]; go_wp2_with (fail))
        go_ret2
        exact ⟨ret_iv (by simp [vbnd, bl, mn2]) (rfl), by repeat (first | exact Gar.refl _ | refine Gar.drewN ?_ _ | refine Gar.drew ?_ | refine Gar.alloc ?_ _ | refine Gar.allocs ?_ _)⟩
      · clear hs2
        have ib0 : ∀ w, (Instr.index 25 (.agg #[.bool false, .bool true, .bool false]) (.int .i64 0)).run Try.prog w = .ok (.bool false) w := fun _ => by kernel_rfl
        have ib1 : ∀ w, (Instr.index 25 (.agg #[.bool false, .bool true, .bool false]) (.int .i64 1)).run Try.prog w = .ok (.bool true) w := fun _ => by kernel_rfl
        have ib2 : ∀ w, (Instr.index 25 (.agg #[.bool false, .bool true, .bool false]) (.int .i64 2)).run Try.prog w = .ok (.bool false) w := fun _ => by kernel_rfl
        have mn0 : ∀ (ts : Array TypeId) (t : TypeId) (w : World), (Builtin.min_ ts t #[.int .i64 16384, .int .i64 e1]).run Try.prog w = .ok (.int .i64 e1) w := fun ts t w => by
          simp [Builtin.min_, Builtin.min2] <;> (repeat' split) <;> omega
        go_wp2_with (fail)
        refine wp_loop_rounds 4 ?_
        repeat any_goals (rw [rounds_succ]; go_wp2_with (fail))
        go_ret2
        exact ⟨ret_iv (by simp [vbnd, bl, mn2]) (rfl), by repeat (first | exact Gar.refl _ | refine Gar.drewN ?_ _ | refine Gar.drew ?_ | refine Gar.alloc ?_ _ | refine Gar.allocs ?_ _)⟩
  · clear hfr
    have t0 : (cw == 0) = false := by simp; omega
    have t1 : (cw == 1) = false := by simp; omega
    have t2 : (cw == 2) = false := by simp; omega
    have H34 := hide hw34
    clear hw34 hw hi
    go_wp2_with (fail)
    go_ret2
    exact ⟨ret_iv (by rcases H34.out with rfl | rfl <;> rfl) (by rcases H34.out with rfl | rfl <;> rfl), by repeat (first | exact Gar.refl _ | refine Gar.drewN ?_ _ | refine Gar.drew ?_ | refine Gar.alloc ?_ _ | refine Gar.allocs ?_ _)⟩
end Go.Proofs.Ytdincfemiignjaa
