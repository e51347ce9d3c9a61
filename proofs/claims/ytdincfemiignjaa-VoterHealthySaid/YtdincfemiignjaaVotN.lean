/- The contract of the voter's view: next. -/
import Derived.Test.YtdincfemiignjaaVotG
namespace Go.Proofs.Ytdincfemiignjaa
open Go.RowKit
set_option linter.unusedVariables false
set_option linter.unusedSimpArgs false
attribute [local go_sem ↓] Go.wp_at_zero Go.wp_at_succ

/-- Behind k of three rounds. -/
def NxI (k : Nat) (s0 s1 s2 : Int) (m0 m1 m2 : Bool) (N0 N1 N2 : Int) (E0 E1 E2 : Bool) (v0 v1 v2 : Int) (h0 h1 h2 : Bool) : Prop :=
  v0 = (if 0 < k then N0 else s0) ∧ v1 = (if 1 < k then N1 else s1) ∧ v2 = (if 2 < k then N2 else s2) ∧ h0 = (if 0 < k then E0 else m0) ∧ h1 = (if 1 < k then E1 else m1) ∧ h2 = (if 2 < k then E2 else m2)
theorem NxI.start (s0 s1 s2 : Int) (m0 m1 m2 : Bool) (N0 N1 N2 : Int) (E0 E1 E2 : Bool) : NxI 0 s0 s1 s2 m0 m1 m2 N0 N1 N2 E0 E1 E2 s0 s1 s2 m0 m1 m2 := ⟨rfl, rfl, rfl, rfl, rfl, rfl⟩
theorem NxI.done {s0 s1 s2 : Int} {m0 m1 m2 : Bool} {N0 N1 N2 : Int} {E0 E1 E2 : Bool} {v0 v1 v2 : Int} {h0 h1 h2 : Bool} (h : NxI 3 s0 s1 s2 m0 m1 m2 N0 N1 N2 E0 E1 E2 v0 v1 v2 h0 h1 h2) : v0 = N0 ∧ v1 = N1 ∧ v2 = N2 ∧ h0 = E0 ∧ h1 = E1 ∧ h2 = E2 := h
theorem NxI.next0 {s0 s1 s2 : Int} {m0 m1 m2 : Bool} {N0 N1 N2 : Int} {E0 E1 E2 : Bool} {v0 v1 v2 : Int} {h0 h1 h2 : Bool} (h : NxI 0 s0 s1 s2 m0 m1 m2 N0 N1 N2 E0 E1 E2 v0 v1 v2 h0 h1 h2) : v0 = s0 ∧ h0 = m0 ∧ NxI 1 s0 s1 s2 m0 m1 m2 N0 N1 N2 E0 E1 E2 N0 v1 v2 E0 h1 h2 := by
  obtain ⟨e0, e1, e2, g0, g1, g2⟩ := h
  exact ⟨e0, g0, rfl, e1, e2, rfl, g1, g2⟩
theorem NxI.next1 {s0 s1 s2 : Int} {m0 m1 m2 : Bool} {N0 N1 N2 : Int} {E0 E1 E2 : Bool} {v0 v1 v2 : Int} {h0 h1 h2 : Bool} (h : NxI 1 s0 s1 s2 m0 m1 m2 N0 N1 N2 E0 E1 E2 v0 v1 v2 h0 h1 h2) : v1 = s1 ∧ h1 = m1 ∧ NxI 2 s0 s1 s2 m0 m1 m2 N0 N1 N2 E0 E1 E2 v0 N1 v2 h0 E1 h2 := by
  obtain ⟨e0, e1, e2, g0, g1, g2⟩ := h
  exact ⟨e1, g1, e0, rfl, e2, g0, rfl, g2⟩
theorem NxI.next2 {s0 s1 s2 : Int} {m0 m1 m2 : Bool} {N0 N1 N2 : Int} {E0 E1 E2 : Bool} {v0 v1 v2 : Int} {h0 h1 h2 : Bool} (h : NxI 2 s0 s1 s2 m0 m1 m2 N0 N1 N2 E0 E1 E2 v0 v1 v2 h0 h1 h2) : v2 = s2 ∧ h2 = m2 ∧ NxI 3 s0 s1 s2 m0 m1 m2 N0 N1 N2 E0 E1 E2 v0 v1 N2 h0 h1 E2 := by
  obtain ⟨e0, e1, e2, g0, g1, g2⟩ := h
  exact ⟨e2, g2, e0, e1, rfl, g0, g1, rfl⟩

set_option maxRecDepth 100000 in
set_option maxHeartbeats 8000000 in
theorem next_any (e0 e1 e2 p0 p1 p2 n a0 a1 a2 : Int) (x0 x1 x2 : Bool) (ct : Int) (y0 y1 y2 y3 y4 y5 y6 y7 y8 : Bool) (s0 s1 s2 : Int) (m0 m1 m2 : Bool) (sp : Int) (hn : 1 ≤ n ∧ n ≤ 1024) (w0 w : World) (hb : Gar w0 w) :
    Calls Try.prog 24 #[.agg #[.int .i64 e0, .int .i64 e1, .int .i64 e2, .int .i64 p0, .int .i64 p1, .int .i64 p2, .int .i64 n, .int .i64 a0, .int .i64 a1, .int .i64 a2, .bool x0, .bool x1, .bool x2, .int .i64 ct, .bool y0, .bool y1, .bool y2, .bool y3, .bool y4, .bool y5, .bool y6, .bool y7, .bool y8], .agg #[.int .i64 s0, .int .i64 s1, .int .i64 s2, .bool m0, .bool m1, .bool m2, .int .i64 sp]] w fun e w' => e = .returned (.agg #[.int .i64 (cnt (acc x0 y1 y2 y5) s0 n), .int .i64 (cnt (acc x1 y5 y3 y6) s1 n), .int .i64 (cnt (acc x2 y6 y7 y1) s2 n), .bool (m0 || decide (cnt (acc x0 y1 y2 y5) s0 n = n)), .bool (m1 || decide (cnt (acc x1 y5 y3 y6) s1 n = n)), .bool (m2 || decide (cnt (acc x2 y6 y7 y1) s2 n = n)), .int .i64 (cnt (decide (ct = 2) && !y1 && !y5 && !y2) sp n)]) ∧ Gar w0 w' := by
  refine on_gar hb ?_
  clear hb w0
  have CA0 := accused_0 e0 e1 e2 p0 p1 p2 n a0 a1 a2 x0 x1 x2 ct y0 y1 y2 y3 y4 y5 y6 y7 y8
  have CA1 := accused_1 e0 e1 e2 p0 p1 p2 n a0 a1 a2 x0 x1 x2 ct y0 y1 y2 y3 y4 y5 y6 y7 y8
  have CA2 := accused_2 e0 e1 e2 p0 p1 p2 n a0 a1 a2 x0 x1 x2 ct y0 y1 y2 y3 y4 y5 y6 y7 y8
  have CP := apart_any e0 e1 e2 p0 p1 p2 n a0 a1 a2 x0 x1 x2 ct y0 y1 y2 y3 y4 y5 y6 y7 y8
  obtain ⟨A0, hA0⟩ : ∃ A, (acc x0 y1 y2 y5) = A := ⟨_, rfl⟩
  obtain ⟨A1, hA1⟩ : ∃ A, (acc x1 y5 y3 y6) = A := ⟨_, rfl⟩
  obtain ⟨A2, hA2⟩ : ∃ A, (acc x2 y6 y7 y1) = A := ⟨_, rfl⟩
  obtain ⟨AP, hAP⟩ : ∃ A, (decide (ct = 2) && !y1 && !y5 && !y2) = A := ⟨_, rfl⟩
  rw [hA0] at CA0
  rw [hA1] at CA1
  rw [hA2] at CA2
  rw [hAP] at CP
  rw [hA0, hA1, hA2, hAP]
  clear hA0 hA1 hA2 hAP
  obtain ⟨M0, hM0⟩ : ∃ M, (if s0 < n then s0 else n) = M := ⟨_, rfl⟩
  have m0q : ∀ (ts : Array TypeId) (t : TypeId) (w : World), (Builtin.min_ ts t #[.int .i64 s0, .int .i64 n]).run Try.prog w = .ok (.int .i64 M0) w := fun ts t w => by
    rw [← hM0]; simp [Builtin.min_, Builtin.min2] <;> (repeat' split) <;> omega
  have CG0 := grow_any e0 e1 e2 p0 p1 p2 n a0 a1 a2 x0 x1 x2 ct y0 y1 y2 y3 y4 y5 y6 y7 y8 M0 s0 A0 hn hM0.symm
  clear hM0
  obtain ⟨N0, hN0⟩ : ∃ N, cnt A0 s0 n = N := ⟨_, rfl⟩
  rw [hN0] at CG0
  obtain ⟨M1, hM1⟩ : ∃ M, (if s1 < n then s1 else n) = M := ⟨_, rfl⟩
  have m1q : ∀ (ts : Array TypeId) (t : TypeId) (w : World), (Builtin.min_ ts t #[.int .i64 s1, .int .i64 n]).run Try.prog w = .ok (.int .i64 M1) w := fun ts t w => by
    rw [← hM1]; simp [Builtin.min_, Builtin.min2] <;> (repeat' split) <;> omega
  have CG1 := grow_any e0 e1 e2 p0 p1 p2 n a0 a1 a2 x0 x1 x2 ct y0 y1 y2 y3 y4 y5 y6 y7 y8 M1 s1 A1 hn hM1.symm
  clear hM1
  obtain ⟨N1, hN1⟩ : ∃ N, cnt A1 s1 n = N := ⟨_, rfl⟩
  rw [hN1] at CG1
  obtain ⟨M2, hM2⟩ : ∃ M, (if s2 < n then s2 else n) = M := ⟨_, rfl⟩
  have m2q : ∀ (ts : Array TypeId) (t : TypeId) (w : World), (Builtin.min_ ts t #[.int .i64 s2, .int .i64 n]).run Try.prog w = .ok (.int .i64 M2) w := fun ts t w => by
    rw [← hM2]; simp [Builtin.min_, Builtin.min2] <;> (repeat' split) <;> omega
  have CG2 := grow_any e0 e1 e2 p0 p1 p2 n a0 a1 a2 x0 x1 x2 ct y0 y1 y2 y3 y4 y5 y6 y7 y8 M2 s2 A2 hn hM2.symm
  clear hM2
  obtain ⟨N2, hN2⟩ : ∃ N, cnt A2 s2 n = N := ⟨_, rfl⟩
  rw [hN2] at CG2
  obtain ⟨M3, hM3⟩ : ∃ M, (if sp < n then sp else n) = M := ⟨_, rfl⟩
  have m3q : ∀ (ts : Array TypeId) (t : TypeId) (w : World), (Builtin.min_ ts t #[.int .i64 sp, .int .i64 n]).run Try.prog w = .ok (.int .i64 M3) w := fun ts t w => by
    rw [← hM3]; simp [Builtin.min_, Builtin.min2] <;> (repeat' split) <;> omega
  have CG3 := grow_any e0 e1 e2 p0 p1 p2 n a0 a1 a2 x0 x1 x2 ct y0 y1 y2 y3 y4 y5 y6 y7 y8 M3 sp AP hn hM3.symm
  clear hM3
  obtain ⟨N3, hN3⟩ : ∃ N, cnt AP sp n = N := ⟨_, rfl⟩
  rw [hN3] at CG3
  rw [hN0, hN1, hN2, hN3]
  clear hN0 hN1 hN2 hN3
  obtain ⟨E0, hE0⟩ : ∃ E, (m0 || decide (N0 = n)) = E := ⟨_, rfl⟩
  obtain ⟨E1, hE1⟩ : ∃ E, (m1 || decide (N1 = n)) = E := ⟨_, rfl⟩
  obtain ⟨E2, hE2⟩ : ∃ E, (m2 || decide (N2 = n)) = E := ⟨_, rfl⟩
  rw [hE0, hE1, hE2]
  have hF0 := hide hE0
  have hF1 := hide hE1
  have hF2 := hide hE2
  clear hE0 hE1 hE2 hn
  go_enter Try.func24, Try.ntmps24
  go_wp2_with (fail)
  go_loopw [6] (fun i wr => ∃ (k : Nat) (v0 v1 v2 : Int) (h0 h1 h2 : Bool), i = .int .i64 k ∧ k ≤ 3 ∧ Gar (((w.alloc (.cells #[.int .i64 e0, .int .i64 e1, .int .i64 e2, .int .i64 p0, .int .i64 p1, .int .i64 p2, .int .i64 n, .int .i64 a0, .int .i64 a1, .int .i64 a2, .bool x0, .bool x1, .bool x2, .int .i64 ct, .bool y0, .bool y1, .bool y2, .bool y3, .bool y4, .bool y5, .bool y6, .bool y7, .bool y8] 63)).alloc (.cells #[.int .i64 v0, .int .i64 v1, .int .i64 v2, .bool h0, .bool h1, .bool h2, .int .i64 sp] 27)).alloc (.cells #[.int .i64 0, .int .i64 0, .int .i64 0, .bool false, .bool false, .bool false, .int .i64 0] 27)) wr ∧ NxI k s0 s1 s2 m0 m1 m2 N0 N1 N2 E0 E1 E2 v0 v1 v2 h0 h1 h2) (fun i _ => 3 - (intOf i).toNat)
  case atStart => exact ⟨0, _, _, _, _, _, _, rfl, by omega, by repeat (first | exact Gar.refl _ | refine Gar.drewN ?_ _ | refine Gar.drew ?_ | refine Gar.alloc ?_ _ | refine Gar.allocs ?_ _), NxI.start _ _ _ _ _ _ _ _ _ _ _ _⟩
  case round =>
    obtain ⟨k, v0, v1, v2, h0, h1, h2, rfl, hk, ⟨os, n1, rfl⟩, hI0⟩ := hrel
    have hI := hide hI0
    clear hI0
    rcases (show k = 0 ∨ k = 1 ∨ k = 2 ∨ k = 3 by omega) with rfl | rfl | rfl | rfl
    · obtain ⟨e1, e2, hN0⟩ := NxI.next0 hI.out
      have hN := hide hN0
      clear hN0 hI
      subst e1
      subst e2
      go_wp2_with (fail)
      (first | with_reducible refine wp_region_qtail (fun w' => ∃ g : Gp, w' = (allocs _ g.os).drewN g.n) 16 (by kernel_rfl) (by kernel_rfl) (gp_drewN _ _) ?_ | with_reducible refine wp_region_qtail (fun w' => ∃ g : Gp, w' = (allocs _ g.os).drewN g.n) 16 (by kernel_rfl) (by kernel_rfl) (gp_drew2 _ _) ?_ | with_reducible refine wp_region_qtail (fun w' => ∃ g : Gp, w' = (allocs _ g.os).drewN g.n) 16 (by kernel_rfl) (by kernel_rfl) (gp_drew _) ?_)
      simp only [List.take_succ_cons, List.take_zero, List.drop_succ_cons, List.drop_zero]
      repeat (first | go_big_quiet_skip | (go_big_quiet_want; (first | (refine quiet_load_row 63 _ rfl _ rfl 63 _ (0, 0) _ (by rintro _ ⟨g, rfl⟩; repeat (first | with_reducible refine hp_drewN ?_ | with_reducible refine hp_drew ?_ | with_reducible refine hp_allocs ?_ | (with_reducible refine hp_last ?_; simp; done) | with_reducible refine hp_past ?_)) Try.underlying63 rfl (by kernel_rfl) ?_; simp only [Act.put, List.setIfInBounds_toArray, List.set_cons_succ, List.set_cons_zero]; go_big_quiet_on) | (go_big_quiet_op; (first | go_big_quiet_on | (apply Exists.intro; (refine And.intro (fun g => ?_) ?_); (first | (go_at_call 33; with_reducible exact calls_gp (fun _ hg => CA0 _ _ hg) g) | (go_at_call 32; with_reducible exact calls_gp (fun _ hg => CG0 _ _ hg) g)); go_big_quiet_on))))))
      refine wpQuiet_nil ?_
      refine gp_all (fun os' n' => ?_)
      go_wp2_with (fail)
      cases h0
      · have hE : (N0 == n) = E0 := hF0.out
        refine wp_region_tail 17 (by kernel_rfl) (by kernel_rfl) ?_
        simp only [List.take_succ_cons, List.take_zero, List.drop_succ_cons, List.drop_zero]
        repeat (first | go_big_quiet_skip | (go_big_quiet_want; go_big_quiet_op; (first | go_big_quiet_on | (apply Exists.intro; (refine And.intro ?_ ?_); fail; go_big_quiet_on))))
        refine wpQuiet_nil ?_
        go_wp2_with (fail)
        go_roundw
        case rel => exact ⟨1, _, _, _, _, _, _, rfl, by omega, by repeat (first | exact Gar.refl _ | refine Gar.drewN ?_ _ | refine Gar.drew ?_ | refine Gar.alloc ?_ _ | refine Gar.allocs ?_ _), hN.out⟩
        case measure => first | (simp; done) | (simp [intOf]; done) | (simp [intOf]; omega)
      · obtain rfl : E0 = true := hF0.out.symm
        refine wp_region_tail 17 (by kernel_rfl) (by kernel_rfl) ?_
        simp only [List.take_succ_cons, List.take_zero, List.drop_succ_cons, List.drop_zero]
        repeat (first | go_big_quiet_skip | (go_big_quiet_want; go_big_quiet_op; (first | go_big_quiet_on | (apply Exists.intro; (refine And.intro ?_ ?_); fail; go_big_quiet_on))))
        refine wpQuiet_nil ?_
        go_wp2_with (fail)
        go_roundw
        case rel => exact ⟨1, _, _, _, _, _, _, rfl, by omega, by repeat (first | exact Gar.refl _ | refine Gar.drewN ?_ _ | refine Gar.drew ?_ | refine Gar.alloc ?_ _ | refine Gar.allocs ?_ _), hN.out⟩
        case measure => first | (simp; done) | (simp [intOf]; done) | (simp [intOf]; omega)
    · obtain ⟨e1, e2, hN0⟩ := NxI.next1 hI.out
      have hN := hide hN0
      clear hN0 hI
      subst e1
      subst e2
      go_wp2_with (fail)
      (first | with_reducible refine wp_region_qtail (fun w' => ∃ g : Gp, w' = (allocs _ g.os).drewN g.n) 16 (by kernel_rfl) (by kernel_rfl) (gp_drewN _ _) ?_ | with_reducible refine wp_region_qtail (fun w' => ∃ g : Gp, w' = (allocs _ g.os).drewN g.n) 16 (by kernel_rfl) (by kernel_rfl) (gp_drew2 _ _) ?_ | with_reducible refine wp_region_qtail (fun w' => ∃ g : Gp, w' = (allocs _ g.os).drewN g.n) 16 (by kernel_rfl) (by kernel_rfl) (gp_drew _) ?_)
      simp only [List.take_succ_cons, List.take_zero, List.drop_succ_cons, List.drop_zero]
      repeat (first | go_big_quiet_skip | (go_big_quiet_want; (first | (refine quiet_load_row 63 _ rfl _ rfl 63 _ (0, 0) _ (by rintro _ ⟨g, rfl⟩; repeat (first | with_reducible refine hp_drewN ?_ | with_reducible refine hp_drew ?_ | with_reducible refine hp_allocs ?_ | (with_reducible refine hp_last ?_; simp; done) | with_reducible refine hp_past ?_)) Try.underlying63 rfl (by kernel_rfl) ?_; simp only [Act.put, List.setIfInBounds_toArray, List.set_cons_succ, List.set_cons_zero]; go_big_quiet_on) | (go_big_quiet_op; (first | go_big_quiet_on | (apply Exists.intro; (refine And.intro (fun g => ?_) ?_); (first | (go_at_call 33; with_reducible exact calls_gp (fun _ hg => CA1 _ _ hg) g) | (go_at_call 32; with_reducible exact calls_gp (fun _ hg => CG1 _ _ hg) g)); go_big_quiet_on))))))
      refine wpQuiet_nil ?_
      refine gp_all (fun os' n' => ?_)
      go_wp2_with (fail)
      cases h1
      · have hE : (N1 == n) = E1 := hF1.out
        refine wp_region_tail 17 (by kernel_rfl) (by kernel_rfl) ?_
        simp only [List.take_succ_cons, List.take_zero, List.drop_succ_cons, List.drop_zero]
        repeat (first | go_big_quiet_skip | (go_big_quiet_want; go_big_quiet_op; (first | go_big_quiet_on | (apply Exists.intro; (refine And.intro ?_ ?_); fail; go_big_quiet_on))))
        refine wpQuiet_nil ?_
        go_wp2_with (fail)
        go_roundw
        case rel => exact ⟨2, _, _, _, _, _, _, rfl, by omega, by repeat (first | exact Gar.refl _ | refine Gar.drewN ?_ _ | refine Gar.drew ?_ | refine Gar.alloc ?_ _ | refine Gar.allocs ?_ _), hN.out⟩
        case measure => first | (simp; done) | (simp [intOf]; done) | (simp [intOf]; omega)
      · obtain rfl : E1 = true := hF1.out.symm
        refine wp_region_tail 17 (by kernel_rfl) (by kernel_rfl) ?_
        simp only [List.take_succ_cons, List.take_zero, List.drop_succ_cons, List.drop_zero]
        repeat (first | go_big_quiet_skip | (go_big_quiet_want; go_big_quiet_op; (first | go_big_quiet_on | (apply Exists.intro; (refine And.intro ?_ ?_); fail; go_big_quiet_on))))
        refine wpQuiet_nil ?_
        go_wp2_with (fail)
        go_roundw
        case rel => exact ⟨2, _, _, _, _, _, _, rfl, by omega, by repeat (first | exact Gar.refl _ | refine Gar.drewN ?_ _ | refine Gar.drew ?_ | refine Gar.alloc ?_ _ | refine Gar.allocs ?_ _), hN.out⟩
        case measure => first | (simp; done) | (simp [intOf]; done) | (simp [intOf]; omega)
    · obtain ⟨e1, e2, hN0⟩ := NxI.next2 hI.out
      have hN := hide hN0
      clear hN0 hI
      subst e1
      subst e2
      go_wp2_with (fail)
      (first | with_reducible refine wp_region_qtail (fun w' => ∃ g : Gp, w' = (allocs _ g.os).drewN g.n) 16 (by kernel_rfl) (by kernel_rfl) (gp_drewN _ _) ?_ | with_reducible refine wp_region_qtail (fun w' => ∃ g : Gp, w' = (allocs _ g.os).drewN g.n) 16 (by kernel_rfl) (by kernel_rfl) (gp_drew2 _ _) ?_ | with_reducible refine wp_region_qtail (fun w' => ∃ g : Gp, w' = (allocs _ g.os).drewN g.n) 16 (by kernel_rfl) (by kernel_rfl) (gp_drew _) ?_)
      simp only [List.take_succ_cons, List.take_zero, List.drop_succ_cons, List.drop_zero]
      repeat (first | go_big_quiet_skip | (go_big_quiet_want; (first | (refine quiet_load_row 63 _ rfl _ rfl 63 _ (0, 0) _ (by rintro _ ⟨g, rfl⟩; repeat (first | with_reducible refine hp_drewN ?_ | with_reducible refine hp_drew ?_ | with_reducible refine hp_allocs ?_ | (with_reducible refine hp_last ?_; simp; done) | with_reducible refine hp_past ?_)) Try.underlying63 rfl (by kernel_rfl) ?_; simp only [Act.put, List.setIfInBounds_toArray, List.set_cons_succ, List.set_cons_zero]; go_big_quiet_on) | (go_big_quiet_op; (first | go_big_quiet_on | (apply Exists.intro; (refine And.intro (fun g => ?_) ?_); (first | (go_at_call 33; with_reducible exact calls_gp (fun _ hg => CA2 _ _ hg) g) | (go_at_call 32; with_reducible exact calls_gp (fun _ hg => CG2 _ _ hg) g)); go_big_quiet_on))))))
      refine wpQuiet_nil ?_
      refine gp_all (fun os' n' => ?_)
      go_wp2_with (fail)
      cases h2
      · have hE : (N2 == n) = E2 := hF2.out
        refine wp_region_tail 17 (by kernel_rfl) (by kernel_rfl) ?_
        simp only [List.take_succ_cons, List.take_zero, List.drop_succ_cons, List.drop_zero]
        repeat (first | go_big_quiet_skip | (go_big_quiet_want; go_big_quiet_op; (first | go_big_quiet_on | (apply Exists.intro; (refine And.intro ?_ ?_); fail; go_big_quiet_on))))
        refine wpQuiet_nil ?_
        go_wp2_with (fail)
        go_roundw
        case rel => exact ⟨3, _, _, _, _, _, _, rfl, by omega, by repeat (first | exact Gar.refl _ | refine Gar.drewN ?_ _ | refine Gar.drew ?_ | refine Gar.alloc ?_ _ | refine Gar.allocs ?_ _), hN.out⟩
        case measure => first | (simp; done) | (simp [intOf]; done) | (simp [intOf]; omega)
      · obtain rfl : E2 = true := hF2.out.symm
        refine wp_region_tail 17 (by kernel_rfl) (by kernel_rfl) ?_
        simp only [List.take_succ_cons, List.take_zero, List.drop_succ_cons, List.drop_zero]
        repeat (first | go_big_quiet_skip | (go_big_quiet_want; go_big_quiet_op; (first | go_big_quiet_on | (apply Exists.intro; (refine And.intro ?_ ?_); fail; go_big_quiet_on))))
        refine wpQuiet_nil ?_
        go_wp2_with (fail)
        go_roundw
        case rel => exact ⟨3, _, _, _, _, _, _, rfl, by omega, by repeat (first | exact Gar.refl _ | refine Gar.drewN ?_ _ | refine Gar.drew ?_ | refine Gar.alloc ?_ _ | refine Gar.allocs ?_ _), hN.out⟩
        case measure => first | (simp; done) | (simp [intOf]; done) | (simp [intOf]; omega)
    · obtain ⟨q0, q1, q2, q3, q4, q5⟩ := hI.out.done
      subst q0 q1 q2 q3 q4 q5
      go_wp2_with (fail)
      (first | with_reducible refine wp_region_qtail (fun w' => ∃ g : Gp, w' = (allocs _ g.os).drewN g.n) 11 (by kernel_rfl) (by kernel_rfl) (gp_drewN _ _) ?_ | with_reducible refine wp_region_qtail (fun w' => ∃ g : Gp, w' = (allocs _ g.os).drewN g.n) 11 (by kernel_rfl) (by kernel_rfl) (gp_drew2 _ _) ?_ | with_reducible refine wp_region_qtail (fun w' => ∃ g : Gp, w' = (allocs _ g.os).drewN g.n) 11 (by kernel_rfl) (by kernel_rfl) (gp_drew _) ?_)
      simp only [List.take_succ_cons, List.take_zero, List.drop_succ_cons, List.drop_zero]
      repeat (first | go_big_quiet_skip | (go_big_quiet_want; (first | (refine quiet_load_row 63 _ rfl _ rfl 63 _ (0, 0) _ (by rintro _ ⟨g, rfl⟩; repeat (first | with_reducible refine hp_drewN ?_ | with_reducible refine hp_drew ?_ | with_reducible refine hp_allocs ?_ | (with_reducible refine hp_last ?_; simp; done) | with_reducible refine hp_past ?_)) Try.underlying63 rfl (by kernel_rfl) ?_; simp only [Act.put, List.setIfInBounds_toArray, List.set_cons_succ, List.set_cons_zero]; go_big_quiet_on) | (go_big_quiet_op; (first | go_big_quiet_on | (apply Exists.intro; (refine And.intro (fun g => ?_) ?_); (first | (go_at_call 34; with_reducible exact calls_gp (fun _ hg => CP _ _ hg) g) | (go_at_call 32; with_reducible exact calls_gp (fun _ hg => CG3 _ _ hg) g)); go_big_quiet_on))))))
      refine wpQuiet_nil ?_
      refine gp_all (fun os' n' => ?_)
      go_wp2_with (fail)
      refine bodyPost_ret (by simp [results, Try.results24, go_sem]; try rfl) rfl ?_
      exact ⟨rfl, by repeat (first | exact Gar.refl _ | refine Gar.drewN ?_ _ | refine Gar.drew ?_ | refine Gar.alloc ?_ _ | refine Gar.allocs ?_ _)⟩
end Go.Proofs.Ytdincfemiignjaa
