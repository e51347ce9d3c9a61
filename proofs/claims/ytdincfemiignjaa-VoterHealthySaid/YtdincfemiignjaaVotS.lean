/- The contract of voter.Step. -/
import Derived.Test.YtdincfemiignjaaVotV
import Derived.Test.YtdincfemiignjaaVotN
import Derived.Test.YtdincfemiignjaaVotH
import Derived.Deep.RegionHeld3
namespace Go.Proofs.Ytdincfemiignjaa
open Go.RowKit
set_option linter.unusedVariables false
set_option linter.unusedSimpArgs false
attribute [local go_sem ↓] Go.wp_at_zero Go.wp_at_succ

theorem ret_res {s : Value} {i a b : Int} {p q r t : Bool} (h : a = b) (g : p = q) (k : r = t) : Ending.returned (.tuple #[s, .agg #[.int .i64 i, .int .i64 a, .bool p, .bool r], .nilIface]) = .returned (.tuple #[s, .agg #[.int .i64 i, .int .i64 b, .bool q, .bool t], .nilIface]) := by rw [h, g, k]
set_option maxHeartbeats 4000000 in
theorem vstep_bad (e0 e1 e2 p0 p1 p2 n s0 s1 s2 : Int) (m0 m1 m2 : Bool) (sp a0 a1 a2 : Int) (r0 r1 r2 : Bool) (hco : vcode e0 e1 e2 p0 p1 p2 n ≠ 0) (w0 w : World) (hb : Gar w0 w) :
    Calls Try.prog 9 #[.agg #[.int .i64 e0, .int .i64 e1, .int .i64 e2, .int .i64 p0, .int .i64 p1, .int .i64 p2, .int .i64 n], .agg #[.int .i64 s0, .int .i64 s1, .int .i64 s2, .bool m0, .bool m1, .bool m2, .int .i64 sp], .agg #[.int .i64 a0, .int .i64 a1, .int .i64 a2, .bool r0, .bool r1, .bool r2]] w fun e w' => e = .returned (.tuple #[.agg #[.int .i64 0, .int .i64 0, .int .i64 0, .bool false, .bool false, .bool false, .int .i64 0], .agg #[.int .i64 0, .int .i64 0, .bool false, .bool false], verr (vcode e0 e1 e2 p0 p1 p2 n)]) ∧ Gar w0 w' := by
  refine on_gar hb ?_
  clear hb w0
  have KC := check_any e0 e1 e2 p0 p1 p2 n
  generalize vcode e0 e1 e2 p0 p1 p2 n = c at *
  rw [show verr c = .iface 57 (.int .i64 c) from if_neg hco] at KC ⊢
  clear hco
  go_enter Try.func9, Try.ntmps9
  go_wp2_with (first | (go_at_call 14; (with_reducible refine (KC _).mono ?_); rintro e w' ⟨rfl, os1, n1, rfl⟩))
  refine bodyPost_ret (by simp [results, Try.results9, go_sem]; try rfl) rfl ?_
  exact ⟨rfl, by repeat (first | exact Gar.refl _ | refine Gar.drewN ?_ _ | refine Gar.drew ?_ | refine Gar.alloc ?_ _ | refine Gar.allocs ?_ _)⟩
set_option maxRecDepth 100000 in
set_option maxHeartbeats 8000000 in
theorem vstep_ok (e0 e1 e2 p0 p1 p2 n s0 s1 s2 : Int) (m0 m1 m2 : Bool) (sp a0 a1 a2 : Int) (r0 r1 r2 : Bool) (u0 u1 u2 g01 g02 g12 : Bool) (ct c0 c1 c2 cs : Int) (E0 E1 E2 : Bool) (ci cw : Int) (hv : VS e0 e1 e2 p0 p1 p2 n s0 s1 s2 m0 m1 m2 sp a0 a1 a2 r0 r1 r2 u0 u1 u2 g01 g02 g12 ct c0 c1 c2 cs E0 E1 E2 ci cw) (hco : vcode e0 e1 e2 p0 p1 p2 n = 0) (w0 w : World) (hb : Gar w0 w) :
    Calls Try.prog 9 #[.agg #[.int .i64 e0, .int .i64 e1, .int .i64 e2, .int .i64 p0, .int .i64 p1, .int .i64 p2, .int .i64 n], .agg #[.int .i64 s0, .int .i64 s1, .int .i64 s2, .bool m0, .bool m1, .bool m2, .int .i64 sp], .agg #[.int .i64 a0, .int .i64 a1, .int .i64 a2, .bool r0, .bool r1, .bool r2]] w fun e w' => e = .returned (.tuple #[.agg #[.int .i64 c0, .int .i64 c1, .int .i64 c2, .bool E0, .bool E1, .bool E2, .int .i64 cs], .agg #[.int .i64 ci, .int .i64 (if cw = 0 then 0 else vang ci a0 a1 a2), .bool (decide (cw = 3)), .bool (decide (cw = 0))], .nilIface]) ∧ Gar w0 w' := by
  refine on_gar hb ?_
  clear hb w0
  obtain ⟨he, hn, hpp⟩ := vcode_in hco
  have hp0 : 0 ≤ p0 ∧ p0 ≤ 2 := by omega
  have hp1 : 0 ≤ p1 ∧ p1 ≤ 2 := by omega
  have hp2 : 0 ≤ p2 ∧ p2 ≤ 2 := by omega
  clear hpp
  obtain ⟨hu0, hu1, hu2, hg01, hg02, hg12, hct, hc0, hc1, hc2, hcs, hE0, hE1, hE2, hch⟩ := hv
  have KC := check_any e0 e1 e2 p0 p1 p2 n
  rw [hco, show verr 0 = Value.nilIface from rfl] at KC
  have KL := fun w0 w hb => look_any e0 e1 e2 p0 p1 p2 n s0 s1 s2 m0 m1 m2 sp a0 a1 a2 r0 r1 r2 he w0 w hb
  rw [hu0, hu1, hu2, hg01, hg02, hg12, hct] at KL
  have KN := fun w0 w hb => next_any e0 e1 e2 p0 p1 p2 n a0 a1 a2 u0 u1 u2 ct false g01 g02 g01 false g12 g02 g12 false s0 s1 s2 m0 m1 m2 sp hn w0 w hb
  rw [hc0, hc1, hc2, hcs, hE0, hE1, hE2] at KN
  have KH := fun w0 w hb => choose_any e0 e1 e2 p0 p1 p2 n a0 a1 a2 u0 u1 u2 ct false g01 g02 g01 false g12 g02 g12 false cs hp0 hp1 hp2 w0 w hb
  simp only [Bool.false_or, Bool.or_false] at KH
  rw [hch] at KH
  dsimp only at KH
  have HB := hide (chs_bd hch hp0 hp1 hp2 (mdx_bd _ _ _))
  clear hu0 hu1 hu2 hg01 hg02 hg12 hct hc0 hc1 hc2 hcs hE0 hE1 hE2 hch hn hp0 hp1 hp2 hco he
  obtain ⟨AX, hAX⟩ : ∃ x, (if cw = 0 then 0 else vang ci a0 a1 a2) = x := ⟨_, rfl⟩
  obtain ⟨AY, hAY⟩ : ∃ x, decide (cw = 3) = x := ⟨_, rfl⟩
  obtain ⟨AF, hAF⟩ : ∃ x, decide (cw = 0) = x := ⟨_, rfl⟩
  rw [hAX, hAY, hAF]
  have HX := hide (And.intro hAX (And.intro hAY hAF))
  clear hAX hAY hAF
  go_enter Try.func9, Try.ntmps9
  go_wp2_with (first | (go_at_call 14; (with_reducible refine (KC _).mono ?_); rintro e w' ⟨rfl, os1, n1, rfl⟩) | (go_at_call 23; (with_reducible refine (KL _ _ (Gar.refl _)).mono ?_); rintro e w' ⟨rfl, os2, n2, rfl⟩) | (go_at_call 24; (with_reducible refine (KN _ _ (Gar.refl _)).mono ?_); rintro e w' ⟨rfl, os3, n3, rfl⟩) | (go_at_call 25; (with_reducible refine (KH _ _ (Gar.refl _)).mono ?_); rintro e w' ⟨rfl, os4, n4, rfl⟩) | (refine wpList_load_row rfl 63 _ rfl _ rfl 63 _ (0, 0) _ (by repeat (first | with_reducible refine hp_drewN ?_ | with_reducible refine hp_drew ?_ | with_reducible refine hp_allocs ?_ | (with_reducible refine hp_last ?_; simp; done) | with_reducible refine hp_past ?_)) Try.underlying63 rfl (by kernel_rfl) ?_) | (refine wpList_store_blk rfl 63 _ _ rfl _ _ _ rfl rfl (by repeat (first | with_reducible refine hp_drewN ?_ | with_reducible refine hp_drew ?_ | with_reducible refine hp_allocs ?_ | (with_reducible refine hp_last ?_; simp; done) | with_reducible refine hp_past ?_)) (by kernel_rfl) (by simp) (by simp [Value.oneCell']) (by (repeat (first | rewrite [rw_drewN] | rewrite [rw_drew] | (rewrite [rw_allocs]; rotate_left; focus (simp; done)) | (rewrite [rw_last]; rotate_left; focus (simp; done)) | (rewrite [rw_past]; rotate_left; focus (simp; done)))); exact rfl) ?_))
  · have h0 : cw = 0 := by simpa using (show (cw == 0) = true by assumption)
    obtain rfl : ci = -1 := by have := HB.out; omega
    refine bodyPost_ret (by simp [results, Try.results9, go_sem]; try rfl) rfl ?_
    exact ⟨ret_res (by rw [← HX.out.1, if_pos h0]) (by rw [← HX.out.2.1, h0]; rfl) (by rw [← HX.out.2.2, h0]; rfl), by repeat (first | exact Gar.refl _ | refine Gar.drewN ?_ _ | refine Gar.drew ?_ | refine Gar.alloc ?_ _ | refine Gar.allocs ?_ _)⟩
  · have h0 : cw ≠ 0 := by simpa using (show ¬ (cw == 0) = true by first | assumption | (intro h; simp_all))
    clear KL KN KH KC
    have hci : 0 ≤ ci ∧ ci ≤ 2 := by have := HB.out; omega
    obtain ⟨AL, hA⟩ : ∃ A, decide (cw = 3) = A := ⟨_, rfl⟩
    have hA2 : (cw == 3) = AL := hA
    have HA := hide (And.intro h0 hA)
    clear hA h0 HB
    rcases (show ci = 0 ∨ ci = 1 ∨ ci = 2 by omega) with rfl | rfl | rfl
    · clear hci
      have KR := norm_any a0
      go_wp2_with (fail)
      go_region_held3 (fun w' => w'.cell? ⟨w.heap.size + 1, 0, none⟩ = some (.int .i64 c0) ∧ w'.cell? ⟨w.heap.size + 1, 1, none⟩ = some (.int .i64 c1) ∧ w'.cell? ⟨w.heap.size + 1, 2, none⟩ = some (.int .i64 c2) ∧ w'.cell? ⟨w.heap.size + 1, 3, none⟩ = some (.bool E0) ∧ w'.cell? ⟨w.heap.size + 1, 4, none⟩ = some (.bool E1) ∧ w'.cell? ⟨w.heap.size + 1, 5, none⟩ = some (.bool E2) ∧ w'.cell? ⟨w.heap.size + 1, 6, none⟩ = some (.int .i64 cs) ∧ w'.cell? ⟨w.heap.size + 1 + 1 + 1 + 1 + 1 + os1.length + os2.length, 7, none⟩ = some (.int .i64 a0))
        ((refine ⟨?_, ?_, ?_, ?_, ?_, ?_, ?_, ?_⟩ <;> first | assumption | (simp; done) | go_simp))
        (first
          | (go_at_call 22; (with_reducible refine (KR _).mono ?_); rintro e w' ⟨rfl, rfl⟩)
        )
      go_wp2_with (fail)
      refine bodyPost_ret (by simp [results, Try.results9, go_sem]; try rfl) rfl ?_
      exact ⟨ret_res (by rw [← HX.out.1, if_neg HA.out.1]; simp [vang]) (HA.out.2.symm.trans HX.out.2.1) ((decide_eq_false HA.out.1).symm.trans HX.out.2.2), by repeat (first | exact Gar.refl _ | refine Gar.drewN ?_ _ | refine Gar.drew ?_ | refine Gar.alloc ?_ _ | refine Gar.allocs ?_ _)⟩
    · clear hci
      have KR := norm_any a1
      go_wp2_with (fail)
      go_region_held3 (fun w' => w'.cell? ⟨w.heap.size + 1, 0, none⟩ = some (.int .i64 c0) ∧ w'.cell? ⟨w.heap.size + 1, 1, none⟩ = some (.int .i64 c1) ∧ w'.cell? ⟨w.heap.size + 1, 2, none⟩ = some (.int .i64 c2) ∧ w'.cell? ⟨w.heap.size + 1, 3, none⟩ = some (.bool E0) ∧ w'.cell? ⟨w.heap.size + 1, 4, none⟩ = some (.bool E1) ∧ w'.cell? ⟨w.heap.size + 1, 5, none⟩ = some (.bool E2) ∧ w'.cell? ⟨w.heap.size + 1, 6, none⟩ = some (.int .i64 cs) ∧ w'.cell? ⟨w.heap.size + 1 + 1 + 1 + 1 + 1 + os1.length + os2.length, 8, none⟩ = some (.int .i64 a1))
        ((refine ⟨?_, ?_, ?_, ?_, ?_, ?_, ?_, ?_⟩ <;> first | assumption | (simp; done) | go_simp))
        (first
          | (go_at_call 22; (with_reducible refine (KR _).mono ?_); rintro e w' ⟨rfl, rfl⟩)
        )
      go_wp2_with (fail)
      refine bodyPost_ret (by simp [results, Try.results9, go_sem]; try rfl) rfl ?_
      exact ⟨ret_res (by rw [← HX.out.1, if_neg HA.out.1]; simp [vang]) (HA.out.2.symm.trans HX.out.2.1) ((decide_eq_false HA.out.1).symm.trans HX.out.2.2), by repeat (first | exact Gar.refl _ | refine Gar.drewN ?_ _ | refine Gar.drew ?_ | refine Gar.alloc ?_ _ | refine Gar.allocs ?_ _)⟩
    · clear hci
      have KR := norm_any a2
      go_wp2_with (fail)
      go_region_held3 (fun w' => w'.cell? ⟨w.heap.size + 1, 0, none⟩ = some (.int .i64 c0) ∧ w'.cell? ⟨w.heap.size + 1, 1, none⟩ = some (.int .i64 c1) ∧ w'.cell? ⟨w.heap.size + 1, 2, none⟩ = some (.int .i64 c2) ∧ w'.cell? ⟨w.heap.size + 1, 3, none⟩ = some (.bool E0) ∧ w'.cell? ⟨w.heap.size + 1, 4, none⟩ = some (.bool E1) ∧ w'.cell? ⟨w.heap.size + 1, 5, none⟩ = some (.bool E2) ∧ w'.cell? ⟨w.heap.size + 1, 6, none⟩ = some (.int .i64 cs) ∧ w'.cell? ⟨w.heap.size + 1 + 1 + 1 + 1 + 1 + os1.length + os2.length, 9, none⟩ = some (.int .i64 a2))
        ((refine ⟨?_, ?_, ?_, ?_, ?_, ?_, ?_, ?_⟩ <;> first | assumption | (simp; done) | go_simp))
        (first
          | (go_at_call 22; (with_reducible refine (KR _).mono ?_); rintro e w' ⟨rfl, rfl⟩)
        )
      go_wp2_with (fail)
      refine bodyPost_ret (by simp [results, Try.results9, go_sem]; try rfl) rfl ?_
      exact ⟨ret_res (by rw [← HX.out.1, if_neg HA.out.1]; simp [vang]) (HA.out.2.symm.trans HX.out.2.1) ((decide_eq_false HA.out.1).symm.trans HX.out.2.2), by repeat (first | exact Gar.refl _ | refine Gar.drewN ?_ _ | refine Gar.drew ?_ | refine Gar.alloc ?_ _ | refine Gar.allocs ?_ _)⟩
end Go.Proofs.Ytdincfemiignjaa
