/- The contract of the reference's Step. -/
import Derived.Test.YtdincfemiignjaaVotZ
import Derived.Deep.RegionHeld3
namespace Go.Proofs.Ytdincfemiignjaa
open Go.RowKit
set_option linter.unusedVariables false
set_option linter.unusedSimpArgs false
attribute [local go_sem ↓] Go.wp_at_zero Go.wp_at_succ

set_option maxHeartbeats 4000000 in
theorem rstep_bad (e0 e1 e2 p0 p1 p2 n s0 s1 s2 : Int) (m0 m1 m2 : Bool) (sp a0 a1 a2 : Int) (r0 r1 r2 : Bool) (hco : vcode e0 e1 e2 p0 p1 p2 n ≠ 0) (w0 w : World) (hb : Gar w0 w) :
    Calls Try.prog 11 #[.agg #[.int .i64 e0, .int .i64 e1, .int .i64 e2, .int .i64 p0, .int .i64 p1, .int .i64 p2, .int .i64 n], .agg #[.int .i64 s0, .int .i64 s1, .int .i64 s2, .bool m0, .bool m1, .bool m2, .int .i64 sp], .agg #[.int .i64 a0, .int .i64 a1, .int .i64 a2, .bool r0, .bool r1, .bool r2]] w fun e w' => e = .returned (.tuple #[.agg #[.int .i64 0, .int .i64 0, .int .i64 0, .bool false, .bool false, .bool false, .int .i64 0], .agg #[.int .i64 0, .int .i64 0, .bool false, .bool false], .int .i64 (vcode e0 e1 e2 p0 p1 p2 n)]) ∧ Gar w0 w' := by
  refine on_gar hb ?_
  clear hb w0
  have KC := rcheck_any e0 e1 e2 p0 p1 p2 n
  generalize vcode e0 e1 e2 p0 p1 p2 n = c at *
  have hcb : (c == 0) = false := by simpa using hco
  clear hco
  go_enter Try.func11, Try.ntmps11
  go_wp2_with (first | (go_at_call 15; (with_reducible refine (KC _).mono ?_); rintro e w' ⟨rfl, os1, n1, rfl⟩))
  refine bodyPost_ret (by simp [results, Try.results11, go_sem]; try rfl) rfl ?_
  exact ⟨rfl, by repeat (first | exact Gar.refl _ | refine Gar.drewN ?_ _ | refine Gar.drew ?_ | refine Gar.alloc ?_ _ | refine Gar.allocs ?_ _)⟩
set_option maxRecDepth 100000 in
set_option maxHeartbeats 8000000 in
theorem rstep_ok (e0 e1 e2 p0 p1 p2 n s0 s1 s2 : Int) (m0 m1 m2 : Bool) (sp a0 a1 a2 : Int) (r0 r1 r2 : Bool) (u0 u1 u2 g01 g02 g12 : Bool) (ct c0 c1 c2 cs : Int) (E0 E1 E2 : Bool) (ci cw : Int) (hv : VS e0 e1 e2 p0 p1 p2 n s0 s1 s2 m0 m1 m2 sp a0 a1 a2 r0 r1 r2 u0 u1 u2 g01 g02 g12 ct c0 c1 c2 cs E0 E1 E2 ci cw) (hco : vcode e0 e1 e2 p0 p1 p2 n = 0) (w0 w : World) (hb : Gar w0 w) :
    Calls Try.prog 11 #[.agg #[.int .i64 e0, .int .i64 e1, .int .i64 e2, .int .i64 p0, .int .i64 p1, .int .i64 p2, .int .i64 n], .agg #[.int .i64 s0, .int .i64 s1, .int .i64 s2, .bool m0, .bool m1, .bool m2, .int .i64 sp], .agg #[.int .i64 a0, .int .i64 a1, .int .i64 a2, .bool r0, .bool r1, .bool r2]] w fun e w' => e = .returned (.tuple #[.agg #[.int .i64 c0, .int .i64 c1, .int .i64 c2, .bool E0, .bool E1, .bool E2, .int .i64 cs], .agg #[.int .i64 ci, .int .i64 (if cw = 0 then 0 else vang ci a0 a1 a2), .bool (decide (cw = 3)), .bool (decide (cw = 0))], .int .i64 0]) ∧ Gar w0 w' := by
  refine on_gar hb ?_
  clear hb w0
  have KH := fun w0 w hb => rchoose_ok e0 e1 e2 p0 p1 p2 n s0 s1 s2 m0 m1 m2 sp a0 a1 a2 r0 r1 r2 u0 u1 u2 g01 g02 g12 ct c0 c1 c2 cs E0 E1 E2 ci cw hv hco w0 w hb
  obtain ⟨he, hn, hpp⟩ := vcode_in hco
  have hp0 : 0 ≤ p0 ∧ p0 ≤ 2 := by omega
  have hp1 : 0 ≤ p1 ∧ p1 ≤ 2 := by omega
  have hp2 : 0 ≤ p2 ∧ p2 ≤ 2 := by omega
  clear hpp
  have KN := fun w0 w hb => rnext_ok e0 e1 e2 p0 p1 p2 n s0 s1 s2 m0 m1 m2 sp a0 a1 a2 r0 r1 r2 u0 u1 u2 g01 g02 g12 ct c0 c1 c2 cs E0 E1 E2 ci cw hv he hn w0 w hb
  obtain ⟨hu0, hu1, hu2, hg01, hg02, hg12, hct, hc0, hc1, hc2, hcs, hE0, hE1, hE2, hch⟩ := hv
  have KC := rcheck_any e0 e1 e2 p0 p1 p2 n
  rw [hco] at KC
  rcases chs_bd hch hp0 hp1 hp2 (mdx_bd _ _ _) with ⟨rfl, rfl⟩ | ⟨hi, hw⟩
  · clear hu0 hu1 hu2 hg01 hg02 hg12 hct hc0 hc1 hc2 hcs hE0 hE1 hE2 hch hn hp0 hp1 hp2 hco he
    rw [if_pos rfl, show decide ((0 : Int) = 3) = false from rfl, show decide ((0 : Int) = 0) = true from rfl]
    go_enter Try.func11, Try.ntmps11
    go_wp2_with (first | (go_at_call 15; (with_reducible refine (KC _).mono ?_); rintro e w' ⟨rfl, os1, n1, rfl⟩) | (go_at_call 26; (with_reducible refine (KH _ _ (Gar.refl _)).mono ?_); rintro e w' ⟨rfl, os2, n2, rfl⟩) | (go_at_call 27; (with_reducible refine (KN _ _ (Gar.refl _)).mono ?_); rintro e w' ⟨rfl, os3, n3, rfl⟩))
    refine bodyPost_ret (by simp [results, Try.results11, go_sem]; try rfl) rfl ?_
    exact ⟨rfl, by repeat (first | exact Gar.refl _ | refine Gar.drewN ?_ _ | refine Gar.drew ?_ | refine Gar.alloc ?_ _ | refine Gar.allocs ?_ _)⟩
  clear hu0 hu1 hu2 hg01 hg02 hg12 hct hc0 hc1 hc2 hcs hE0 hE1 hE2 hch hn hp0 hp1 hp2 hco he
  have hw0 : cw ≠ 0 := by omega
  have hwb : (cw == 0) = false := by simpa using hw0
  rw [if_neg hw0, decide_eq_false hw0]
  obtain ⟨AL, hA⟩ : ∃ A, decide (cw = 3) = A := ⟨_, rfl⟩
  have hA2 : (cw == 3) = AL := hA
  rw [hA]
  clear hA hw hw0
  rcases (show ci = 0 ∨ ci = 1 ∨ ci = 2 by omega) with rfl | rfl | rfl
  · rw [show vang 0 a0 a1 a2 = nrm a0 by simp [vang]]
    clear hi
    have KR := rnorm_any a0
    go_enter Try.func11, Try.ntmps11
    go_wp2_with (first | (go_at_call 15; (with_reducible refine (KC _).mono ?_); rintro e w' ⟨rfl, os1, n1, rfl⟩) | (go_at_call 26; (with_reducible refine (KH _ _ (Gar.refl _)).mono ?_); rintro e w' ⟨rfl, os2, n2, rfl⟩) | (go_at_call 27; (with_reducible refine (KN _ _ (Gar.refl _)).mono ?_); rintro e w' ⟨rfl, os3, n3, rfl⟩))
    go_region_held3 (fun w' => w'.cell? ⟨w.heap.size, 0, none⟩ = some (.int .i64 e0) ∧ w'.cell? ⟨w.heap.size, 1, none⟩ = some (.int .i64 e1) ∧ w'.cell? ⟨w.heap.size, 2, none⟩ = some (.int .i64 e2) ∧ w'.cell? ⟨w.heap.size, 3, none⟩ = some (.int .i64 p0) ∧ w'.cell? ⟨w.heap.size, 4, none⟩ = some (.int .i64 p1) ∧ w'.cell? ⟨w.heap.size, 5, none⟩ = some (.int .i64 p2) ∧ w'.cell? ⟨w.heap.size, 6, none⟩ = some (.int .i64 n) ∧ w'.cell? ⟨w.heap.size + 1, 0, none⟩ = some (.int .i64 s0) ∧ w'.cell? ⟨w.heap.size + 1, 1, none⟩ = some (.int .i64 s1) ∧ w'.cell? ⟨w.heap.size + 1, 2, none⟩ = some (.int .i64 s2) ∧ w'.cell? ⟨w.heap.size + 1, 3, none⟩ = some (.bool m0) ∧ w'.cell? ⟨w.heap.size + 1, 4, none⟩ = some (.bool m1) ∧ w'.cell? ⟨w.heap.size + 1, 5, none⟩ = some (.bool m2) ∧ w'.cell? ⟨w.heap.size + 1, 6, none⟩ = some (.int .i64 sp) ∧ w'.cell? ⟨w.heap.size + 1 + 1, 0, none⟩ = some (.int .i64 a0) ∧ w'.cell? ⟨w.heap.size + 1 + 1, 1, none⟩ = some (.int .i64 a1) ∧ w'.cell? ⟨w.heap.size + 1 + 1, 2, none⟩ = some (.int .i64 a2) ∧ w'.cell? ⟨w.heap.size + 1 + 1, 3, none⟩ = some (.bool r0) ∧ w'.cell? ⟨w.heap.size + 1 + 1, 4, none⟩ = some (.bool r1) ∧ w'.cell? ⟨w.heap.size + 1 + 1, 5, none⟩ = some (.bool r2))
      ((refine ⟨?_, ?_, ?_, ?_, ?_, ?_, ?_, ?_, ?_, ?_, ?_, ?_, ?_, ?_, ?_, ?_, ?_, ?_, ?_, ?_⟩ <;> first | assumption | (simp; done) | go_simp))
      (first
        | (go_at_call 27; (with_reducible refine (KN _ _ (Gar.refl _)).mono ?_); rintro e w' ⟨rfl, os3, n3, rfl⟩)
        | (go_at_call 28; (with_reducible refine (KR _).mono ?_); rintro e w' ⟨rfl, rfl⟩)
      )
    all_goals
      go_wp2_with (fail)
      refine bodyPost_ret (by simp [results, Try.results11, go_sem]; try rfl) rfl ?_
      exact ⟨rfl, by repeat (first | exact Gar.refl _ | refine Gar.drewN ?_ _ | refine Gar.drew ?_ | refine Gar.alloc ?_ _ | refine Gar.allocs ?_ _)⟩
  · rw [show vang 1 a0 a1 a2 = nrm a1 by simp [vang]]
    clear hi
    have KR := rnorm_any a1
    go_enter Try.func11, Try.ntmps11
    go_wp2_with (first | (go_at_call 15; (with_reducible refine (KC _).mono ?_); rintro e w' ⟨rfl, os1, n1, rfl⟩) | (go_at_call 26; (with_reducible refine (KH _ _ (Gar.refl _)).mono ?_); rintro e w' ⟨rfl, os2, n2, rfl⟩) | (go_at_call 27; (with_reducible refine (KN _ _ (Gar.refl _)).mono ?_); rintro e w' ⟨rfl, os3, n3, rfl⟩))
    go_region_held3 (fun w' => w'.cell? ⟨w.heap.size, 0, none⟩ = some (.int .i64 e0) ∧ w'.cell? ⟨w.heap.size, 1, none⟩ = some (.int .i64 e1) ∧ w'.cell? ⟨w.heap.size, 2, none⟩ = some (.int .i64 e2) ∧ w'.cell? ⟨w.heap.size, 3, none⟩ = some (.int .i64 p0) ∧ w'.cell? ⟨w.heap.size, 4, none⟩ = some (.int .i64 p1) ∧ w'.cell? ⟨w.heap.size, 5, none⟩ = some (.int .i64 p2) ∧ w'.cell? ⟨w.heap.size, 6, none⟩ = some (.int .i64 n) ∧ w'.cell? ⟨w.heap.size + 1, 0, none⟩ = some (.int .i64 s0) ∧ w'.cell? ⟨w.heap.size + 1, 1, none⟩ = some (.int .i64 s1) ∧ w'.cell? ⟨w.heap.size + 1, 2, none⟩ = some (.int .i64 s2) ∧ w'.cell? ⟨w.heap.size + 1, 3, none⟩ = some (.bool m0) ∧ w'.cell? ⟨w.heap.size + 1, 4, none⟩ = some (.bool m1) ∧ w'.cell? ⟨w.heap.size + 1, 5, none⟩ = some (.bool m2) ∧ w'.cell? ⟨w.heap.size + 1, 6, none⟩ = some (.int .i64 sp) ∧ w'.cell? ⟨w.heap.size + 1 + 1, 0, none⟩ = some (.int .i64 a0) ∧ w'.cell? ⟨w.heap.size + 1 + 1, 1, none⟩ = some (.int .i64 a1) ∧ w'.cell? ⟨w.heap.size + 1 + 1, 2, none⟩ = some (.int .i64 a2) ∧ w'.cell? ⟨w.heap.size + 1 + 1, 3, none⟩ = some (.bool r0) ∧ w'.cell? ⟨w.heap.size + 1 + 1, 4, none⟩ = some (.bool r1) ∧ w'.cell? ⟨w.heap.size + 1 + 1, 5, none⟩ = some (.bool r2))
      ((refine ⟨?_, ?_, ?_, ?_, ?_, ?_, ?_, ?_, ?_, ?_, ?_, ?_, ?_, ?_, ?_, ?_, ?_, ?_, ?_, ?_⟩ <;> first | assumption | (simp; done) | go_simp))
      (first
        | (go_at_call 27; (with_reducible refine (KN _ _ (Gar.refl _)).mono ?_); rintro e w' ⟨rfl, os3, n3, rfl⟩)
        | (go_at_call 28; (with_reducible refine (KR _).mono ?_); rintro e w' ⟨rfl, rfl⟩)
      )
    all_goals
      go_wp2_with (fail)
      refine bodyPost_ret (by simp [results, Try.results11, go_sem]; try rfl) rfl ?_
      exact ⟨rfl, by repeat (first | exact Gar.refl _ | refine Gar.drewN ?_ _ | refine Gar.drew ?_ | refine Gar.alloc ?_ _ | refine Gar.allocs ?_ _)⟩
  · rw [show vang 2 a0 a1 a2 = nrm a2 by simp [vang]]
    clear hi
    have KR := rnorm_any a2
    go_enter Try.func11, Try.ntmps11
    go_wp2_with (first | (go_at_call 15; (with_reducible refine (KC _).mono ?_); rintro e w' ⟨rfl, os1, n1, rfl⟩) | (go_at_call 26; (with_reducible refine (KH _ _ (Gar.refl _)).mono ?_); rintro e w' ⟨rfl, os2, n2, rfl⟩) | (go_at_call 27; (with_reducible refine (KN _ _ (Gar.refl _)).mono ?_); rintro e w' ⟨rfl, os3, n3, rfl⟩))
    go_region_held3 (fun w' => w'.cell? ⟨w.heap.size, 0, none⟩ = some (.int .i64 e0) ∧ w'.cell? ⟨w.heap.size, 1, none⟩ = some (.int .i64 e1) ∧ w'.cell? ⟨w.heap.size, 2, none⟩ = some (.int .i64 e2) ∧ w'.cell? ⟨w.heap.size, 3, none⟩ = some (.int .i64 p0) ∧ w'.cell? ⟨w.heap.size, 4, none⟩ = some (.int .i64 p1) ∧ w'.cell? ⟨w.heap.size, 5, none⟩ = some (.int .i64 p2) ∧ w'.cell? ⟨w.heap.size, 6, none⟩ = some (.int .i64 n) ∧ w'.cell? ⟨w.heap.size + 1, 0, none⟩ = some (.int .i64 s0) ∧ w'.cell? ⟨w.heap.size + 1, 1, none⟩ = some (.int .i64 s1) ∧ w'.cell? ⟨w.heap.size + 1, 2, none⟩ = some (.int .i64 s2) ∧ w'.cell? ⟨w.heap.size + 1, 3, none⟩ = some (.bool m0) ∧ w'.cell? ⟨w.heap.size + 1, 4, none⟩ = some (.bool m1) ∧ w'.cell? ⟨w.heap.size + 1, 5, none⟩ = some (.bool m2) ∧ w'.cell? ⟨w.heap.size + 1, 6, none⟩ = some (.int .i64 sp) ∧ w'.cell? ⟨w.heap.size + 1 + 1, 0, none⟩ = some (.int .i64 a0) ∧ w'.cell? ⟨w.heap.size + 1 + 1, 1, none⟩ = some (.int .i64 a1) ∧ w'.cell? ⟨w.heap.size + 1 + 1, 2, none⟩ = some (.int .i64 a2) ∧ w'.cell? ⟨w.heap.size + 1 + 1, 3, none⟩ = some (.bool r0) ∧ w'.cell? ⟨w.heap.size + 1 + 1, 4, none⟩ = some (.bool r1) ∧ w'.cell? ⟨w.heap.size + 1 + 1, 5, none⟩ = some (.bool r2))
      ((refine ⟨?_, ?_, ?_, ?_, ?_, ?_, ?_, ?_, ?_, ?_, ?_, ?_, ?_, ?_, ?_, ?_, ?_, ?_, ?_, ?_⟩ <;> first | assumption | (simp; done) | go_simp))
      (first
        | (go_at_call 27; (with_reducible refine (KN _ _ (Gar.refl _)).mono ?_); rintro e w' ⟨rfl, os3, n3, rfl⟩)
        | (go_at_call 28; (with_reducible refine (KR _).mono ?_); rintro e w' ⟨rfl, rfl⟩)
      )
    all_goals
      go_wp2_with (fail)
      refine bodyPost_ret (by simp [results, Try.results11, go_sem]; try rfl) rfl ?_
      exact ⟨rfl, by repeat (first | exact Gar.refl _ | refine Gar.drewN ?_ _ | refine Gar.drew ?_ | refine Gar.alloc ?_ _ | refine Gar.allocs ?_ _)⟩
end Go.Proofs.Ytdincfemiignjaa
