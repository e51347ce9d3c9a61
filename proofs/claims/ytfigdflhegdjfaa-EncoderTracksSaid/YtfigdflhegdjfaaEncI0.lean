/- encoder.Step at a change of the phase by 0. -/
import Derived.Test.YtfigdflhegdjfaaEncT
import Derived.Test.YtfigdflhegdjfaaMrg
import Derived.Deep.RegionWith
import Derived.IntWalk
namespace Go.Proofs.Ytfigdflhegdjfaa
open Go.RowKit
set_option linter.unusedVariables false

set_option maxHeartbeats 4000000 in
theorem step_idx0 (c p ph ct er sl : Int) (kn hi a b z : Bool) (h : chkB c p = true) (hd : stD ph a b = 0) (wph : (Lit.int .i64 ph).wf = true) (w0 w : World) (hb : Gar w0 w) :
    Calls Try.prog 15 #[.agg #[.int .i64 c, .int .i64 p], .agg #[.int .i64 ph, .int .i64 ct, .int .i64 er, .int .i64 sl, .bool true, .bool false, .bool true], .agg #[.bool a, .bool b, .bool true]] w fun e w' =>
      e = .returned (.tuple #[.agg #[.int .i64 (phs a b), .int .i64 (stC (c * p) ph ct true false true a b true), .int .i64 (stE ph er true a b), .int .i64 (stS (c * p) ph ct sl true false true a b true), .bool (stK true false true true), .bool true, .bool true], .nilIface]) ∧ Gar w0 w' := by
  refine on_gar hb ?_
  clear hb w0
  have b1 := phs_bd a b
  clear wph
  have hph := phase_any a b true
  have eN : stN ph ct a b = clp ct (-1099511627776) 1099511627776 := by unfold stN; rw [hd]; first | rfl | (simp; done) | (simp; omega)
  have eE : stE ph er true a b = clp er 0 1099511627776 := by unfold stE; rw [hd]; first | rfl | (simp; done) | (simp; omega)
  obtain ⟨P, hP⟩ : ∃ P, phs a b = P := ⟨_, rfl⟩
  obtain ⟨O, hO⟩ : ∃ O, bits .and .i64 ph 3 = O := ⟨_, rfl⟩
  have b2 : 0 ≤ O ∧ O ≤ 3 := by rw [and_3] at hO; omega
  obtain ⟨D, hD⟩ : ∃ D, bits .and .i64 (P - O) 3 = D := ⟨_, rfl⟩
  have b3 : D = 0 := by unfold stD at hd; rw [hP] at hd; rw [and_3] at hO hD; omega
  have hw : IntKind.i64.wrap (P - O) = P - O := IntWalk.i64_in _ (by omega)
  subst b3
  rw [eE]
  rw [hP] at b1 hph ⊢
  have hh := hide (And.intro hP (And.intro eN eE))
  clear hP eE hd
  obtain ⟨h1, h2, h3, h4, h5⟩ := chk_in h
  have q1 := Int.mul_le_mul_of_nonneg_left h5 (show 0 ≤ c by omega)
  have q2 := Int.mul_le_mul_of_nonneg_left h4 (show 0 ≤ c by omega)
  have q3 : 4 ≤ c * p ∧ c * p ≤ 1048576 := by omega
  have q4 : (c * p) % 2 = 0 := by
    obtain ⟨k, rfl⟩ : ∃ k, c = 4 * k := ⟨c / 4, by omega⟩
    rw [Int.mul_assoc]; omega
  clear h3 q1 q2 h1 h2 h4 h5
  obtain ⟨T, hT⟩ : ∃ T, c * p = T := ⟨_, rfl⟩
  rw [hT] at q3 q4 ⊢
  have e1 : stC T ph ct true false true a b true = clp ct (-1099511627776) 1099511627776 - rmd (clp ct (-1099511627776) 1099511627776) T := by unfold stC; rw [eN]; simp
  have e2 : stS T ph ct sl true false true a b true = clp sl 0 1099511627776 + (if rmd (clp ct (-1099511627776) 1099511627776) T = 0 then 0 else 1) := by unfold stS; rw [eN]; simp
  have e3 : stK true false true true = true := by unfold stK; simp
  rw [e1, e2, e3]
  clear e1 e2 e3 eN
  obtain ⟨H, hH⟩ : ∃ H, T / 2 = H := ⟨_, rfl⟩
  have hH2 : T = 2 * H := by omega
  have q5 : (-T).tdiv 2 = -H := by
    rw [hH2]
    have := tdiv_cases (-(2 * H)) 2 (by omega)
    omega
  have b4 := tmod_lt (n := clp ct (-1099511627776) 1099511627776) (t := T) (by omega)
  obtain ⟨R, hR⟩ : ∃ R, (clp ct (-1099511627776) 1099511627776).tmod T = R := ⟨_, rfl⟩
  have hr := rmd_tmod hR (by omega) q4
  rw [hR] at b4
  rw [hH] at hr
  obtain ⟨U, hU⟩ : ∃ U, rmd (clp ct (-1099511627776) 1099511627776) T = U := ⟨_, rfl⟩
  rw [hU] at hr ⊢
  have hHp : 2 ≤ H ∧ H ≤ 524288 := by omega
  have hri := hide (And.intro hr (And.intro hU hH2))
  clear hr hU hH2 q4
  have k1 := clp_bd ct (-1099511627776) 1099511627776 (by omega)
  have k2 := clp_bd er 0 1099511627776 (by omega)
  have k3 := clp_bd sl 0 1099511627776 (by omega)
  rcases (show R < -H ∨ (-H ≤ R ∧ H ≤ R) ∨ (-H ≤ R ∧ R < H ∧ R = 0) ∨ (-H ≤ R ∧ R < H ∧ R < 0) ∨ (-H ≤ R ∧ R < H ∧ 0 < R) by omega) with g | g | ⟨g, g2, rfl⟩ | g | g
  all_goals
    go_enter Try.func15, Try.ntmps15
    go_wp2_with (first | (go_at_call 12; (with_reducible refine (check_ok _ _ h _).mono ?_); rintro e w' ⟨rfl, rfl⟩) | (go_at_call 28; (with_reducible refine (hph _).mono ?_); rintro e w' ⟨rfl, rfl⟩))
    go_quiet (fail)
    go_wp2_with (first | (go_at_call 29; (with_reducible refine (eclip_any _ _ _ (by omega) _).mono ?_); rintro e w' ⟨rfl, rfl⟩))
    go_region_with (go_at_call 29; (with_reducible refine (eclip_any _ _ _ (by omega) _).mono ?_); rintro e w' ⟨rfl, rfl⟩)
    all_goals
      go_wp2_with (fail)
      go_region
    all_goals
      go_wp2_with (fail)
    all_goals
      refine bodyPost_ret (by simp [results, Try.results15, go_sem]; try rfl) rfl ?_
      obtain ⟨hr1, hr2, hr3⟩ := hri.out
      refine ⟨ret_state rfl (by omega) rfl (by first | omega | (split <;> omega)) rfl rfl rfl, ?_⟩
      repeat (first | exact Gar.refl _ | refine Gar.drewN ?_ _ | refine Gar.drew ?_ | refine Gar.alloc ?_ _)
end Go.Proofs.Ytfigdflhegdjfaa
