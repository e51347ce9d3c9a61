/- encoder.Step at a change of the phase by 0. -/
import Derived.Test.YtfigdflhegdjfaaEncT
import Derived.Test.YtfigdflhegdjfaaMrg
import Derived.Deep.RegionWith
import Derived.IntWalk
namespace Go.Proofs.Ytfigdflhegdjfaa
open Go.RowKit
set_option linter.unusedVariables false

set_option maxHeartbeats 4000000 in
theorem step_low0 (c p ph ct er sl : Int) (kn hi a b z : Bool) (h : chkB c p = true) (hd : stD ph a b = 0) (wph : (Lit.int .i64 ph).wf = true) (w0 w : World) (hb : Gar w0 w) :
    Calls Try.prog 15 #[.agg #[.int .i64 c, .int .i64 p], .agg #[.int .i64 ph, .int .i64 ct, .int .i64 er, .int .i64 sl, .bool kn, .bool hi, .bool true], .agg #[.bool a, .bool b, .bool false]] w fun e w' =>
      e = .returned (.tuple #[.agg #[.int .i64 (phs a b), .int .i64 (stC (c * p) ph ct kn hi true a b false), .int .i64 (stE ph er true a b), .int .i64 (stS (c * p) ph ct sl kn hi true a b false), .bool (stK kn hi true false), .bool false, .bool true], .nilIface]) ∧ Gar w0 w' := by
  refine on_gar hb ?_
  clear hb w0
  have b1 := phs_bd a b
  clear wph
  have hph := phase_any a b false
  have eN : stN ph ct a b = clp ct (-1099511627776) 1099511627776 := by unfold stN; rw [hd]; first | rfl | (simp; done) | (simp; omega)
  have eE : stE ph er true a b = clp er 0 1099511627776 := by unfold stE; rw [hd]; first | rfl | (simp; done) | (simp; omega)
  obtain ⟨P, hP⟩ : ∃ P, phs a b = P := ⟨_, rfl⟩
  obtain ⟨O, hO⟩ : ∃ O, bits .and .i64 ph 3 = O := ⟨_, rfl⟩
  have b2 : 0 ≤ O ∧ O ≤ 3 := by rw [and_3] at hO; omega
  obtain ⟨D, hD⟩ : ∃ D, bits .and .i64 (P - O) 3 = D := ⟨_, rfl⟩
  have b3 : D = 0 := by unfold stD at hd; rw [hP] at hd; rw [and_3] at hO hD; omega
  have hw : IntKind.i64.wrap (P - O) = P - O := IntWalk.i64_in _ (by omega)
  subst b3
  rw [eE]
  rw [hP] at b1 hph ⊢
  have hh := hide (And.intro hP (And.intro eN eE))
  clear hP eE hd
  have e1 : stC (c * p) ph ct kn hi true a b false = clp ct (-1099511627776) 1099511627776 := by unfold stC; rw [eN]; simp
  have e2 : stS (c * p) ph ct sl kn hi true a b false = clp sl 0 1099511627776 := by unfold stS; simp
  have e3 : stK kn hi true false = kn := by unfold stK; simp
  rw [e1, e2, e3]
  clear e1 e2 e3 eN
  have k1 := clp_bd ct (-1099511627776) 1099511627776 (by omega)
  have k2 := clp_bd er 0 1099511627776 (by omega)
  have k3 := clp_bd sl 0 1099511627776 (by omega)
  go_enter Try.func15, Try.ntmps15
  go_wp2_with (first | (go_at_call 12; (with_reducible refine (check_ok _ _ h _).mono ?_); rintro e w' ⟨rfl, rfl⟩) | (go_at_call 28; (with_reducible refine (hph _).mono ?_); rintro e w' ⟨rfl, rfl⟩))
  go_quiet (fail)
  go_wp2_with (first | (go_at_call 29; (with_reducible refine (eclip_any _ _ _ (by omega) _).mono ?_); rintro e w' ⟨rfl, rfl⟩))
  go_region_with (go_at_call 29; (with_reducible refine (eclip_any _ _ _ (by omega) _).mono ?_); rintro e w' ⟨rfl, rfl⟩)
  all_goals
    go_wp2_with (fail)
    go_region
  all_goals
    go_wp2_with (fail)
  all_goals
    refine bodyPost_ret (by simp [results, Try.results15, go_sem]; try rfl) rfl ?_
    refine ⟨rfl, ?_⟩
    repeat (first | exact Gar.refl _ | refine Gar.drewN ?_ _ | refine Gar.drew ?_ | refine Gar.alloc ?_ _)

set_option maxHeartbeats 4000000 in
theorem step_held0 (c p ph ct er sl : Int) (kn hi a b z : Bool) (h : chkB c p = true) (hd : stD ph a b = 0) (wph : (Lit.int .i64 ph).wf = true) (w0 w : World) (hb : Gar w0 w) :
    Calls Try.prog 15 #[.agg #[.int .i64 c, .int .i64 p], .agg #[.int .i64 ph, .int .i64 ct, .int .i64 er, .int .i64 sl, .bool kn, .bool true, .bool true], .agg #[.bool a, .bool b, .bool true]] w fun e w' =>
      e = .returned (.tuple #[.agg #[.int .i64 (phs a b), .int .i64 (stC (c * p) ph ct kn true true a b true), .int .i64 (stE ph er true a b), .int .i64 (stS (c * p) ph ct sl kn true true a b true), .bool (stK kn true true true), .bool true, .bool true], .nilIface]) ∧ Gar w0 w' := by
  refine on_gar hb ?_
  clear hb w0
  have b1 := phs_bd a b
  clear wph
  have hph := phase_any a b true
  have eN : stN ph ct a b = clp ct (-1099511627776) 1099511627776 := by unfold stN; rw [hd]; first | rfl | (simp; done) | (simp; omega)
  have eE : stE ph er true a b = clp er 0 1099511627776 := by unfold stE; rw [hd]; first | rfl | (simp; done) | (simp; omega)
  obtain ⟨P, hP⟩ : ∃ P, phs a b = P := ⟨_, rfl⟩
  obtain ⟨O, hO⟩ : ∃ O, bits .and .i64 ph 3 = O := ⟨_, rfl⟩
  have b2 : 0 ≤ O ∧ O ≤ 3 := by rw [and_3] at hO; omega
  obtain ⟨D, hD⟩ : ∃ D, bits .and .i64 (P - O) 3 = D := ⟨_, rfl⟩
  have b3 : D = 0 := by unfold stD at hd; rw [hP] at hd; rw [and_3] at hO hD; omega
  have hw : IntKind.i64.wrap (P - O) = P - O := IntWalk.i64_in _ (by omega)
  subst b3
  rw [eE]
  rw [hP] at b1 hph ⊢
  have hh := hide (And.intro hP (And.intro eN eE))
  clear hP eE hd
  have e1 : stC (c * p) ph ct kn true true a b true = clp ct (-1099511627776) 1099511627776 := by unfold stC; rw [eN]; simp
  have e2 : stS (c * p) ph ct sl kn true true a b true = clp sl 0 1099511627776 := by unfold stS; simp
  have e3 : stK kn true true true = kn := by unfold stK; simp
  rw [e1, e2, e3]
  clear e1 e2 e3 eN
  have k1 := clp_bd ct (-1099511627776) 1099511627776 (by omega)
  have k2 := clp_bd er 0 1099511627776 (by omega)
  have k3 := clp_bd sl 0 1099511627776 (by omega)
  go_enter Try.func15, Try.ntmps15
  go_wp2_with (first | (go_at_call 12; (with_reducible refine (check_ok _ _ h _).mono ?_); rintro e w' ⟨rfl, rfl⟩) | (go_at_call 28; (with_reducible refine (hph _).mono ?_); rintro e w' ⟨rfl, rfl⟩))
  go_quiet (fail)
  go_wp2_with (first | (go_at_call 29; (with_reducible refine (eclip_any _ _ _ (by omega) _).mono ?_); rintro e w' ⟨rfl, rfl⟩))
  go_region_with (go_at_call 29; (with_reducible refine (eclip_any _ _ _ (by omega) _).mono ?_); rintro e w' ⟨rfl, rfl⟩)
  all_goals
    go_wp2_with (fail)
    go_region
  all_goals
    go_wp2_with (fail)
  all_goals
    refine bodyPost_ret (by simp [results, Try.results15, go_sem]; try rfl) rfl ?_
    refine ⟨rfl, ?_⟩
    repeat (first | exact Gar.refl _ | refine Gar.drewN ?_ _ | refine Gar.drew ?_ | refine Gar.alloc ?_ _)

set_option maxHeartbeats 4000000 in
theorem step_new0 (c p ph ct er sl : Int) (kn hi a b z : Bool) (h : chkB c p = true) (hd : stD ph a b = 0) (wph : (Lit.int .i64 ph).wf = true) (w0 w : World) (hb : Gar w0 w) :
    Calls Try.prog 15 #[.agg #[.int .i64 c, .int .i64 p], .agg #[.int .i64 ph, .int .i64 ct, .int .i64 er, .int .i64 sl, .bool false, .bool false, .bool true], .agg #[.bool a, .bool b, .bool true]] w fun e w' =>
      e = .returned (.tuple #[.agg #[.int .i64 (phs a b), .int .i64 (stC (c * p) ph ct false false true a b true), .int .i64 (stE ph er true a b), .int .i64 (stS (c * p) ph ct sl false false true a b true), .bool (stK false false true true), .bool true, .bool true], .nilIface]) ∧ Gar w0 w' := by
  refine on_gar hb ?_
  clear hb w0
  have b1 := phs_bd a b
  clear wph
  have hph := phase_any a b true
  have eN : stN ph ct a b = clp ct (-1099511627776) 1099511627776 := by unfold stN; rw [hd]; first | rfl | (simp; done) | (simp; omega)
  have eE : stE ph er true a b = clp er 0 1099511627776 := by unfold stE; rw [hd]; first | rfl | (simp; done) | (simp; omega)
  obtain ⟨P, hP⟩ : ∃ P, phs a b = P := ⟨_, rfl⟩
  obtain ⟨O, hO⟩ : ∃ O, bits .and .i64 ph 3 = O := ⟨_, rfl⟩
  have b2 : 0 ≤ O ∧ O ≤ 3 := by rw [and_3] at hO; omega
  obtain ⟨D, hD⟩ : ∃ D, bits .and .i64 (P - O) 3 = D := ⟨_, rfl⟩
  have b3 : D = 0 := by unfold stD at hd; rw [hP] at hd; rw [and_3] at hO hD; omega
  have hw : IntKind.i64.wrap (P - O) = P - O := IntWalk.i64_in _ (by omega)
  subst b3
  rw [eE]
  rw [hP] at b1 hph ⊢
  have hh := hide (And.intro hP (And.intro eN eE))
  clear hP eE hd
  have e1 : stC (c * p) ph ct false false true a b true = 0 := by unfold stC; simp
  have e2 : stS (c * p) ph ct sl false false true a b true = clp sl 0 1099511627776 := by unfold stS; simp
  have e3 : stK false false true true = true := by unfold stK; simp
  rw [e1, e2, e3]
  clear e1 e2 e3 eN
  have k1 := clp_bd ct (-1099511627776) 1099511627776 (by omega)
  have k2 := clp_bd er 0 1099511627776 (by omega)
  have k3 := clp_bd sl 0 1099511627776 (by omega)
  go_enter Try.func15, Try.ntmps15
  go_wp2_with (first | (go_at_call 12; (with_reducible refine (check_ok _ _ h _).mono ?_); rintro e w' ⟨rfl, rfl⟩) | (go_at_call 28; (with_reducible refine (hph _).mono ?_); rintro e w' ⟨rfl, rfl⟩))
  go_quiet (fail)
  go_wp2_with (first | (go_at_call 29; (with_reducible refine (eclip_any _ _ _ (by omega) _).mono ?_); rintro e w' ⟨rfl, rfl⟩))
  go_region_with (go_at_call 29; (with_reducible refine (eclip_any _ _ _ (by omega) _).mono ?_); rintro e w' ⟨rfl, rfl⟩)
  all_goals
    go_wp2_with (fail)
    go_region
  all_goals
    go_wp2_with (fail)
  all_goals
    refine bodyPost_ret (by simp [results, Try.results15, go_sem]; try rfl) rfl ?_
    refine ⟨rfl, ?_⟩
    repeat (first | exact Gar.refl _ | refine Gar.drewN ?_ _ | refine Gar.drew ?_ | refine Gar.alloc ?_ _)
end Go.Proofs.Ytfigdflhegdjfaa
