/- What the sources show: Scene.input. -/
import Derived.Test.YtdincfemiignjaaVotC
import Derived.IntWalk
import Derived.BigQuiet
import Derived.Test.YtdincfemiignjaaQui2
namespace Go.Proofs.Ytdincfemiignjaa
open Go.RowKit
set_option linter.unusedVariables false
set_option linter.unusedSimpArgs false

theorem tm_bd (x : Int) : -65535 ≤ Int.tmod x 65536 ∧ Int.tmod x 65536 ≤ 65535 := by
  rcases Int.le_total 0 x with h | h
  · rw [Int.tmod_eq_emod_of_nonneg h]; omega
  · have e : Int.tmod x 65536 = -Int.tmod (-x) 65536 := by rw [Int.neg_tmod, Int.neg_neg]
    rw [e, Int.tmod_eq_emod_of_nonneg (by omega)]; omega
/-- What a source shows: its error, cut to what is stated unless it lies. -/
def inO (l : Bool) (o e : Int) : Int := if l then Int.tmod o 65536 else clp (Int.tmod o 65536) (-e) e
theorem inO_bd (l : Bool) (o e : Int) (h : 0 ≤ e ∧ e ≤ 16384) : -65535 ≤ inO l o e ∧ inO l o e ≤ 65535 := by
  have := tm_bd o
  have := clp_bd (Int.tmod o 65536) (-e) e (by omega)
  unfold inO; split <;> omega
def InI (k : Nat) (A0 A1 A2 v0 v1 v2 : Int) : Prop := v0 = (if 0 < k then A0 else 0) ∧ v1 = (if 1 < k then A1 else 0) ∧ v2 = (if 2 < k then A2 else 0)
theorem InI.start (A0 A1 A2 : Int) : InI 0 A0 A1 A2 0 0 0 := ⟨rfl, rfl, rfl⟩
theorem InI.done {A0 A1 A2 v0 v1 v2 : Int} (h : InI 3 A0 A1 A2 v0 v1 v2) : v0 = A0 ∧ v1 = A1 ∧ v2 = A2 := h
theorem InI.next0 {A0 A1 A2 v0 v1 v2 : Int} (h : InI 0 A0 A1 A2 v0 v1 v2) : InI 1 A0 A1 A2 A0 v1 v2 := by
  obtain ⟨e0, e1, e2⟩ := h
  exact ⟨rfl, e1, e2⟩
theorem InI.next1 {A0 A1 A2 v0 v1 v2 : Int} (h : InI 1 A0 A1 A2 v0 v1 v2) : InI 2 A0 A1 A2 v0 A1 v2 := by
  obtain ⟨e0, e1, e2⟩ := h
  exact ⟨e0, rfl, e2⟩
theorem InI.next2 {A0 A1 A2 v0 v1 v2 : Int} (h : InI 2 A0 A1 A2 v0 v1 v2) : InI 3 A0 A1 A2 v0 v1 A2 := by
  obtain ⟨e0, e1, e2⟩ := h
  exact ⟨e0, e1, rfl⟩
set_option maxHeartbeats 4000000 in
theorem input_0 (t o0 o1 o2 : Int) (r0 r1 r2 : Bool) (e0 e1 e2 p0 p1 p2 n : Int) (he : (0 ≤ e0 ∧ e0 ≤ 16384) ∧ (0 ≤ e1 ∧ e1 ≤ 16384) ∧ (0 ≤ e2 ∧ e2 ≤ 16384)) (w0 w : World) (hb : Gar w0 w) :
    Calls Try.prog 18 #[.agg #[.int .i64 t, .int .i64 o0, .int .i64 o1, .int .i64 o2, .bool r0, .bool r1, .bool r2], .agg #[.int .i64 e0, .int .i64 e1, .int .i64 e2, .int .i64 p0, .int .i64 p1, .int .i64 p2, .int .i64 n], .int .i64 0] w fun e w' => e = .returned (.agg #[.int .i64 (Int.tmod t 65536 + inO true o0 e0), .int .i64 (Int.tmod t 65536 + inO false o1 e1), .int .i64 (Int.tmod t 65536 + inO false o2 e2), .bool r0, .bool r1, .bool r2]) ∧ Gar w0 w' := by
  refine on_gar hb ?_
  clear hb w0
  obtain ⟨he0, he1, he2⟩ := he
  have bT := tm_bd t
  obtain ⟨T, hT⟩ : ∃ T, Int.tmod t 65536 = T := ⟨_, rfl⟩
  rw [hT] at bT ⊢
  have bQ0 := inO_bd true o0 e0 he0
  have hQ0 : inO true o0 e0 = inO true o0 e0 := rfl
  have bO0 := tm_bd o0
  rw [show inO true o0 e0 = Int.tmod o0 65536 from rfl] at bQ0 ⊢
  clear hQ0
  generalize hO0 : Int.tmod o0 65536 = Q0 at *
  have bQ1 := inO_bd false o1 e1 he1
  have hQ1 : inO false o1 e1 = inO false o1 e1 := rfl
  have bO1 := tm_bd o1
  rw [show inO false o1 e1 = clp (Int.tmod o1 65536) (-e1) e1 from rfl] at bQ1 ⊢
  clear hQ1
  generalize hO1 : Int.tmod o1 65536 = O1 at *
  have KQ1 := clip_any O1 (-e1) e1
  generalize clp O1 (-e1) e1 = Q1 at *
  have sN1 : IntKind.i64.wrap (-e1) = -e1 := IntWalk.i64_in _ (by omega)
  have bQ2 := inO_bd false o2 e2 he2
  have hQ2 : inO false o2 e2 = inO false o2 e2 := rfl
  have bO2 := tm_bd o2
  rw [show inO false o2 e2 = clp (Int.tmod o2 65536) (-e2) e2 from rfl] at bQ2 ⊢
  clear hQ2
  generalize hO2 : Int.tmod o2 65536 = O2 at *
  have KQ2 := clip_any O2 (-e2) e2
  generalize clp O2 (-e2) e2 = Q2 at *
  have sN2 : IntKind.i64.wrap (-e2) = -e2 := IntWalk.i64_in _ (by omega)
  go_enter Try.func18, Try.ntmps18
  go_wp2_with (fail)
  go_loopw [13] (fun i wr => ∃ (k : Nat) (v0 v1 v2 : Int), i = .int .i64 k ∧ k ≤ 3 ∧ Gar ((((w.alloc (.cells #[.int .i64 t, .int .i64 o0, .int .i64 o1, .int .i64 o2, .bool r0, .bool r1, .bool r2] 50)).alloc (.cells #[.int .i64 e0, .int .i64 e1, .int .i64 e2, .int .i64 p0, .int .i64 p1, .int .i64 p2, .int .i64 n] 24)).alloc (.cells #[.int .i64 0, .int .i64 0, .int .i64 0, .bool false, .bool false, .bool false] 29)).alloc (.cells #[.int .i64 v0, .int .i64 v1, .int .i64 v2, .bool r0, .bool r1, .bool r2] 29)) wr ∧ InI k (T + Q0) (T + Q1) (T + Q2) v0 v1 v2) (fun i _ => 3 - (intOf i).toNat)
  case atStart => exact ⟨0, 0, 0, 0, rfl, by omega, by repeat (first | exact Gar.refl _ | refine Gar.drewN ?_ _ | refine Gar.drew ?_ | refine Gar.alloc ?_ _ | refine Gar.allocs ?_ _), InI.start _ _ _⟩
  case round =>
    obtain ⟨k, v0, v1, v2, rfl, hk, ⟨os, n1, rfl⟩, hI0⟩ := hrel
    have hI := hide hI0
    clear hI0
    rcases (show k = 0 ∨ k = 1 ∨ k = 2 ∨ k = 3 by omega) with rfl | rfl | rfl | rfl
    · go_wp2_with (fail)
      go_roundw
      case rel => exact ⟨1, _, _, _, rfl, by omega, by repeat (first | exact Gar.refl _ | refine Gar.drewN ?_ _ | refine Gar.drew ?_ | refine Gar.alloc ?_ _ | refine Gar.allocs ?_ _), InI.next0 hI.out⟩
      case measure => first | (simp; done) | (simp [intOf]; done) | (simp [intOf]; omega)
    · go_wp2_with (fail)
      go_quiet ((first | (go_at_call 20; (first | with_reducible exact quiet_eq2 (KQ1 _) | with_reducible exact quiet_eq (KQ1 _)))))
      go_wp2_with (fail)
      go_roundw
      case rel => exact ⟨2, _, _, _, rfl, by omega, by repeat (first | exact Gar.refl _ | refine Gar.drewN ?_ _ | refine Gar.drew ?_ | refine Gar.alloc ?_ _ | refine Gar.allocs ?_ _), InI.next1 hI.out⟩
      case measure => first | (simp; done) | (simp [intOf]; done) | (simp [intOf]; omega)
    · go_wp2_with (fail)
      go_quiet ((first | (go_at_call 20; (first | with_reducible exact quiet_eq2 (KQ2 _) | with_reducible exact quiet_eq (KQ2 _)))))
      go_wp2_with (fail)
      go_roundw
      case rel => exact ⟨3, _, _, _, rfl, by omega, by repeat (first | exact Gar.refl _ | refine Gar.drewN ?_ _ | refine Gar.drew ?_ | refine Gar.alloc ?_ _ | refine Gar.allocs ?_ _), InI.next2 hI.out⟩
      case measure => first | (simp; done) | (simp [intOf]; done) | (simp [intOf]; omega)
    · obtain ⟨rfl, rfl, rfl⟩ := hI.out.done
      go_wp2_with (fail)
      refine bodyPost_ret (by simp [results, Try.results18, go_sem]; try rfl) rfl ?_
      exact ⟨rfl, by repeat (first | exact Gar.refl _ | refine Gar.drewN ?_ _ | refine Gar.drew ?_ | refine Gar.alloc ?_ _ | refine Gar.allocs ?_ _)⟩
set_option maxHeartbeats 4000000 in
theorem input_1 (t o0 o1 o2 : Int) (r0 r1 r2 : Bool) (e0 e1 e2 p0 p1 p2 n : Int) (he : (0 ≤ e0 ∧ e0 ≤ 16384) ∧ (0 ≤ e1 ∧ e1 ≤ 16384) ∧ (0 ≤ e2 ∧ e2 ≤ 16384)) (w0 w : World) (hb : Gar w0 w) :
    Calls Try.prog 18 #[.agg #[.int .i64 t, .int .i64 o0, .int .i64 o1, .int .i64 o2, .bool r0, .bool r1, .bool r2], .agg #[.int .i64 e0, .int .i64 e1, .int .i64 e2, .int .i64 p0, .int .i64 p1, .int .i64 p2, .int .i64 n], .int .i64 1] w fun e w' => e = .returned (.agg #[.int .i64 (Int.tmod t 65536 + inO false o0 e0), .int .i64 (Int.tmod t 65536 + inO true o1 e1), .int .i64 (Int.tmod t 65536 + inO false o2 e2), .bool r0, .bool r1, .bool r2]) ∧ Gar w0 w' := by
  refine on_gar hb ?_
  clear hb w0
  obtain ⟨he0, he1, he2⟩ := he
  have bT := tm_bd t
  obtain ⟨T, hT⟩ : ∃ T, Int.tmod t 65536 = T := ⟨_, rfl⟩
  rw [hT] at bT ⊢
  have bQ0 := inO_bd false o0 e0 he0
  have hQ0 : inO false o0 e0 = inO false o0 e0 := rfl
  have bO0 := tm_bd o0
  rw [show inO false o0 e0 = clp (Int.tmod o0 65536) (-e0) e0 from rfl] at bQ0 ⊢
  clear hQ0
  generalize hO0 : Int.tmod o0 65536 = O0 at *
  have KQ0 := clip_any O0 (-e0) e0
  generalize clp O0 (-e0) e0 = Q0 at *
  have sN0 : IntKind.i64.wrap (-e0) = -e0 := IntWalk.i64_in _ (by omega)
  have bQ1 := inO_bd true o1 e1 he1
  have hQ1 : inO true o1 e1 = inO true o1 e1 := rfl
  have bO1 := tm_bd o1
  rw [show inO true o1 e1 = Int.tmod o1 65536 from rfl] at bQ1 ⊢
  clear hQ1
  generalize hO1 : Int.tmod o1 65536 = Q1 at *
  have bQ2 := inO_bd false o2 e2 he2
  have hQ2 : inO false o2 e2 = inO false o2 e2 := rfl
  have bO2 := tm_bd o2
  rw [show inO false o2 e2 = clp (Int.tmod o2 65536) (-e2) e2 from rfl] at bQ2 ⊢
  clear hQ2
  generalize hO2 : Int.tmod o2 65536 = O2 at *
  have KQ2 := clip_any O2 (-e2) e2
  generalize clp O2 (-e2) e2 = Q2 at *
  have sN2 : IntKind.i64.wrap (-e2) = -e2 := IntWalk.i64_in _ (by omega)
  go_enter Try.func18, Try.ntmps18
  go_wp2_with (fail)
  go_loopw [13] (fun i wr => ∃ (k : Nat) (v0 v1 v2 : Int), i = .int .i64 k ∧ k ≤ 3 ∧ Gar ((((w.alloc (.cells #[.int .i64 t, .int .i64 o0, .int .i64 o1, .int .i64 o2, .bool r0, .bool r1, .bool r2] 50)).alloc (.cells #[.int .i64 e0, .int .i64 e1, .int .i64 e2, .int .i64 p0, .int .i64 p1, .int .i64 p2, .int .i64 n] 24)).alloc (.cells #[.int .i64 0, .int .i64 0, .int .i64 0, .bool false, .bool false, .bool false] 29)).alloc (.cells #[.int .i64 v0, .int .i64 v1, .int .i64 v2, .bool r0, .bool r1, .bool r2] 29)) wr ∧ InI k (T + Q0) (T + Q1) (T + Q2) v0 v1 v2) (fun i _ => 3 - (intOf i).toNat)
  case atStart => exact ⟨0, 0, 0, 0, rfl, by omega, by repeat (first | exact Gar.refl _ | refine Gar.drewN ?_ _ | refine Gar.drew ?_ | refine Gar.alloc ?_ _ | refine Gar.allocs ?_ _), InI.start _ _ _⟩
  case round =>
    obtain ⟨k, v0, v1, v2, rfl, hk, ⟨os, n1, rfl⟩, hI0⟩ := hrel
    have hI := hide hI0
    clear hI0
    rcases (show k = 0 ∨ k = 1 ∨ k = 2 ∨ k = 3 by omega) with rfl | rfl | rfl | rfl
    · go_wp2_with (fail)
      go_quiet ((first | (go_at_call 20; (first | with_reducible exact quiet_eq2 (KQ0 _) | with_reducible exact quiet_eq (KQ0 _)))))
      go_wp2_with (fail)
      go_roundw
      case rel => exact ⟨1, _, _, _, rfl, by omega, by repeat (first | exact Gar.refl _ | refine Gar.drewN ?_ _ | refine Gar.drew ?_ | refine Gar.alloc ?_ _ | refine Gar.allocs ?_ _), InI.next0 hI.out⟩
      case measure => first | (simp; done) | (simp [intOf]; done) | (simp [intOf]; omega)
    · go_wp2_with (fail)
      go_roundw
      case rel => exact ⟨2, _, _, _, rfl, by omega, by repeat (first | exact Gar.refl _ | refine Gar.drewN ?_ _ | refine Gar.drew ?_ | refine Gar.alloc ?_ _ | refine Gar.allocs ?_ _), InI.next1 hI.out⟩
      case measure => first | (simp; done) | (simp [intOf]; done) | (simp [intOf]; omega)
    · go_wp2_with (fail)
      go_quiet ((first | (go_at_call 20; (first | with_reducible exact quiet_eq2 (KQ2 _) | with_reducible exact quiet_eq (KQ2 _)))))
      go_wp2_with (fail)
      go_roundw
      case rel => exact ⟨3, _, _, _, rfl, by omega, by repeat (first | exact Gar.refl _ | refine Gar.drewN ?_ _ | refine Gar.drew ?_ | refine Gar.alloc ?_ _ | refine Gar.allocs ?_ _), InI.next2 hI.out⟩
      case measure => first | (simp; done) | (simp [intOf]; done) | (simp [intOf]; omega)
    · obtain ⟨rfl, rfl, rfl⟩ := hI.out.done
      go_wp2_with (fail)
      refine bodyPost_ret (by simp [results, Try.results18, go_sem]; try rfl) rfl ?_
      exact ⟨rfl, by repeat (first | exact Gar.refl _ | refine Gar.drewN ?_ _ | refine Gar.drew ?_ | refine Gar.alloc ?_ _ | refine Gar.allocs ?_ _)⟩
set_option maxHeartbeats 4000000 in
theorem input_2 (t o0 o1 o2 : Int) (r0 r1 r2 : Bool) (e0 e1 e2 p0 p1 p2 n : Int) (he : (0 ≤ e0 ∧ e0 ≤ 16384) ∧ (0 ≤ e1 ∧ e1 ≤ 16384) ∧ (0 ≤ e2 ∧ e2 ≤ 16384)) (w0 w : World) (hb : Gar w0 w) :
    Calls Try.prog 18 #[.agg #[.int .i64 t, .int .i64 o0, .int .i64 o1, .int .i64 o2, .bool r0, .bool r1, .bool r2], .agg #[.int .i64 e0, .int .i64 e1, .int .i64 e2, .int .i64 p0, .int .i64 p1, .int .i64 p2, .int .i64 n], .int .i64 2] w fun e w' => e = .returned (.agg #[.int .i64 (Int.tmod t 65536 + inO false o0 e0), .int .i64 (Int.tmod t 65536 + inO false o1 e1), .int .i64 (Int.tmod t 65536 + inO true o2 e2), .bool r0, .bool r1, .bool r2]) ∧ Gar w0 w' := by
  refine on_gar hb ?_
  clear hb w0
  obtain ⟨he0, he1, he2⟩ := he
  have bT := tm_bd t
  obtain ⟨T, hT⟩ : ∃ T, Int.tmod t 65536 = T := ⟨_, rfl⟩
  rw [hT] at bT ⊢
  have bQ0 := inO_bd false o0 e0 he0
  have hQ0 : inO false o0 e0 = inO false o0 e0 := rfl
  have bO0 := tm_bd o0
  rw [show inO false o0 e0 = clp (Int.tmod o0 65536) (-e0) e0 from rfl] at bQ0 ⊢
  clear hQ0
  generalize hO0 : Int.tmod o0 65536 = O0 at *
  have KQ0 := clip_any O0 (-e0) e0
  generalize clp O0 (-e0) e0 = Q0 at *
  have sN0 : IntKind.i64.wrap (-e0) = -e0 := IntWalk.i64_in _ (by omega)
  have bQ1 := inO_bd false o1 e1 he1
  have hQ1 : inO false o1 e1 = inO false o1 e1 := rfl
  have bO1 := tm_bd o1
  rw [show inO false o1 e1 = clp (Int.tmod o1 65536) (-e1) e1 from rfl] at bQ1 ⊢
  clear hQ1
  generalize hO1 : Int.tmod o1 65536 = O1 at *
  have KQ1 := clip_any O1 (-e1) e1
  generalize clp O1 (-e1) e1 = Q1 at *
  have sN1 : IntKind.i64.wrap (-e1) = -e1 := IntWalk.i64_in _ (by omega)
  have bQ2 := inO_bd true o2 e2 he2
  have hQ2 : inO true o2 e2 = inO true o2 e2 := rfl
  have bO2 := tm_bd o2
  rw [show inO true o2 e2 = Int.tmod o2 65536 from rfl] at bQ2 ⊢
  clear hQ2
  generalize hO2 : Int.tmod o2 65536 = Q2 at *
  go_enter Try.func18, Try.ntmps18
  go_wp2_with (fail)
  go_loopw [13] (fun i wr => ∃ (k : Nat) (v0 v1 v2 : Int), i = .int .i64 k ∧ k ≤ 3 ∧ Gar ((((w.alloc (.cells #[.int .i64 t, .int .i64 o0, .int .i64 o1, .int .i64 o2, .bool r0, .bool r1, .bool r2] 50)).alloc (.cells #[.int .i64 e0, .int .i64 e1, .int .i64 e2, .int .i64 p0, .int .i64 p1, .int .i64 p2, .int .i64 n] 24)).alloc (.cells #[.int .i64 0, .int .i64 0, .int .i64 0, .bool false, .bool false, .bool false] 29)).alloc (.cells #[.int .i64 v0, .int .i64 v1, .int .i64 v2, .bool r0, .bool r1, .bool r2] 29)) wr ∧ InI k (T + Q0) (T + Q1) (T + Q2) v0 v1 v2) (fun i _ => 3 - (intOf i).toNat)
  case atStart => exact ⟨0, 0, 0, 0, rfl, by omega, by repeat (first | exact Gar.refl _ | refine Gar.drewN ?_ _ | refine Gar.drew ?_ | refine Gar.alloc ?_ _ | refine Gar.allocs ?_ _), InI.start _ _ _⟩
  case round =>
    obtain ⟨k, v0, v1, v2, rfl, hk, ⟨os, n1, rfl⟩, hI0⟩ := hrel
    have hI := hide hI0
    clear hI0
    rcases (show k = 0 ∨ k = 1 ∨ k = 2 ∨ k = 3 by omega) with rfl | rfl | rfl | rfl
    · go_wp2_with (fail)
      go_quiet ((first | (go_at_call 20; (first | with_reducible exact quiet_eq2 (KQ0 _) | with_reducible exact quiet_eq (KQ0 _)))))
      go_wp2_with (fail)
      go_roundw
      case rel => exact ⟨1, _, _, _, rfl, by omega, by repeat (first | exact Gar.refl _ | refine Gar.drewN ?_ _ | refine Gar.drew ?_ | refine Gar.alloc ?_ _ | refine Gar.allocs ?_ _), InI.next0 hI.out⟩
      case measure => first | (simp; done) | (simp [intOf]; done) | (simp [intOf]; omega)
    · go_wp2_with (fail)
      go_quiet ((first | (go_at_call 20; (first | with_reducible exact quiet_eq2 (KQ1 _) | with_reducible exact quiet_eq (KQ1 _)))))
      go_wp2_with (fail)
      go_roundw
      case rel => exact ⟨2, _, _, _, rfl, by omega, by repeat (first | exact Gar.refl _ | refine Gar.drewN ?_ _ | refine Gar.drew ?_ | refine Gar.alloc ?_ _ | refine Gar.allocs ?_ _), InI.next1 hI.out⟩
      case measure => first | (simp; done) | (simp [intOf]; done) | (simp [intOf]; omega)
    · go_wp2_with (fail)
      go_roundw
      case rel => exact ⟨3, _, _, _, rfl, by omega, by repeat (first | exact Gar.refl _ | refine Gar.drewN ?_ _ | refine Gar.drew ?_ | refine Gar.alloc ?_ _ | refine Gar.allocs ?_ _), InI.next2 hI.out⟩
      case measure => first | (simp; done) | (simp [intOf]; done) | (simp [intOf]; omega)
    · obtain ⟨rfl, rfl, rfl⟩ := hI.out.done
      go_wp2_with (fail)
      refine bodyPost_ret (by simp [results, Try.results18, go_sem]; try rfl) rfl ?_
      exact ⟨rfl, by repeat (first | exact Gar.refl _ | refine Gar.drewN ?_ _ | refine Gar.drew ?_ | refine Gar.alloc ?_ _ | refine Gar.allocs ?_ _)⟩
set_option maxHeartbeats 4000000 in
theorem input_3 (t o0 o1 o2 : Int) (r0 r1 r2 : Bool) (e0 e1 e2 p0 p1 p2 n : Int) (he : (0 ≤ e0 ∧ e0 ≤ 16384) ∧ (0 ≤ e1 ∧ e1 ≤ 16384) ∧ (0 ≤ e2 ∧ e2 ≤ 16384)) (w0 w : World) (hb : Gar w0 w) :
    Calls Try.prog 18 #[.agg #[.int .i64 t, .int .i64 o0, .int .i64 o1, .int .i64 o2, .bool r0, .bool r1, .bool r2], .agg #[.int .i64 e0, .int .i64 e1, .int .i64 e2, .int .i64 p0, .int .i64 p1, .int .i64 p2, .int .i64 n], .int .i64 3] w fun e w' => e = .returned (.agg #[.int .i64 (Int.tmod t 65536 + inO false o0 e0), .int .i64 (Int.tmod t 65536 + inO false o1 e1), .int .i64 (Int.tmod t 65536 + inO false o2 e2), .bool r0, .bool r1, .bool r2]) ∧ Gar w0 w' := by
  refine on_gar hb ?_
  clear hb w0
  obtain ⟨he0, he1, he2⟩ := he
  have bT := tm_bd t
  obtain ⟨T, hT⟩ : ∃ T, Int.tmod t 65536 = T := ⟨_, rfl⟩
  rw [hT] at bT ⊢
  have bQ0 := inO_bd false o0 e0 he0
  have hQ0 : inO false o0 e0 = inO false o0 e0 := rfl
  have bO0 := tm_bd o0
  rw [show inO false o0 e0 = clp (Int.tmod o0 65536) (-e0) e0 from rfl] at bQ0 ⊢
  clear hQ0
  generalize hO0 : Int.tmod o0 65536 = O0 at *
  have KQ0 := clip_any O0 (-e0) e0
  generalize clp O0 (-e0) e0 = Q0 at *
  have sN0 : IntKind.i64.wrap (-e0) = -e0 := IntWalk.i64_in _ (by omega)
  have bQ1 := inO_bd false o1 e1 he1
  have hQ1 : inO false o1 e1 = inO false o1 e1 := rfl
  have bO1 := tm_bd o1
  rw [show inO false o1 e1 = clp (Int.tmod o1 65536) (-e1) e1 from rfl] at bQ1 ⊢
  clear hQ1
  generalize hO1 : Int.tmod o1 65536 = O1 at *
  have KQ1 := clip_any O1 (-e1) e1
  generalize clp O1 (-e1) e1 = Q1 at *
  have sN1 : IntKind.i64.wrap (-e1) = -e1 := IntWalk.i64_in _ (by omega)
  have bQ2 := inO_bd false o2 e2 he2
  have hQ2 : inO false o2 e2 = inO false o2 e2 := rfl
  have bO2 := tm_bd o2
  rw [show inO false o2 e2 = clp (Int.tmod o2 65536) (-e2) e2 from rfl] at bQ2 ⊢
  clear hQ2
  generalize hO2 : Int.tmod o2 65536 = O2 at *
  have KQ2 := clip_any O2 (-e2) e2
  generalize clp O2 (-e2) e2 = Q2 at *
  have sN2 : IntKind.i64.wrap (-e2) = -e2 := IntWalk.i64_in _ (by omega)
  go_enter Try.func18, Try.ntmps18
  go_wp2_with (fail)
  go_loopw [13] (fun i wr => ∃ (k : Nat) (v0 v1 v2 : Int), i = .int .i64 k ∧ k ≤ 3 ∧ Gar ((((w.alloc (.cells #[.int .i64 t, .int .i64 o0, .int .i64 o1, .int .i64 o2, .bool r0, .bool r1, .bool r2] 50)).alloc (.cells #[.int .i64 e0, .int .i64 e1, .int .i64 e2, .int .i64 p0, .int .i64 p1, .int .i64 p2, .int .i64 n] 24)).alloc (.cells #[.int .i64 0, .int .i64 0, .int .i64 0, .bool false, .bool false, .bool false] 29)).alloc (.cells #[.int .i64 v0, .int .i64 v1, .int .i64 v2, .bool r0, .bool r1, .bool r2] 29)) wr ∧ InI k (T + Q0) (T + Q1) (T + Q2) v0 v1 v2) (fun i _ => 3 - (intOf i).toNat)
  case atStart => exact ⟨0, 0, 0, 0, rfl, by omega, by repeat (first | exact Gar.refl _ | refine Gar.drewN ?_ _ | refine Gar.drew ?_ | refine Gar.alloc ?_ _ | refine Gar.allocs ?_ _), InI.start _ _ _⟩
  case round =>
    obtain ⟨k, v0, v1, v2, rfl, hk, ⟨os, n1, rfl⟩, hI0⟩ := hrel
    have hI := hide hI0
    clear hI0
    rcases (show k = 0 ∨ k = 1 ∨ k = 2 ∨ k = 3 by omega) with rfl | rfl | rfl | rfl
    · go_wp2_with (fail)
      go_quiet ((first | (go_at_call 20; (first | with_reducible exact quiet_eq2 (KQ0 _) | with_reducible exact quiet_eq (KQ0 _)))))
      go_wp2_with (fail)
      go_roundw
      case rel => exact ⟨1, _, _, _, rfl, by omega, by repeat (first | exact Gar.refl _ | refine Gar.drewN ?_ _ | refine Gar.drew ?_ | refine Gar.alloc ?_ _ | refine Gar.allocs ?_ _), InI.next0 hI.out⟩
      case measure => first | (simp; done) | (simp [intOf]; done) | (simp [intOf]; omega)
    · go_wp2_with (fail)
      go_quiet ((first | (go_at_call 20; (first | with_reducible exact quiet_eq2 (KQ1 _) | with_reducible exact quiet_eq (KQ1 _)))))
      go_wp2_with (fail)
      go_roundw
      case rel => exact ⟨2, _, _, _, rfl, by omega, by repeat (first | exact Gar.refl _ | refine Gar.drewN ?_ _ | refine Gar.drew ?_ | refine Gar.alloc ?_ _ | refine Gar.allocs ?_ _), InI.next1 hI.out⟩
      case measure => first | (simp; done) | (simp [intOf]; done) | (simp [intOf]; omega)
    · go_wp2_with (fail)
      go_quiet ((first | (go_at_call 20; (first | with_reducible exact quiet_eq2 (KQ2 _) | with_reducible exact quiet_eq (KQ2 _)))))
      go_wp2_with (fail)
      go_roundw
      case rel => exact ⟨3, _, _, _, rfl, by omega, by repeat (first | exact Gar.refl _ | refine Gar.drewN ?_ _ | refine Gar.drew ?_ | refine Gar.alloc ?_ _ | refine Gar.allocs ?_ _), InI.next2 hI.out⟩
      case measure => first | (simp; done) | (simp [intOf]; done) | (simp [intOf]; omega)
    · obtain ⟨rfl, rfl, rfl⟩ := hI.out.done
      go_wp2_with (fail)
      refine bodyPost_ret (by simp [results, Try.results18, go_sem]; try rfl) rfl ?_
      exact ⟨rfl, by repeat (first | exact Gar.refl _ | refine Gar.drewN ?_ _ | refine Gar.drew ?_ | refine Gar.alloc ?_ _ | refine Gar.allocs ?_ _)⟩
end Go.Proofs.Ytdincfemiignjaa
