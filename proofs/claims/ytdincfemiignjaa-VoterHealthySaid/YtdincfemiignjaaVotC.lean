/- The contracts of the voter's Check and Clear and of the reference's. -/
import Derived.Test.YtdincfemiignjaaVot
import Derived.Test.YtdincfemiignjaaMidW
import Derived.Test.YtdincfemiignjaaBase
import Derived.Test.YtdincfemiignjaaGar
import Derived.Test.YtdincfemiignjaaMrg
import Derived.Test.YtdincfemiignjaaLtt
namespace Go.Proofs.Ytdincfemiignjaa
open Go.RowKit
set_option linter.unusedVariables false

def verr (k : Int) : Value := if k = 0 then .nilIface else .iface 57 (.int .i64 k)
theorem ret_e {a b : Value} (h : a = b) : Ending.returned a = .returned b := by rw [h]
set_option maxHeartbeats 4000000 in
theorem check_any (e0 e1 e2 p0 p1 p2 n : Int) (w : World) : Calls Try.prog 14 #[.agg #[.int .i64 e0, .int .i64 e1, .int .i64 e2, .int .i64 p0, .int .i64 p1, .int .i64 p2, .int .i64 n]] w fun e w' => e = .returned (verr (vcode e0 e1 e2 p0 p1 p2 n)) ∧ Gar w w' := by
  have i0 : ∀ (a b c : Int) w, (Instr.index 22 (.agg #[.int .i64 a, .int .i64 b, .int .i64 c]) (.int .i64 0)).run Try.prog w = .ok (.int .i64 a) w := fun _ _ _ _ => by kernel_rfl
  have i1 : ∀ (a b c : Int) w, (Instr.index 22 (.agg #[.int .i64 a, .int .i64 b, .int .i64 c]) (.int .i64 1)).run Try.prog w = .ok (.int .i64 b) w := fun _ _ _ _ => by kernel_rfl
  have i2 : ∀ (a b c : Int) w, (Instr.index 22 (.agg #[.int .i64 a, .int .i64 b, .int .i64 c]) (.int .i64 2)).run Try.prog w = .ok (.int .i64 c) w := fun _ _ _ _ => by kernel_rfl
  go_enter Try.func14, Try.ntmps14
  go_wp2
  refine wp_loop_rounds 4 ?_
  repeat any_goals (rw [rounds_succ]; go_wp2)
  all_goals (first | (go_returns; refine ⟨ret_e (by rw [vcode_out (by omega)]; rfl), by repeat (first | exact Gar.refl _ | refine Gar.drewN ?_ _ | refine Gar.drew ?_ | refine Gar.alloc ?_ _ | refine Gar.allocs ?_ _)⟩) | skip)
  go_loopw [6, 24] (fun tw i wr => ∃ (k : Nat) (T s0 s1 s2 : Bool), i = .int .i64 k ∧ k ≤ 3 ∧ tw = .bool T ∧ Gar ((w.alloc (.cells #[.int .i64 e0, .int .i64 e1, .int .i64 e2, .int .i64 p0, .int .i64 p1, .int .i64 p2, .int .i64 n] 24)).alloc (.cells #[.bool s0, .bool s1, .bool s2] 25)) wr ∧ SeenI p0 p1 p2 k T s0 s1 s2) (fun _ i _ => 3 - (intOf i).toNat)
  case atStart => exact ⟨0, false, false, false, false, rfl, by omega, rfl, by repeat (first | exact Gar.refl _ | refine Gar.drewN ?_ _ | refine Gar.drew ?_ | refine Gar.alloc ?_ _ | refine Gar.allocs ?_ _), rfl, rfl, rfl, rfl⟩
  case round =>
    obtain ⟨k, T, s0, s1, s2, rfl, hk, rfl, ⟨os, n1, rfl⟩, hI0⟩ := hrel
    have hI := hide hI0
    have hb := SeenI.bd hI0
    clear hI0
    rcases (show k = 0 ∨ k = 1 ∨ k = 2 ∨ k = 3 by omega) with rfl | rfl | rfl | rfl
    · by_cases hp : 0 ≤ p0 ∧ p0 ≤ 2
      rotate_left
      · rcases (show (p0 < 0) ∨ (2 < p0) by omega) with h | h
        all_goals
          go_wp2
          go_returns
          refine ⟨ret_e (by rw [vcode_out (by omega)]; rfl), by repeat (first | exact Gar.refl _ | refine Gar.drewN ?_ _ | refine Gar.drew ?_ | refine Gar.alloc ?_ _ | refine Gar.allocs ?_ _)⟩
      rcases (show p0 = 0 ∨ p0 = 1 ∨ p0 = 2 by omega) with hv | hv | hv <;> cases T
      · have hN := hide (SeenI.next00 hI.out hv)
        have iv : ∀ w, (Instr.index 22 (.agg #[.int .i64 p0, .int .i64 p1, .int .i64 p2]) (.int .i64 0)).run Try.prog w = .ok (.int .i64 0) w := fun w => by rw [i0, hv]
        clear i0 i1 i2 hv hp
        go_wp2
        go_roundw
        case rel => exact ⟨1, _, _, _, _, rfl, by omega, rfl, by repeat (first | exact Gar.refl _ | refine Gar.drewN ?_ _ | refine Gar.drew ?_ | refine Gar.alloc ?_ _ | refine Gar.allocs ?_ _), by have := hN.out; simpa using this⟩
        case measure => first | (simp; done) | (simp [intOf]; done) | (simp [intOf]; omega)
      · have hN := hide (SeenI.next00 hI.out hv)
        have iv : ∀ w, (Instr.index 22 (.agg #[.int .i64 p0, .int .i64 p1, .int .i64 p2]) (.int .i64 0)).run Try.prog w = .ok (.int .i64 0) w := fun w => by rw [i0, hv]
        clear i0 i1 i2 hv hp
        go_wp2
        go_roundw
        case rel => exact ⟨1, true, _, _, _, rfl, by omega, rfl, by repeat (first | exact Gar.refl _ | refine Gar.drewN ?_ _ | refine Gar.drew ?_ | refine Gar.alloc ?_ _ | refine Gar.allocs ?_ _), by have := hN.out; simpa using this⟩
        case measure => first | (simp; done) | (simp [intOf]; done) | (simp [intOf]; omega)
      · have hN := hide (SeenI.next01 hI.out hv)
        have iv : ∀ w, (Instr.index 22 (.agg #[.int .i64 p0, .int .i64 p1, .int .i64 p2]) (.int .i64 0)).run Try.prog w = .ok (.int .i64 1) w := fun w => by rw [i0, hv]
        clear i0 i1 i2 hv hp
        go_wp2
        go_roundw
        case rel => exact ⟨1, _, _, _, _, rfl, by omega, rfl, by repeat (first | exact Gar.refl _ | refine Gar.drewN ?_ _ | refine Gar.drew ?_ | refine Gar.alloc ?_ _ | refine Gar.allocs ?_ _), by have := hN.out; simpa using this⟩
        case measure => first | (simp; done) | (simp [intOf]; done) | (simp [intOf]; omega)
      · have hN := hide (SeenI.next01 hI.out hv)
        have iv : ∀ w, (Instr.index 22 (.agg #[.int .i64 p0, .int .i64 p1, .int .i64 p2]) (.int .i64 0)).run Try.prog w = .ok (.int .i64 1) w := fun w => by rw [i0, hv]
        clear i0 i1 i2 hv hp
        go_wp2
        go_roundw
        case rel => exact ⟨1, true, _, _, _, rfl, by omega, rfl, by repeat (first | exact Gar.refl _ | refine Gar.drewN ?_ _ | refine Gar.drew ?_ | refine Gar.alloc ?_ _ | refine Gar.allocs ?_ _), by have := hN.out; simpa using this⟩
        case measure => first | (simp; done) | (simp [intOf]; done) | (simp [intOf]; omega)
      · have hN := hide (SeenI.next02 hI.out hv)
        have iv : ∀ w, (Instr.index 22 (.agg #[.int .i64 p0, .int .i64 p1, .int .i64 p2]) (.int .i64 0)).run Try.prog w = .ok (.int .i64 2) w := fun w => by rw [i0, hv]
        clear i0 i1 i2 hv hp
        go_wp2
        go_roundw
        case rel => exact ⟨1, _, _, _, _, rfl, by omega, rfl, by repeat (first | exact Gar.refl _ | refine Gar.drewN ?_ _ | refine Gar.drew ?_ | refine Gar.alloc ?_ _ | refine Gar.allocs ?_ _), by have := hN.out; simpa using this⟩
        case measure => first | (simp; done) | (simp [intOf]; done) | (simp [intOf]; omega)
      · have hN := hide (SeenI.next02 hI.out hv)
        have iv : ∀ w, (Instr.index 22 (.agg #[.int .i64 p0, .int .i64 p1, .int .i64 p2]) (.int .i64 0)).run Try.prog w = .ok (.int .i64 2) w := fun w => by rw [i0, hv]
        clear i0 i1 i2 hv hp
        go_wp2
        go_roundw
        case rel => exact ⟨1, true, _, _, _, rfl, by omega, rfl, by repeat (first | exact Gar.refl _ | refine Gar.drewN ?_ _ | refine Gar.drew ?_ | refine Gar.alloc ?_ _ | refine Gar.allocs ?_ _), by have := hN.out; simpa using this⟩
        case measure => first | (simp; done) | (simp [intOf]; done) | (simp [intOf]; omega)
    · by_cases hp : 0 ≤ p1 ∧ p1 ≤ 2
      rotate_left
      · rcases (show (p1 < 0) ∨ (2 < p1) by omega) with h | h
        all_goals
          go_wp2
          go_returns
          refine ⟨ret_e (by rw [vcode_out (by omega)]; rfl), by repeat (first | exact Gar.refl _ | refine Gar.drewN ?_ _ | refine Gar.drew ?_ | refine Gar.alloc ?_ _ | refine Gar.allocs ?_ _)⟩
      rcases (show p1 = 0 ∨ p1 = 1 ∨ p1 = 2 by omega) with hv | hv | hv <;> cases T
      · have hN := hide (SeenI.next10 hI.out hv)
        have iv : ∀ w, (Instr.index 22 (.agg #[.int .i64 p0, .int .i64 p1, .int .i64 p2]) (.int .i64 1)).run Try.prog w = .ok (.int .i64 0) w := fun w => by rw [i1, hv]
        clear i0 i1 i2 hv hp
        go_wp2
        go_roundw
        case rel => exact ⟨2, _, _, _, _, rfl, by omega, rfl, by repeat (first | exact Gar.refl _ | refine Gar.drewN ?_ _ | refine Gar.drew ?_ | refine Gar.alloc ?_ _ | refine Gar.allocs ?_ _), by have := hN.out; simpa using this⟩
        case measure => first | (simp; done) | (simp [intOf]; done) | (simp [intOf]; omega)
      · have hN := hide (SeenI.next10 hI.out hv)
        have iv : ∀ w, (Instr.index 22 (.agg #[.int .i64 p0, .int .i64 p1, .int .i64 p2]) (.int .i64 1)).run Try.prog w = .ok (.int .i64 0) w := fun w => by rw [i1, hv]
        clear i0 i1 i2 hv hp
        go_wp2
        go_roundw
        case rel => exact ⟨2, true, _, _, _, rfl, by omega, rfl, by repeat (first | exact Gar.refl _ | refine Gar.drewN ?_ _ | refine Gar.drew ?_ | refine Gar.alloc ?_ _ | refine Gar.allocs ?_ _), by have := hN.out; simpa using this⟩
        case measure => first | (simp; done) | (simp [intOf]; done) | (simp [intOf]; omega)
      · have hN := hide (SeenI.next11 hI.out hv)
        have iv : ∀ w, (Instr.index 22 (.agg #[.int .i64 p0, .int .i64 p1, .int .i64 p2]) (.int .i64 1)).run Try.prog w = .ok (.int .i64 1) w := fun w => by rw [i1, hv]
        clear i0 i1 i2 hv hp
        go_wp2
        go_roundw
        case rel => exact ⟨2, _, _, _, _, rfl, by omega, rfl, by repeat (first | exact Gar.refl _ | refine Gar.drewN ?_ _ | refine Gar.drew ?_ | refine Gar.alloc ?_ _ | refine Gar.allocs ?_ _), by have := hN.out; simpa using this⟩
        case measure => first | (simp; done) | (simp [intOf]; done) | (simp [intOf]; omega)
      · have hN := hide (SeenI.next11 hI.out hv)
        have iv : ∀ w, (Instr.index 22 (.agg #[.int .i64 p0, .int .i64 p1, .int .i64 p2]) (.int .i64 1)).run Try.prog w = .ok (.int .i64 1) w := fun w => by rw [i1, hv]
        clear i0 i1 i2 hv hp
        go_wp2
        go_roundw
        case rel => exact ⟨2, true, _, _, _, rfl, by omega, rfl, by repeat (first | exact Gar.refl _ | refine Gar.drewN ?_ _ | refine Gar.drew ?_ | refine Gar.alloc ?_ _ | refine Gar.allocs ?_ _), by have := hN.out; simpa using this⟩
        case measure => first | (simp; done) | (simp [intOf]; done) | (simp [intOf]; omega)
      · have hN := hide (SeenI.next12 hI.out hv)
        have iv : ∀ w, (Instr.index 22 (.agg #[.int .i64 p0, .int .i64 p1, .int .i64 p2]) (.int .i64 1)).run Try.prog w = .ok (.int .i64 2) w := fun w => by rw [i1, hv]
        clear i0 i1 i2 hv hp
        go_wp2
        go_roundw
        case rel => exact ⟨2, _, _, _, _, rfl, by omega, rfl, by repeat (first | exact Gar.refl _ | refine Gar.drewN ?_ _ | refine Gar.drew ?_ | refine Gar.alloc ?_ _ | refine Gar.allocs ?_ _), by have := hN.out; simpa using this⟩
        case measure => first | (simp; done) | (simp [intOf]; done) | (simp [intOf]; omega)
      · have hN := hide (SeenI.next12 hI.out hv)
        have iv : ∀ w, (Instr.index 22 (.agg #[.int .i64 p0, .int .i64 p1, .int .i64 p2]) (.int .i64 1)).run Try.prog w = .ok (.int .i64 2) w := fun w => by rw [i1, hv]
        clear i0 i1 i2 hv hp
        go_wp2
        go_roundw
        case rel => exact ⟨2, true, _, _, _, rfl, by omega, rfl, by repeat (first | exact Gar.refl _ | refine Gar.drewN ?_ _ | refine Gar.drew ?_ | refine Gar.alloc ?_ _ | refine Gar.allocs ?_ _), by have := hN.out; simpa using this⟩
        case measure => first | (simp; done) | (simp [intOf]; done) | (simp [intOf]; omega)
    · by_cases hp : 0 ≤ p2 ∧ p2 ≤ 2
      rotate_left
      · rcases (show (p2 < 0) ∨ (2 < p2) by omega) with h | h
        all_goals
          go_wp2
          go_returns
          refine ⟨ret_e (by rw [vcode_out (by omega)]; rfl), by repeat (first | exact Gar.refl _ | refine Gar.drewN ?_ _ | refine Gar.drew ?_ | refine Gar.alloc ?_ _ | refine Gar.allocs ?_ _)⟩
      rcases (show p2 = 0 ∨ p2 = 1 ∨ p2 = 2 by omega) with hv | hv | hv <;> cases T
      · have hN := hide (SeenI.next20 hI.out hv)
        have iv : ∀ w, (Instr.index 22 (.agg #[.int .i64 p0, .int .i64 p1, .int .i64 p2]) (.int .i64 2)).run Try.prog w = .ok (.int .i64 0) w := fun w => by rw [i2, hv]
        clear i0 i1 i2 hv hp
        go_wp2
        go_roundw
        case rel => exact ⟨3, _, _, _, _, rfl, by omega, rfl, by repeat (first | exact Gar.refl _ | refine Gar.drewN ?_ _ | refine Gar.drew ?_ | refine Gar.alloc ?_ _ | refine Gar.allocs ?_ _), by have := hN.out; simpa using this⟩
        case measure => first | (simp; done) | (simp [intOf]; done) | (simp [intOf]; omega)
      · have hN := hide (SeenI.next20 hI.out hv)
        have iv : ∀ w, (Instr.index 22 (.agg #[.int .i64 p0, .int .i64 p1, .int .i64 p2]) (.int .i64 2)).run Try.prog w = .ok (.int .i64 0) w := fun w => by rw [i2, hv]
        clear i0 i1 i2 hv hp
        go_wp2
        go_roundw
        case rel => exact ⟨3, true, _, _, _, rfl, by omega, rfl, by repeat (first | exact Gar.refl _ | refine Gar.drewN ?_ _ | refine Gar.drew ?_ | refine Gar.alloc ?_ _ | refine Gar.allocs ?_ _), by have := hN.out; simpa using this⟩
        case measure => first | (simp; done) | (simp [intOf]; done) | (simp [intOf]; omega)
      · have hN := hide (SeenI.next21 hI.out hv)
        have iv : ∀ w, (Instr.index 22 (.agg #[.int .i64 p0, .int .i64 p1, .int .i64 p2]) (.int .i64 2)).run Try.prog w = .ok (.int .i64 1) w := fun w => by rw [i2, hv]
        clear i0 i1 i2 hv hp
        go_wp2
        go_roundw
        case rel => exact ⟨3, _, _, _, _, rfl, by omega, rfl, by repeat (first | exact Gar.refl _ | refine Gar.drewN ?_ _ | refine Gar.drew ?_ | refine Gar.alloc ?_ _ | refine Gar.allocs ?_ _), by have := hN.out; simpa using this⟩
        case measure => first | (simp; done) | (simp [intOf]; done) | (simp [intOf]; omega)
      · have hN := hide (SeenI.next21 hI.out hv)
        have iv : ∀ w, (Instr.index 22 (.agg #[.int .i64 p0, .int .i64 p1, .int .i64 p2]) (.int .i64 2)).run Try.prog w = .ok (.int .i64 1) w := fun w => by rw [i2, hv]
        clear i0 i1 i2 hv hp
        go_wp2
        go_roundw
        case rel => exact ⟨3, true, _, _, _, rfl, by omega, rfl, by repeat (first | exact Gar.refl _ | refine Gar.drewN ?_ _ | refine Gar.drew ?_ | refine Gar.alloc ?_ _ | refine Gar.allocs ?_ _), by have := hN.out; simpa using this⟩
        case measure => first | (simp; done) | (simp [intOf]; done) | (simp [intOf]; omega)
      · have hN := hide (SeenI.next22 hI.out hv)
        have iv : ∀ w, (Instr.index 22 (.agg #[.int .i64 p0, .int .i64 p1, .int .i64 p2]) (.int .i64 2)).run Try.prog w = .ok (.int .i64 2) w := fun w => by rw [i2, hv]
        clear i0 i1 i2 hv hp
        go_wp2
        go_roundw
        case rel => exact ⟨3, _, _, _, _, rfl, by omega, rfl, by repeat (first | exact Gar.refl _ | refine Gar.drewN ?_ _ | refine Gar.drew ?_ | refine Gar.alloc ?_ _ | refine Gar.allocs ?_ _), by have := hN.out; simpa using this⟩
        case measure => first | (simp; done) | (simp [intOf]; done) | (simp [intOf]; omega)
      · have hN := hide (SeenI.next22 hI.out hv)
        have iv : ∀ w, (Instr.index 22 (.agg #[.int .i64 p0, .int .i64 p1, .int .i64 p2]) (.int .i64 2)).run Try.prog w = .ok (.int .i64 2) w := fun w => by rw [i2, hv]
        clear i0 i1 i2 hv hp
        go_wp2
        go_roundw
        case rel => exact ⟨3, true, _, _, _, rfl, by omega, rfl, by repeat (first | exact Gar.refl _ | refine Gar.drewN ?_ _ | refine Gar.drew ?_ | refine Gar.alloc ?_ _ | refine Gar.allocs ?_ _), by have := hN.out; simpa using this⟩
        case measure => first | (simp; done) | (simp [intOf]; done) | (simp [intOf]; omega)
    · have hD := SeenI.done hI.out
      cases T
      · have hD := hD.1 rfl
        go_wp2
        all_goals (go_returns; refine ⟨ret_e (by first | (rw [vcode_out (by omega)]; rfl) | (rw [vcode_ok (by omega) (by omega)]; rfl) | (rw [vcode_twice (by omega) (by omega)]; rfl)), by repeat (first | exact Gar.refl _ | refine Gar.drewN ?_ _ | refine Gar.drew ?_ | refine Gar.alloc ?_ _ | refine Gar.allocs ?_ _)⟩)
      · have hD := hD.2 rfl
        go_wp2
        all_goals (go_returns; refine ⟨ret_e (by first | (rw [vcode_out (by omega)]; rfl) | (rw [vcode_ok (by omega) (by omega)]; rfl) | (rw [vcode_twice (by omega) (by omega)]; rfl)), by repeat (first | exact Gar.refl _ | refine Gar.drewN ?_ _ | refine Gar.drew ?_ | refine Gar.alloc ?_ _ | refine Gar.allocs ?_ _)⟩)
set_option maxHeartbeats 4000000 in
theorem rcheck_any (e0 e1 e2 p0 p1 p2 n : Int) (w : World) : Calls Try.prog 15 #[.agg #[.int .i64 e0, .int .i64 e1, .int .i64 e2, .int .i64 p0, .int .i64 p1, .int .i64 p2, .int .i64 n]] w fun e w' => e = .returned (.int .i64 (vcode e0 e1 e2 p0 p1 p2 n)) ∧ Gar w w' := by
  have key : ∃ b1 b2 b3, (p0 == p1) = b1 ∧ (p0 == p2) = b2 ∧ (p1 == p2) = b3 ∧ ((b1 = true ∧ p0 = p1) ∨ (b1 = false ∧ p0 ≠ p1 ∧ b2 = true ∧ p0 = p2) ∨ (b1 = false ∧ b2 = false ∧ p0 ≠ p1 ∧ p0 ≠ p2 ∧ b3 = true ∧ p1 = p2) ∨ (b1 = false ∧ b2 = false ∧ b3 = false ∧ p0 ≠ p1 ∧ p0 ≠ p2 ∧ p1 ≠ p2)) := by
    refine ⟨_, _, _, rfl, rfl, rfl, ?_⟩
    simp only [beq_iff_eq, beq_eq_false_iff_ne, ne_eq]
    omega
  obtain ⟨b1, b2, b3, g1, g2, g3, ⟨rfl, d1⟩ | ⟨rfl, d1, rfl, d2⟩ | ⟨rfl, rfl, d1, d2, rfl, d3⟩ | ⟨rfl, rfl, rfl, d1, d2, d3⟩⟩ := key
  all_goals
    skip
    go_enter Try.func15, Try.ntmps15
    go_wp2
    refine wp_loop_rounds 4 ?_
    repeat any_goals (rw [rounds_succ]; go_wp2)
    all_goals (first | (go_returns; exact ⟨ret_i (vcode_out (by omega)).symm, by repeat (first | exact Gar.refl _ | refine Gar.drewN ?_ _ | refine Gar.drew ?_ | refine Gar.alloc ?_ _ | refine Gar.allocs ?_ _)⟩) | skip)
    refine wp_loop_rounds 4 ?_
    repeat any_goals (rw [rounds_succ]; go_wp2)
    all_goals (first | (go_returns; exact ⟨ret_i (vcode_out (by omega)).symm, by repeat (first | exact Gar.refl _ | refine Gar.drewN ?_ _ | refine Gar.drew ?_ | refine Gar.alloc ?_ _ | refine Gar.allocs ?_ _)⟩) | skip)
    all_goals (go_returns; exact ⟨ret_i (by first | exact (vcode_out (by omega)).symm | exact (vcode_ok (by omega) (by omega)).symm | exact (vcode_twice (by omega) (by omega)).symm), by repeat (first | exact Gar.refl _ | refine Gar.drewN ?_ _ | refine Gar.drew ?_ | refine Gar.alloc ?_ _ | refine Gar.allocs ?_ _)⟩)
theorem clear_any (s0 s1 s2 : Int) (m0 m1 m2 : Bool) (sp : Int) (w0 w : World) (hb : Gar w0 w) : Calls Try.prog 16 #[.agg #[.int .i64 s0, .int .i64 s1, .int .i64 s2, .bool m0, .bool m1, .bool m2, .int .i64 sp]] w fun e w' => e = .returned (.agg #[.int .i64 0, .int .i64 0, .int .i64 0, .bool false, .bool false, .bool false, .int .i64 0]) ∧ Gar w0 w' := by
  refine on_gar hb ?_
  clear hb w0
  go_enter Try.func16, Try.ntmps16
  go_wp2
  refine bodyPost_ret (by simp [results, Try.results16, go_sem]; try rfl) rfl ?_
  refine ⟨rfl, ?_⟩
  repeat (first | exact Gar.refl _ | refine Gar.drewN ?_ _ | refine Gar.drew ?_ | refine Gar.alloc ?_ _ | refine Gar.allocs ?_ _)
theorem rclear_any (s0 s1 s2 : Int) (m0 m1 m2 : Bool) (sp : Int) (w0 w : World) (hb : Gar w0 w) : Calls Try.prog 17 #[.agg #[.int .i64 s0, .int .i64 s1, .int .i64 s2, .bool m0, .bool m1, .bool m2, .int .i64 sp]] w fun e w' => e = .returned (.agg #[.int .i64 0, .int .i64 0, .int .i64 0, .bool false, .bool false, .bool false, .int .i64 0]) ∧ Gar w0 w' := by
  refine on_gar hb ?_
  clear hb w0
  go_enter Try.func17, Try.ntmps17
  go_wp2
  refine bodyPost_ret (by simp [results, Try.results17, go_sem]; try rfl) rfl ?_
  refine ⟨rfl, ?_⟩
  repeat (first | exact Gar.refl _ | refine Gar.drewN ?_ _ | refine Gar.drew ?_ | refine Gar.alloc ?_ _ | refine Gar.allocs ?_ _)
end Go.Proofs.Ytdincfemiignjaa
