/- The contract of monitor.Conditions. -/
import Derived.Test.YtlppolaoigbkeaaMonL

import Derived.Deep.RegionHeld3
import Derived.IntWalk
import Derived.Deep.DrawnRows
namespace Go.Proofs.Ytlppolaoigbkeaa
open Go.RowKit
set_option linter.unusedVariables false
set_option linter.unusedSimpArgs false
attribute [local go_sem ↓] Go.wp_at_zero Go.wp_at_succ

def cl3 (n : Int) : Int := clp n (-2097152) 2097152
theorem cl3_bd (n : Int) : -2097152 ≤ cl3 n ∧ cl3 n ≤ 2097152 := clp_bd n _ _ (by omega)
/-- The sum of the first k currents. -/
def sumK (x y z : Int) (k : Nat) : Int := (if 0 < k then cl3 x else 0) + (if 1 < k then cl3 y else 0) + (if 2 < k then cl3 z else 0)
theorem sumK_bd (x y z : Int) (k : Nat) : -6291456 ≤ sumK x y z k ∧ sumK x y z k ≤ 6291456 := by
  have := cl3_bd x
  have := cl3_bd y
  have := cl3_bd z
  unfold sumK; (repeat' split) <;> omega
def absI (n : Int) : Int := if n < 0 then -n else n
/-- The four conditions. -/
def q0 (c0 x y z : Int) : Bool := decide (c0 < absI (sumK x y z 3))
def q2 (c3 c4 sp tq : Int) : Bool := decide (sz sp 1073741824 < c3) && decide (c4 < sz tq 16777216)
def q3 (c5 fi se : Int) : Bool := decide (c5 < dst fi se)
theorem ret_c {a b c d a' b' c' d' : Bool} (e1 : a = a') (e2 : b = b') (e3 : c = c') (e4 : d = d') :
    Ending.returned (.tuple #[.agg #[.bool a, .bool b, .bool c, .bool d], .nilIface]) = .returned (.tuple #[.agg #[.bool a', .bool b', .bool c', .bool d'], .nilIface]) := by rw [e1, e2, e3, e4]
theorem ret_d {a b c d a' b' c' d' : Bool} (e1 : a = a') (e2 : b = b') (e3 : c = c') (e4 : d = d') :
    Ending.returned (.agg #[.bool a, .bool b, .bool c, .bool d]) = .returned (.agg #[.bool a', .bool b', .bool c', .bool d']) := by rw [e1, e2, e3, e4]

theorem cond_bad (c0 c1 c2 c3 c4 c5 c6 c7 c8 c9 x y z sp tq fi se : Int) (h : chkB c0 c1 c2 c3 c4 c5 c6 c7 c8 c9 = false) (w0 w : World) (hb : Gar w0 w) : Calls Try.prog 14 #[.agg #[.int .i64 c0, .int .i64 c1, .int .i64 c2, .int .i64 c3, .int .i64 c4, .int .i64 c5, .int .i64 c6, .int .i64 c7, .int .i64 c8, .int .i64 c9], .agg #[.int .i64 x, .int .i64 y, .int .i64 z, .int .i64 sp, .int .i64 tq, .int .i64 fi, .int .i64 se]] w fun e w' => e = .returned (.tuple #[.agg #[.bool false, .bool false, .bool false, .bool false], .iface 59 (.int .i64 3)]) ∧ Gar w0 w' := by
  refine on_gar hb ?_
  clear hb w0
  have K := check_bad c0 c1 c2 c3 c4 c5 c6 c7 c8 c9 h
  clear h
  go_enter Try.func14, Try.ntmps14
  go_wp2_with (go_at_call 12; (with_reducible refine (K _).mono ?_); rintro e w' ⟨rfl, rfl⟩)
  refine bodyPost_ret (by simp [results, Try.results14, go_sem]; try rfl) rfl ?_
  refine ⟨rfl, ?_⟩
  repeat (first | exact Gar.refl _ | refine Gar.drewN ?_ _ | refine Gar.drew ?_ | refine Gar.alloc ?_ _ | refine Gar.allocs ?_ _)

set_option maxHeartbeats 4000000 in
theorem cond_ok (c0 c1 c2 c3 c4 c5 c6 c7 c8 c9 x y z sp tq fi se : Int) (h : chkB c0 c1 c2 c3 c4 c5 c6 c7 c8 c9 = true) (w0 w : World) (hb : Gar w0 w) : Calls Try.prog 14 #[.agg #[.int .i64 c0, .int .i64 c1, .int .i64 c2, .int .i64 c3, .int .i64 c4, .int .i64 c5, .int .i64 c6, .int .i64 c7, .int .i64 c8, .int .i64 c9], .agg #[.int .i64 x, .int .i64 y, .int .i64 z, .int .i64 sp, .int .i64 tq, .int .i64 fi, .int .i64 se]] w fun e w' => e = .returned (.tuple #[.agg #[.bool (q0 c0 x y z), .bool (lostB c1 c2 x y z), .bool (q2 c3 c4 sp tq), .bool (q3 c5 fi se)], .nilIface]) ∧ Gar w0 w' := by
  refine on_gar hb ?_
  clear hb w0
  have K := check_ok c0 c1 c2 c3 c4 c5 c6 c7 c8 c9 h
  clear h
  have L := lost_any c0 c1 c2 c3 c4 c5 c6 c7 c8 c9 x y z
  have D := dist_any fi se
  have S1 := size_any sp 1073741824 (by omega)
  have S2 := size_any tq 16777216 (by omega)
  obtain ⟨Q0, e0⟩ : ∃ b, q0 c0 x y z = b := ⟨_, rfl⟩
  obtain ⟨Q1, e1⟩ : ∃ b, lostB c1 c2 x y z = b := ⟨_, rfl⟩
  obtain ⟨Q2, e2⟩ : ∃ b, q2 c3 c4 sp tq = b := ⟨_, rfl⟩
  obtain ⟨Q3, e3⟩ : ∃ b, q3 c5 fi se = b := ⟨_, rfl⟩
  rw [e0, e1, e2, e3]
  rw [e1] at L
  have hQ := hide (And.intro e0 (And.intro e2 e3))
  clear e0 e1 e2 e3
  have i0 : ∀ w, (Instr.index 32 (.agg #[.int .i64 x, .int .i64 y, .int .i64 z]) (.int .i64 0)).run Try.prog w = .ok (.int .i64 x) w := fun _ => by kernel_rfl
  have i1 : ∀ w, (Instr.index 32 (.agg #[.int .i64 x, .int .i64 y, .int .i64 z]) (.int .i64 1)).run Try.prog w = .ok (.int .i64 y) w := fun _ => by kernel_rfl
  have i2 : ∀ w, (Instr.index 32 (.agg #[.int .i64 x, .int .i64 y, .int .i64 z]) (.int .i64 2)).run Try.prog w = .ok (.int .i64 z) w := fun _ => by kernel_rfl
  go_enter Try.func14, Try.ntmps14
  go_wp2_with (go_at_call 12; (with_reducible refine (K _).mono ?_); rintro e w' ⟨rfl, rfl⟩)
  go_loop [7, 18] (fun s i => ∃ k : Nat, i = .int .i64 k ∧ k ≤ 3 ∧ s = .int .i64 (sumK x y z k)) (fun _ i => 3 - (intOf i).toNat)
  case atStart => exact ⟨0, rfl, by omega, rfl⟩
  case round =>
    obtain ⟨k, rfl, hk, rfl⟩ := hrel
    have sb := sumK_bd x y z k
    have key : k = 3 ∨ ∃ v, ((k = 0 ∧ v = x) ∨ (k = 1 ∧ v = y) ∨ (k = 2 ∧ v = z)) := by
      rcases (show k = 0 ∨ k = 1 ∨ k = 2 ∨ k = 3 by omega) with h | h | h | h
      · exact .inr ⟨_, .inl ⟨h, rfl⟩⟩
      · exact .inr ⟨_, .inr (.inl ⟨h, rfl⟩)⟩
      · exact .inr ⟨_, .inr (.inr ⟨h, rfl⟩)⟩
      · exact .inl h
    rcases key with rfl | ⟨v, hv⟩
    · have hU : absI (sumK x y z 3) = (if sumK x y z 3 < 0 then -(sumK x y z 3) else sumK x y z 3) := rfl
      obtain ⟨T, hT⟩ : ∃ T, sumK x y z 3 = T := ⟨_, rfl⟩
      rw [hT] at sb hU ⊢
      obtain ⟨U, hU2⟩ : ∃ U : Int, (if T < 0 then -T else T) = U := ⟨_, rfl⟩
      have mU : ∀ (ts : Array TypeId) (t : TypeId) (w : World), (Builtin.max_ ts t #[.int .i64 T, .int .i64 (-T)]).run Try.prog w = .ok (.int .i64 U) w := fun ts t w => by
        rw [← hU2]; simp [Builtin.max_, Builtin.max2]; (repeat' split) <;> omega
      have wT : IntKind.i64.wrap (-T) = -T := IntWalk.i64_in _ (by omega)
      obtain ⟨h0, h2, h3⟩ := hQ.out
      clear hQ
      have h0' : decide (c0 < U) = Q0 := by rw [← h0, ← hU2]; unfold q0; rw [hT]; rfl
      have h3' : decide (c5 < dst fi se) = Q3 := h3
      unfold q2 at h2
      generalize sz sp 1073741824 = Z1 at *
      generalize sz tq 16777216 = Z2 at *
      generalize dst fi se = DD at *
      clear hU hU2 h0 h3 hT
      rcases (show (decide (Z1 < c3) = false ∧ Q2 = false) ∨ (decide (Z1 < c3) = true ∧ decide (c4 < Z2) = Q2) by
        by_cases g : Z1 < c3
        · exact .inr ⟨decide_eq_true g, by rw [← h2]; simp [g]⟩
        · exact .inl ⟨decide_eq_false g, by rw [← h2]; simp [g]⟩) with ⟨g, rfl⟩ | ⟨g, g2⟩
      · clear h2
        go_wp2_with (fail)
        refine wp_region_noPanic ?_
        refine wp_region_held_drew (S := fun w' => w'.cell? ⟨w.heap.size, 0, none⟩ = some (.int .i64 c0) ∧ w'.cell? ⟨w.heap.size, 1, none⟩ = some (.int .i64 c1) ∧ w'.cell? ⟨w.heap.size, 2, none⟩ = some (.int .i64 c2) ∧ w'.cell? ⟨w.heap.size, 3, none⟩ = some (.int .i64 c3) ∧ w'.cell? ⟨w.heap.size, 4, none⟩ = some (.int .i64 c4) ∧ w'.cell? ⟨w.heap.size, 5, none⟩ = some (.int .i64 c5) ∧ w'.cell? ⟨w.heap.size, 6, none⟩ = some (.int .i64 c6) ∧ w'.cell? ⟨w.heap.size, 7, none⟩ = some (.int .i64 c7) ∧ w'.cell? ⟨w.heap.size, 8, none⟩ = some (.int .i64 c8) ∧ w'.cell? ⟨w.heap.size, 9, none⟩ = some (.int .i64 c9) ∧ w'.cell? ⟨w.heap.size + 1, 0, none⟩ = some (.int .i64 x) ∧ w'.cell? ⟨w.heap.size + 1, 1, none⟩ = some (.int .i64 y) ∧ w'.cell? ⟨w.heap.size + 1, 2, none⟩ = some (.int .i64 z) ∧ w'.cell? ⟨w.heap.size + 1, 3, none⟩ = some (.int .i64 sp) ∧ w'.cell? ⟨w.heap.size + 1, 4, none⟩ = some (.int .i64 tq) ∧ w'.cell? ⟨w.heap.size + 1, 5, none⟩ = some (.int .i64 fi) ∧ w'.cell? ⟨w.heap.size + 1, 6, none⟩ = some (.int .i64 se)) (by kernel_rfl) ?_ (fun hHeld => ?_)
        · (refine ⟨?_, ?_, ?_, ?_, ?_, ?_, ?_, ?_, ?_, ?_, ?_, ?_, ?_, ?_, ?_, ?_, ?_⟩ <;> first | assumption | (simp; done) | go_simp)
        refine wpAnyH_take (i := 0) (v := (.int .i64 T)) rfl (by kernel_rfl) (by kernel_rfl) (by kernel_rfl) (fun _ _ _ h => h) (Or.inl ⟨by rfl, by intro w hSw; (try dsimp only at hSw); go_simp⟩) (by assumption) ?_
        try simp only [Act.put, List.setIfInBounds_toArray, List.set_cons_zero, List.set_cons_succ]
        refine wpAnyH_take (i := 1) (v := (.int .i64 T)) rfl (by kernel_rfl) (by kernel_rfl) (by kernel_rfl) (fun _ _ _ h => h) (Or.inl ⟨by rfl, by intro w hSw; (try dsimp only at hSw); go_simp⟩) (by assumption) ?_
        try simp only [Act.put, List.setIfInBounds_toArray, List.set_cons_zero, List.set_cons_succ]
        refine wpAnyH_take (i := 2) (v := (.int .i64 (-T))) rfl (by kernel_rfl) (by kernel_rfl) (by kernel_rfl) (fun _ _ _ h => h) (Or.inl ⟨by rfl, by intro w hSw; (try dsimp only at hSw); go_simp⟩) (by assumption) ?_
        try simp only [Act.put, List.setIfInBounds_toArray, List.set_cons_zero, List.set_cons_succ]
        refine wpAnyH_take (i := 4) (v := (.pointer (some ⟨w.heap.size, 0, none⟩))) rfl (by kernel_rfl) (by kernel_rfl) (by kernel_rfl) (fun _ _ _ h => h) (Or.inl ⟨by rfl, by intro w hSw; (try dsimp only at hSw); go_simp⟩) (by assumption) ?_
        try simp only [Act.put, List.setIfInBounds_toArray, List.set_cons_zero, List.set_cons_succ]
        refine wpAnyH_take (i := 5) (v := (.int .i64 c0)) rfl (by kernel_rfl) (by kernel_rfl) (by kernel_rfl) (fun _ _ _ h => h) (Or.inl ⟨by rfl, by intro w hSw; (try dsimp only at hSw); go_simp⟩) (by assumption) ?_
        try simp only [Act.put, List.setIfInBounds_toArray, List.set_cons_zero, List.set_cons_succ]
        refine wpAnyH_take (i := 7) (v := (.agg #[.int .i64 c0, .int .i64 c1, .int .i64 c2, .int .i64 c3, .int .i64 c4, .int .i64 c5, .int .i64 c6, .int .i64 c7, .int .i64 c8, .int .i64 c9])) rfl (by kernel_rfl) (by kernel_rfl) (by kernel_rfl) (fun _ _ _ h => h) (Or.inl ⟨by rfl, by intro w hSw; (try dsimp only at hSw); go_simp⟩) (by assumption) ?_
        try simp only [Act.put, List.setIfInBounds_toArray, List.set_cons_zero, List.set_cons_succ]
        refine wpAnyH_take (i := 8) (v := (.pointer (some ⟨w.heap.size + 1, 0, none⟩))) rfl (by kernel_rfl) (by kernel_rfl) (by kernel_rfl) (fun _ _ _ h => h) (Or.inl ⟨by rfl, by intro w hSw; (try dsimp only at hSw); go_simp⟩) (by assumption) ?_
        try simp only [Act.put, List.setIfInBounds_toArray, List.set_cons_zero, List.set_cons_succ]
        refine wpAnyH_take (i := 9) (v := (.agg #[.int .i64 x, .int .i64 y, .int .i64 z])) rfl (by kernel_rfl) (by kernel_rfl) (by kernel_rfl) (fun _ _ _ h => h) (Or.inl ⟨by rfl, by intro w hSw; (try dsimp only at hSw); go_simp⟩) (by assumption) ?_
        try simp only [Act.put, List.setIfInBounds_toArray, List.set_cons_zero, List.set_cons_succ]
        refine wpAnyH_take (i := 11) (v := (.pointer (some ⟨w.heap.size + 1, 3, none⟩))) rfl (by kernel_rfl) (by kernel_rfl) (by kernel_rfl) (fun _ _ _ h => h) (Or.inl ⟨by rfl, by intro w hSw; (try dsimp only at hSw); go_simp⟩) (by assumption) ?_
        try simp only [Act.put, List.setIfInBounds_toArray, List.set_cons_zero, List.set_cons_succ]
        refine wpAnyH_take (i := 12) (v := (.int .i64 sp)) rfl (by kernel_rfl) (by kernel_rfl) (by kernel_rfl) (fun _ _ _ h => h) (Or.inl ⟨by rfl, by intro w hSw; (try dsimp only at hSw); go_simp⟩) (by assumption) ?_
        try simp only [Act.put, List.setIfInBounds_toArray, List.set_cons_zero, List.set_cons_succ]
        refine wpAnyH_take (i := 14) (v := (.pointer (some ⟨w.heap.size, 3, none⟩))) rfl (by kernel_rfl) (by kernel_rfl) (by kernel_rfl) (fun _ _ _ h => h) (Or.inl ⟨by rfl, by intro w hSw; (try dsimp only at hSw); go_simp⟩) (by assumption) ?_
        try simp only [Act.put, List.setIfInBounds_toArray, List.set_cons_zero, List.set_cons_succ]
        refine wpAnyH_take (i := 15) (v := (.int .i64 c3)) rfl (by kernel_rfl) (by kernel_rfl) (by kernel_rfl) (fun _ _ _ h => h) (Or.inl ⟨by rfl, by intro w hSw; (try dsimp only at hSw); go_simp⟩) (by assumption) ?_
        try simp only [Act.put, List.setIfInBounds_toArray, List.set_cons_zero, List.set_cons_succ]
        refine wpAnyH_take (i := 25) (v := (.pointer (some ⟨w.heap.size + 1, 5, none⟩))) rfl (by kernel_rfl) (by kernel_rfl) (by kernel_rfl) (fun _ _ _ h => h) (Or.inl ⟨by rfl, by intro w hSw; (try dsimp only at hSw); go_simp⟩) (by assumption) ?_
        try simp only [Act.put, List.setIfInBounds_toArray, List.set_cons_zero, List.set_cons_succ]
        refine wpAnyH_take (i := 26) (v := (.int .i64 fi)) rfl (by kernel_rfl) (by kernel_rfl) (by kernel_rfl) (fun _ _ _ h => h) (Or.inl ⟨by rfl, by intro w hSw; (try dsimp only at hSw); go_simp⟩) (by assumption) ?_
        try simp only [Act.put, List.setIfInBounds_toArray, List.set_cons_zero, List.set_cons_succ]
        refine wpAnyH_take (i := 27) (v := (.pointer (some ⟨w.heap.size + 1, 6, none⟩))) rfl (by kernel_rfl) (by kernel_rfl) (by kernel_rfl) (fun _ _ _ h => h) (Or.inl ⟨by rfl, by intro w hSw; (try dsimp only at hSw); go_simp⟩) (by assumption) ?_
        try simp only [Act.put, List.setIfInBounds_toArray, List.set_cons_zero, List.set_cons_succ]
        refine wpAnyH_take (i := 28) (v := (.int .i64 se)) rfl (by kernel_rfl) (by kernel_rfl) (by kernel_rfl) (fun _ _ _ h => h) (Or.inl ⟨by rfl, by intro w hSw; (try dsimp only at hSw); go_simp⟩) (by assumption) ?_
        try simp only [Act.put, List.setIfInBounds_toArray, List.set_cons_zero, List.set_cons_succ]
        refine wpAnyH_take (i := 30) (v := (.pointer (some ⟨w.heap.size, 5, none⟩))) rfl (by kernel_rfl) (by kernel_rfl) (by kernel_rfl) (fun _ _ _ h => h) (Or.inl ⟨by rfl, by intro w hSw; (try dsimp only at hSw); go_simp⟩) (by assumption) ?_
        try simp only [Act.put, List.setIfInBounds_toArray, List.set_cons_zero, List.set_cons_succ]
        refine wpAnyH_take (i := 31) (v := (.int .i64 c5)) rfl (by kernel_rfl) (by kernel_rfl) (by kernel_rfl) (fun _ _ _ h => h) (Or.inl ⟨by rfl, by intro w hSw; (try dsimp only at hSw); go_simp⟩) (by assumption) ?_
        try simp only [Act.put, List.setIfInBounds_toArray, List.set_cons_zero, List.set_cons_succ]
        refine wpAnyH_take (i := 3) (v := (.int .i64 U)) rfl (by kernel_rfl) (by kernel_rfl) (by kernel_rfl) (fun _ _ _ h => h) (Or.inl ⟨by rfl, by intro w hSw; (try dsimp only at hSw); go_simp⟩) (by assumption) ?_
        try simp only [Act.put, List.setIfInBounds_toArray, List.set_cons_zero, List.set_cons_succ]
        refine wpAnyH_take (i := 6) (v := (.bool Q0)) rfl (by kernel_rfl) (by kernel_rfl) (by kernel_rfl) (fun _ _ _ h => h) (Or.inl ⟨by rfl, by intro w hSw; (try dsimp only at hSw); go_simp⟩) (by assumption) ?_
        try simp only [Act.put, List.setIfInBounds_toArray, List.set_cons_zero, List.set_cons_succ]
        refine wpAnyH_ready (rs := [10]) (by kernel_rfl) (by simp) ?_
        refine AllReadyH.cons rfl (fun K hK => ?_) AllReadyH.nil
        go_simp
        refine (L _).mono ?_
        rintro e w' ⟨rfl, os, n, rfl⟩
        refine hK.out _ _ ?_ (fun hHeld => ?_)
        · (refine ⟨?_, ?_, ?_, ?_, ?_, ?_, ?_, ?_, ?_, ?_, ?_, ?_, ?_, ?_, ?_, ?_, ?_⟩ <;> first | assumption | (simp; done) | go_simp)
        clear hK K
        try simp only [Act.put, List.setIfInBounds_toArray, List.set_cons_zero, List.set_cons_succ]
        refine wpAnyH_ready (rs := [13]) (by kernel_rfl) (by simp) ?_
        refine AllReadyH.cons rfl (fun K hK => ?_) AllReadyH.nil
        go_simp
        refine (S1 _).mono ?_
        rintro e w' ⟨rfl, rfl⟩
        refine hK.out _ _ ?_ (fun hHeld => ?_)
        · (refine ⟨?_, ?_, ?_, ?_, ?_, ?_, ?_, ?_, ?_, ?_, ?_, ?_, ?_, ?_, ?_, ?_, ?_⟩ <;> first | assumption | (simp; done) | go_simp)
        clear hK K
        try simp only [Act.put, List.setIfInBounds_toArray, List.set_cons_zero, List.set_cons_succ]
        refine wpAnyH_take (i := 16) (v := (.bool false)) rfl (by kernel_rfl) (by kernel_rfl) (by kernel_rfl) (fun _ _ _ h => h) (Or.inl ⟨by rfl, by intro w hSw; (try dsimp only at hSw); go_simp⟩) (by assumption) ?_
        try simp only [Act.put, List.setIfInBounds_toArray, List.set_cons_zero, List.set_cons_succ]
        refine wpAnyH_take (i := 17) (v := (.bool false)) rfl (by kernel_rfl) (by kernel_rfl) (by kernel_rfl) (fun _ _ _ h => h) (Or.inl ⟨by rfl, by intro w hSw; (try dsimp only at hSw); go_simp⟩) (by assumption) ?_
        try simp only [Act.put, List.setIfInBounds_toArray, List.set_cons_zero, List.set_cons_succ]
        refine wpAnyH_take (i := 18) (v := undef) rfl (by kernel_rfl) (by kernel_rfl) (by kernel_rfl) (fun _ _ _ h => h) (Or.inr ⟨by rfl, rfl⟩) (by assumption) ?_
        try simp only [Act.put, List.setIfInBounds_toArray, List.set_cons_zero, List.set_cons_succ]
        refine wpAnyH_take (i := 19) (v := undef) rfl (by kernel_rfl) (by kernel_rfl) (by kernel_rfl) (fun _ _ _ h => h) (Or.inr ⟨by rfl, rfl⟩) (by assumption) ?_
        try simp only [Act.put, List.setIfInBounds_toArray, List.set_cons_zero, List.set_cons_succ]
        refine wpAnyH_take (i := 20) (v := undef) rfl (by kernel_rfl) (by kernel_rfl) (by kernel_rfl) (fun _ _ _ h => h) (Or.inr ⟨by rfl, rfl⟩) (by assumption) ?_
        try simp only [Act.put, List.setIfInBounds_toArray, List.set_cons_zero, List.set_cons_succ]
        refine wpAnyH_take (i := 21) (v := undef) rfl (by kernel_rfl) (by kernel_rfl) (by kernel_rfl) (fun _ _ _ h => h) (Or.inr ⟨by rfl, rfl⟩) (by assumption) ?_
        try simp only [Act.put, List.setIfInBounds_toArray, List.set_cons_zero, List.set_cons_succ]
        refine wpAnyH_take (i := 22) (v := undef) rfl (by kernel_rfl) (by kernel_rfl) (by kernel_rfl) (fun _ _ _ h => h) (Or.inr ⟨by rfl, rfl⟩) (by assumption) ?_
        try simp only [Act.put, List.setIfInBounds_toArray, List.set_cons_zero, List.set_cons_succ]
        refine wpAnyH_take (i := 23) (v := undef) rfl (by kernel_rfl) (by kernel_rfl) (by kernel_rfl) (fun _ _ _ h => h) (Or.inr ⟨by rfl, rfl⟩) (by assumption) ?_
        try simp only [Act.put, List.setIfInBounds_toArray, List.set_cons_zero, List.set_cons_succ]
        refine wpAnyH_take (i := 24) (v := (.bool false)) rfl (by kernel_rfl) (by kernel_rfl) (by kernel_rfl) (fun _ _ _ h => h) (Or.inl ⟨by rfl, by intro w hSw; (try dsimp only at hSw); go_simp⟩) (by assumption) ?_
        try simp only [Act.put, List.setIfInBounds_toArray, List.set_cons_zero, List.set_cons_succ]
        refine wpAnyH_ready (rs := [29]) (by kernel_rfl) (by simp) ?_
        refine AllReadyH.cons rfl (fun K hK => ?_) AllReadyH.nil
        go_simp
        refine (D _).mono ?_
        rintro e w' ⟨rfl, rfl⟩
        refine hK.out _ _ ?_ (fun hHeld => ?_)
        · (refine ⟨?_, ?_, ?_, ?_, ?_, ?_, ?_, ?_, ?_, ?_, ?_, ?_, ?_, ?_, ?_, ?_, ?_⟩ <;> first | assumption | (simp; done) | go_simp)
        clear hK K
        try simp only [Act.put, List.setIfInBounds_toArray, List.set_cons_zero, List.set_cons_succ]
        refine wpAnyH_take (i := 32) (v := (.bool Q3)) rfl (by kernel_rfl) (by kernel_rfl) (by kernel_rfl) (fun _ _ _ h => h) (Or.inl ⟨by rfl, by intro w hSw; (try dsimp only at hSw); go_simp⟩) (by assumption) ?_
        try simp only [Act.put, List.setIfInBounds_toArray, List.set_cons_zero, List.set_cons_succ]
        refine wpAnyH_take (i := 33) (v := (.agg #[.bool Q0, .bool Q1, .bool false, .bool Q3])) rfl (by kernel_rfl) (by kernel_rfl) (by kernel_rfl) (fun _ _ _ h => h) (Or.inl ⟨by rfl, by intro w hSw; (try dsimp only at hSw); go_simp⟩) (by assumption) ?_
        try simp only [Act.put, List.setIfInBounds_toArray, List.set_cons_zero, List.set_cons_succ]
        refine wpAnyH_ready (rs := [34]) (by kernel_rfl) (by simp) ?_
        refine AllReadyH.cons rfl (fun K hK => ?_) AllReadyH.nil
        go_simp
        refine hK.out _ _ ?_ (fun hHeld => ?_)
        · (refine ⟨?_, ?_, ?_, ?_, ?_, ?_, ?_, ?_, ?_, ?_, ?_, ?_, ?_, ?_, ?_, ?_, ?_⟩ <;> first | assumption | (simp; done) | go_simp)
        clear hK K
        try simp only [Act.put, List.setIfInBounds_toArray, List.set_cons_zero, List.set_cons_succ]
        refine wpAnyH_take (i := 35) (v := .nilIface) rfl (by kernel_rfl) (by kernel_rfl) (by kernel_rfl) (fun _ _ _ h => h) (Or.inl ⟨by rfl, by intro w hSw; (try dsimp only at hSw); go_simp⟩) (by assumption) ?_
        try simp only [Act.put, List.setIfInBounds_toArray, List.set_cons_zero, List.set_cons_succ]
        simp only [List.getElem_toArray, List.getElem_cons_zero, List.getElem_cons_succ, List.set_cons_zero, List.set_cons_succ]
        refine wpAnyH_done (by kernel_rfl) ?_ _
        refine NoPanic.normal ?_
        go_wp2_with (fail)
        refine bodyPost_ret (by simp [results, Try.results14, go_sem]; try rfl) rfl ?_
        refine ⟨rfl, ?_⟩
        repeat (first | exact Gar.refl _ | refine Gar.drewN ?_ _ | refine Gar.drew ?_ | refine Gar.alloc ?_ _ | refine Gar.allocs ?_ _)
      · clear h2
        go_wp2_with (fail)
        go_region_held3 (fun w' => w'.cell? ⟨w.heap.size, 0, none⟩ = some (.int .i64 c0) ∧ w'.cell? ⟨w.heap.size, 1, none⟩ = some (.int .i64 c1) ∧ w'.cell? ⟨w.heap.size, 2, none⟩ = some (.int .i64 c2) ∧ w'.cell? ⟨w.heap.size, 3, none⟩ = some (.int .i64 c3) ∧ w'.cell? ⟨w.heap.size, 4, none⟩ = some (.int .i64 c4) ∧ w'.cell? ⟨w.heap.size, 5, none⟩ = some (.int .i64 c5) ∧ w'.cell? ⟨w.heap.size, 6, none⟩ = some (.int .i64 c6) ∧ w'.cell? ⟨w.heap.size, 7, none⟩ = some (.int .i64 c7) ∧ w'.cell? ⟨w.heap.size, 8, none⟩ = some (.int .i64 c8) ∧ w'.cell? ⟨w.heap.size, 9, none⟩ = some (.int .i64 c9) ∧ w'.cell? ⟨w.heap.size + 1, 0, none⟩ = some (.int .i64 x) ∧ w'.cell? ⟨w.heap.size + 1, 1, none⟩ = some (.int .i64 y) ∧ w'.cell? ⟨w.heap.size + 1, 2, none⟩ = some (.int .i64 z) ∧ w'.cell? ⟨w.heap.size + 1, 3, none⟩ = some (.int .i64 sp) ∧ w'.cell? ⟨w.heap.size + 1, 4, none⟩ = some (.int .i64 tq) ∧ w'.cell? ⟨w.heap.size + 1, 5, none⟩ = some (.int .i64 fi) ∧ w'.cell? ⟨w.heap.size + 1, 6, none⟩ = some (.int .i64 se))
          ((refine ⟨?_, ?_, ?_, ?_, ?_, ?_, ?_, ?_, ?_, ?_, ?_, ?_, ?_, ?_, ?_, ?_, ?_⟩ <;> first | assumption | (simp; done) | go_simp))
          (first
            | (go_at_call 23; (with_reducible refine (L _).mono ?_); rintro e w' ⟨rfl, os, n, rfl⟩)
            | (go_at_call 24; (first | (with_reducible refine (S1 _).mono ?_) | (with_reducible refine (S2 _).mono ?_)); rintro e w' ⟨rfl, rfl⟩)
            | (go_at_call 25; (with_reducible refine (D _).mono ?_); rintro e w' ⟨rfl, rfl⟩))
        all_goals
          go_wp2_with (fail)
          refine bodyPost_ret (by simp [results, Try.results14, go_sem]; try rfl) rfl ?_
          refine ⟨rfl, ?_⟩
          repeat (first | exact Gar.refl _ | refine Gar.drewN ?_ _ | refine Gar.drew ?_ | refine Gar.alloc ?_ _ | refine Gar.allocs ?_ _)
    · have st : sumK x y z (k + 1) = sumK x y z k + cl3 v := by
        rcases hv with ⟨rfl, rfl⟩ | ⟨rfl, rfl⟩ | ⟨rfl, rfl⟩ <;> simp [sumK]
      have hs := hide st
      clear st
      rcases hv with ⟨rfl, rfl⟩ | ⟨rfl, rfl⟩ | ⟨rfl, rfl⟩
      all_goals
        go_wp2_with (fail)
        all_goals
          go_round
          case rel => exact ⟨_ + 1, by go_num, by omega, by rw [hs.out]; congr 1; unfold cl3 clp; (repeat' split) <;> omega⟩
          case measure => first | (simp [intOf]; done) | (simp [intOf]; omega)
end Go.Proofs.Ytlppolaoigbkeaa
