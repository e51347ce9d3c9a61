/- The contracts of the reference's clip, size, Distance and Conditions. -/
import Derived.Test.YtlppolaoigbkeaaMonC
import Derived.Test.YtlppolaoigbkeaaMrg
import Derived.Test.YtlppolaoigbkeaaLtt

namespace Go.Proofs.Ytlppolaoigbkeaa
open Go.RowKit
set_option linter.unusedVariables false
set_option linter.unusedSimpArgs false
attribute [local go_sem ↓] Go.wp_at_zero Go.wp_at_succ

theorem rclip_any (n lo hi : Int) (h : lo ≤ hi) (w : World) : Calls Try.prog 26 #[.int .i64 n, .int .i64 lo, .int .i64 hi] w fun e w' => e = .returned (.int .i64 (clp n lo hi)) ∧ w = w' := by
  go_enter Try.func26, Try.ntmps26
  go_wp2
  all_goals
    go_returns
    exact ⟨ret_i (by unfold clp; (repeat' split) <;> omega), rfl⟩
theorem rsize_any (n m : Int) (h : 0 ≤ m ∧ m ≤ 1099511627776) (w : World) : Calls Try.prog 27 #[.int .i64 n, .int .i64 m] w fun e w' => e = .returned (.int .i64 (sz n m)) ∧ w = w' := by
  have R := rclip_any n (-m) m (by omega)
  have b := clp_bd n (-m) m (by omega)
  have e : sz n m = (if clp n (-m) m < 0 then -clp n (-m) m else clp n (-m) m) := by unfold sz clp; (repeat' split) <;> omega
  rw [e]
  generalize clp n (-m) m = k at *
  clear e
  by_cases g : k < 0
  · go_enter Try.func27, Try.ntmps27
    go_wp2_with (go_at_call 26; (with_reducible refine (R _).mono ?_); rintro e w' ⟨rfl, rfl⟩)
    all_goals
      go_returns
      exact ⟨ret_int (by (repeat' split) <;> omega), rfl⟩
  · go_enter Try.func27, Try.ntmps27
    go_wp2_with (go_at_call 26; (with_reducible refine (R _).mono ?_); rintro e w' ⟨rfl, rfl⟩)
    all_goals
      go_returns
      exact ⟨ret_int (by (repeat' split) <;> omega), rfl⟩
theorem rdist_any (a b : Int) (w : World) : Calls Try.prog 28 #[.int .i64 a, .int .i64 b] w fun e w' => e = .returned (.int .i64 (dst a b)) ∧ w = w' := by
  have t1 := tmod_bd a
  have t2 := tmod_bd b
  have c1 := tmod_cases a 65536 (by omega)
  have c2 := tmod_cases b 65536 (by omega)
  have c3 := tmod_cases (a.tmod 65536 - b.tmod 65536) 65536 (by omega)
  have t3 := tmod_bd (a.tmod 65536 - b.tmod 65536)
  have hd : dst a b = if (a.tmod 65536 - b.tmod 65536).tmod 65536 < 0 then (if (a.tmod 65536 - b.tmod 65536).tmod 65536 + 65536 ≤ 32768 then (a.tmod 65536 - b.tmod 65536).tmod 65536 + 65536 else 65536 - ((a.tmod 65536 - b.tmod 65536).tmod 65536 + 65536)) else (if (a.tmod 65536 - b.tmod 65536).tmod 65536 ≤ 32768 then (a.tmod 65536 - b.tmod 65536).tmod 65536 else 65536 - (a.tmod 65536 - b.tmod 65536).tmod 65536) := by
    unfold dst dif
    (repeat' split) <;> omega
  rw [hd]
  clear c1 c2 c3 hd
  obtain ⟨p, hp⟩ : ∃ p, a.tmod 65536 = p := ⟨_, rfl⟩
  obtain ⟨q, hq⟩ : ∃ p, b.tmod 65536 = p := ⟨_, rfl⟩
  obtain ⟨r, hr⟩ : ∃ r, (p - q).tmod 65536 = r := ⟨_, rfl⟩
  rw [hp] at t1 t3 ⊢
  rw [hq] at t2 t3 ⊢
  rw [hr] at t3 ⊢
  by_cases g : r < 0
  all_goals
    go_enter Try.func28, Try.ntmps28
    go_wp2
    all_goals
      go_returns
      exact ⟨ret_int (by (repeat' split) <;> omega), rfl⟩

/-- Has one of the first k currents lost its way? -/
def headB (s0 s1 s2 g0 g1 g2 : Bool) (k : Nat) : Bool := (decide (0 < k) && rowB s0 g1 g2) || (decide (1 < k) && rowB s1 g0 g2) || (decide (2 < k) && rowB s2 g0 g1)
theorem headB_all (s0 s1 s2 g0 g1 g2 : Bool) : headB s0 s1 s2 g0 g1 g2 3 = tailB s0 s1 s2 g0 g1 g2 0 := by simp [headB, tailB]

set_option maxHeartbeats 8000000 in
theorem rcond_ok (c0 c1 c2 c3 c4 c5 c6 c7 c8 c9 x y z sp tq fi se : Int) (w0 w : World) (hb : Gar w0 w) : Calls Try.prog 15 #[.agg #[.int .i64 c0, .int .i64 c1, .int .i64 c2, .int .i64 c3, .int .i64 c4, .int .i64 c5, .int .i64 c6, .int .i64 c7, .int .i64 c8, .int .i64 c9], .agg #[.int .i64 x, .int .i64 y, .int .i64 z, .int .i64 sp, .int .i64 tq, .int .i64 fi, .int .i64 se]] w fun e w' => e = .returned (.agg #[.bool (q0 c0 x y z), .bool (lostB c1 c2 x y z), .bool (q2 c3 c4 sp tq), .bool (q3 c5 fi se)]) ∧ Gar w0 w' := by
  refine on_gar hb ?_
  clear hb w0
  have D := rdist_any fi se
  have S1 := rsize_any sp 1073741824 (by omega)
  have S2 := rsize_any tq 16777216 (by omega)
  obtain ⟨Q0, e0⟩ : ∃ b, q0 c0 x y z = b := ⟨_, rfl⟩
  obtain ⟨Q1, e1⟩ : ∃ b, lostB c1 c2 x y z = b := ⟨_, rfl⟩
  obtain ⟨Q2, e2⟩ : ∃ b, q2 c3 c4 sp tq = b := ⟨_, rfl⟩
  obtain ⟨Q3, e3⟩ : ∃ b, q3 c5 fi se = b := ⟨_, rfl⟩
  rw [e0, e1, e2, e3]
  have hQ := hide (And.intro e0 (And.intro e1 (And.intro e2 e3)))
  clear e0 e1 e2 e3
  have K1 := rclip_any x (-2097152) 2097152 (by omega)
  have K2 := rclip_any y (-2097152) 2097152 (by omega)
  have K3 := rclip_any z (-2097152) 2097152 (by omega)
  obtain ⟨HB, hHB⟩ : ∃ HB, headB (decide (sz x 2097152 ≤ c1)) (decide (sz y 2097152 ≤ c1)) (decide (sz z 2097152 ≤ c1)) (decide (c2 < sz x 2097152)) (decide (c2 < sz y 2097152)) (decide (c2 < sz z 2097152)) = HB := ⟨_, rfl⟩
  have h0 : HB 0 = false := by rw [← hHB]; rfl
  have h3 : HB 3 = lostB c1 c2 x y z := by rw [← hHB, headB_all]; rfl
  have hh := hide hHB
  have h3h := hide h3
  clear hHB h3
  go_enter Try.func15, Try.ntmps15
  go_wp2
  go_loopw [6, 7] (fun s i wr => ∃ k n : Nat, i = .int .i64 k ∧ k ≤ 3 ∧ s = .int .i64 (sumK x y z k) ∧ (∃ bq, HB k = bq ∧ wr = (((((w.alloc (.cells #[.int .i64 c0, .int .i64 c1, .int .i64 c2, .int .i64 c3, .int .i64 c4, .int .i64 c5, .int .i64 c6, .int .i64 c7, .int .i64 c8, .int .i64 c9] 24)).alloc (.cells #[.int .i64 x, .int .i64 y, .int .i64 z, .int .i64 sp, .int .i64 tq, .int .i64 fi, .int .i64 se] 34)).alloc (.cells #[.bool false, .bool false, .bool false, .bool false] 35)).alloc (.cells #[.bool false, .bool (bq), .bool false, .bool false] 35))).drewN n)) (fun _ i _ => 3 - (intOf i).toNat)
  case atStart => exact ⟨0, 0, rfl, by omega, rfl, false, h0, rfl⟩
  case round =>
    obtain ⟨k, n, rfl, hk, rfl, b, hb, rfl⟩ := hrel
    have sb := sumK_bd x y z k
    clear h0
    rcases (show k = 0 ∨ k = 1 ∨ k = 2 ∨ k = 3 by omega) with rfl | rfl | rfl | rfl
    · have hs := hide (show sumK x y z 1 = sumK x y z 0 + cl3 x by simp [sumK])
      obtain ⟨b', hb'⟩ : ∃ b, HB 1 = b := ⟨_, rfl⟩
      have hst : b' = (b || (decide (sz x 2097152 ≤ c1) && (decide (c2 < sz y 2097152) || decide (c2 < sz z 2097152)))) := by
        rw [← hb, ← hb', ← hh.out]; simp [headB, rowB]
      have hB := hide (And.intro hb' hst)
      clear hb hb' hst
      have kb := cl3_bd x
      have Kv : ∀ w, Calls Try.prog 26 #[.int .i64 x, .int .i64 (-2097152), .int .i64 2097152] w fun e w' => e = .returned (.int .i64 (cl3 x)) ∧ w = w' := K1
      by_cases g : sz x 2097152 ≤ c1
      · have d : decide (sz x 2097152 ≤ c1) = true := decide_eq_true g
        go_wp2_with (go_at_call 26; (with_reducible refine (Kv _).mono ?_); rintro e w' ⟨rfl, rfl⟩)
        refine wp_loop_rounds 4 ?_
        repeat any_goals (rw [rounds_succ]; go_wp2; (try (go_quiet ((go_at_call 27; (first | with_reducible exact quiet_eq2 (rsize_any _ _ (by omega) _) | with_reducible exact quiet_eq (rsize_any _ _ (by omega) _)))); go_wp2)))
        all_goals
          go_roundw
          case rel => exact ⟨1, _, rfl, by omega, by rw [hs.out], _, by rw [hB.out.1, hB.out.2]; first | (simp [*]; done) | (simp [*]; omega), rfl⟩
          case measure => first | (simp; done) | (simp [intOf]; done) | (simp [intOf]; omega)
      · have d : decide (sz x 2097152 ≤ c1) = false := decide_eq_false g
        go_wp2_with (go_at_call 26; (with_reducible refine (Kv _).mono ?_); rintro e w' ⟨rfl, rfl⟩)
        refine wp_loop_rounds 4 ?_
        repeat any_goals (rw [rounds_succ]; go_wp2; (try (go_quiet ((go_at_call 27; (first | with_reducible exact quiet_eq2 (rsize_any _ _ (by omega) _) | with_reducible exact quiet_eq (rsize_any _ _ (by omega) _)))); go_wp2)))
        all_goals
          go_roundw
          case rel => exact ⟨1, _, rfl, by omega, by rw [hs.out], _, by rw [hB.out.1, hB.out.2]; first | (simp [*]; done) | (simp [*]; omega), rfl⟩
          case measure => first | (simp; done) | (simp [intOf]; done) | (simp [intOf]; omega)
    · have hs := hide (show sumK x y z 2 = sumK x y z 1 + cl3 y by simp [sumK])
      obtain ⟨b', hb'⟩ : ∃ b, HB 2 = b := ⟨_, rfl⟩
      have hst : b' = (b || (decide (sz y 2097152 ≤ c1) && (decide (c2 < sz x 2097152) || decide (c2 < sz z 2097152)))) := by
        rw [← hb, ← hb', ← hh.out]; simp [headB, rowB]
      have hB := hide (And.intro hb' hst)
      clear hb hb' hst
      have kb := cl3_bd y
      have Kv : ∀ w, Calls Try.prog 26 #[.int .i64 y, .int .i64 (-2097152), .int .i64 2097152] w fun e w' => e = .returned (.int .i64 (cl3 y)) ∧ w = w' := K2
      by_cases g : sz y 2097152 ≤ c1
      · have d : decide (sz y 2097152 ≤ c1) = true := decide_eq_true g
        go_wp2_with (go_at_call 26; (with_reducible refine (Kv _).mono ?_); rintro e w' ⟨rfl, rfl⟩)
        refine wp_loop_rounds 4 ?_
        repeat any_goals (rw [rounds_succ]; go_wp2; (try (go_quiet ((go_at_call 27; (first | with_reducible exact quiet_eq2 (rsize_any _ _ (by omega) _) | with_reducible exact quiet_eq (rsize_any _ _ (by omega) _)))); go_wp2)))
        all_goals
          go_roundw
          case rel => exact ⟨2, _, rfl, by omega, by rw [hs.out], _, by rw [hB.out.1, hB.out.2]; first | (simp [*]; done) | (simp [*]; omega), rfl⟩
          case measure => first | (simp; done) | (simp [intOf]; done) | (simp [intOf]; omega)
      · have d : decide (sz y 2097152 ≤ c1) = false := decide_eq_false g
        go_wp2_with (go_at_call 26; (with_reducible refine (Kv _).mono ?_); rintro e w' ⟨rfl, rfl⟩)
        refine wp_loop_rounds 4 ?_
        repeat any_goals (rw [rounds_succ]; go_wp2; (try (go_quiet ((go_at_call 27; (first | with_reducible exact quiet_eq2 (rsize_any _ _ (by omega) _) | with_reducible exact quiet_eq (rsize_any _ _ (by omega) _)))); go_wp2)))
        all_goals
          go_roundw
          case rel => exact ⟨2, _, rfl, by omega, by rw [hs.out], _, by rw [hB.out.1, hB.out.2]; first | (simp [*]; done) | (simp [*]; omega), rfl⟩
          case measure => first | (simp; done) | (simp [intOf]; done) | (simp [intOf]; omega)
    · have hs := hide (show sumK x y z 3 = sumK x y z 2 + cl3 z by simp [sumK])
      obtain ⟨b', hb'⟩ : ∃ b, HB 3 = b := ⟨_, rfl⟩
      have hst : b' = (b || (decide (sz z 2097152 ≤ c1) && (decide (c2 < sz x 2097152) || decide (c2 < sz y 2097152)))) := by
        rw [← hb, ← hb', ← hh.out]; simp [headB, rowB]
      have hB := hide (And.intro hb' hst)
      clear hb hb' hst
      have kb := cl3_bd z
      have Kv : ∀ w, Calls Try.prog 26 #[.int .i64 z, .int .i64 (-2097152), .int .i64 2097152] w fun e w' => e = .returned (.int .i64 (cl3 z)) ∧ w = w' := K3
      by_cases g : sz z 2097152 ≤ c1
      · have d : decide (sz z 2097152 ≤ c1) = true := decide_eq_true g
        go_wp2_with (go_at_call 26; (with_reducible refine (Kv _).mono ?_); rintro e w' ⟨rfl, rfl⟩)
        refine wp_loop_rounds 4 ?_
        repeat any_goals (rw [rounds_succ]; go_wp2; (try (go_quiet ((go_at_call 27; (first | with_reducible exact quiet_eq2 (rsize_any _ _ (by omega) _) | with_reducible exact quiet_eq (rsize_any _ _ (by omega) _)))); go_wp2)))
        all_goals
          go_roundw
          case rel => exact ⟨3, _, rfl, by omega, by rw [hs.out], _, by rw [hB.out.1, hB.out.2]; first | (simp [*]; done) | (simp [*]; omega), rfl⟩
          case measure => first | (simp; done) | (simp [intOf]; done) | (simp [intOf]; omega)
      · have d : decide (sz z 2097152 ≤ c1) = false := decide_eq_false g
        go_wp2_with (go_at_call 26; (with_reducible refine (Kv _).mono ?_); rintro e w' ⟨rfl, rfl⟩)
        refine wp_loop_rounds 4 ?_
        repeat any_goals (rw [rounds_succ]; go_wp2; (try (go_quiet ((go_at_call 27; (first | with_reducible exact quiet_eq2 (rsize_any _ _ (by omega) _) | with_reducible exact quiet_eq (rsize_any _ _ (by omega) _)))); go_wp2)))
        all_goals
          go_roundw
          case rel => exact ⟨3, _, rfl, by omega, by rw [hs.out], _, by rw [hB.out.1, hB.out.2]; first | (simp [*]; done) | (simp [*]; omega), rfl⟩
          case measure => first | (simp; done) | (simp [intOf]; done) | (simp [intOf]; omega)
    · clear K1 K2 K3
      obtain ⟨h0, h1, h2, h3⟩ := hQ.out
      obtain rfl : b = Q1 := by rw [← hb, h3h.out, h1]
      obtain ⟨T, hT⟩ : ∃ T, sumK x y z 3 = T := ⟨_, rfl⟩
      rw [hT] at sb ⊢
      obtain ⟨U, hU2⟩ : ∃ U : Int, (if T < 0 then -T else T) = U := ⟨_, rfl⟩
      have mU : ∀ (ts : Array TypeId) (t : TypeId) (w : World), (Builtin.max_ ts t #[.int .i64 T, .int .i64 (-T)]).run Try.prog w = .ok (.int .i64 U) w := fun ts t w => by
        rw [← hU2]; simp [Builtin.max_, Builtin.max2]; (repeat' split) <;> omega
      have h0' : decide (c0 < U) = Q0 := by rw [← h0, ← hU2]; unfold q0; rw [hT]; rfl
      have h3' : decide (c5 < dst fi se) = Q3 := h3
      unfold q2 at h2
      clear h1 hQ h0 h3 hT hU2 hb
      generalize sz sp 1073741824 = Z1 at *
      generalize sz tq 16777216 = Z2 at *
      generalize dst fi se = DD at *
      rcases (show (decide (Z1 < c3) = false ∧ Q2 = false) ∨ (decide (Z1 < c3) = true ∧ decide (c4 < Z2) = Q2) by
        by_cases g : Z1 < c3
        · exact .inr ⟨decide_eq_true g, by rw [← h2]; simp [g]⟩
        · exact .inl ⟨decide_eq_false g, by rw [← h2]; simp [g]⟩) with ⟨g, rfl⟩ | ⟨g, g2⟩
      · clear h2
        go_wp2_with (fail)
        refine wp_region_noPanic ?_
        refine wp_region_held_drew (S := fun w' => w'.cell? ⟨w.heap.size, 3, none⟩ = some (.int .i64 c3) ∧ w'.cell? ⟨w.heap.size, 4, none⟩ = some (.int .i64 c4) ∧ w'.cell? ⟨w.heap.size, 5, none⟩ = some (.int .i64 c5) ∧ w'.cell? ⟨w.heap.size + 1, 3, none⟩ = some (.int .i64 sp) ∧ w'.cell? ⟨w.heap.size + 1, 4, none⟩ = some (.int .i64 tq) ∧ w'.cell? ⟨w.heap.size + 1, 5, none⟩ = some (.int .i64 fi) ∧ w'.cell? ⟨w.heap.size + 1, 6, none⟩ = some (.int .i64 se)) (by kernel_rfl) ?_ (fun hHeld => ?_)
        · (refine ⟨?_, ?_, ?_, ?_, ?_, ?_, ?_⟩ <;> first | assumption | (simp; done) | go_simp)
        refine wpAnyH_take (i := 0) (v := (.pointer (some ⟨w.heap.size + 1, 3, none⟩))) rfl (by kernel_rfl) (by kernel_rfl) (by kernel_rfl) (fun _ _ _ h => h) (Or.inl ⟨by rfl, by intro w hSw; (try dsimp only at hSw); go_simp⟩) (by assumption) ?_
        try simp only [Act.put, List.setIfInBounds_toArray, List.set_cons_zero, List.set_cons_succ]
        refine wpAnyH_take (i := 1) (v := (.int .i64 sp)) rfl (by kernel_rfl) (by kernel_rfl) (by kernel_rfl) (fun _ _ _ h => h) (Or.inl ⟨by rfl, by intro w hSw; (try dsimp only at hSw); go_simp⟩) (by assumption) ?_
        try simp only [Act.put, List.setIfInBounds_toArray, List.set_cons_zero, List.set_cons_succ]
        refine wpAnyH_take (i := 3) (v := (.pointer (some ⟨w.heap.size, 3, none⟩))) rfl (by kernel_rfl) (by kernel_rfl) (by kernel_rfl) (fun _ _ _ h => h) (Or.inl ⟨by rfl, by intro w hSw; (try dsimp only at hSw); go_simp⟩) (by assumption) ?_
        try simp only [Act.put, List.setIfInBounds_toArray, List.set_cons_zero, List.set_cons_succ]
        refine wpAnyH_take (i := 4) (v := (.int .i64 c3)) rfl (by kernel_rfl) (by kernel_rfl) (by kernel_rfl) (fun _ _ _ h => h) (Or.inl ⟨by rfl, by intro w hSw; (try dsimp only at hSw); go_simp⟩) (by assumption) ?_
        try simp only [Act.put, List.setIfInBounds_toArray, List.set_cons_zero, List.set_cons_succ]
        refine wpAnyH_ready (rs := [2]) (by kernel_rfl) (by simp) ?_
        refine AllReadyH.cons rfl (fun K hK => ?_) AllReadyH.nil
        go_simp
        refine (S1 _).mono ?_
        rintro e w' ⟨rfl, rfl⟩
        refine hK.out _ _ ?_ (fun hHeld => ?_)
        · (refine ⟨?_, ?_, ?_, ?_, ?_, ?_, ?_⟩ <;> first | assumption | (simp; done) | go_simp)
        clear hK K
        try simp only [Act.put, List.setIfInBounds_toArray, List.set_cons_zero, List.set_cons_succ]
        refine wpAnyH_take (i := 5) (v := (.bool false)) rfl (by kernel_rfl) (by kernel_rfl) (by kernel_rfl) (fun _ _ _ h => h) (Or.inl ⟨by rfl, by intro w hSw; (try dsimp only at hSw); go_simp⟩) (by assumption) ?_
        try simp only [Act.put, List.setIfInBounds_toArray, List.set_cons_zero, List.set_cons_succ]
        refine wpAnyH_take (i := 6) (v := (.bool false)) rfl (by kernel_rfl) (by kernel_rfl) (by kernel_rfl) (fun _ _ _ h => h) (Or.inl ⟨by rfl, by intro w hSw; (try dsimp only at hSw); go_simp⟩) (by assumption) ?_
        try simp only [Act.put, List.setIfInBounds_toArray, List.set_cons_zero, List.set_cons_succ]
        refine wpAnyH_take (i := 7) (v := undef) rfl (by kernel_rfl) (by kernel_rfl) (by kernel_rfl) (fun _ _ _ h => h) (Or.inr ⟨by rfl, rfl⟩) (by assumption) ?_
        try simp only [Act.put, List.setIfInBounds_toArray, List.set_cons_zero, List.set_cons_succ]
        refine wpAnyH_take (i := 8) (v := undef) rfl (by kernel_rfl) (by kernel_rfl) (by kernel_rfl) (fun _ _ _ h => h) (Or.inr ⟨by rfl, rfl⟩) (by assumption) ?_
        try simp only [Act.put, List.setIfInBounds_toArray, List.set_cons_zero, List.set_cons_succ]
        refine wpAnyH_take (i := 9) (v := undef) rfl (by kernel_rfl) (by kernel_rfl) (by kernel_rfl) (fun _ _ _ h => h) (Or.inr ⟨by rfl, rfl⟩) (by assumption) ?_
        try simp only [Act.put, List.setIfInBounds_toArray, List.set_cons_zero, List.set_cons_succ]
        refine wpAnyH_take (i := 10) (v := undef) rfl (by kernel_rfl) (by kernel_rfl) (by kernel_rfl) (fun _ _ _ h => h) (Or.inr ⟨by rfl, rfl⟩) (by assumption) ?_
        try simp only [Act.put, List.setIfInBounds_toArray, List.set_cons_zero, List.set_cons_succ]
        refine wpAnyH_take (i := 11) (v := undef) rfl (by kernel_rfl) (by kernel_rfl) (by kernel_rfl) (fun _ _ _ h => h) (Or.inr ⟨by rfl, rfl⟩) (by assumption) ?_
        try simp only [Act.put, List.setIfInBounds_toArray, List.set_cons_zero, List.set_cons_succ]
        refine wpAnyH_take (i := 12) (v := undef) rfl (by kernel_rfl) (by kernel_rfl) (by kernel_rfl) (fun _ _ _ h => h) (Or.inr ⟨by rfl, rfl⟩) (by assumption) ?_
        try simp only [Act.put, List.setIfInBounds_toArray, List.set_cons_zero, List.set_cons_succ]
        refine wpAnyH_take (i := 13) (v := (.bool false)) rfl (by kernel_rfl) (by kernel_rfl) (by kernel_rfl) (fun _ _ _ h => h) (Or.inl ⟨by rfl, by intro w hSw; (try dsimp only at hSw); go_simp⟩) (by assumption) ?_
        try simp only [Act.put, List.setIfInBounds_toArray, List.set_cons_zero, List.set_cons_succ]
        refine wpAnyH_take (i := 14) (v := (.pointer (some ⟨w.heap.size + 1 + 1 + 1, 2, none⟩))) rfl (by kernel_rfl) (by kernel_rfl) (by kernel_rfl) (fun _ _ _ h => h) (Or.inl ⟨by rfl, by intro w hSw; (try dsimp only at hSw); go_simp⟩) (by assumption) ?_
        try simp only [Act.put, List.setIfInBounds_toArray, List.set_cons_zero, List.set_cons_succ]
        refine wpAnyH_ready (rs := [15]) (by kernel_rfl) (by simp) ?_
        refine AllReadyH.cons rfl (fun K hK => ?_) AllReadyH.nil
        go_simp
        refine hK.out _ _ ?_ (fun hHeld => ?_)
        · (refine ⟨?_, ?_, ?_, ?_, ?_, ?_, ?_⟩ <;> first | assumption | (simp; done) | go_simp)
        clear hK K
        try simp only [Act.put, List.setIfInBounds_toArray, List.set_cons_zero, List.set_cons_succ]
        try simp only [List.getElem_toArray, List.getElem_cons_zero, List.getElem_cons_succ, List.set_cons_zero, List.set_cons_succ]
        refine wpAnyH_done (by kernel_rfl) ?_ _
        refine NoPanic.normal ?_
        go_wp2_with (fail)
        apply merge
        · intro hx
          go_region_with (first | (go_at_call 28; (with_reducible refine (D _).mono ?_); rintro e w' ⟨rfl, rfl⟩))
          all_goals with_reducible exact hx.out
        go_wp2_with (fail)
        refine bodyPost_ret (by simp [results, Try.results15, go_sem]; try rfl) rfl ?_
        refine ⟨rfl, ?_⟩
        repeat (first | exact Gar.refl _ | refine Gar.drewN ?_ _ | refine Gar.drew ?_ | refine Gar.alloc ?_ _ | refine Gar.allocs ?_ _)
      · clear h2
        go_wp2_with (fail)
        go_region_held3 (fun w' => w'.cell? ⟨w.heap.size, 3, none⟩ = some (.int .i64 c3) ∧ w'.cell? ⟨w.heap.size, 4, none⟩ = some (.int .i64 c4) ∧ w'.cell? ⟨w.heap.size, 5, none⟩ = some (.int .i64 c5) ∧ w'.cell? ⟨w.heap.size + 1, 3, none⟩ = some (.int .i64 sp) ∧ w'.cell? ⟨w.heap.size + 1, 4, none⟩ = some (.int .i64 tq) ∧ w'.cell? ⟨w.heap.size + 1, 5, none⟩ = some (.int .i64 fi) ∧ w'.cell? ⟨w.heap.size + 1, 6, none⟩ = some (.int .i64 se))
          ((refine ⟨?_, ?_, ?_, ?_, ?_, ?_, ?_⟩ <;> first | assumption | (simp; done) | go_simp))
          (first | (go_at_call 27; (first | (with_reducible refine (S1 _).mono ?_) | (with_reducible refine (S2 _).mono ?_)); rintro e w' ⟨rfl, rfl⟩))
        all_goals
          go_wp2_with (fail)
          apply merge
          · intro hx
            go_region_with (first | (go_at_call 28; (with_reducible refine (D _).mono ?_); rintro e w' ⟨rfl, rfl⟩))
            all_goals with_reducible exact hx.out
          go_wp2_with (fail)
          refine bodyPost_ret (by simp [results, Try.results15, go_sem]; try rfl) rfl ?_
          refine ⟨rfl, ?_⟩
          repeat (first | exact Gar.refl _ | refine Gar.drewN ?_ _ | refine Gar.drew ?_ | refine Gar.alloc ?_ _ | refine Gar.allocs ?_ _)
end Go.Proofs.Ytlppolaoigbkeaa
