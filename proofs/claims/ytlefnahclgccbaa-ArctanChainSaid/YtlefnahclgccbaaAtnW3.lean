/- The walks of arctan.Angle and of the reference's Quarter and Angle. -/
import Derived.Test.YtlefnahclgccbaaAtnW2
namespace Go.Proofs.Ytlefnahclgccbaa
open Go.RowKit

theorem pb3 {c x m : Int} (hc : -32768 ≤ c ∧ c ≤ 32768) (hx : -m ≤ x ∧ x ≤ m) : -(32768 * m) ≤ c * x ∧ c * x ≤ 32768 * m := by
  have h1 : 0 ≤ (32768 - c) * (m + x) := Int.mul_nonneg (by omega) (by omega)
  have h2 : 0 ≤ (32768 + c) * (m - x) := Int.mul_nonneg (by omega) (by omega)
  have h3 : 0 ≤ (32768 - c) * (m - x) := Int.mul_nonneg (by omega) (by omega)
  have h4 : 0 ≤ (32768 + c) * (m + x) := Int.mul_nonneg (by omega) (by omega)
  have e1 : (32768 - c) * (m + x) = 32768 * m + 32768 * x - c * m - c * x := by grind
  have e2 : (32768 + c) * (m - x) = 32768 * m - 32768 * x + c * m - c * x := by grind
  have e3 : (32768 - c) * (m - x) = 32768 * m - 32768 * x - c * m + c * x := by grind
  have e4 : (32768 + c) * (m + x) = 32768 * m + 32768 * x + c * m + c * x := by grind
  omega
theorem f_bd (x y : Int) : (0 < fx x y ∧ fx x y ≤ 1099511627776) ∧ (0 ≤ fy x y ∧ fy x y ≤ 1099511627776) ∧ (0 ≤ fq x y ∧ fq x y ≤ 3) := by
  obtain ⟨⟨h1, h2⟩, h3⟩ := v_bd x y
  have h4 := u_pos h3
  have h5 := qn_bd (vx x y) (vy x y)
  unfold fx fy fq
  refine ⟨⟨h4.1, ?_⟩, ⟨h4.2, ?_⟩, h5⟩
  · unfold ux; omega
  · unfold uy; omega
theorem angle_eq (x y : Int) : angle x y = ang0 (fx x y) (fy x y) + fq x y * 16384 := by
  unfold angle ang fx fy fq
  omega

set_option maxHeartbeats 1000000 in
theorem angle_any (x y : Int) (wx : (Lit.int .i64 x).wf = true) (wy : (Lit.int .i64 y).wf = true) (w0 w : World) (hb : Bel w0 w) : Calls Try.prog 13 #[.int .i64 x, .int .i64 y] w fun e w' => e = .returned (.int .i64 (angle x y)) ∧ Bel w0 w' := by
  refine on_bel hb ?_
  clear hb w0
  obtain ⟨b1, b2, b3⟩ := f_bd x y
  have hA := hide (angle_eq x y)
  have wx2 := hide wx
  have wy2 := hide wy
  clear wx wy
  go_enter Try.func13, Try.ntmps13
  go_wp2_with (go_at_call 24; (with_reducible refine (first_vec _ _ wx2.out wy2.out _).mono ?_); rintro e w' ⟨rfl, rfl⟩)
  obtain ⟨X, hX⟩ : ∃ X, fx x y = X := ⟨_, rfl⟩
  obtain ⟨Y, hY⟩ : ∃ Y, fy x y = Y := ⟨_, rfl⟩
  obtain ⟨Q, hQ⟩ : ∃ Q, fq x y = Q := ⟨_, rfl⟩
  rw [hX, hY, hQ] at hA ⊢
  rw [hX] at b1
  rw [hY] at b2
  rw [hQ] at b3
  clear hX hY hQ
  go_loopw [6, 7] (fun lo hi wr => ∃ L H : Int, lo = .int .i64 L ∧ hi = .int .i64 H ∧ (0 ≤ L ∧ L ≤ H ∧ H ≤ 16383) ∧ bs L * X ≤ bc L * Y ∧ (H = 16383 ∨ bc (H + 1) * Y < bs (H + 1) * X) ∧ Bel w wr) (fun lo hi _ => (intOf hi - intOf lo).toNat)
  case atStart => exact ⟨0, 16383, rfl, rfl, by omega, by rw [b_zero.1, b_zero.2.1]; omega, .inl rfl, Bel.refl _⟩
  case round =>
    obtain ⟨L, H, rfl, rfl, hL, hp, hn, hb⟩ := hrel
    by_cases he : L = H
    · subst he
      have ha : isA L X Y := ⟨hL.1, hL.2.2, hp, hn⟩
      have hu := hide (isA_uniq (ang0_is b2.1) ha b1.1 b2.1)
      clear ha hp hn
      go_wp2
      go_returns
      exact ⟨ret_int (by rw [hA.out, hu.out]), hb⟩
    · have hlt : L < H := by omega
      clear he
      have c1 := b_bd ((L + H + 1) / 2)
      have p1 := pb3 (x := Y) (m := 1099511627776) c1.1 (by omega)
      have p2 := pb3 (x := X) (m := 1099511627776) c1.2 (by omega)
      have hP := hide hp
      have hN := hide hn
      clear hp hn
      by_cases ht : bs ((L + H + 1) / 2) * X ≤ bc ((L + H + 1) / 2) * Y
      · go_wp2_with (go_at_call 17; (with_reducible refine (both_any _ _ _ (by assumption)).mono ?_); rintro e w' ⟨rfl, hb⟩)
        go_roundw
        case rel => exact ⟨_, _, rfl, rfl, by omega, ht, hN.out, by assumption⟩
        case measure => simp [intOf]; omega
      · go_wp2_with (go_at_call 17; (with_reducible refine (both_any _ _ _ (by assumption)).mono ?_); rintro e w' ⟨rfl, hb⟩)
        go_roundw
        case rel => exact ⟨_, _, rfl, rfl, by omega, hP.out, .inr (by rw [show (L + H + 1) / 2 - 1 + 1 = (L + H + 1) / 2 by omega]; omega), by assumption⟩
        case measure => simp [intOf]; omega

theorem quarter_any (x y : Int) (w : World) : Calls Try.prog 26 #[.int .i64 x, .int .i64 y] w fun e w' => e = .returned (.int .i64 (qn x y)) ∧ w = w' := by
  rcases Int.lt_trichotomy x 0 with h | h | h <;> rcases Int.lt_trichotomy y 0 with g | g | g
  all_goals
    go_enter Try.func26, Try.ntmps26
    go_wp2
    all_goals
      (try go_returns)
      exact ⟨ret_int (by unfold qn; omega), rfl⟩

set_option maxHeartbeats 2000000 in
theorem rangle_any (x y : Int) (wx : (Lit.int .i64 x).wf = true) (wy : (Lit.int .i64 y).wf = true) (w0 w : World) (hb : Bel w0 w) : Calls Try.prog 14 #[.int .i64 x, .int .i64 y] w fun e w' => e = .returned (.int .i64 (angle x y)) ∧ Bel w0 w' := by
  refine on_bel hb ?_
  clear hb w0
  obtain ⟨b1, b2, b3⟩ := f_bd x y
  have hA := hide (angle_eq x y)
  have wx2 := hide wx
  have wy2 := hide wy
  clear wx wy
  obtain ⟨⟨v1, v2⟩, v3⟩ := v_bd x y
  have e1 : fx x y = ux (vx x y) (vy x y) := rfl
  have e2 : fy x y = uy (vx x y) (vy x y) := rfl
  have e3 : fq x y = qn (vx x y) (vy x y) := rfl
  rw [e1, e2, e3] at hA
  rw [e1] at b1
  rw [e2] at b2
  rw [e3] at b3
  clear e1 e2 e3
  have e4 : ux (vx x y) (vy x y) = if qn (vx x y) (vy x y) = 0 then vx x y else if qn (vx x y) (vy x y) = 1 then vy x y else if qn (vx x y) (vy x y) = 2 then -vx x y else -vy x y := rfl
  have e5 : uy (vx x y) (vy x y) = if qn (vx x y) (vy x y) = 0 then vy x y else if qn (vx x y) (vy x y) = 1 then -vx x y else if qn (vx x y) (vy x y) = 2 then -vy x y else vx x y := rfl
  rw [e4] at b1 hA
  rw [e5] at b2 hA
  clear e4 e5
  rcases (show qn (vx x y) (vy x y) = 0 ∨ qn (vx x y) (vy x y) = 1 ∨ qn (vx x y) (vy x y) = 2 ∨ qn (vx x y) (vy x y) = 3 by omega) with hq | hq | hq | hq
  · simp only [hq, Int.reduceEq, if_true, if_false] at b1 b2 hA
    have hv := hide v3
    go_enter Try.func14, Try.ntmps14
    go_wp2_with (first | (go_at_call 25; (with_reducible refine (small_any _ _ wx2.out wy2.out _).mono ?_); rintro e w' ⟨rfl, rfl⟩) | (go_at_call 26; (with_reducible refine (quarter_any _ _ _).mono ?_); rintro e w' ⟨rfl, rfl⟩))
    refine wp_loop_rounds 4 ?_
    repeat any_goals (rw [rounds_succ]; go_wp2)
    go_loopw [6, 7] (fun lo hi wr => ∃ L H : Int, lo = .int .i64 L ∧ hi = .int .i64 H ∧ (0 ≤ L ∧ L < H ∧ H ≤ 16384) ∧ bs L * (vx x y) ≤ bc L * (vy x y) ∧ (H = 16384 ∨ bc H * (vy x y) < bs H * (vx x y)) ∧ Bel w wr) (fun lo hi _ => (intOf hi - intOf lo).toNat)
    case atStart => exact ⟨0, 16384, rfl, rfl, by omega, by rw [b_zero.1, b_zero.2.1]; omega, .inl rfl, Bel.refl _⟩
    case round =>
      obtain ⟨L, H, rfl, rfl, hL, hp, hn, hb⟩ := hrel
      by_cases he : H = L + 1
      · subst he
        have ha : isA L (vx x y) (vy x y) := ⟨hL.1, by omega, hp, by rcases hn with hn | hn; exact .inl (by omega); exact .inr hn⟩
        have hu := hide (isA_uniq (ang0_is b2.1) ha b1.1 b2.1)
        clear ha hp hn
        go_wp2
        go_returns
        exact ⟨ret_int (by rw [hA.out, hu.out]; omega), hb⟩
      · have hlt : L + 1 < H := by omega
        clear he
        have c1 := b_bd ((L + H) / 2)
        have p1 := pb3 (x := vy x y) (m := 1099511627776) c1.1 (by omega)
        have p2 := pb3 (x := vx x y) (m := 1099511627776) c1.2 (by omega)
        have hP := hide hp
        have hN := hide hn
        clear hp hn
        by_cases ht : bs ((L + H) / 2) * (vx x y) ≤ bc ((L + H) / 2) * (vy x y)
        · go_wp2_with (go_at_call 20; (with_reducible refine (rboth_any _ _ _ (by assumption)).mono ?_); rintro e w' ⟨rfl, hb⟩)
          go_roundw
          case rel => exact ⟨_, _, rfl, rfl, by omega, ht, hN.out, by assumption⟩
          case measure => simp [intOf]; omega
        · go_wp2_with (go_at_call 20; (with_reducible refine (rboth_any _ _ _ (by assumption)).mono ?_); rintro e w' ⟨rfl, hb⟩)
          go_roundw
          case rel => exact ⟨_, _, rfl, rfl, by omega, hP.out, .inr (by omega), by assumption⟩
          case measure => simp [intOf]; omega
  · simp only [hq, Int.reduceEq, if_true, if_false] at b1 b2 hA
    have hv := hide v3
    go_enter Try.func14, Try.ntmps14
    go_wp2_with (first | (go_at_call 25; (with_reducible refine (small_any _ _ wx2.out wy2.out _).mono ?_); rintro e w' ⟨rfl, rfl⟩) | (go_at_call 26; (with_reducible refine (quarter_any _ _ _).mono ?_); rintro e w' ⟨rfl, rfl⟩))
    refine wp_loop_rounds 4 ?_
    repeat any_goals (rw [rounds_succ]; go_wp2)
    go_loopw [6, 7] (fun lo hi wr => ∃ L H : Int, lo = .int .i64 L ∧ hi = .int .i64 H ∧ (0 ≤ L ∧ L < H ∧ H ≤ 16384) ∧ bs L * (vy x y) ≤ bc L * (-vx x y) ∧ (H = 16384 ∨ bc H * (-vx x y) < bs H * (vy x y)) ∧ Bel w wr) (fun lo hi _ => (intOf hi - intOf lo).toNat)
    case atStart => exact ⟨0, 16384, rfl, rfl, by omega, by rw [b_zero.1, b_zero.2.1]; omega, .inl rfl, Bel.refl _⟩
    case round =>
      obtain ⟨L, H, rfl, rfl, hL, hp, hn, hb⟩ := hrel
      by_cases he : H = L + 1
      · subst he
        have ha : isA L (vy x y) (-vx x y) := ⟨hL.1, by omega, hp, by rcases hn with hn | hn; exact .inl (by omega); exact .inr hn⟩
        have hu := hide (isA_uniq (ang0_is b2.1) ha b1.1 b2.1)
        clear ha hp hn
        go_wp2
        go_returns
        exact ⟨ret_int (by rw [hA.out, hu.out]; omega), hb⟩
      · have hlt : L + 1 < H := by omega
        clear he
        have c1 := b_bd ((L + H) / 2)
        have p1 := pb3 (x := -vx x y) (m := 1099511627776) c1.1 (by omega)
        have p2 := pb3 (x := vy x y) (m := 1099511627776) c1.2 (by omega)
        have hP := hide hp
        have hN := hide hn
        clear hp hn
        by_cases ht : bs ((L + H) / 2) * (vy x y) ≤ bc ((L + H) / 2) * (-vx x y)
        · go_wp2_with (go_at_call 20; (with_reducible refine (rboth_any _ _ _ (by assumption)).mono ?_); rintro e w' ⟨rfl, hb⟩)
          go_roundw
          case rel => exact ⟨_, _, rfl, rfl, by omega, ht, hN.out, by assumption⟩
          case measure => simp [intOf]; omega
        · go_wp2_with (go_at_call 20; (with_reducible refine (rboth_any _ _ _ (by assumption)).mono ?_); rintro e w' ⟨rfl, hb⟩)
          go_roundw
          case rel => exact ⟨_, _, rfl, rfl, by omega, hP.out, .inr (by omega), by assumption⟩
          case measure => simp [intOf]; omega
  · simp only [hq, Int.reduceEq, if_true, if_false] at b1 b2 hA
    have hv := hide v3
    go_enter Try.func14, Try.ntmps14
    go_wp2_with (first | (go_at_call 25; (with_reducible refine (small_any _ _ wx2.out wy2.out _).mono ?_); rintro e w' ⟨rfl, rfl⟩) | (go_at_call 26; (with_reducible refine (quarter_any _ _ _).mono ?_); rintro e w' ⟨rfl, rfl⟩))
    refine wp_loop_rounds 4 ?_
    repeat any_goals (rw [rounds_succ]; go_wp2)
    go_loopw [6, 7] (fun lo hi wr => ∃ L H : Int, lo = .int .i64 L ∧ hi = .int .i64 H ∧ (0 ≤ L ∧ L < H ∧ H ≤ 16384) ∧ bs L * (-vx x y) ≤ bc L * (-vy x y) ∧ (H = 16384 ∨ bc H * (-vy x y) < bs H * (-vx x y)) ∧ Bel w wr) (fun lo hi _ => (intOf hi - intOf lo).toNat)
    case atStart => exact ⟨0, 16384, rfl, rfl, by omega, by rw [b_zero.1, b_zero.2.1]; omega, .inl rfl, Bel.refl _⟩
    case round =>
      obtain ⟨L, H, rfl, rfl, hL, hp, hn, hb⟩ := hrel
      by_cases he : H = L + 1
      · subst he
        have ha : isA L (-vx x y) (-vy x y) := ⟨hL.1, by omega, hp, by rcases hn with hn | hn; exact .inl (by omega); exact .inr hn⟩
        have hu := hide (isA_uniq (ang0_is b2.1) ha b1.1 b2.1)
        clear ha hp hn
        go_wp2
        go_returns
        exact ⟨ret_int (by rw [hA.out, hu.out]; omega), hb⟩
      · have hlt : L + 1 < H := by omega
        clear he
        have c1 := b_bd ((L + H) / 2)
        have p1 := pb3 (x := -vy x y) (m := 1099511627776) c1.1 (by omega)
        have p2 := pb3 (x := -vx x y) (m := 1099511627776) c1.2 (by omega)
        have hP := hide hp
        have hN := hide hn
        clear hp hn
        by_cases ht : bs ((L + H) / 2) * (-vx x y) ≤ bc ((L + H) / 2) * (-vy x y)
        · go_wp2_with (go_at_call 20; (with_reducible refine (rboth_any _ _ _ (by assumption)).mono ?_); rintro e w' ⟨rfl, hb⟩)
          go_roundw
          case rel => exact ⟨_, _, rfl, rfl, by omega, ht, hN.out, by assumption⟩
          case measure => simp [intOf]; omega
        · go_wp2_with (go_at_call 20; (with_reducible refine (rboth_any _ _ _ (by assumption)).mono ?_); rintro e w' ⟨rfl, hb⟩)
          go_roundw
          case rel => exact ⟨_, _, rfl, rfl, by omega, hP.out, .inr (by omega), by assumption⟩
          case measure => simp [intOf]; omega
  · simp only [hq, Int.reduceEq, if_false] at b1 b2 hA
    have hv := hide v3
    go_enter Try.func14, Try.ntmps14
    go_wp2_with (first | (go_at_call 25; (with_reducible refine (small_any _ _ wx2.out wy2.out _).mono ?_); rintro e w' ⟨rfl, rfl⟩) | (go_at_call 26; (with_reducible refine (quarter_any _ _ _).mono ?_); rintro e w' ⟨rfl, rfl⟩))
    refine wp_loop_rounds 4 ?_
    repeat any_goals (rw [rounds_succ]; go_wp2)
    go_loopw [6, 7] (fun lo hi wr => ∃ L H : Int, lo = .int .i64 L ∧ hi = .int .i64 H ∧ (0 ≤ L ∧ L < H ∧ H ≤ 16384) ∧ bs L * (-vy x y) ≤ bc L * (vx x y) ∧ (H = 16384 ∨ bc H * (vx x y) < bs H * (-vy x y)) ∧ Bel w wr) (fun lo hi _ => (intOf hi - intOf lo).toNat)
    case atStart => exact ⟨0, 16384, rfl, rfl, by omega, by rw [b_zero.1, b_zero.2.1]; omega, .inl rfl, Bel.refl _⟩
    case round =>
      obtain ⟨L, H, rfl, rfl, hL, hp, hn, hb⟩ := hrel
      by_cases he : H = L + 1
      · subst he
        have ha : isA L (-vy x y) (vx x y) := ⟨hL.1, by omega, hp, by rcases hn with hn | hn; exact .inl (by omega); exact .inr hn⟩
        have hu := hide (isA_uniq (ang0_is b2.1) ha b1.1 b2.1)
        clear ha hp hn
        go_wp2
        go_returns
        exact ⟨ret_int (by rw [hA.out, hu.out]; omega), hb⟩
      · have hlt : L + 1 < H := by omega
        clear he
        have c1 := b_bd ((L + H) / 2)
        have p1 := pb3 (x := vx x y) (m := 1099511627776) c1.1 (by omega)
        have p2 := pb3 (x := -vy x y) (m := 1099511627776) c1.2 (by omega)
        have hP := hide hp
        have hN := hide hn
        clear hp hn
        by_cases ht : bs ((L + H) / 2) * (-vy x y) ≤ bc ((L + H) / 2) * (vx x y)
        · go_wp2_with (go_at_call 20; (with_reducible refine (rboth_any _ _ _ (by assumption)).mono ?_); rintro e w' ⟨rfl, hb⟩)
          go_roundw
          case rel => exact ⟨_, _, rfl, rfl, by omega, ht, hN.out, by assumption⟩
          case measure => simp [intOf]; omega
        · go_wp2_with (go_at_call 20; (with_reducible refine (rboth_any _ _ _ (by assumption)).mono ?_); rintro e w' ⟨rfl, hb⟩)
          go_roundw
          case rel => exact ⟨_, _, rfl, rfl, by omega, hP.out, .inr (by omega), by assumption⟩
          case measure => simp [intOf]; omega
end Go.Proofs.Ytlefnahclgccbaa
