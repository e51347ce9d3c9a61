/- The walk of the law ParkDots. -/
import Derived.Test.YtdkneeglkbbnlaaParkA
import Derived.Test.YtdkneeglkbbnlaaParkP
import Derived.Test.YtdkneeglkbbnlaaFlat
import Derived.Test.YtdkneeglkbbnlaaTwo
import Derived.Deep.RegionWith
import Derived.Deep.DeepCutAuto
import Derived.Deep.CutBlock
namespace Go.Proofs.Ytdkneeglkbbnlaa
open Go.RowKit
set_option linter.unusedVariables false

theorem turn_le2 (x y a m : Int) (hx : -m ≤ x ∧ x ≤ m) (hy : -m ≤ y ∧ y ≤ m) : (-(2 * m) ≤ tu x y a ∧ tu x y a ≤ 2 * m) ∧ (-(2 * m) ≤ tv x y a ∧ tv x y a ≤ 2 * m) := by
  have h := turn_le x y a
  have h1 : ab x ≤ m := by unfold ab; omega
  have h2 : ab y ≤ m := by unfold ab; omega
  omega
theorem run_mx2 {P : Program} (ts : Array TypeId) (t : TypeId) (k k1 : IntKind) (x y : Int) (w : World) : (Builtin.max_ ts t #[.int k x, .int k1 y]).run P w = .ok (.int k (mx x y)) w := by
  simp [Builtin.max_, Builtin.max2, mx]

set_option maxHeartbeats 4000000 in
theorem parkDots_walk (a0x0 a0x1 : Int) (a1x0 a1x1 : Int) (a2 : Int) (w : World) (w0x0 : (Lit.int .i64 a0x0).wf = true) (w0x1 : (Lit.int .i64 a0x1).wf = true) (w1x0 : (Lit.int .i64 a1x0).wf = true) (w1x1 : (Lit.int .i64 a1x1).wf = true) (w2 : (Lit.int .i64 a2).wf = true) :
    Calls Try.prog 8 #[.agg #[.int .i64 a0x0, .int .i64 a0x1], .agg #[.int .i64 a1x0, .int .i64 a1x1], .int .i64 a2] w fun e w' => e = .returned (.bool true) ∧ Below w.heap.size w w' := by
  have bX := clp_bd a0x0 (-268435456) 268435456 (by omega)
  obtain ⟨X, hX⟩ : ∃ X, clp a0x0 (-268435456) 268435456 = X := ⟨_, rfl⟩
  rw [hX] at bX
  have bY := clp_bd a0x1 (-268435456) 268435456 (by omega)
  obtain ⟨Y, hY⟩ : ∃ X, clp a0x1 (-268435456) 268435456 = X := ⟨_, rfl⟩
  rw [hY] at bY
  have bU := clp_bd a1x0 (-268435456) 268435456 (by omega)
  obtain ⟨U, hU⟩ : ∃ X, clp a1x0 (-268435456) 268435456 = X := ⟨_, rfl⟩
  rw [hU] at bU
  have bV := clp_bd a1x1 (-268435456) 268435456 (by omega)
  obtain ⟨V, hV⟩ : ∃ X, clp a1x1 (-268435456) 268435456 = X := ⟨_, rfl⟩
  rw [hV] at bV
  have hpre : True := trivial
  go_enter Try.func8, Try.ntmps8
  go_wp2_with (fail)
  refine (awake_true _ _ (Bel.refl _)).mono ?_
  rintro e w1 ⟨rfl, hb1⟩
  have T0 := (Two.mk w _ _ a0x0 a0x1 a1x0 a1x1).bel hb1
  clear hb1
  go_wp2_with (fail)
  refine wp_loop_rounds 3 ?_
  rw [rounds_succ]
  go_upto_block 1 with (fail)
  go_cut [7, 21] (fun s7 s21 wx => s7 = .int .i64 0 ∧ s21 = .int .i64 0 ∧ Two w wx X a0x1 U a1x1)
  case first =>
    obtain ⟨h1, h2, ⟨c0, c1, c2, c3⟩, f0, f1, f2, f3⟩ := id T0
    have hT := hide T0
    clear T0 h1 h2
    go_wp2_with (fail)
    go_region_with (go_at_call 17; (with_reducible refine (clip_any _ _ _ _).mono ?_); rintro e w' ⟨rfl, rfl⟩)
    all_goals
      go_wp2_with (fail)
      go_meet
      exact ⟨rfl, rfl, by first | exact ((hT.out.setA0 X).setB0 U).drew | exact ((hT.out.setA0 X).drew.setB0 U) | exact ((hT.out.drew.setA0 X).setB0 U)⟩
  case rest =>
    clear T0
    obtain ⟨rfl, rfl, T1⟩ := hcut
    go_wp2_with (fail)
    rw [rounds_succ]
    go_upto_block 1 with (fail)
    go_cut [7, 21] (fun s7 s21 wx => s7 = .int .i64 1 ∧ s21 = .int .i64 1 ∧ Two w wx X Y U V)
    case first =>
      obtain ⟨h1, h2, ⟨c0, c1, c2, c3⟩, f0, f1, f2, f3⟩ := id T1
      have hT := hide T1
      clear T1 h1 h2
      go_wp2_with (fail)
      go_region_with (go_at_call 17; (with_reducible refine (clip_any _ _ _ _).mono ?_); rintro e w' ⟨rfl, rfl⟩)
      all_goals
        go_wp2_with (fail)
        go_meet
        exact ⟨rfl, rfl, by first | exact ((hT.out.setA1 Y).setB1 V).drew | exact ((hT.out.setA1 Y).drew.setB1 V) | exact ((hT.out.drew.setA1 Y).setB1 V)⟩
    case rest =>
      clear T1
      obtain ⟨rfl, rfl, T2⟩ := hcut
      have hp1 := hide (prkB_mk (x := X) (y := Y) (by omega))
      have hp2 := hide (prkB_mk (x := U) (y := V) (by omega))
      have l1 := turn_le2 X Y a2 268435456 (by omega) (by omega)
      have l2 := turn_le2 U V a2 268435456 (by omega) (by omega)
      have m1 := mx4_le (x := tu X Y a2) (y := -tu X Y a2) (z := tv X Y a2) (u := -tv X Y a2) (m := 536870912) (by omega) (by omega) (by omega) (by omega)
      have m2 := mx4_le (x := tu U V a2) (y := -tu U V a2) (z := tv U V a2) (u := -tv U V a2) (m := 536870912) (by omega) (by omega) (by omega) (by omega)
      have q1 := prod_bd2 (x := X) (y := U) (m := 268435456) (n := 268435456) (by omega) (by omega)
      have q2 := prod_bd2 (x := Y) (y := V) (m := 268435456) (n := 268435456) (by omega) (by omega)
      have q3 := prod_bd2 (x := tu X Y a2) (y := tu U V a2) (m := 536870912) (n := 536870912) (by omega) (by omega)
      have q4 := prod_bd2 (x := tv X Y a2) (y := tv U V a2) (m := 536870912) (n := 536870912) (by omega) (by omega)
      have n1 : 0 ≤ mx X (-X) + mx Y (-Y) ∧ mx X (-X) + mx Y (-Y) ≤ 536870912 := by unfold mx; omega
      have n2 : 0 ≤ mx U (-U) + mx V (-V) ∧ mx U (-U) + mx V (-V) ≤ 536870912 := by unfold mx; omega
      have n3 := prod_bd (x := mx X (-X) + mx Y (-Y)) (y := mx U (-U) + mx V (-V)) (m := 536870912) (n := 536870912) (by omega) (by omega) (by omega)
      have n4 := Int.mul_nonneg n1.1 n2.1
      have n5 : (0 ≤ mx X (-X) ∧ mx X (-X) ≤ 536870912) ∧ (0 ≤ mx Y (-Y) ∧ mx Y (-Y) ≤ 536870912) ∧ (0 ≤ mx U (-U) ∧ mx U (-U) ≤ 536870912) ∧ (0 ≤ mx V (-V) ∧ mx V (-V) ≤ 536870912) := by unfold mx; omega
      have ex : ∀ x, ab x = mx x (-x) := fun x => by unfold ab mx; rfl
      have d := dots X Y U V a2
      rw [ex, ex, ex, ex] at d
      clear ex
      have d1 : mx (X * U + Y * V - tu X Y a2 * tu U V a2 - tv X Y a2 * tv U V a2) (-(X * U + Y * V - tu X Y a2 * tu U V a2 - tv X Y a2 * tv U V a2)) ≤ (mx X (-X) + mx Y (-Y)) * (mx U (-U) + mx V (-V)) / 2400 + 4 * (mx X (-X) + mx Y (-Y) + (mx U (-U) + mx V (-V))) + 16 := mx_le d.2 (by omega)
      clear d
      have hm := fun (ts : Array TypeId) (t : TypeId) (x y : Int) (w : World) => run_mx2 (P := Try.prog) ts t .i64 .i64 x y w
      go_wp2_with (fail)
      rw [rounds_succ]
      obtain ⟨g1, g2, ⟨c0, c1, c2, c3⟩, f0, f1, f2, f3⟩ := id T2
      have hT2 := hide T2
      clear T2 g1 g2 f0 f1 f2 f3
      go_wp2_with (fail)
      refine (turn_in X Y a2 hp1.out _ _ (Bel.refl _)).mono ?_
      rintro e w' ⟨rfl, hb⟩
      have T3 := hT2.out.bel hb
      clear hb hT2 c0 c1 c2 c3
      obtain ⟨g1, g2, ⟨c0, c1, c2, c3⟩, f0, f1, f2, f3⟩ := id T3
      have hT3 := hide T3
      clear T3 g1 g2 f0 f1 f2 f3
      go_wp2_with (fail)
      refine (turn_in U V a2 hp2.out _ _ (Bel.refl _)).mono ?_
      rintro e w' ⟨rfl, hb⟩
      have T4 := hT3.out.bel hb
      clear hb hT3 c0 c1 c2 c3
      obtain ⟨g1, g2, ⟨c0, c1, c2, c3⟩, f0, f1, f2, f3⟩ := id T4
      clear T4 g2 f0 f1 f2 f3
      go_wp2_with (fail)
      go_quiet (fail)
      go_wp2_with (fail)
      go_returns
      exact ⟨rfl, g1.drewN _⟩
end Go.Proofs.Ytdkneeglkbbnlaa
