/- The walk of the law VoterHealthy. -/
import Derived.Test.YtdincfemiignjaaVotA
import Derived.Test.YtdincfemiignjaaVotY
import Derived.Test.YtdincfemiignjaaVotI
import Derived.Test.YtdincfemiignjaaFlat
import Derived.Test.YtdincfemiignjaaTail
import Derived.Test.YtdincfemiignjaaRowN
import Derived.Test.YtdincfemiignjaaLtA
import Derived.Test.YtdincfemiignjaaLtB
import Derived.Test.YtdincfemiignjaaMrg
import Derived.Deep.RegionHeld3
namespace Go.Proofs.Ytdincfemiignjaa
open Go.RowKit
set_option linter.unusedVariables false
set_option linter.unusedSimpArgs false
attribute [local go_sem ↓] Go.wp_at_zero Go.wp_at_succ

theorem input_any (t o0 o1 o2 : Int) (r0 r1 r2 : Bool) (e0 e1 e2 p0 p1 p2 n l : Int) (hl : 0 ≤ l ∧ l ≤ 3) (he : (0 ≤ e0 ∧ e0 ≤ 16384) ∧ (0 ≤ e1 ∧ e1 ≤ 16384) ∧ (0 ≤ e2 ∧ e2 ≤ 16384)) (w0 w : World) (hb : Gar w0 w) :
    Calls Try.prog 18 #[.agg #[.int .i64 t, .int .i64 o0, .int .i64 o1, .int .i64 o2, .bool r0, .bool r1, .bool r2], .agg #[.int .i64 e0, .int .i64 e1, .int .i64 e2, .int .i64 p0, .int .i64 p1, .int .i64 p2, .int .i64 n], .int .i64 l] w fun e w' => e = .returned (.agg #[.int .i64 (Int.tmod t 65536 + inO (decide (l = 0)) o0 e0), .int .i64 (Int.tmod t 65536 + inO (decide (l = 1)) o1 e1), .int .i64 (Int.tmod t 65536 + inO (decide (l = 2)) o2 e2), .bool r0, .bool r1, .bool r2]) ∧ Gar w0 w' := by
  rcases (show l = 0 ∨ l = 1 ∨ l = 2 ∨ l = 3 by omega) with rfl | rfl | rfl | rfl
  · exact input_0 t o0 o1 o2 r0 r1 r2 e0 e1 e2 p0 p1 p2 n he w0 w hb
  · exact input_1 t o0 o1 o2 r0 r1 r2 e0 e1 e2 p0 p1 p2 n he w0 w hb
  · exact input_2 t o0 o1 o2 r0 r1 r2 e0 e1 e2 p0 p1 p2 n he w0 w hb
  · exact input_3 t o0 o1 o2 r0 r1 r2 e0 e1 e2 p0 p1 p2 n he w0 w hb
theorem eq_3t (a b c : Bool) (w : World) : (Op.equalIn 10000 25 (.agg #[.bool a, .bool b, .bool c]) (.agg #[.bool true, .bool true, .bool true])).run Try.prog w = .ok (a && b && c) w := by
  have u3 := Try.underlying4
  have a3 := Try.isAgg4
  have z3 := Try.sizeOf4
  cases a <;> cases b <;> cases c
  all_goals
    rw [show (10000 : Nat) = 9999 + 1 from rfl, Op.equalIn]
    simp only [Sem.run_bind, run_underlying Try.underlying25, Result.andThen_ok]
    simp only [Std.Legacy.Range.forIn_eq_forIn_range', Std.Legacy.Range.size, Nat.sub_zero, Nat.add_sub_cancel, Nat.div_one, List.range'_succ, List.range'_zero, List.forIn_cons, List.forIn_nil]
    go_simp
/-- Several ways to one state, but for the places of two blocks and the world. -/
theorem mergeV {G : Prop} {R : Value → Value → World → Prop} (P : Value → Value → World → Prop) (main : ∀ a b W, P a b W → R a b W) (px : Hid (∀ a b W, P a b W → R a b W) → G) : G := px main
theorem then_w {K : Act → World → Prop} {Q : Exit → Act → World → Prop} {a : Act} {w0 : World} (h : ∀ W, W = w0 → Exit.then K Q .normal a W) : Exit.then K Q .normal a w0 := h _ rfl
def HlI (l : Int) (m0 m1 m2 : Bool) : Prop := (decide (l = 0) = false → m0 = false) ∧ (decide (l = 1) = false → m1 = false) ∧ (decide (l = 2) = false → m2 = false)
set_option maxRecDepth 100000 in
set_option maxHeartbeats 8000000 in
theorem voterHealthy_walk (a0x0 a0x1 a0x2 a0x3 a0x4 a0x5 a0x6 : Int) (a1 : Int) (a2 : Option Addr) (len2 cap2 : Nat) (D2 : Nat → List Value) (w : World) (w0x0 : (Lit.int .i64 a0x0).wf = true) (w0x1 : (Lit.int .i64 a0x1).wf = true) (w0x2 : (Lit.int .i64 a0x2).wf = true) (w0x3 : (Lit.int .i64 a0x3).wf = true) (w0x4 : (Lit.int .i64 a0x4).wf = true) (w0x5 : (Lit.int .i64 a0x5).wf = true) (w0x6 : (Lit.int .i64 a0x6).wf = true) (w1 : (Lit.int .u8 a1).wf = true) (r2 : IsRows [some .i64, some .i64, some .i64, some .i64, none, none, none] w a2 len2 cap2 D2) :
    Calls Try.prog 6 #[.agg #[.int .i64 a0x0, .int .i64 a0x1, .int .i64 a0x2, .int .i64 a0x3, .int .i64 a0x4, .int .i64 a0x5, .int .i64 a0x6], .int .u8 a1, .slice a2 len2 cap2] w fun e w' => e = .returned (.bool true) ∧ Below w.heap.size w w' := by
  have hw1 : 0 ≤ a1 ∧ a1 ≤ 255 := by simpa [Lit.wf, IntKind.min, IntKind.max, IntKind.signed, IntKind.bits] using w1
  obtain ⟨l, hl4⟩ : ∃ l, a1 % 4 = l := ⟨_, rfl⟩
  have hlb : 0 ≤ l ∧ l ≤ 3 := by omega
  have hj2 : Int.tmod a1 4 = l := by rw [Int.tmod_eq_emod_of_nonneg hw1.1]; exact hl4
  clear w0x0 w0x1 w0x2 w0x3 w0x4 w0x5 w0x6 w1 hl4
  obtain ⟨hl, hm⟩ := rows_nil r2
  unfold maxLen at hm
  have hR := hide r2
  clear r2
  have KD := rcheck_any a0x0 a0x1 a0x2 a0x3 a0x4 a0x5 a0x6
  by_cases hco : vcode a0x0 a0x1 a0x2 a0x3 a0x4 a0x5 a0x6 = 0
  rotate_left
  · generalize vcode a0x0 a0x1 a0x2 a0x3 a0x4 a0x5 a0x6 = c at *
    have hc1 : (c == 0) = false := by simpa using hco
    have hc2 : (c != 0) = true := by simpa using hco
    clear hco hj2
    go_enter Try.func6, Try.ntmps6
    go_wp2_with (first | (go_at_call 15; (with_reducible refine (KD _).mono ?_); rintro e w' ⟨rfl, os0, n0, rfl⟩) | (go_at_call 8; (with_reducible refine (awake_true _ _ (Gar.refl _)).mono ?_); rintro e w' ⟨rfl, os1, n1, rfl⟩))
    go_returns
    exact ⟨rfl, show Bel _ _ from Gar.bel (by repeat (first | exact Gar.refl _ | refine Gar.drewN ?_ _ | refine Gar.drew ?_ | refine Gar.alloc ?_ _ | refine Gar.allocs ?_ _))⟩
  rw [hco] at KD
  by_cases hl6 : 60 < len2
  · have hd6 : decide ((60 : Int) < (len2 : Int)) = true := decide_eq_true (by omega)
    clear hco hj2
    go_enter Try.func6, Try.ntmps6
    go_wp2_with (first | (go_at_call 15; (with_reducible refine (KD _).mono ?_); rintro e w' ⟨rfl, os0, n0, rfl⟩) | (go_at_call 8; (with_reducible refine (awake_true _ _ (Gar.refl _)).mono ?_); rintro e w' ⟨rfl, os1, n1, rfl⟩))
    go_returns
    exact ⟨rfl, show Bel _ _ from Gar.bel (by repeat (first | exact Gar.refl _ | refine Gar.drewN ?_ _ | refine Gar.drew ?_ | refine Gar.alloc ?_ _ | refine Gar.allocs ?_ _))⟩
  have hd6 : decide ((60 : Int) < (len2 : Int)) = false := decide_eq_false (by omega)
  have he := (vcode_in hco).1
  have hn := (vcode_in hco).2.1
  go_enter Try.func6, Try.ntmps6
  go_wp2_with (first | (go_at_call 15; (with_reducible refine (KD _).mono ?_); rintro e w' ⟨rfl, os0, n0, rfl⟩) | (go_at_call 8; (with_reducible refine (awake_true _ _ (Gar.refl _)).mono ?_); rintro e w' ⟨rfl, os1, n1, rfl⟩))
  clear hj2 hw1
  go_loopw [34] (fun i wr => ∃ (k : Nat) (s0 s1 s2 sp : Int) (m0 m1 m2 : Bool), i = .int .i64 k ∧ k ≤ len2 ∧ Gar ((allocs (allocs (w.alloc (.cells #[.int .i64 a0x0, .int .i64 a0x1, .int .i64 a0x2, .int .i64 a0x3, .int .i64 a0x4, .int .i64 a0x5, .int .i64 a0x6] 24)) os0) os1).alloc (.cells #[.int .i64 s0, .int .i64 s1, .int .i64 s2, .bool m0, .bool m1, .bool m2, .int .i64 sp] 27)) wr ∧ HlI l m0 m1 m2) (fun i _ => len2 - (intOf i).toNat)
  case atStart => exact ⟨0, 0, 0, 0, 0, false, false, false, rfl, Nat.zero_le _, by repeat (first | exact Gar.refl _ | refine Gar.drewN ?_ _ | refine Gar.drew ?_ | refine Gar.alloc ?_ _ | refine Gar.allocs ?_ _), fun _ => rfl, fun _ => rfl, fun _ => rfl⟩
  case round =>
    obtain ⟨k, s0, s1, s2, sp, m0, m1, m2, rfl, hk, ⟨os, n1, rfl⟩, hI0⟩ := hrel
    obtain ⟨hm0, hm1, hm2⟩ := hI0
    by_cases hlt : k < len2
    · obtain ⟨b, off, rfl, hrow⟩ := rows_scene hR.out (by omega)
      obtain ⟨d0, d1, d2, d3, d4, d5, d6, w0, w1, w2, w3, w4, w5, w6⟩ := hrow k hlt
      clear hrow hR
      have hbb := World.block_lt_of_cell? w _ w0
      obtain ⟨l1, l2, l3, l4, l5, l6, l7, l8⟩ := lt_all hbb
      obtain ⟨l9, l10, l11, l12, l13, l14, l15, l16⟩ := lt_more hbb
      have j1 : (0 : Int) ≤ (k : Int) := by omega
      have j2 : (k : Int) < (len2 : Int) := by omega
      have j3 : (k : Int) < (cap2 : Int) := by omega
      have KI := fun w => input_any d0 d1 d2 d3 d4 d5 d6 a0x0 a0x1 a0x2 a0x3 a0x4 a0x5 a0x6 l hlb he w w (Gar.refl _)
      obtain ⟨Q0, hQ0⟩ : ∃ q, Int.tmod d0 65536 + inO (decide (l = 0)) d1 a0x0 = q := ⟨_, rfl⟩
      obtain ⟨Q1, hQ1⟩ : ∃ q, Int.tmod d0 65536 + inO (decide (l = 1)) d2 a0x1 = q := ⟨_, rfl⟩
      obtain ⟨Q2, hQ2⟩ : ∃ q, Int.tmod d0 65536 + inO (decide (l = 2)) d3 a0x2 = q := ⟨_, rfl⟩
      have dd0 : decide (l = 0) = false → dst Q0 d0 ≤ a0x0 := fun z => by rw [← hQ0, z]; exact near (inO_ok he.1) he.1
      have dd1 : decide (l = 1) = false → dst Q1 d0 ≤ a0x1 := fun z => by rw [← hQ1, z]; exact near (inO_ok he.2.1) he.2.1
      have dd2 : decide (l = 2) = false → dst Q2 d0 ≤ a0x2 := fun z => by rw [← hQ2, z]; exact near (inO_ok he.2.2) he.2.2
      rw [hQ0, hQ1, hQ2] at KI
      clear hQ0 hQ1 hQ2
      obtain ⟨u0, u1, u2, g01, g02, g12, ct, c0, c1, c2, cs, E0, E1, E2, ci, cw, hv⟩ := VS.ex a0x0 a0x1 a0x2 a0x3 a0x4 a0x5 a0x6 s0 s1 s2 m0 m1 m2 sp Q0 Q1 Q2 d4 d5 d6
      have K1 := fun w => vstep_ok a0x0 a0x1 a0x2 a0x3 a0x4 a0x5 a0x6 s0 s1 s2 m0 m1 m2 sp Q0 Q1 Q2 d4 d5 d6 u0 u1 u2 g01 g02 g12 ct c0 c1 c2 cs E0 E1 E2 ci cw hv hco w w (Gar.refl _)
      have hH := healthy (l0 := decide (l = 0)) (l1 := decide (l = 1)) (l2 := decide (l = 2)) (t := d0) hv hco (by rcases (show l = 0 ∨ l = 1 ∨ l = 2 ∨ l = 3 by omega) with rfl | rfl | rfl | rfl <;> rfl) (by rcases (show l = 0 ∨ l = 1 ∨ l = 2 ∨ l = 3 by omega) with rfl | rfl | rfl | rfl <;> rfl) (by rcases (show l = 0 ∨ l = 1 ∨ l = 2 ∨ l = 3 by omega) with rfl | rfl | rfl | rfl <;> rfl) dd0 dd1 dd2 hm0 hm1 hm2
      have HH := hide hH
      clear hH hv hco dd0 dd1 dd2 hm0 hm1 hm2
      obtain ⟨AX, hAX⟩ : ∃ x, (if cw = 0 then 0 else vang ci Q0 Q1 Q2) = x := ⟨_, rfl⟩
      obtain ⟨AY, hAY⟩ : ∃ x, decide (cw = 3) = x := ⟨_, rfl⟩
      obtain ⟨AF, hAF⟩ : ∃ x, decide (cw = 0) = x := ⟨_, rfl⟩
      rw [hAX, hAY, hAF] at K1
      have HF := hide hAF
      clear hAX hAY hAF
      have HL := hide hlb
      clear hlb
      go_wp2_with (fail)
      apply mergeV (fun a b W => ∃ X Y : Nat, a = Value.pointer (some ⟨X, 0, none⟩) ∧ b = Value.pointer (some ⟨Y, 0, none⟩) ∧ Gar ((allocs (allocs (w.alloc (.cells #[.int .i64 a0x0, .int .i64 a0x1, .int .i64 a0x2, .int .i64 a0x3, .int .i64 a0x4, .int .i64 a0x5, .int .i64 a0x6] 24)) os0) os1).alloc (.cells #[.int .i64 s0, .int .i64 s1, .int .i64 s2, .bool m0, .bool m1, .bool m2, .int .i64 sp] 27)) W ∧ W.cell? ⟨X, 0, none⟩ = some (.int .i64 c0) ∧ W.cell? ⟨X, 1, none⟩ = some (.int .i64 c1) ∧ W.cell? ⟨X, 2, none⟩ = some (.int .i64 c2) ∧ W.cell? ⟨X, 3, none⟩ = some (.bool E0) ∧ W.cell? ⟨X, 4, none⟩ = some (.bool E1) ∧ W.cell? ⟨X, 5, none⟩ = some (.bool E2) ∧ W.cell? ⟨X, 6, none⟩ = some (.int .i64 cs) ∧ W.cell? ⟨Y, 3, none⟩ = some (.bool AF) ∧ W.cell? ⟨w.heap.size + 1 + os0.length + os1.length + 1 + os.length, 4, none⟩ = some (.bool d4) ∧ W.cell? ⟨w.heap.size + 1 + os0.length + os1.length + 1 + os.length, 5, none⟩ = some (.bool d5) ∧ W.cell? ⟨w.heap.size + 1 + os0.length + os1.length + 1 + os.length, 6, none⟩ = some (.bool d6))
      case px =>
        intro hx
        go_region_held3 (fun w' => w'.cell? ⟨w.heap.size, 0, none⟩ = some (.int .i64 a0x0) ∧ w'.cell? ⟨w.heap.size, 1, none⟩ = some (.int .i64 a0x1) ∧ w'.cell? ⟨w.heap.size, 2, none⟩ = some (.int .i64 a0x2) ∧ w'.cell? ⟨w.heap.size, 3, none⟩ = some (.int .i64 a0x3) ∧ w'.cell? ⟨w.heap.size, 4, none⟩ = some (.int .i64 a0x4) ∧ w'.cell? ⟨w.heap.size, 5, none⟩ = some (.int .i64 a0x5) ∧ w'.cell? ⟨w.heap.size, 6, none⟩ = some (.int .i64 a0x6) ∧ w'.cell? ⟨w.heap.size + 1 + os0.length + os1.length, 0, none⟩ = some (.int .i64 s0) ∧ w'.cell? ⟨w.heap.size + 1 + os0.length + os1.length, 1, none⟩ = some (.int .i64 s1) ∧ w'.cell? ⟨w.heap.size + 1 + os0.length + os1.length, 2, none⟩ = some (.int .i64 s2) ∧ w'.cell? ⟨w.heap.size + 1 + os0.length + os1.length, 3, none⟩ = some (.bool m0) ∧ w'.cell? ⟨w.heap.size + 1 + os0.length + os1.length, 4, none⟩ = some (.bool m1) ∧ w'.cell? ⟨w.heap.size + 1 + os0.length + os1.length, 5, none⟩ = some (.bool m2) ∧ w'.cell? ⟨w.heap.size + 1 + os0.length + os1.length, 6, none⟩ = some (.int .i64 sp) ∧ w'.cell? ⟨w.heap.size + 1 + os0.length + os1.length + 1 + os.length, 0, none⟩ = some (.int .i64 d0) ∧ w'.cell? ⟨w.heap.size + 1 + os0.length + os1.length + 1 + os.length, 1, none⟩ = some (.int .i64 d1) ∧ w'.cell? ⟨w.heap.size + 1 + os0.length + os1.length + 1 + os.length, 2, none⟩ = some (.int .i64 d2) ∧ w'.cell? ⟨w.heap.size + 1 + os0.length + os1.length + 1 + os.length, 3, none⟩ = some (.int .i64 d3) ∧ w'.cell? ⟨w.heap.size + 1 + os0.length + os1.length + 1 + os.length, 4, none⟩ = some (.bool d4) ∧ w'.cell? ⟨w.heap.size + 1 + os0.length + os1.length + 1 + os.length, 5, none⟩ = some (.bool d5) ∧ w'.cell? ⟨w.heap.size + 1 + os0.length + os1.length + 1 + os.length, 6, none⟩ = some (.bool d6))
          ((refine ⟨?_, ?_, ?_, ?_, ?_, ?_, ?_, ?_, ?_, ?_, ?_, ?_, ?_, ?_, ?_, ?_, ?_, ?_, ?_, ?_, ?_⟩ <;> first | assumption | (simp; done) | go_simp))
          (first
            | (go_at_call 18; (with_reducible refine (KI _).mono ?_); rintro e w' ⟨rfl, os5, n5, rfl⟩)
            | (go_at_call 9; (with_reducible refine (K1 _).mono ?_); rintro e w' ⟨rfl, os6, n6, rfl⟩)
          )
        · refine then_w (fun W hW => ?_)
          obtain ⟨PX, hPX⟩ : ∃ v, Value.pointer (some ⟨w.heap.size + 1 + os0.length + os1.length + 1 + os.length + 1 + os5.length + os6.length, 0, none⟩) = v := ⟨_, rfl⟩
          obtain ⟨PY, hPY⟩ : ∃ v, Value.pointer (some ⟨w.heap.size + 1 + os0.length + os1.length + 1 + os.length + 1 + os5.length + os6.length + 1, 0, none⟩) = v := ⟨_, rfl⟩
          rw [hPX, hPY]
          refine hx.out PX PY W ?_
          subst hPX hPY hW
          exact ⟨_, _, rfl, rfl, by repeat (first | exact Gar.refl _ | refine Gar.drewN ?_ _ | refine Gar.drew ?_ | refine Gar.alloc ?_ _ | refine Gar.allocs ?_ _), by go_simp, by go_simp, by go_simp, by go_simp, by go_simp, by go_simp, by go_simp, by go_simp, by go_simp, by go_simp, by go_simp⟩
        all_goals (refine hx.out _ _ _ ?_; exact ⟨_, _, rfl, rfl, by repeat (first | exact Gar.refl _ | refine Gar.drewN ?_ _ | refine Gar.drew ?_ | refine Gar.alloc ?_ _ | refine Gar.allocs ?_ _), by go_simp, by go_simp, by go_simp, by go_simp, by go_simp, by go_simp, by go_simp, by go_simp, by go_simp, by go_simp, by go_simp⟩)
      case main =>
        intro PX PY W hP
        obtain ⟨X, Y, rfl, rfl, ⟨os7, n7, rfl⟩, f0, f1, f2, f3, f4, f5, f6, f7, f8, f9, f10⟩ := hP
        have g0 : (allocs ((allocs (allocs (w.alloc (.cells #[.int .i64 a0x0, .int .i64 a0x1, .int .i64 a0x2, .int .i64 a0x3, .int .i64 a0x4, .int .i64 a0x5, .int .i64 a0x6] 24)) os0) os1).alloc (.cells #[.int .i64 s0, .int .i64 s1, .int .i64 s2, .bool m0, .bool m1, .bool m2, .int .i64 sp] 27)) os7).cell? ⟨X, 0, none⟩ = some (.int .i64 c0) := f0
        have g1 : (allocs ((allocs (allocs (w.alloc (.cells #[.int .i64 a0x0, .int .i64 a0x1, .int .i64 a0x2, .int .i64 a0x3, .int .i64 a0x4, .int .i64 a0x5, .int .i64 a0x6] 24)) os0) os1).alloc (.cells #[.int .i64 s0, .int .i64 s1, .int .i64 s2, .bool m0, .bool m1, .bool m2, .int .i64 sp] 27)) os7).cell? ⟨X, 1, none⟩ = some (.int .i64 c1) := f1
        have g2 : (allocs ((allocs (allocs (w.alloc (.cells #[.int .i64 a0x0, .int .i64 a0x1, .int .i64 a0x2, .int .i64 a0x3, .int .i64 a0x4, .int .i64 a0x5, .int .i64 a0x6] 24)) os0) os1).alloc (.cells #[.int .i64 s0, .int .i64 s1, .int .i64 s2, .bool m0, .bool m1, .bool m2, .int .i64 sp] 27)) os7).cell? ⟨X, 2, none⟩ = some (.int .i64 c2) := f2
        have g3 : (allocs ((allocs (allocs (w.alloc (.cells #[.int .i64 a0x0, .int .i64 a0x1, .int .i64 a0x2, .int .i64 a0x3, .int .i64 a0x4, .int .i64 a0x5, .int .i64 a0x6] 24)) os0) os1).alloc (.cells #[.int .i64 s0, .int .i64 s1, .int .i64 s2, .bool m0, .bool m1, .bool m2, .int .i64 sp] 27)) os7).cell? ⟨X, 3, none⟩ = some (.bool E0) := f3
        have g4 : (allocs ((allocs (allocs (w.alloc (.cells #[.int .i64 a0x0, .int .i64 a0x1, .int .i64 a0x2, .int .i64 a0x3, .int .i64 a0x4, .int .i64 a0x5, .int .i64 a0x6] 24)) os0) os1).alloc (.cells #[.int .i64 s0, .int .i64 s1, .int .i64 s2, .bool m0, .bool m1, .bool m2, .int .i64 sp] 27)) os7).cell? ⟨X, 4, none⟩ = some (.bool E1) := f4
        have g5 : (allocs ((allocs (allocs (w.alloc (.cells #[.int .i64 a0x0, .int .i64 a0x1, .int .i64 a0x2, .int .i64 a0x3, .int .i64 a0x4, .int .i64 a0x5, .int .i64 a0x6] 24)) os0) os1).alloc (.cells #[.int .i64 s0, .int .i64 s1, .int .i64 s2, .bool m0, .bool m1, .bool m2, .int .i64 sp] 27)) os7).cell? ⟨X, 5, none⟩ = some (.bool E2) := f5
        have g6 : (allocs ((allocs (allocs (w.alloc (.cells #[.int .i64 a0x0, .int .i64 a0x1, .int .i64 a0x2, .int .i64 a0x3, .int .i64 a0x4, .int .i64 a0x5, .int .i64 a0x6] 24)) os0) os1).alloc (.cells #[.int .i64 s0, .int .i64 s1, .int .i64 s2, .bool m0, .bool m1, .bool m2, .int .i64 sp] 27)) os7).cell? ⟨X, 6, none⟩ = some (.int .i64 cs) := f6
        have g7 : (allocs ((allocs (allocs (w.alloc (.cells #[.int .i64 a0x0, .int .i64 a0x1, .int .i64 a0x2, .int .i64 a0x3, .int .i64 a0x4, .int .i64 a0x5, .int .i64 a0x6] 24)) os0) os1).alloc (.cells #[.int .i64 s0, .int .i64 s1, .int .i64 s2, .bool m0, .bool m1, .bool m2, .int .i64 sp] 27)) os7).cell? ⟨Y, 3, none⟩ = some (.bool AF) := f7
        have g8 : (allocs ((allocs (allocs (w.alloc (.cells #[.int .i64 a0x0, .int .i64 a0x1, .int .i64 a0x2, .int .i64 a0x3, .int .i64 a0x4, .int .i64 a0x5, .int .i64 a0x6] 24)) os0) os1).alloc (.cells #[.int .i64 s0, .int .i64 s1, .int .i64 s2, .bool m0, .bool m1, .bool m2, .int .i64 sp] 27)) os7).cell? ⟨w.heap.size + 1 + os0.length + os1.length + 1 + os.length, 4, none⟩ = some (.bool d4) := f8
        have g9 : (allocs ((allocs (allocs (w.alloc (.cells #[.int .i64 a0x0, .int .i64 a0x1, .int .i64 a0x2, .int .i64 a0x3, .int .i64 a0x4, .int .i64 a0x5, .int .i64 a0x6] 24)) os0) os1).alloc (.cells #[.int .i64 s0, .int .i64 s1, .int .i64 s2, .bool m0, .bool m1, .bool m2, .int .i64 sp] 27)) os7).cell? ⟨w.heap.size + 1 + os0.length + os1.length + 1 + os.length, 5, none⟩ = some (.bool d5) := f9
        have g10 : (allocs ((allocs (allocs (w.alloc (.cells #[.int .i64 a0x0, .int .i64 a0x1, .int .i64 a0x2, .int .i64 a0x3, .int .i64 a0x4, .int .i64 a0x5, .int .i64 a0x6] 24)) os0) os1).alloc (.cells #[.int .i64 s0, .int .i64 s1, .int .i64 s2, .bool m0, .bool m1, .bool m2, .int .i64 sp] 27)) os7).cell? ⟨w.heap.size + 1 + os0.length + os1.length + 1 + os.length, 6, none⟩ = some (.bool d6) := f10
        clear f0 f1 f2 f3 f4 f5 f6 f7 f8 f9 f10 K1 KI KD
        obtain ⟨⟨z0, z1, z2⟩, z3⟩ := HH.out
        have hlb := HL.out
        have qe := eq_3t d4 d5 d6
        obtain ⟨PT, hPT⟩ : ∃ p, (d4 && d5 && d6) = p := ⟨_, rfl⟩
        rw [hPT] at qe
        have HP := hide hPT
        clear hPT HH HL
        cases PT
        · clear z3
          rcases (show l = 0 ∨ l = 1 ∨ l = 2 ∨ l = 3 by omega) with rfl | rfl | rfl | rfl
          · have e1 : E1 = false := z1 rfl
            have e2 : E2 = false := z2 rfl
            subst e1
            subst e2
            clear z0 z1 z2
            go_wp2_with (fail)
            refine wp_loop_rounds 4 ?_
            repeat any_goals (rw [rounds_succ]; go_wp2_with (fail))
            go_roundw
            case rel => exact ⟨k + 1, _, _, _, _, _, _, _, by go_num, by omega, by repeat (first | exact Gar.refl _ | refine Gar.drewN ?_ _ | refine Gar.drew ?_ | refine Gar.alloc ?_ _ | refine Gar.allocs ?_ _), fun z => absurd z (by decide), fun z => rfl, fun z => rfl⟩
            case measure => simp [intOf]; omega
          · have e0 : E0 = false := z0 rfl
            have e2 : E2 = false := z2 rfl
            subst e0
            subst e2
            clear z0 z1 z2
            go_wp2_with (fail)
            refine wp_loop_rounds 4 ?_
            repeat any_goals (rw [rounds_succ]; go_wp2_with (fail))
            go_roundw
            case rel => exact ⟨k + 1, _, _, _, _, _, _, _, by go_num, by omega, by repeat (first | exact Gar.refl _ | refine Gar.drewN ?_ _ | refine Gar.drew ?_ | refine Gar.alloc ?_ _ | refine Gar.allocs ?_ _), fun z => rfl, fun z => absurd z (by decide), fun z => rfl⟩
            case measure => simp [intOf]; omega
          · have e0 : E0 = false := z0 rfl
            have e1 : E1 = false := z1 rfl
            subst e0
            subst e1
            clear z0 z1 z2
            go_wp2_with (fail)
            refine wp_loop_rounds 4 ?_
            repeat any_goals (rw [rounds_succ]; go_wp2_with (fail))
            go_roundw
            case rel => exact ⟨k + 1, _, _, _, _, _, _, _, by go_num, by omega, by repeat (first | exact Gar.refl _ | refine Gar.drewN ?_ _ | refine Gar.drew ?_ | refine Gar.alloc ?_ _ | refine Gar.allocs ?_ _), fun z => rfl, fun z => rfl, fun z => absurd z (by decide)⟩
            case measure => simp [intOf]; omega
          · have e0 : E0 = false := z0 rfl
            have e1 : E1 = false := z1 rfl
            have e2 : E2 = false := z2 rfl
            subst e0
            subst e1
            subst e2
            clear z0 z1 z2
            go_wp2_with (fail)
            refine wp_loop_rounds 4 ?_
            repeat any_goals (rw [rounds_succ]; go_wp2_with (fail))
            go_roundw
            case rel => exact ⟨k + 1, _, _, _, _, _, _, _, by go_num, by omega, by repeat (first | exact Gar.refl _ | refine Gar.drewN ?_ _ | refine Gar.drew ?_ | refine Gar.alloc ?_ _ | refine Gar.allocs ?_ _), fun z => rfl, fun z => rfl, fun z => rfl⟩
            case measure => simp [intOf]; omega
        · have hd : d4 = true ∧ d5 = true ∧ d6 = true := by simpa [and_assoc] using HP.out
          have hcw := z3 hd.1 hd.2.1 hd.2.2
          obtain rfl : AF = false := HF.out.symm.trans (decide_eq_false (by omega))
          clear hcw hd z3
          rcases (show l = 0 ∨ l = 1 ∨ l = 2 ∨ l = 3 by omega) with rfl | rfl | rfl | rfl
          · have e1 : E1 = false := z1 rfl
            have e2 : E2 = false := z2 rfl
            subst e1
            subst e2
            clear z0 z1 z2
            go_wp2_with (fail)
            refine wp_loop_rounds 4 ?_
            repeat any_goals (rw [rounds_succ]; go_wp2_with (fail))
            go_roundw
            case rel => exact ⟨k + 1, _, _, _, _, _, _, _, by go_num, by omega, by repeat (first | exact Gar.refl _ | refine Gar.drewN ?_ _ | refine Gar.drew ?_ | refine Gar.alloc ?_ _ | refine Gar.allocs ?_ _), fun z => absurd z (by decide), fun z => rfl, fun z => rfl⟩
            case measure => simp [intOf]; omega
          · have e0 : E0 = false := z0 rfl
            have e2 : E2 = false := z2 rfl
            subst e0
            subst e2
            clear z0 z1 z2
            go_wp2_with (fail)
            refine wp_loop_rounds 4 ?_
            repeat any_goals (rw [rounds_succ]; go_wp2_with (fail))
            go_roundw
            case rel => exact ⟨k + 1, _, _, _, _, _, _, _, by go_num, by omega, by repeat (first | exact Gar.refl _ | refine Gar.drewN ?_ _ | refine Gar.drew ?_ | refine Gar.alloc ?_ _ | refine Gar.allocs ?_ _), fun z => rfl, fun z => absurd z (by decide), fun z => rfl⟩
            case measure => simp [intOf]; omega
          · have e0 : E0 = false := z0 rfl
            have e1 : E1 = false := z1 rfl
            subst e0
            subst e1
            clear z0 z1 z2
            go_wp2_with (fail)
            refine wp_loop_rounds 4 ?_
            repeat any_goals (rw [rounds_succ]; go_wp2_with (fail))
            go_roundw
            case rel => exact ⟨k + 1, _, _, _, _, _, _, _, by go_num, by omega, by repeat (first | exact Gar.refl _ | refine Gar.drewN ?_ _ | refine Gar.drew ?_ | refine Gar.alloc ?_ _ | refine Gar.allocs ?_ _), fun z => rfl, fun z => rfl, fun z => absurd z (by decide)⟩
            case measure => simp [intOf]; omega
          · have e0 : E0 = false := z0 rfl
            have e1 : E1 = false := z1 rfl
            have e2 : E2 = false := z2 rfl
            subst e0
            subst e1
            subst e2
            clear z0 z1 z2
            go_wp2_with (fail)
            refine wp_loop_rounds 4 ?_
            repeat any_goals (rw [rounds_succ]; go_wp2_with (fail))
            go_roundw
            case rel => exact ⟨k + 1, _, _, _, _, _, _, _, by go_num, by omega, by repeat (first | exact Gar.refl _ | refine Gar.drewN ?_ _ | refine Gar.drew ?_ | refine Gar.alloc ?_ _ | refine Gar.allocs ?_ _), fun z => rfl, fun z => rfl, fun z => rfl⟩
            case measure => simp [intOf]; omega
    · clear hR
      go_wp2_with (fail)
      go_returns
      exact ⟨rfl, show Bel _ _ from Gar.bel (by repeat (first | exact Gar.refl _ | refine Gar.drewN ?_ _ | refine Gar.drew ?_ | refine Gar.alloc ?_ _ | refine Gar.allocs ?_ _))⟩
end Go.Proofs.Ytdincfemiignjaa
