/- The contract of voter.look. -/
import Derived.Test.YtdincfemiignjaaVotC
import Derived.IntWalk
import Derived.Deep.RegionWith
import Derived.Test.YtdincfemiignjaaTail
import Derived.Deep.DrawnRows
import Derived.Test.YtdincfemiignjaaWhl
namespace Go.Proofs.Ytdincfemiignjaa
open Go.RowKit
set_option linter.unusedVariables false
set_option linter.unusedSimpArgs false
attribute [local go_sem ↓] Go.wp_at_zero Go.wp_at_succ

/-- Do two different active sources agree? -/
def gg (u v : Bool) (a b e f : Int) : Bool := u && v && decide (dst a b ≤ e + f)
theorem gg_comm (u v : Bool) (a b e f : Int) : gg u v a b e f = gg v u b a f e := by
  unfold gg; rw [dst_comm, Int.add_comm, Bool.and_comm u v]
theorem gg_f (v : Bool) (a b e f : Int) : gg false v a b e f = false := by simp [gg]
theorem gg_tf (a b e f : Int) : gg true false a b e f = false := by simp [gg]
theorem gg_tt (a b e f : Int) : gg true true a b e f = decide (dst a b ≤ e + f) := by simp [gg]
theorem b_ways (u v : Bool) : u = false ∨ (u = true ∧ v = false) ∨ (u = true ∧ v = true) := by cases u <;> cases v <;> simp
def b2i (b : Bool) : Int := if b then 1 else 0
/-- Which sources are active, behind k rounds. -/
def OnI (u0 u1 u2 : Bool) (k : Nat) (x0 x1 x2 : Bool) (ct : Int) : Prop :=
  x0 = (decide (0 < k) && u0) ∧ x1 = (decide (1 < k) && u1) ∧ x2 = (decide (2 < k) && u2) ∧ ct = b2i (decide (0 < k) && u0) + b2i (decide (1 < k) && u1) + b2i (decide (2 < k) && u2)
theorem OnI.bd {u0 u1 u2 : Bool} {k : Nat} {x0 x1 x2 : Bool} {ct : Int} (h : OnI u0 u1 u2 k x0 x1 x2 ct) : 0 ≤ ct ∧ ct ≤ 3 := by
  obtain ⟨_, _, _, rfl⟩ := h
  unfold b2i; (repeat' split) <;> omega
theorem OnI.next0 {u0 u1 u2 : Bool} {x0 x1 x2 : Bool} {ct : Int} (h : OnI u0 u1 u2 0 x0 x1 x2 ct) : OnI u0 u1 u2 1 u0 x1 x2 (ct + b2i u0) := by
  obtain ⟨rfl, rfl, rfl, rfl⟩ := h
  refine ⟨by simp, by simp, by simp, ?_⟩
  simp [b2i]
theorem OnI.next1 {u0 u1 u2 : Bool} {x0 x1 x2 : Bool} {ct : Int} (h : OnI u0 u1 u2 1 x0 x1 x2 ct) : OnI u0 u1 u2 2 x0 u1 x2 (ct + b2i u1) := by
  obtain ⟨rfl, rfl, rfl, rfl⟩ := h
  refine ⟨by simp, by simp, by simp, ?_⟩
  simp [b2i]
theorem OnI.next2 {u0 u1 u2 : Bool} {x0 x1 x2 : Bool} {ct : Int} (h : OnI u0 u1 u2 2 x0 x1 x2 ct) : OnI u0 u1 u2 3 x0 x1 u2 (ct + b2i u2) := by
  obtain ⟨rfl, rfl, rfl, rfl⟩ := h
  refine ⟨by simp, by simp, by simp, ?_⟩
  simp [b2i]
/-- Which sources agree, behind q cells. -/
def AgI (f0 f1 f2 f3 f4 f5 f6 f7 f8 : Bool) (q : Nat) (y0 y1 y2 y3 y4 y5 y6 y7 y8 : Bool) : Prop :=
  y0 = (decide (0 < q) && f0) ∧ y1 = (decide (1 < q) && f1) ∧ y2 = (decide (2 < q) && f2) ∧ y3 = (decide (3 < q) && f3) ∧ y4 = (decide (4 < q) && f4) ∧ y5 = (decide (5 < q) && f5) ∧ y6 = (decide (6 < q) && f6) ∧ y7 = (decide (7 < q) && f7) ∧ y8 = (decide (8 < q) && f8)
theorem AgI.next0 {f0 f1 f2 f3 f4 f5 f6 f7 f8 y0 y1 y2 y3 y4 y5 y6 y7 y8 : Bool} (h : AgI f0 f1 f2 f3 f4 f5 f6 f7 f8 0 y0 y1 y2 y3 y4 y5 y6 y7 y8) : AgI f0 f1 f2 f3 f4 f5 f6 f7 f8 1 f0 y1 y2 y3 y4 y5 y6 y7 y8 := by
  obtain ⟨rfl, rfl, rfl, rfl, rfl, rfl, rfl, rfl, rfl⟩ := h
  exact ⟨by simp, by simp, by simp, by simp, by simp, by simp, by simp, by simp, by simp⟩
theorem AgI.next1 {f0 f1 f2 f3 f4 f5 f6 f7 f8 y0 y1 y2 y3 y4 y5 y6 y7 y8 : Bool} (h : AgI f0 f1 f2 f3 f4 f5 f6 f7 f8 1 y0 y1 y2 y3 y4 y5 y6 y7 y8) : AgI f0 f1 f2 f3 f4 f5 f6 f7 f8 2 y0 f1 y2 y3 y4 y5 y6 y7 y8 := by
  obtain ⟨rfl, rfl, rfl, rfl, rfl, rfl, rfl, rfl, rfl⟩ := h
  exact ⟨by simp, by simp, by simp, by simp, by simp, by simp, by simp, by simp, by simp⟩
theorem AgI.next2 {f0 f1 f2 f3 f4 f5 f6 f7 f8 y0 y1 y2 y3 y4 y5 y6 y7 y8 : Bool} (h : AgI f0 f1 f2 f3 f4 f5 f6 f7 f8 2 y0 y1 y2 y3 y4 y5 y6 y7 y8) : AgI f0 f1 f2 f3 f4 f5 f6 f7 f8 3 y0 y1 f2 y3 y4 y5 y6 y7 y8 := by
  obtain ⟨rfl, rfl, rfl, rfl, rfl, rfl, rfl, rfl, rfl⟩ := h
  exact ⟨by simp, by simp, by simp, by simp, by simp, by simp, by simp, by simp, by simp⟩
theorem AgI.next3 {f0 f1 f2 f3 f4 f5 f6 f7 f8 y0 y1 y2 y3 y4 y5 y6 y7 y8 : Bool} (h : AgI f0 f1 f2 f3 f4 f5 f6 f7 f8 3 y0 y1 y2 y3 y4 y5 y6 y7 y8) : AgI f0 f1 f2 f3 f4 f5 f6 f7 f8 4 y0 y1 y2 f3 y4 y5 y6 y7 y8 := by
  obtain ⟨rfl, rfl, rfl, rfl, rfl, rfl, rfl, rfl, rfl⟩ := h
  exact ⟨by simp, by simp, by simp, by simp, by simp, by simp, by simp, by simp, by simp⟩
theorem AgI.next4 {f0 f1 f2 f3 f4 f5 f6 f7 f8 y0 y1 y2 y3 y4 y5 y6 y7 y8 : Bool} (h : AgI f0 f1 f2 f3 f4 f5 f6 f7 f8 4 y0 y1 y2 y3 y4 y5 y6 y7 y8) : AgI f0 f1 f2 f3 f4 f5 f6 f7 f8 5 y0 y1 y2 y3 f4 y5 y6 y7 y8 := by
  obtain ⟨rfl, rfl, rfl, rfl, rfl, rfl, rfl, rfl, rfl⟩ := h
  exact ⟨by simp, by simp, by simp, by simp, by simp, by simp, by simp, by simp, by simp⟩
theorem AgI.next5 {f0 f1 f2 f3 f4 f5 f6 f7 f8 y0 y1 y2 y3 y4 y5 y6 y7 y8 : Bool} (h : AgI f0 f1 f2 f3 f4 f5 f6 f7 f8 5 y0 y1 y2 y3 y4 y5 y6 y7 y8) : AgI f0 f1 f2 f3 f4 f5 f6 f7 f8 6 y0 y1 y2 y3 y4 f5 y6 y7 y8 := by
  obtain ⟨rfl, rfl, rfl, rfl, rfl, rfl, rfl, rfl, rfl⟩ := h
  exact ⟨by simp, by simp, by simp, by simp, by simp, by simp, by simp, by simp, by simp⟩
theorem AgI.next6 {f0 f1 f2 f3 f4 f5 f6 f7 f8 y0 y1 y2 y3 y4 y5 y6 y7 y8 : Bool} (h : AgI f0 f1 f2 f3 f4 f5 f6 f7 f8 6 y0 y1 y2 y3 y4 y5 y6 y7 y8) : AgI f0 f1 f2 f3 f4 f5 f6 f7 f8 7 y0 y1 y2 y3 y4 y5 f6 y7 y8 := by
  obtain ⟨rfl, rfl, rfl, rfl, rfl, rfl, rfl, rfl, rfl⟩ := h
  exact ⟨by simp, by simp, by simp, by simp, by simp, by simp, by simp, by simp, by simp⟩
theorem AgI.next7 {f0 f1 f2 f3 f4 f5 f6 f7 f8 y0 y1 y2 y3 y4 y5 y6 y7 y8 : Bool} (h : AgI f0 f1 f2 f3 f4 f5 f6 f7 f8 7 y0 y1 y2 y3 y4 y5 y6 y7 y8) : AgI f0 f1 f2 f3 f4 f5 f6 f7 f8 8 y0 y1 y2 y3 y4 y5 y6 f7 y8 := by
  obtain ⟨rfl, rfl, rfl, rfl, rfl, rfl, rfl, rfl, rfl⟩ := h
  exact ⟨by simp, by simp, by simp, by simp, by simp, by simp, by simp, by simp, by simp⟩
theorem AgI.next8 {f0 f1 f2 f3 f4 f5 f6 f7 f8 y0 y1 y2 y3 y4 y5 y6 y7 y8 : Bool} (h : AgI f0 f1 f2 f3 f4 f5 f6 f7 f8 8 y0 y1 y2 y3 y4 y5 y6 y7 y8) : AgI f0 f1 f2 f3 f4 f5 f6 f7 f8 9 y0 y1 y2 y3 y4 y5 y6 y7 f8 := by
  obtain ⟨rfl, rfl, rfl, rfl, rfl, rfl, rfl, rfl, rfl⟩ := h
  exact ⟨by simp, by simp, by simp, by simp, by simp, by simp, by simp, by simp, by simp⟩
theorem AgI.done {f0 f1 f2 f3 f4 f5 f6 f7 f8 y0 y1 y2 y3 y4 y5 y6 y7 y8 : Bool} (h : AgI f0 f1 f2 f3 f4 f5 f6 f7 f8 9 y0 y1 y2 y3 y4 y5 y6 y7 y8) : y0 = f0 ∧ y1 = f1 ∧ y2 = f2 ∧ y3 = f3 ∧ y4 = f4 ∧ y5 = f5 ∧ y6 = f6 ∧ y7 = f7 ∧ y8 = f8 := h
theorem look_eq {e0 e1 e2 p0 p1 p2 n a0 a1 a2 : Int} {x0 x1 x2 u0 u1 u2 : Bool} {ct : Int} {f0 f1 f2 f3 f4 f5 f6 f7 f8 : Bool} (hx : x0 = u0 ∧ x1 = u1 ∧ x2 = u2 ∧ ct = b2i u0 + b2i u1 + b2i u2) (h0 : false = f0) (h1 : (gg x0 x1 a0 a1 e0 e1) = f1) (h2 : (gg x0 x2 a0 a2 e0 e2) = f2) (h3 : (gg x1 x0 a1 a0 e1 e0) = f3) (h4 : false = f4) (h5 : (gg x1 x2 a1 a2 e1 e2) = f5) (h6 : (gg x2 x0 a2 a0 e2 e0) = f6) (h7 : (gg x2 x1 a2 a1 e2 e1) = f7) (h8 : false = f8) :
    Ending.returned (.agg #[.int .i64 e0, .int .i64 e1, .int .i64 e2, .int .i64 p0, .int .i64 p1, .int .i64 p2, .int .i64 n, .int .i64 a0, .int .i64 a1, .int .i64 a2, .bool x0, .bool x1, .bool x2, .int .i64 ct, .bool f0, .bool f1, .bool f2, .bool f3, .bool f4, .bool f5, .bool f6, .bool f7, .bool f8]) = Ending.returned (.agg #[.int .i64 e0, .int .i64 e1, .int .i64 e2, .int .i64 p0, .int .i64 p1, .int .i64 p2, .int .i64 n, .int .i64 a0, .int .i64 a1, .int .i64 a2, .bool u0, .bool u1, .bool u2, .int .i64 (b2i u0 + b2i u1 + b2i u2), .bool false, .bool (gg u0 u1 a0 a1 e0 e1), .bool (gg u0 u2 a0 a2 e0 e2), .bool (gg u0 u1 a0 a1 e0 e1), .bool false, .bool (gg u1 u2 a1 a2 e1 e2), .bool (gg u0 u2 a0 a2 e0 e2), .bool (gg u1 u2 a1 a2 e1 e2), .bool false]) := by
  obtain ⟨rfl, rfl, rfl, rfl⟩ := hx
  subst h0 h1 h2 h3 h4 h5 h6 h7 h8
  rw [gg_comm x1 x0, gg_comm x2 x0, gg_comm x2 x1]

set_option maxHeartbeats 16000000 in
theorem look_any (e0 e1 e2 p0 p1 p2 n : Int) (s0 s1 s2 : Int) (m0 m1 m2 : Bool) (sp : Int) (a0 a1 a2 : Int) (r0 r1 r2 : Bool) (he : (0 ≤ e0 ∧ e0 ≤ 16384) ∧ (0 ≤ e1 ∧ e1 ≤ 16384) ∧ (0 ≤ e2 ∧ e2 ≤ 16384)) (w0 w : World) (hb : Gar w0 w) :
    Calls Try.prog 23 #[.agg #[.int .i64 e0, .int .i64 e1, .int .i64 e2, .int .i64 p0, .int .i64 p1, .int .i64 p2, .int .i64 n], .agg #[.int .i64 s0, .int .i64 s1, .int .i64 s2, .bool m0, .bool m1, .bool m2, .int .i64 sp], .agg #[.int .i64 a0, .int .i64 a1, .int .i64 a2, .bool r0, .bool r1, .bool r2]] w fun e w' => e = .returned (.agg #[.int .i64 e0, .int .i64 e1, .int .i64 e2, .int .i64 p0, .int .i64 p1, .int .i64 p2, .int .i64 n, .int .i64 a0, .int .i64 a1, .int .i64 a2, .bool (r0 && !m0), .bool (r1 && !m1), .bool (r2 && !m2), .int .i64 (b2i (r0 && !m0) + b2i (r1 && !m1) + b2i (r2 && !m2)), .bool false, .bool (gg (r0 && !m0) (r1 && !m1) a0 a1 e0 e1), .bool (gg (r0 && !m0) (r2 && !m2) a0 a2 e0 e2), .bool (gg (r0 && !m0) (r1 && !m1) a0 a1 e0 e1), .bool false, .bool (gg (r1 && !m1) (r2 && !m2) a1 a2 e1 e2), .bool (gg (r0 && !m0) (r2 && !m2) a0 a2 e0 e2), .bool (gg (r1 && !m1) (r2 && !m2) a1 a2 e1 e2), .bool false]) ∧ Gar w0 w' := by
  refine on_gar hb ?_
  clear hb w0
  obtain ⟨he0, he1, he2⟩ := he
  go_enter Try.func23, Try.ntmps23
  go_wp2_with (first | (refine wpList_build_all rfl 63 _ rfl #[(0, .agg #[.int .i64 e0, .int .i64 e1, .int .i64 e2, .int .i64 p0, .int .i64 p1, .int .i64 p2, .int .i64 n]), (1, .agg #[.int .i64 a0, .int .i64 a1, .int .i64 a2])] rfl #[.int .i64 e0, .int .i64 e1, .int .i64 e2, .int .i64 p0, .int .i64 p1, .int .i64 p2, .int .i64 n, .int .i64 a0, .int .i64 a1, .int .i64 a2, .bool false, .bool false, .bool false, .int .i64 0, .bool false, .bool false, .bool false, .bool false, .bool false, .bool false, .bool false, .bool false, .bool false] (by kernel_rfl) ?_) | (refine wpList_store_blk rfl 63 _ _ rfl _ _ _ rfl rfl (by repeat (first | with_reducible refine hp_drewN ?_ | with_reducible refine hp_drew ?_ | with_reducible refine hp_allocs ?_ | (with_reducible refine hp_last ?_; simp; done) | with_reducible refine hp_past ?_)) (by kernel_rfl) (by simp) (by simp [Value.oneCell']) (by (repeat (first | rewrite [rw_drewN] | rewrite [rw_drew] | (rewrite [rw_allocs]; rotate_left; focus (simp; done)) | (rewrite [rw_last]; rotate_left; focus (simp; done)) | (rewrite [rw_past]; rotate_left; focus (simp; done)))); exact rfl) ?_))
  go_loopw [15] (fun i wr => ∃ (k : Nat) (x0 x1 x2 : Bool) (ct : Int), i = .int .i64 k ∧ k ≤ 3 ∧ Gar (((((w.alloc (.cells #[.int .i64 e0, .int .i64 e1, .int .i64 e2, .int .i64 p0, .int .i64 p1, .int .i64 p2, .int .i64 n] 24)).alloc (.cells #[.int .i64 s0, .int .i64 s1, .int .i64 s2, .bool m0, .bool m1, .bool m2, .int .i64 sp] 27)).alloc (.cells #[.int .i64 a0, .int .i64 a1, .int .i64 a2, .bool r0, .bool r1, .bool r2] 29)).alloc (.cells #[.int .i64 0, .int .i64 0, .int .i64 0, .int .i64 0, .int .i64 0, .int .i64 0, .int .i64 0, .int .i64 0, .int .i64 0, .int .i64 0, .bool false, .bool false, .bool false, .int .i64 0, .bool false, .bool false, .bool false, .bool false, .bool false, .bool false, .bool false, .bool false, .bool false] 63)).alloc (.cells #[.int .i64 e0, .int .i64 e1, .int .i64 e2, .int .i64 p0, .int .i64 p1, .int .i64 p2, .int .i64 n, .int .i64 a0, .int .i64 a1, .int .i64 a2, .bool x0, .bool x1, .bool x2, .int .i64 ct, .bool false, .bool false, .bool false, .bool false, .bool false, .bool false, .bool false, .bool false, .bool false] 63)) wr ∧ OnI (r0 && !m0) (r1 && !m1) (r2 && !m2) k x0 x1 x2 ct) (fun i _ => 3 - (intOf i).toNat)
  case atStart => exact ⟨0, false, false, false, 0, rfl, by omega, by repeat (first | exact Gar.refl _ | refine Gar.drewN ?_ _ | refine Gar.drew ?_ | refine Gar.alloc ?_ _ | refine Gar.allocs ?_ _), rfl, rfl, rfl, rfl⟩
  case round =>
    obtain ⟨k, x0, x1, x2, ct, rfl, hk, ⟨os, n1, rfl⟩, hI0⟩ := hrel
    have bc := OnI.bd hI0
    have hI := hide hI0
    clear hI0
    rcases (show k = 0 ∨ k = 1 ∨ k = 2 ∨ k = 3 by omega) with rfl | rfl | rfl | rfl
    · have hN := hide (OnI.next0 hI.out)
      clear hI
      cases r0 <;> cases m0
      all_goals
        go_wp2_with (fail)
        go_roundw
        case rel => exact ⟨1, _, _, _, _, rfl, by omega, by repeat (first | exact Gar.refl _ | refine Gar.drewN ?_ _ | refine Gar.drew ?_ | refine Gar.alloc ?_ _ | refine Gar.allocs ?_ _), by simpa [b2i] using hN.out⟩
        case measure => first | (simp; done) | (simp [intOf]; done) | (simp [intOf]; omega)
    · have hN := hide (OnI.next1 hI.out)
      clear hI
      cases r1 <;> cases m1
      all_goals
        go_wp2_with (fail)
        go_roundw
        case rel => exact ⟨2, _, _, _, _, rfl, by omega, by repeat (first | exact Gar.refl _ | refine Gar.drewN ?_ _ | refine Gar.drew ?_ | refine Gar.alloc ?_ _ | refine Gar.allocs ?_ _), by simpa [b2i] using hN.out⟩
        case measure => first | (simp; done) | (simp [intOf]; done) | (simp [intOf]; omega)
    · have hN := hide (OnI.next2 hI.out)
      clear hI
      cases r2 <;> cases m2
      all_goals
        go_wp2_with (fail)
        go_roundw
        case rel => exact ⟨3, _, _, _, _, rfl, by omega, by repeat (first | exact Gar.refl _ | refine Gar.drewN ?_ _ | refine Gar.drew ?_ | refine Gar.alloc ?_ _ | refine Gar.allocs ?_ _), by simpa [b2i] using hN.out⟩
        case measure => first | (simp; done) | (simp [intOf]; done) | (simp [intOf]; omega)
    · obtain ⟨hx0, hx1, hx2, hct⟩ := hI.out
      simp only [show decide (0 < 3) = true from rfl, show decide (1 < 3) = true from rfl, show decide (2 < 3) = true from rfl, Bool.true_and] at hx0 hx1 hx2 hct
      have hX := hide (And.intro hx0 (And.intro hx1 (And.intro hx2 hct)))
      clear hx0 hx1 hx2 hct hI bc
      obtain ⟨f0, hf0⟩ : ∃ f, false = f := ⟨_, rfl⟩
      obtain ⟨f1, hf1⟩ : ∃ f, (gg x0 x1 a0 a1 e0 e1) = f := ⟨_, rfl⟩
      obtain ⟨f2, hf2⟩ : ∃ f, (gg x0 x2 a0 a2 e0 e2) = f := ⟨_, rfl⟩
      obtain ⟨f3, hf3⟩ : ∃ f, (gg x1 x0 a1 a0 e1 e0) = f := ⟨_, rfl⟩
      obtain ⟨f4, hf4⟩ : ∃ f, false = f := ⟨_, rfl⟩
      obtain ⟨f5, hf5⟩ : ∃ f, (gg x1 x2 a1 a2 e1 e2) = f := ⟨_, rfl⟩
      obtain ⟨f6, hf6⟩ : ∃ f, (gg x2 x0 a2 a0 e2 e0) = f := ⟨_, rfl⟩
      obtain ⟨f7, hf7⟩ : ∃ f, (gg x2 x1 a2 a1 e2 e1) = f := ⟨_, rfl⟩
      obtain ⟨f8, hf8⟩ : ∃ f, false = f := ⟨_, rfl⟩
      have hF0 := hide hf0
      have hF1 := hide hf1
      have hF2 := hide hf2
      have hF3 := hide hf3
      have hF4 := hide hf4
      have hF5 := hide hf5
      have hF6 := hide hf6
      have hF7 := hide hf7
      have hF8 := hide hf8
      clear hf0 hf1 hf2 hf3 hf4 hf5 hf6 hf7 hf8
      go_wp2_with (fail)
      go_loopw [41] (fun i wr => ∃ (k : Nat) (y0 y1 y2 y3 y4 y5 y6 y7 y8 : Bool), i = .int .i64 k ∧ k ≤ 3 ∧ Gar (((((w.alloc (.cells #[.int .i64 e0, .int .i64 e1, .int .i64 e2, .int .i64 p0, .int .i64 p1, .int .i64 p2, .int .i64 n] 24)).alloc (.cells #[.int .i64 s0, .int .i64 s1, .int .i64 s2, .bool m0, .bool m1, .bool m2, .int .i64 sp] 27)).alloc (.cells #[.int .i64 a0, .int .i64 a1, .int .i64 a2, .bool r0, .bool r1, .bool r2] 29)).alloc (.cells #[.int .i64 0, .int .i64 0, .int .i64 0, .int .i64 0, .int .i64 0, .int .i64 0, .int .i64 0, .int .i64 0, .int .i64 0, .int .i64 0, .bool false, .bool false, .bool false, .int .i64 0, .bool false, .bool false, .bool false, .bool false, .bool false, .bool false, .bool false, .bool false, .bool false] 63)).alloc (.cells #[.int .i64 e0, .int .i64 e1, .int .i64 e2, .int .i64 p0, .int .i64 p1, .int .i64 p2, .int .i64 n, .int .i64 a0, .int .i64 a1, .int .i64 a2, .bool x0, .bool x1, .bool x2, .int .i64 ct, .bool y0, .bool y1, .bool y2, .bool y3, .bool y4, .bool y5, .bool y6, .bool y7, .bool y8] 63)) wr ∧ AgI f0 f1 f2 f3 f4 f5 f6 f7 f8 (3 * k) y0 y1 y2 y3 y4 y5 y6 y7 y8) (fun i _ => 3 - (intOf i).toNat)
      case atStart => exact ⟨0, false, false, false, false, false, false, false, false, false, rfl, by omega, by repeat (first | exact Gar.refl _ | refine Gar.drewN ?_ _ | refine Gar.drew ?_ | refine Gar.alloc ?_ _ | refine Gar.allocs ?_ _), rfl, rfl, rfl, rfl, rfl, rfl, rfl, rfl, rfl⟩
      case round =>
        obtain ⟨k, y0, y1, y2, y3, y4, y5, y6, y7, y8, rfl, hk, ⟨os, n1, rfl⟩, hI0⟩ := hrel
        have hI := hide hI0
        clear hI0
        rcases (show k = 0 ∨ k = 1 ∨ k = 2 ∨ k = 3 by omega) with rfl | rfl | rfl | rfl
        · go_wp2_with (fail)
          go_loopw [44] (fun j wr => ∃ (m : Nat) (y0 y1 y2 y3 y4 y5 y6 y7 y8 : Bool), j = .int .i64 m ∧ m ≤ 3 ∧ Gar (((((w.alloc (.cells #[.int .i64 e0, .int .i64 e1, .int .i64 e2, .int .i64 p0, .int .i64 p1, .int .i64 p2, .int .i64 n] 24)).alloc (.cells #[.int .i64 s0, .int .i64 s1, .int .i64 s2, .bool m0, .bool m1, .bool m2, .int .i64 sp] 27)).alloc (.cells #[.int .i64 a0, .int .i64 a1, .int .i64 a2, .bool r0, .bool r1, .bool r2] 29)).alloc (.cells #[.int .i64 0, .int .i64 0, .int .i64 0, .int .i64 0, .int .i64 0, .int .i64 0, .int .i64 0, .int .i64 0, .int .i64 0, .int .i64 0, .bool false, .bool false, .bool false, .int .i64 0, .bool false, .bool false, .bool false, .bool false, .bool false, .bool false, .bool false, .bool false, .bool false] 63)).alloc (.cells #[.int .i64 e0, .int .i64 e1, .int .i64 e2, .int .i64 p0, .int .i64 p1, .int .i64 p2, .int .i64 n, .int .i64 a0, .int .i64 a1, .int .i64 a2, .bool x0, .bool x1, .bool x2, .int .i64 ct, .bool y0, .bool y1, .bool y2, .bool y3, .bool y4, .bool y5, .bool y6, .bool y7, .bool y8] 63)) wr ∧ AgI f0 f1 f2 f3 f4 f5 f6 f7 f8 (0 + m) y0 y1 y2 y3 y4 y5 y6 y7 y8) (fun j _ => 3 - (intOf j).toNat)
          case atStart => exact ⟨0, y0, y1, y2, y3, y4, y5, y6, y7, y8, rfl, by omega, by repeat (first | exact Gar.refl _ | refine Gar.drewN ?_ _ | refine Gar.drew ?_ | refine Gar.alloc ?_ _ | refine Gar.allocs ?_ _), hI.out⟩
          case round =>
            clear hI
            obtain ⟨m, y0, y1, y2, y3, y4, y5, y6, y7, y8, rfl, hm, ⟨os, n1, rfl⟩, hI0⟩ := hrel
            have hI := hide hI0
            clear hI0
            rcases (show m = 0 ∨ m = 1 ∨ m = 2 ∨ m = 3 by omega) with rfl | rfl | rfl | rfl
            · obtain rfl : f0 = false := hF0.out.symm
              go_wp2_with (fail)
              refine wp_region_tail 41 (by kernel_rfl) (by kernel_rfl) ?_
              simp only [List.take_succ_cons, List.take_zero, List.drop_succ_cons, List.drop_zero]
              repeat (first | go_big_quiet_skip | (go_big_quiet_want; go_big_quiet_op; (first | go_big_quiet_on | (apply Exists.intro; (refine And.intro ?_ ?_); fail; go_big_quiet_on))))
              refine wpQuiet_nil ?_
              go_wp2_with (fail)
              go_roundw
              case rel => first | exact ⟨1, false, y1, y2, y3, y4, y5, y6, y7, y8, rfl, by omega, by repeat (first | exact Gar.refl _ | refine Gar.drewN ?_ _ | refine Gar.drew ?_ | refine Gar.alloc ?_ _ | refine Gar.allocs ?_ _), AgI.next0 hI.out⟩ | ((repeat apply Exists.intro); exact ⟨⟨1, false, y1, y2, y3, y4, y5, y6, y7, y8, rfl, by omega, by repeat (first | exact Gar.refl _ | refine Gar.drewN ?_ _ | refine Gar.drew ?_ | refine Gar.alloc ?_ _ | refine Gar.allocs ?_ _), AgI.next0 hI.out⟩, rfl⟩)
              case measure => first | (simp; done) | (simp [intOf]; done) | (simp [intOf]; omega)
            · rcases b_ways x0 x1 with h | ⟨h, g⟩ | ⟨h, g⟩
              · subst h
                obtain rfl : f1 = false := hF1.out.symm.trans (gg_f _ _ _ _ _)
                go_wp2_with (fail)
                refine wp_region_tail 41 (by kernel_rfl) (by kernel_rfl) ?_
                simp only [List.take_succ_cons, List.take_zero, List.drop_succ_cons, List.drop_zero]
                repeat (first | go_big_quiet_skip | (go_big_quiet_want; go_big_quiet_op; (first | go_big_quiet_on | (apply Exists.intro; (refine And.intro ?_ ?_); fail; go_big_quiet_on))))
                refine wpQuiet_nil ?_
                go_wp2_with (fail)
                go_roundw
                case rel => exact ⟨2, y0, false, y2, y3, y4, y5, y6, y7, y8, rfl, by omega, by repeat (first | exact Gar.refl _ | refine Gar.drewN ?_ _ | refine Gar.drew ?_ | refine Gar.alloc ?_ _ | refine Gar.allocs ?_ _), AgI.next1 hI.out⟩
                case measure => first | (simp; done) | (simp [intOf]; done) | (simp [intOf]; omega)
              · subst h
                subst g
                obtain rfl : f1 = false := hF1.out.symm.trans (gg_tf _ _ _ _)
                go_wp2_with (fail)
                refine wp_region_tail 41 (by kernel_rfl) (by kernel_rfl) ?_
                simp only [List.take_succ_cons, List.take_zero, List.drop_succ_cons, List.drop_zero]
                repeat (first | go_big_quiet_skip | (go_big_quiet_want; go_big_quiet_op; (first | go_big_quiet_on | (apply Exists.intro; (refine And.intro ?_ ?_); fail; go_big_quiet_on))))
                refine wpQuiet_nil ?_
                go_wp2_with (fail)
                go_roundw
                case rel => exact ⟨2, y0, false, y2, y3, y4, y5, y6, y7, y8, rfl, by omega, by repeat (first | exact Gar.refl _ | refine Gar.drewN ?_ _ | refine Gar.drew ?_ | refine Gar.alloc ?_ _ | refine Gar.allocs ?_ _), AgI.next1 hI.out⟩
                case measure => first | (simp; done) | (simp [intOf]; done) | (simp [intOf]; omega)
              · subst h
                subst g
                have LD := dist_any a0 a1
                have hff : f1 = decide (dst a0 a1 ≤ e0 + e1) := hF1.out.symm.trans (gg_tt _ _ _ _)
                obtain ⟨DD, hD⟩ : ∃ D, dst a0 a1 = D := ⟨_, rfl⟩
                rw [hD] at LD hff
                have s1 : IntKind.i64.wrap (e0 + e1) = e0 + e1 := IntWalk.i64_in _ (by omega)
                have hff2 := hff.symm
                clear hff hD
                go_wp2_with (fail)
                refine wp_region_tail 41 (by kernel_rfl) (by kernel_rfl) ?_
                simp only [List.take_succ_cons, List.take_zero, List.drop_succ_cons, List.drop_zero]
                repeat (first | go_big_quiet_skip | (go_big_quiet_want; go_big_quiet_op; (first | go_big_quiet_on | (apply Exists.intro; (refine And.intro ?_ ?_); (first | (go_at_call 19; with_reducible exact calls_here (LD _))); go_big_quiet_on))))
                refine wpQuiet_nil ?_
                go_wp2_with (fail)
                go_roundw
                case rel => exact ⟨2, y0, f1, y2, y3, y4, y5, y6, y7, y8, rfl, by omega, by repeat (first | exact Gar.refl _ | refine Gar.drewN ?_ _ | refine Gar.drew ?_ | refine Gar.alloc ?_ _ | refine Gar.allocs ?_ _), AgI.next1 hI.out⟩
                case measure => first | (simp; done) | (simp [intOf]; done) | (simp [intOf]; omega)
            · rcases b_ways x0 x2 with h | ⟨h, g⟩ | ⟨h, g⟩
              · subst h
                obtain rfl : f2 = false := hF2.out.symm.trans (gg_f _ _ _ _ _)
                go_wp2_with (fail)
                refine wp_region_tail 41 (by kernel_rfl) (by kernel_rfl) ?_
                simp only [List.take_succ_cons, List.take_zero, List.drop_succ_cons, List.drop_zero]
                repeat (first | go_big_quiet_skip | (go_big_quiet_want; go_big_quiet_op; (first | go_big_quiet_on | (apply Exists.intro; (refine And.intro ?_ ?_); fail; go_big_quiet_on))))
                refine wpQuiet_nil ?_
                go_wp2_with (fail)
                go_roundw
                case rel => exact ⟨3, y0, y1, false, y3, y4, y5, y6, y7, y8, rfl, by omega, by repeat (first | exact Gar.refl _ | refine Gar.drewN ?_ _ | refine Gar.drew ?_ | refine Gar.alloc ?_ _ | refine Gar.allocs ?_ _), AgI.next2 hI.out⟩
                case measure => first | (simp; done) | (simp [intOf]; done) | (simp [intOf]; omega)
              · subst h
                subst g
                obtain rfl : f2 = false := hF2.out.symm.trans (gg_tf _ _ _ _)
                go_wp2_with (fail)
                refine wp_region_tail 41 (by kernel_rfl) (by kernel_rfl) ?_
                simp only [List.take_succ_cons, List.take_zero, List.drop_succ_cons, List.drop_zero]
                repeat (first | go_big_quiet_skip | (go_big_quiet_want; go_big_quiet_op; (first | go_big_quiet_on | (apply Exists.intro; (refine And.intro ?_ ?_); fail; go_big_quiet_on))))
                refine wpQuiet_nil ?_
                go_wp2_with (fail)
                go_roundw
                case rel => exact ⟨3, y0, y1, false, y3, y4, y5, y6, y7, y8, rfl, by omega, by repeat (first | exact Gar.refl _ | refine Gar.drewN ?_ _ | refine Gar.drew ?_ | refine Gar.alloc ?_ _ | refine Gar.allocs ?_ _), AgI.next2 hI.out⟩
                case measure => first | (simp; done) | (simp [intOf]; done) | (simp [intOf]; omega)
              · subst h
                subst g
                have LD := dist_any a0 a2
                have hff : f2 = decide (dst a0 a2 ≤ e0 + e2) := hF2.out.symm.trans (gg_tt _ _ _ _)
                obtain ⟨DD, hD⟩ : ∃ D, dst a0 a2 = D := ⟨_, rfl⟩
                rw [hD] at LD hff
                have s1 : IntKind.i64.wrap (e0 + e2) = e0 + e2 := IntWalk.i64_in _ (by omega)
                have hff2 := hff.symm
                clear hff hD
                go_wp2_with (fail)
                refine wp_region_tail 41 (by kernel_rfl) (by kernel_rfl) ?_
                simp only [List.take_succ_cons, List.take_zero, List.drop_succ_cons, List.drop_zero]
                repeat (first | go_big_quiet_skip | (go_big_quiet_want; go_big_quiet_op; (first | go_big_quiet_on | (apply Exists.intro; (refine And.intro ?_ ?_); (first | (go_at_call 19; with_reducible exact calls_here (LD _))); go_big_quiet_on))))
                refine wpQuiet_nil ?_
                go_wp2_with (fail)
                go_roundw
                case rel => exact ⟨3, y0, y1, f2, y3, y4, y5, y6, y7, y8, rfl, by omega, by repeat (first | exact Gar.refl _ | refine Gar.drewN ?_ _ | refine Gar.drew ?_ | refine Gar.alloc ?_ _ | refine Gar.allocs ?_ _), AgI.next2 hI.out⟩
                case measure => first | (simp; done) | (simp [intOf]; done) | (simp [intOf]; omega)
            · go_wp2_with (fail)
              go_roundw
              case rel => exact ⟨1, y0, y1, y2, y3, y4, y5, y6, y7, y8, rfl, by omega, by repeat (first | exact Gar.refl _ | refine Gar.drewN ?_ _ | refine Gar.drew ?_ | refine Gar.alloc ?_ _ | refine Gar.allocs ?_ _), hI.out⟩
              case measure => first | (simp; done) | (simp [intOf]; done) | (simp [intOf]; omega)
        · go_wp2_with (fail)
          go_loopw [44] (fun j wr => ∃ (m : Nat) (y0 y1 y2 y3 y4 y5 y6 y7 y8 : Bool), j = .int .i64 m ∧ m ≤ 3 ∧ Gar (((((w.alloc (.cells #[.int .i64 e0, .int .i64 e1, .int .i64 e2, .int .i64 p0, .int .i64 p1, .int .i64 p2, .int .i64 n] 24)).alloc (.cells #[.int .i64 s0, .int .i64 s1, .int .i64 s2, .bool m0, .bool m1, .bool m2, .int .i64 sp] 27)).alloc (.cells #[.int .i64 a0, .int .i64 a1, .int .i64 a2, .bool r0, .bool r1, .bool r2] 29)).alloc (.cells #[.int .i64 0, .int .i64 0, .int .i64 0, .int .i64 0, .int .i64 0, .int .i64 0, .int .i64 0, .int .i64 0, .int .i64 0, .int .i64 0, .bool false, .bool false, .bool false, .int .i64 0, .bool false, .bool false, .bool false, .bool false, .bool false, .bool false, .bool false, .bool false, .bool false] 63)).alloc (.cells #[.int .i64 e0, .int .i64 e1, .int .i64 e2, .int .i64 p0, .int .i64 p1, .int .i64 p2, .int .i64 n, .int .i64 a0, .int .i64 a1, .int .i64 a2, .bool x0, .bool x1, .bool x2, .int .i64 ct, .bool y0, .bool y1, .bool y2, .bool y3, .bool y4, .bool y5, .bool y6, .bool y7, .bool y8] 63)) wr ∧ AgI f0 f1 f2 f3 f4 f5 f6 f7 f8 (3 + m) y0 y1 y2 y3 y4 y5 y6 y7 y8) (fun j _ => 3 - (intOf j).toNat)
          case atStart => exact ⟨0, y0, y1, y2, y3, y4, y5, y6, y7, y8, rfl, by omega, by repeat (first | exact Gar.refl _ | refine Gar.drewN ?_ _ | refine Gar.drew ?_ | refine Gar.alloc ?_ _ | refine Gar.allocs ?_ _), hI.out⟩
          case round =>
            clear hI
            obtain ⟨m, y0, y1, y2, y3, y4, y5, y6, y7, y8, rfl, hm, ⟨os, n1, rfl⟩, hI0⟩ := hrel
            have hI := hide hI0
            clear hI0
            rcases (show m = 0 ∨ m = 1 ∨ m = 2 ∨ m = 3 by omega) with rfl | rfl | rfl | rfl
            · rcases b_ways x1 x0 with h | ⟨h, g⟩ | ⟨h, g⟩
              · subst h
                obtain rfl : f3 = false := hF3.out.symm.trans (gg_f _ _ _ _ _)
                go_wp2_with (fail)
                refine wp_region_tail 41 (by kernel_rfl) (by kernel_rfl) ?_
                simp only [List.take_succ_cons, List.take_zero, List.drop_succ_cons, List.drop_zero]
                repeat (first | go_big_quiet_skip | (go_big_quiet_want; go_big_quiet_op; (first | go_big_quiet_on | (apply Exists.intro; (refine And.intro ?_ ?_); fail; go_big_quiet_on))))
                refine wpQuiet_nil ?_
                go_wp2_with (fail)
                go_roundw
                case rel => exact ⟨1, y0, y1, y2, false, y4, y5, y6, y7, y8, rfl, by omega, by repeat (first | exact Gar.refl _ | refine Gar.drewN ?_ _ | refine Gar.drew ?_ | refine Gar.alloc ?_ _ | refine Gar.allocs ?_ _), AgI.next3 hI.out⟩
                case measure => first | (simp; done) | (simp [intOf]; done) | (simp [intOf]; omega)
              · subst h
                subst g
                obtain rfl : f3 = false := hF3.out.symm.trans (gg_tf _ _ _ _)
                go_wp2_with (fail)
                refine wp_region_tail 41 (by kernel_rfl) (by kernel_rfl) ?_
                simp only [List.take_succ_cons, List.take_zero, List.drop_succ_cons, List.drop_zero]
                repeat (first | go_big_quiet_skip | (go_big_quiet_want; go_big_quiet_op; (first | go_big_quiet_on | (apply Exists.intro; (refine And.intro ?_ ?_); fail; go_big_quiet_on))))
                refine wpQuiet_nil ?_
                go_wp2_with (fail)
                go_roundw
                case rel => exact ⟨1, y0, y1, y2, false, y4, y5, y6, y7, y8, rfl, by omega, by repeat (first | exact Gar.refl _ | refine Gar.drewN ?_ _ | refine Gar.drew ?_ | refine Gar.alloc ?_ _ | refine Gar.allocs ?_ _), AgI.next3 hI.out⟩
                case measure => first | (simp; done) | (simp [intOf]; done) | (simp [intOf]; omega)
              · subst h
                subst g
                have LD := dist_any a1 a0
                have hff : f3 = decide (dst a1 a0 ≤ e1 + e0) := hF3.out.symm.trans (gg_tt _ _ _ _)
                obtain ⟨DD, hD⟩ : ∃ D, dst a1 a0 = D := ⟨_, rfl⟩
                rw [hD] at LD hff
                have s1 : IntKind.i64.wrap (e1 + e0) = e1 + e0 := IntWalk.i64_in _ (by omega)
                have hff2 := hff.symm
                clear hff hD
                go_wp2_with (fail)
                refine wp_region_tail 41 (by kernel_rfl) (by kernel_rfl) ?_
                simp only [List.take_succ_cons, List.take_zero, List.drop_succ_cons, List.drop_zero]
                repeat (first | go_big_quiet_skip | (go_big_quiet_want; go_big_quiet_op; (first | go_big_quiet_on | (apply Exists.intro; (refine And.intro ?_ ?_); (first | (go_at_call 19; with_reducible exact calls_here (LD _))); go_big_quiet_on))))
                refine wpQuiet_nil ?_
                go_wp2_with (fail)
                go_roundw
                case rel => exact ⟨1, y0, y1, y2, f3, y4, y5, y6, y7, y8, rfl, by omega, by repeat (first | exact Gar.refl _ | refine Gar.drewN ?_ _ | refine Gar.drew ?_ | refine Gar.alloc ?_ _ | refine Gar.allocs ?_ _), AgI.next3 hI.out⟩
                case measure => first | (simp; done) | (simp [intOf]; done) | (simp [intOf]; omega)
            · obtain rfl : f4 = false := hF4.out.symm
              go_wp2_with (fail)
              refine wp_region_tail 41 (by kernel_rfl) (by kernel_rfl) ?_
              simp only [List.take_succ_cons, List.take_zero, List.drop_succ_cons, List.drop_zero]
              repeat (first | go_big_quiet_skip | (go_big_quiet_want; go_big_quiet_op; (first | go_big_quiet_on | (apply Exists.intro; (refine And.intro ?_ ?_); fail; go_big_quiet_on))))
              refine wpQuiet_nil ?_
              go_wp2_with (fail)
              go_roundw
              case rel => first | exact ⟨2, y0, y1, y2, y3, false, y5, y6, y7, y8, rfl, by omega, by repeat (first | exact Gar.refl _ | refine Gar.drewN ?_ _ | refine Gar.drew ?_ | refine Gar.alloc ?_ _ | refine Gar.allocs ?_ _), AgI.next4 hI.out⟩ | ((repeat apply Exists.intro); exact ⟨⟨2, y0, y1, y2, y3, false, y5, y6, y7, y8, rfl, by omega, by repeat (first | exact Gar.refl _ | refine Gar.drewN ?_ _ | refine Gar.drew ?_ | refine Gar.alloc ?_ _ | refine Gar.allocs ?_ _), AgI.next4 hI.out⟩, rfl⟩)
              case measure => first | (simp; done) | (simp [intOf]; done) | (simp [intOf]; omega)
            · rcases b_ways x1 x2 with h | ⟨h, g⟩ | ⟨h, g⟩
              · subst h
                obtain rfl : f5 = false := hF5.out.symm.trans (gg_f _ _ _ _ _)
                go_wp2_with (fail)
                refine wp_region_tail 41 (by kernel_rfl) (by kernel_rfl) ?_
                simp only [List.take_succ_cons, List.take_zero, List.drop_succ_cons, List.drop_zero]
                repeat (first | go_big_quiet_skip | (go_big_quiet_want; go_big_quiet_op; (first | go_big_quiet_on | (apply Exists.intro; (refine And.intro ?_ ?_); fail; go_big_quiet_on))))
                refine wpQuiet_nil ?_
                go_wp2_with (fail)
                go_roundw
                case rel => exact ⟨3, y0, y1, y2, y3, y4, false, y6, y7, y8, rfl, by omega, by repeat (first | exact Gar.refl _ | refine Gar.drewN ?_ _ | refine Gar.drew ?_ | refine Gar.alloc ?_ _ | refine Gar.allocs ?_ _), AgI.next5 hI.out⟩
                case measure => first | (simp; done) | (simp [intOf]; done) | (simp [intOf]; omega)
              · subst h
                subst g
                obtain rfl : f5 = false := hF5.out.symm.trans (gg_tf _ _ _ _)
                go_wp2_with (fail)
                refine wp_region_tail 41 (by kernel_rfl) (by kernel_rfl) ?_
                simp only [List.take_succ_cons, List.take_zero, List.drop_succ_cons, List.drop_zero]
                repeat (first | go_big_quiet_skip | (go_big_quiet_want; go_big_quiet_op; (first | go_big_quiet_on | (apply Exists.intro; (refine And.intro ?_ ?_); fail; go_big_quiet_on))))
                refine wpQuiet_nil ?_
                go_wp2_with (fail)
                go_roundw
                case rel => exact ⟨3, y0, y1, y2, y3, y4, false, y6, y7, y8, rfl, by omega, by repeat (first | exact Gar.refl _ | refine Gar.drewN ?_ _ | refine Gar.drew ?_ | refine Gar.alloc ?_ _ | refine Gar.allocs ?_ _), AgI.next5 hI.out⟩
                case measure => first | (simp; done) | (simp [intOf]; done) | (simp [intOf]; omega)
              · subst h
                subst g
                have LD := dist_any a1 a2
                have hff : f5 = decide (dst a1 a2 ≤ e1 + e2) := hF5.out.symm.trans (gg_tt _ _ _ _)
                obtain ⟨DD, hD⟩ : ∃ D, dst a1 a2 = D := ⟨_, rfl⟩
                rw [hD] at LD hff
                have s1 : IntKind.i64.wrap (e1 + e2) = e1 + e2 := IntWalk.i64_in _ (by omega)
                have hff2 := hff.symm
                clear hff hD
                go_wp2_with (fail)
                refine wp_region_tail 41 (by kernel_rfl) (by kernel_rfl) ?_
                simp only [List.take_succ_cons, List.take_zero, List.drop_succ_cons, List.drop_zero]
                repeat (first | go_big_quiet_skip | (go_big_quiet_want; go_big_quiet_op; (first | go_big_quiet_on | (apply Exists.intro; (refine And.intro ?_ ?_); (first | (go_at_call 19; with_reducible exact calls_here (LD _))); go_big_quiet_on))))
                refine wpQuiet_nil ?_
                go_wp2_with (fail)
                go_roundw
                case rel => exact ⟨3, y0, y1, y2, y3, y4, f5, y6, y7, y8, rfl, by omega, by repeat (first | exact Gar.refl _ | refine Gar.drewN ?_ _ | refine Gar.drew ?_ | refine Gar.alloc ?_ _ | refine Gar.allocs ?_ _), AgI.next5 hI.out⟩
                case measure => first | (simp; done) | (simp [intOf]; done) | (simp [intOf]; omega)
            · go_wp2_with (fail)
              go_roundw
              case rel => exact ⟨2, y0, y1, y2, y3, y4, y5, y6, y7, y8, rfl, by omega, by repeat (first | exact Gar.refl _ | refine Gar.drewN ?_ _ | refine Gar.drew ?_ | refine Gar.alloc ?_ _ | refine Gar.allocs ?_ _), hI.out⟩
              case measure => first | (simp; done) | (simp [intOf]; done) | (simp [intOf]; omega)
        · go_wp2_with (fail)
          go_loopw [44] (fun j wr => ∃ (m : Nat) (y0 y1 y2 y3 y4 y5 y6 y7 y8 : Bool), j = .int .i64 m ∧ m ≤ 3 ∧ Gar (((((w.alloc (.cells #[.int .i64 e0, .int .i64 e1, .int .i64 e2, .int .i64 p0, .int .i64 p1, .int .i64 p2, .int .i64 n] 24)).alloc (.cells #[.int .i64 s0, .int .i64 s1, .int .i64 s2, .bool m0, .bool m1, .bool m2, .int .i64 sp] 27)).alloc (.cells #[.int .i64 a0, .int .i64 a1, .int .i64 a2, .bool r0, .bool r1, .bool r2] 29)).alloc (.cells #[.int .i64 0, .int .i64 0, .int .i64 0, .int .i64 0, .int .i64 0, .int .i64 0, .int .i64 0, .int .i64 0, .int .i64 0, .int .i64 0, .bool false, .bool false, .bool false, .int .i64 0, .bool false, .bool false, .bool false, .bool false, .bool false, .bool false, .bool false, .bool false, .bool false] 63)).alloc (.cells #[.int .i64 e0, .int .i64 e1, .int .i64 e2, .int .i64 p0, .int .i64 p1, .int .i64 p2, .int .i64 n, .int .i64 a0, .int .i64 a1, .int .i64 a2, .bool x0, .bool x1, .bool x2, .int .i64 ct, .bool y0, .bool y1, .bool y2, .bool y3, .bool y4, .bool y5, .bool y6, .bool y7, .bool y8] 63)) wr ∧ AgI f0 f1 f2 f3 f4 f5 f6 f7 f8 (6 + m) y0 y1 y2 y3 y4 y5 y6 y7 y8) (fun j _ => 3 - (intOf j).toNat)
          case atStart => exact ⟨0, y0, y1, y2, y3, y4, y5, y6, y7, y8, rfl, by omega, by repeat (first | exact Gar.refl _ | refine Gar.drewN ?_ _ | refine Gar.drew ?_ | refine Gar.alloc ?_ _ | refine Gar.allocs ?_ _), hI.out⟩
          case round =>
            clear hI
            obtain ⟨m, y0, y1, y2, y3, y4, y5, y6, y7, y8, rfl, hm, ⟨os, n1, rfl⟩, hI0⟩ := hrel
            have hI := hide hI0
            clear hI0
            rcases (show m = 0 ∨ m = 1 ∨ m = 2 ∨ m = 3 by omega) with rfl | rfl | rfl | rfl
            · rcases b_ways x2 x0 with h | ⟨h, g⟩ | ⟨h, g⟩
              · subst h
                obtain rfl : f6 = false := hF6.out.symm.trans (gg_f _ _ _ _ _)
                go_wp2_with (fail)
                refine wp_region_tail 41 (by kernel_rfl) (by kernel_rfl) ?_
                simp only [List.take_succ_cons, List.take_zero, List.drop_succ_cons, List.drop_zero]
                repeat (first | go_big_quiet_skip | (go_big_quiet_want; go_big_quiet_op; (first | go_big_quiet_on | (apply Exists.intro; (refine And.intro ?_ ?_); fail; go_big_quiet_on))))
                refine wpQuiet_nil ?_
                go_wp2_with (fail)
                go_roundw
                case rel => exact ⟨1, y0, y1, y2, y3, y4, y5, false, y7, y8, rfl, by omega, by repeat (first | exact Gar.refl _ | refine Gar.drewN ?_ _ | refine Gar.drew ?_ | refine Gar.alloc ?_ _ | refine Gar.allocs ?_ _), AgI.next6 hI.out⟩
                case measure => first | (simp; done) | (simp [intOf]; done) | (simp [intOf]; omega)
              · subst h
                subst g
                obtain rfl : f6 = false := hF6.out.symm.trans (gg_tf _ _ _ _)
                go_wp2_with (fail)
                refine wp_region_tail 41 (by kernel_rfl) (by kernel_rfl) ?_
                simp only [List.take_succ_cons, List.take_zero, List.drop_succ_cons, List.drop_zero]
                repeat (first | go_big_quiet_skip | (go_big_quiet_want; go_big_quiet_op; (first | go_big_quiet_on | (apply Exists.intro; (refine And.intro ?_ ?_); fail; go_big_quiet_on))))
                refine wpQuiet_nil ?_
                go_wp2_with (fail)
                go_roundw
                case rel => exact ⟨1, y0, y1, y2, y3, y4, y5, false, y7, y8, rfl, by omega, by repeat (first | exact Gar.refl _ | refine Gar.drewN ?_ _ | refine Gar.drew ?_ | refine Gar.alloc ?_ _ | refine Gar.allocs ?_ _), AgI.next6 hI.out⟩
                case measure => first | (simp; done) | (simp [intOf]; done) | (simp [intOf]; omega)
              · subst h
                subst g
                have LD := dist_any a2 a0
                have hff : f6 = decide (dst a2 a0 ≤ e2 + e0) := hF6.out.symm.trans (gg_tt _ _ _ _)
                obtain ⟨DD, hD⟩ : ∃ D, dst a2 a0 = D := ⟨_, rfl⟩
                rw [hD] at LD hff
                have s1 : IntKind.i64.wrap (e2 + e0) = e2 + e0 := IntWalk.i64_in _ (by omega)
                have hff2 := hff.symm
                clear hff hD
                go_wp2_with (fail)
                refine wp_region_tail 41 (by kernel_rfl) (by kernel_rfl) ?_
                simp only [List.take_succ_cons, List.take_zero, List.drop_succ_cons, List.drop_zero]
                repeat (first | go_big_quiet_skip | (go_big_quiet_want; go_big_quiet_op; (first | go_big_quiet_on | (apply Exists.intro; (refine And.intro ?_ ?_); (first | (go_at_call 19; with_reducible exact calls_here (LD _))); go_big_quiet_on))))
                refine wpQuiet_nil ?_
                go_wp2_with (fail)
                go_roundw
                case rel => exact ⟨1, y0, y1, y2, y3, y4, y5, f6, y7, y8, rfl, by omega, by repeat (first | exact Gar.refl _ | refine Gar.drewN ?_ _ | refine Gar.drew ?_ | refine Gar.alloc ?_ _ | refine Gar.allocs ?_ _), AgI.next6 hI.out⟩
                case measure => first | (simp; done) | (simp [intOf]; done) | (simp [intOf]; omega)
            · rcases b_ways x2 x1 with h | ⟨h, g⟩ | ⟨h, g⟩
              · subst h
                obtain rfl : f7 = false := hF7.out.symm.trans (gg_f _ _ _ _ _)
                go_wp2_with (fail)
                refine wp_region_tail 41 (by kernel_rfl) (by kernel_rfl) ?_
                simp only [List.take_succ_cons, List.take_zero, List.drop_succ_cons, List.drop_zero]
                repeat (first | go_big_quiet_skip | (go_big_quiet_want; go_big_quiet_op; (first | go_big_quiet_on | (apply Exists.intro; (refine And.intro ?_ ?_); fail; go_big_quiet_on))))
                refine wpQuiet_nil ?_
                go_wp2_with (fail)
                go_roundw
                case rel => exact ⟨2, y0, y1, y2, y3, y4, y5, y6, false, y8, rfl, by omega, by repeat (first | exact Gar.refl _ | refine Gar.drewN ?_ _ | refine Gar.drew ?_ | refine Gar.alloc ?_ _ | refine Gar.allocs ?_ _), AgI.next7 hI.out⟩
                case measure => first | (simp; done) | (simp [intOf]; done) | (simp [intOf]; omega)
              · subst h
                subst g
                obtain rfl : f7 = false := hF7.out.symm.trans (gg_tf _ _ _ _)
                go_wp2_with (fail)
                refine wp_region_tail 41 (by kernel_rfl) (by kernel_rfl) ?_
                simp only [List.take_succ_cons, List.take_zero, List.drop_succ_cons, List.drop_zero]
                repeat (first | go_big_quiet_skip | (go_big_quiet_want; go_big_quiet_op; (first | go_big_quiet_on | (apply Exists.intro; (refine And.intro ?_ ?_); fail; go_big_quiet_on))))
                refine wpQuiet_nil ?_
                go_wp2_with (fail)
                go_roundw
                case rel => exact ⟨2, y0, y1, y2, y3, y4, y5, y6, false, y8, rfl, by omega, by repeat (first | exact Gar.refl _ | refine Gar.drewN ?_ _ | refine Gar.drew ?_ | refine Gar.alloc ?_ _ | refine Gar.allocs ?_ _), AgI.next7 hI.out⟩
                case measure => first | (simp; done) | (simp [intOf]; done) | (simp [intOf]; omega)
              · subst h
                subst g
                have LD := dist_any a2 a1
                have hff : f7 = decide (dst a2 a1 ≤ e2 + e1) := hF7.out.symm.trans (gg_tt _ _ _ _)
                obtain ⟨DD, hD⟩ : ∃ D, dst a2 a1 = D := ⟨_, rfl⟩
                rw [hD] at LD hff
                have s1 : IntKind.i64.wrap (e2 + e1) = e2 + e1 := IntWalk.i64_in _ (by omega)
                have hff2 := hff.symm
                clear hff hD
                go_wp2_with (fail)
                refine wp_region_tail 41 (by kernel_rfl) (by kernel_rfl) ?_
                simp only [List.take_succ_cons, List.take_zero, List.drop_succ_cons, List.drop_zero]
                repeat (first | go_big_quiet_skip | (go_big_quiet_want; go_big_quiet_op; (first | go_big_quiet_on | (apply Exists.intro; (refine And.intro ?_ ?_); (first | (go_at_call 19; with_reducible exact calls_here (LD _))); go_big_quiet_on))))
                refine wpQuiet_nil ?_
                go_wp2_with (fail)
                go_roundw
                case rel => exact ⟨2, y0, y1, y2, y3, y4, y5, y6, f7, y8, rfl, by omega, by repeat (first | exact Gar.refl _ | refine Gar.drewN ?_ _ | refine Gar.drew ?_ | refine Gar.alloc ?_ _ | refine Gar.allocs ?_ _), AgI.next7 hI.out⟩
                case measure => first | (simp; done) | (simp [intOf]; done) | (simp [intOf]; omega)
            · obtain rfl : f8 = false := hF8.out.symm
              go_wp2_with (fail)
              refine wp_region_tail 41 (by kernel_rfl) (by kernel_rfl) ?_
              simp only [List.take_succ_cons, List.take_zero, List.drop_succ_cons, List.drop_zero]
              repeat (first | go_big_quiet_skip | (go_big_quiet_want; go_big_quiet_op; (first | go_big_quiet_on | (apply Exists.intro; (refine And.intro ?_ ?_); fail; go_big_quiet_on))))
              refine wpQuiet_nil ?_
              go_wp2_with (fail)
              go_roundw
              case rel => first | exact ⟨3, y0, y1, y2, y3, y4, y5, y6, y7, false, rfl, by omega, by repeat (first | exact Gar.refl _ | refine Gar.drewN ?_ _ | refine Gar.drew ?_ | refine Gar.alloc ?_ _ | refine Gar.allocs ?_ _), AgI.next8 hI.out⟩ | ((repeat apply Exists.intro); exact ⟨⟨3, y0, y1, y2, y3, y4, y5, y6, y7, false, rfl, by omega, by repeat (first | exact Gar.refl _ | refine Gar.drewN ?_ _ | refine Gar.drew ?_ | refine Gar.alloc ?_ _ | refine Gar.allocs ?_ _), AgI.next8 hI.out⟩, rfl⟩)
              case measure => first | (simp; done) | (simp [intOf]; done) | (simp [intOf]; omega)
            · go_wp2_with (fail)
              go_roundw
              case rel => exact ⟨3, y0, y1, y2, y3, y4, y5, y6, y7, y8, rfl, by omega, by repeat (first | exact Gar.refl _ | refine Gar.drewN ?_ _ | refine Gar.drew ?_ | refine Gar.alloc ?_ _ | refine Gar.allocs ?_ _), hI.out⟩
              case measure => first | (simp; done) | (simp [intOf]; done) | (simp [intOf]; omega)
        · obtain ⟨q0, q1, q2, q3, q4, q5, q6, q7, q8⟩ := hI.out.done
          subst q0 q1 q2 q3 q4 q5 q6 q7 q8
          go_wp2_with (refine wpList_load_row rfl 63 _ rfl _ rfl 63 _ (0, 0) _ (by repeat (first | with_reducible refine hp_drewN ?_ | with_reducible refine hp_drew ?_ | with_reducible refine hp_allocs ?_ | (with_reducible refine hp_last ?_; simp; done) | with_reducible refine hp_past ?_)) Try.underlying63 rfl (by kernel_rfl) ?_; refine Stp.mk ?_)
          refine Stp.go ?_
          refine wpList_store_blk rfl 63 _ _ rfl _ _ _ rfl rfl (by repeat (first | with_reducible refine hp_drewN ?_ | with_reducible refine hp_drew ?_ | with_reducible refine hp_allocs ?_ | (with_reducible refine hp_last ?_; simp; done) | with_reducible refine hp_past ?_)) (by kernel_rfl) (by simp) (by simp [Value.oneCell']) (by (repeat (first | rewrite [rw_drewN] | rewrite [rw_drew] | (rewrite [rw_allocs]; rotate_left; focus (simp; done)) | (rewrite [rw_last]; rotate_left; focus (simp; done)) | (rewrite [rw_past]; rotate_left; focus (simp; done)))); exact rfl) ?_
          go_wp2_with (fail)
          refine bodyPost_ret (results_cell_row Try.results23 _ _ _ _ _ _ _ rfl (by repeat (first | with_reducible refine hp_drewN ?_ | with_reducible refine hp_drew ?_ | with_reducible refine hp_allocs ?_ | (with_reducible refine hp_last ?_; simp; done) | with_reducible refine hp_past ?_)) Try.underlying63 rfl (by kernel_rfl)) rfl ?_
          exact ⟨look_eq hX.out hF0.out hF1.out hF2.out hF3.out hF4.out hF5.out hF6.out hF7.out hF8.out, by repeat (first | exact Gar.refl _ | refine Gar.drewN ?_ _ | refine Gar.drew ?_ | refine Gar.alloc ?_ _ | refine Gar.allocs ?_ _)⟩
end Go.Proofs.Ytdincfemiignjaa
