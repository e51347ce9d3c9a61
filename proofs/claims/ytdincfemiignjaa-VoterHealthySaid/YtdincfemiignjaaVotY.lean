/- The plain laws of the voter: healthy sources are not named; a liar is, in time. No walk in sight. -/
import Derived.Test.YtdincfemiignjaaVotX
namespace Go.Proofs.Ytdincfemiignjaa
open Go.RowKit
set_option linter.unusedVariables false

theorem acc_h {u f g h : Bool} (e : h = false) : acc u f g h = false := by subst e; cases u <;> cases f <;> cases g <;> rfl
theorem acc_u {u f g h : Bool} (e : u = false) : acc u f g h = false := by subst e; rfl
theorem acc_1 {u f g h : Bool} (e : f = true) : acc u f g h = false := by subst e; cases u <;> rfl
theorem acc_2 {u f g h : Bool} (e : g = true) : acc u f g h = false := by subst e; cases u <;> cases f <;> rfl
theorem b_not {a b : Bool} (h : (a && b) = false) : a = false ∨ b = false := by revert a b; decide
theorem b_or1 {a b : Bool} (h : a = true) : (a || b) = true := by subst h; rfl
theorem b_or2 {a b : Bool} (h : b = true) : (a || b) = true := by subst h; cases a <;> rfl
/-- Healthy sources stay unnamed; three that are present have an angle. -/
theorem healthy {e0 e1 e2 p0 p1 p2 n s0 s1 s2 : Int} {m0 m1 m2 : Bool} {sp a0 a1 a2 : Int} {r0 r1 r2 u0 u1 u2 g01 g02 g12 : Bool} {ct c0 c1 c2 cs : Int} {E0 E1 E2 : Bool} {ci cw t : Int} {l0 l1 l2 : Bool}
    (hv : VS e0 e1 e2 p0 p1 p2 n s0 s1 s2 m0 m1 m2 sp a0 a1 a2 r0 r1 r2 u0 u1 u2 g01 g02 g12 ct c0 c1 c2 cs E0 E1 E2 ci cw) (hco : vcode e0 e1 e2 p0 p1 p2 n = 0)
    (h01 : (l0 && l1) = false) (h02 : (l0 && l2) = false) (h12 : (l1 && l2) = false) (d0 : l0 = false → dst a0 t ≤ e0) (d1 : l1 = false → dst a1 t ≤ e1) (d2 : l2 = false → dst a2 t ≤ e2)
    (q0 : l0 = false → m0 = false) (q1 : l1 = false → m1 = false) (q2 : l2 = false → m2 = false) :
    ((l0 = false → E0 = false) ∧ (l1 = false → E1 = false) ∧ (l2 = false → E2 = false)) ∧ (r0 = true → r1 = true → r2 = true → cw = 1 ∨ cw = 2) := by
  obtain ⟨he, hn, hpp⟩ := vcode_in hco
  obtain ⟨hu0, hu1, hu2, hg01, hg02, hg12, hct, hc0, hc1, hc2, hcs, hE0, hE1, hE2, hch⟩ := hv
  have P01 : u0 = true → u1 = true → l0 = false → l1 = false → g01 = true := fun a b c d => hg01.symm.trans (pals a b (d0 c) (d1 d))
  have P02 : u0 = true → u2 = true → l0 = false → l2 = false → g02 = true := fun a b c d => hg02.symm.trans (pals a b (d0 c) (d2 d))
  have P12 : u1 = true → u2 = true → l1 = false → l2 = false → g12 = true := fun a b c d => hg12.symm.trans (pals a b (d1 c) (d2 d))
  refine ⟨⟨fun z => ?_, fun z => ?_, fun z => ?_⟩, fun z0 z1 z2 => ?_⟩
  · have key : acc u0 g01 g02 g12 = false := by
      cases hh : g12
      · exact acc_h rfl
      · obtain ⟨w1, w2⟩ := gg_u (hg12.trans hh)
        cases hu : u0
        · exact acc_u rfl
        · rcases b_not h12 with y | y
          · exact acc_1 (P01 hu w1 z y)
          · exact acc_2 (P02 hu w2 z y)
    rw [← hE0]
    exact keep_no (q0 z) (hc0.symm.trans (cnt_0 _ _ key)) hn.1
  · have key : acc u1 g12 g01 g02 = false := by
      cases hh : g02
      · exact acc_h rfl
      · obtain ⟨w0, w2⟩ := gg_u (hg02.trans hh)
        cases hu : u1
        · exact acc_u rfl
        · rcases b_not h02 with y | y
          · exact acc_2 (P01 w0 hu y z)
          · exact acc_1 (P12 hu w2 z y)
    rw [← hE1]
    exact keep_no (q1 z) (hc1.symm.trans (cnt_0 _ _ key)) hn.1
  · have key : acc u2 g02 g12 g01 = false := by
      cases hh : g01
      · exact acc_h rfl
      · obtain ⟨w0, w1⟩ := gg_u (hg01.trans hh)
        cases hu : u2
        · exact acc_u rfl
        · rcases b_not h01 with y | y
          · exact acc_1 (P02 w0 hu y z)
          · exact acc_2 (P12 w1 hu y z)
    rw [← hE2]
    exact keep_no (q2 z) (hc2.symm.trans (cnt_0 _ _ key)) hn.1
  · have U0 : l0 = false → u0 = true := fun y => by rw [← hu0, z0, q0 y]; rfl
    have U1 : l1 = false → u1 = true := fun y => by rw [← hu1, z1, q1 y]; rfl
    have U2 : l2 = false → u2 = true := fun y => by rw [← hu2, z2, q2 y]; rfl
    refine chs_some hch (sel_any hpp ?_)
    rcases b_not h01 with y | y
    · rcases b_not h12 with y' | y'
      · exact Or.inl (b_or1 (P01 (U0 y) (U1 y') y y'))
      · exact Or.inl (b_or2 (P02 (U0 y) (U2 y') y y'))
    · rcases b_not h02 with y' | y'
      · exact Or.inl (b_or1 (P01 (U0 y') (U1 y) y' y))
      · exact Or.inr (Or.inl (b_or2 (P12 (U1 y) (U2 y') y y')))

/-- Ticks in a row in which the liar is far from both. -/
def nrun (F1 F2 : Bool) (run N : Int) : Int := if F1 && F2 then run + 1 else if run < N then 0 else run
def NmI (run N c : Int) (m : Bool) : Prop := (m = false ∧ c = run ∧ 0 ≤ run ∧ run < N) ∨ (m = true ∧ N ≤ run)
theorem NmI.start {N : Int} (h : 1 ≤ N) : NmI 0 N 0 false := Or.inl ⟨rfl, rfl, by omega, by omega⟩
theorem NmI.flag {run N c : Int} {m : Bool} (h : NmI run N c m) : m = decide (N ≤ run) := by
  rcases h with ⟨rfl, _, _, h⟩ | ⟨rfl, h⟩
  · rw [decide_eq_false (by omega)]
  · rw [decide_eq_true h]
theorem NmI.next {u gj gk gjk m F1 F2 E : Bool} {run N c c' : Int} (h : NmI run N c m) (hN : 1 ≤ N) (hu : (true && !m) = u) (h1 : m = false → gj = !F1) (h2 : m = false → gk = !F2) (hjk : gjk = true)
    (hc : cnt (acc u gj gk gjk) c N = c') (hE : (m || decide (c' = N)) = E) : NmI (nrun F1 F2 run N) N c' E := by
  subst hjk
  rcases h with ⟨rfl, rfl, h0, hlt⟩ | ⟨rfl, hle⟩
  · have e1 := h1 rfl
    have e2 := h2 rfl
    have hu' : u = true := hu.symm
    subst e1 e2 hu'
    have hcl : clp c 0 N = c := clp_in h0 (by omega)
    cases F1
    · have hc' : c' = 0 := hc.symm
      subst hc'
      left
      refine ⟨hE.symm.trans (by rw [decide_eq_false (by omega)]; rfl), ?_⟩
      unfold nrun
      rw [if_neg (by simp), if_pos hlt]
      omega
    · cases F2
      · have hc' : c' = 0 := hc.symm
        subst hc'
        left
        refine ⟨hE.symm.trans (by rw [decide_eq_false (by omega)]; rfl), ?_⟩
        unfold nrun
        rw [if_neg (by simp), if_pos hlt]
        omega
      · have hc2 : (if clp c 0 N + 1 < N then clp c 0 N + 1 else N) = c' := hc
        rw [hcl] at hc2
        have hr : nrun true true c N = c + 1 := rfl
        rw [hr]
        by_cases hl : c + 1 < N
        · rw [if_pos hl] at hc2
          left
          refine ⟨hE.symm.trans (by rw [decide_eq_false (by omega)]; rfl), by omega⟩
        · rw [if_neg hl] at hc2
          right
          refine ⟨hE.symm.trans (by rw [decide_eq_true (by omega)]; rfl), by omega⟩
  · right
    refine ⟨hE.symm, ?_⟩
    unfold nrun
    split
    · omega
    · rw [if_neg (by omega)]; omega
theorem nrun_bd {F1 F2 : Bool} {run N : Int} {k : Nat} (h : 0 ≤ run ∧ run ≤ k) : 0 ≤ nrun F1 F2 run N ∧ nrun F1 F2 run N ≤ (k + 1 : Nat) := by
  unfold nrun; (repeat' split) <;> omega
theorem gg_far {u v : Bool} {a b e f : Int} {g F : Bool} (h : gg u v a b e f = g) (hu : u = true) (hv : v = true) (hF : decide (e + f < dst a b) = F) : g = !F := by
  subst hu hv; rw [← h, ← hF, gg_tt, Bool.eq_iff_iff]; simp
/-- The chosen source is active. -/
theorem chT_act {p : Int} {x0 x1 x2 T1 T2 S : Bool} {e : Int × Int} (he : e.1 = -1 ∨ sel e.1 x0 x1 x2 = true) : (chT p x0 x1 x2 T1 T2 S e).1 = -1 ∨ sel (chT p x0 x1 x2 T1 T2 S e).1 x0 x1 x2 = true := by
  unfold chT
  split
  · rename_i h; right; simp at h; exact h.1
  · exact he
theorem chs_act {p0 p1 p2 : Int} {x0 x1 x2 r0 r1 r2 M T1 T2 S : Bool} {d ci cw : Int} (h : chs p0 p1 p2 x0 x1 x2 r0 r1 r2 M T1 T2 S d = (ci, cw)) : M = true ∨ sel ci r0 r1 r2 = true ∨ ci = -1 ∨ sel ci x0 x1 x2 = true := by
  unfold chs at h
  split at h
  · rename_i g; exact Or.inl g
  split at h
  · rename_i g; right; left; rw [← (Prod.mk.inj h).1]; exact g
  split at h
  · rename_i g; right; left; rw [← (Prod.mk.inj h).1]; exact g
  split at h
  · rename_i g; right; left; rw [← (Prod.mk.inj h).1]; exact g
  · right; right
    have := chT_act (p := p0) (x0 := x0) (x1 := x1) (x2 := x2) (T1 := T1) (T2 := T2) (S := S) (chT_act (p := p1) (x0 := x0) (x1 := x1) (x2 := x2) (T1 := T1) (T2 := T2) (S := S) (chT_act (p := p2) (x0 := x0) (x1 := x1) (x2 := x2) (T1 := T1) (T2 := T2) (S := S) (e := (-1, 0)) (Or.inl rfl)))
    rw [h] at this
    exact this
theorem b2i_3 {u v w : Bool} (h : b2i u + b2i v + b2i w = 3) : u = true ∧ v = true ∧ w = true := by revert h; cases u <;> cases v <;> cases w <;> simp [b2i]
/-- The tick with liar 0. -/
theorem named0 {e0 e1 e2 p0 p1 p2 n s0 s1 s2 : Int} {m0 m1 m2 : Bool} {sp a0 a1 a2 : Int} {u0 u1 u2 g01 g02 g12 : Bool} {ct c0 c1 c2 cs : Int} {E0 E1 E2 : Bool} {ci cw t : Int} {F1 F2 : Bool} {run : Int} (hv : VS e0 e1 e2 p0 p1 p2 n s0 s1 s2 m0 m1 m2 sp a0 a1 a2 true true true u0 u1 u2 g01 g02 g12 ct c0 c1 c2 cs E0 E1 E2 ci cw) (hco : vcode e0 e1 e2 p0 p1 p2 n = 0) (hm1 : m1 = false) (hm2 : m2 = false)
    (d1 : dst a1 t ≤ e1) (d2 : dst a2 t ≤ e2) (hF1 : decide (e0 + e1 < dst a0 a1) = F1) (hF2 : decide (e0 + e2 < dst a0 a2) = F2) (hI : NmI run n s0 m0) :
    NmI (nrun F1 F2 run n) n c0 E0 ∧ E1 = false ∧ E2 = false ∧ (m0 = true → ci ≠ 0) := by
  obtain ⟨he, hn, hpp⟩ := vcode_in hco
  have hh := healthy (l0 := true) (l1 := false) (l2 := false) (t := t) hv hco rfl rfl rfl (fun h => by cases h) (fun h => by exact d1) (fun h => by exact d2) (fun h => by cases h) (fun h => by exact hm1) (fun h => by exact hm2)
  obtain ⟨hu0, hu1, hu2, hg01, hg02, hg12, hct, hc0, hc1, hc2, hcs, hE0, hE1, hE2, hch⟩ := hv
  have hu1_ : u1 = true := by rw [← hu1, hm1]; rfl
  have hu2_ : u2 = true := by rw [← hu2, hm2]; rfl
  have hjk : g12 = true := hg12.symm.trans (pals hu1_ hu2_ d1 d2)
  have hB : m0 = false → u0 = true := fun z => by rw [← hu0, z]; rfl
  refine ⟨hI.next hn.1 hu0 (fun z => by have hb := hB z; exact (gg_far hg01 hb hu1_ hF1)) (fun z => by have hb := hB z; exact (gg_far hg02 hb hu2_ hF2)) hjk hc0 hE0, hh.1.2.1 rfl, hh.1.2.2 rfl, fun z hc => ?_⟩
  subst hc
  have hz : u0 = false := by rw [← hu0, z]; rfl
  rcases chs_act hch with q | q | q | q
  · simp at q
    have := b2i_3 (hct.trans q.1)
    rw [hz] at this
    simp at this
  · have q2 : (g01 || g02) = true := q
    rcases (show g01 = true ∨ g02 = true by simpa using q2) with q3 | q3
    · have := gg_u (hg01.trans q3); rw [hz] at this; simp at this
    · have := gg_u (hg02.trans q3); rw [hz] at this; simp at this
  · omega
  · have q2 : u0 = true := q
    rw [hz] at q2
    cases q2
/-- The tick with liar 1. -/
theorem named1 {e0 e1 e2 p0 p1 p2 n s0 s1 s2 : Int} {m0 m1 m2 : Bool} {sp a0 a1 a2 : Int} {u0 u1 u2 g01 g02 g12 : Bool} {ct c0 c1 c2 cs : Int} {E0 E1 E2 : Bool} {ci cw t : Int} {F1 F2 : Bool} {run : Int} (hv : VS e0 e1 e2 p0 p1 p2 n s0 s1 s2 m0 m1 m2 sp a0 a1 a2 true true true u0 u1 u2 g01 g02 g12 ct c0 c1 c2 cs E0 E1 E2 ci cw) (hco : vcode e0 e1 e2 p0 p1 p2 n = 0) (hm2 : m2 = false) (hm0 : m0 = false)
    (d2 : dst a2 t ≤ e2) (d0 : dst a0 t ≤ e0) (hF1 : decide (e1 + e2 < dst a1 a2) = F1) (hF2 : decide (e1 + e0 < dst a1 a0) = F2) (hI : NmI run n s1 m1) :
    NmI (nrun F1 F2 run n) n c1 E1 ∧ E2 = false ∧ E0 = false ∧ (m1 = true → ci ≠ 1) := by
  obtain ⟨he, hn, hpp⟩ := vcode_in hco
  have hh := healthy (l0 := false) (l1 := true) (l2 := false) (t := t) hv hco rfl rfl rfl (fun h => by exact d0) (fun h => by cases h) (fun h => by exact d2) (fun h => by exact hm0) (fun h => by cases h) (fun h => by exact hm2)
  obtain ⟨hu0, hu1, hu2, hg01, hg02, hg12, hct, hc0, hc1, hc2, hcs, hE0, hE1, hE2, hch⟩ := hv
  have hu2_ : u2 = true := by rw [← hu2, hm2]; rfl
  have hu0_ : u0 = true := by rw [← hu0, hm0]; rfl
  have hjk : g02 = true := hg02.symm.trans (pals hu0_ hu2_ d0 d2)
  have hB : m1 = false → u1 = true := fun z => by rw [← hu1, z]; rfl
  refine ⟨hI.next hn.1 hu1 (fun z => by have hb := hB z; exact (gg_far hg12 hb hu2_ hF1)) (fun z => by have hb := hB z; exact (gg_far hg01 hu0_ hb (by rw [dst_comm, Int.add_comm]; exact hF2))) hjk hc1 hE1, hh.1.2.2 rfl, hh.1.1 rfl, fun z hc => ?_⟩
  subst hc
  have hz : u1 = false := by rw [← hu1, z]; rfl
  rcases chs_act hch with q | q | q | q
  · simp at q
    have := b2i_3 (hct.trans q.1)
    rw [hz] at this
    simp at this
  · have q2 : (g01 || g12) = true := q
    rcases (show g01 = true ∨ g12 = true by simpa using q2) with q3 | q3
    · have := gg_u (hg01.trans q3); rw [hz] at this; simp at this
    · have := gg_u (hg12.trans q3); rw [hz] at this; simp at this
  · omega
  · have q2 : u1 = true := q
    rw [hz] at q2
    cases q2
/-- The tick with liar 2. -/
theorem named2 {e0 e1 e2 p0 p1 p2 n s0 s1 s2 : Int} {m0 m1 m2 : Bool} {sp a0 a1 a2 : Int} {u0 u1 u2 g01 g02 g12 : Bool} {ct c0 c1 c2 cs : Int} {E0 E1 E2 : Bool} {ci cw t : Int} {F1 F2 : Bool} {run : Int} (hv : VS e0 e1 e2 p0 p1 p2 n s0 s1 s2 m0 m1 m2 sp a0 a1 a2 true true true u0 u1 u2 g01 g02 g12 ct c0 c1 c2 cs E0 E1 E2 ci cw) (hco : vcode e0 e1 e2 p0 p1 p2 n = 0) (hm0 : m0 = false) (hm1 : m1 = false)
    (d0 : dst a0 t ≤ e0) (d1 : dst a1 t ≤ e1) (hF1 : decide (e2 + e0 < dst a2 a0) = F1) (hF2 : decide (e2 + e1 < dst a2 a1) = F2) (hI : NmI run n s2 m2) :
    NmI (nrun F1 F2 run n) n c2 E2 ∧ E0 = false ∧ E1 = false ∧ (m2 = true → ci ≠ 2) := by
  obtain ⟨he, hn, hpp⟩ := vcode_in hco
  have hh := healthy (l0 := false) (l1 := false) (l2 := true) (t := t) hv hco rfl rfl rfl (fun h => by exact d0) (fun h => by exact d1) (fun h => by cases h) (fun h => by exact hm0) (fun h => by exact hm1) (fun h => by cases h)
  obtain ⟨hu0, hu1, hu2, hg01, hg02, hg12, hct, hc0, hc1, hc2, hcs, hE0, hE1, hE2, hch⟩ := hv
  have hu0_ : u0 = true := by rw [← hu0, hm0]; rfl
  have hu1_ : u1 = true := by rw [← hu1, hm1]; rfl
  have hjk : g01 = true := hg01.symm.trans (pals hu0_ hu1_ d0 d1)
  have hB : m2 = false → u2 = true := fun z => by rw [← hu2, z]; rfl
  refine ⟨hI.next hn.1 hu2 (fun z => by have hb := hB z; exact (gg_far hg02 hu0_ hb (by rw [dst_comm, Int.add_comm]; exact hF1))) (fun z => by have hb := hB z; exact (gg_far hg12 hu1_ hb (by rw [dst_comm, Int.add_comm]; exact hF2))) hjk hc2 hE2, hh.1.1 rfl, hh.1.2.1 rfl, fun z hc => ?_⟩
  subst hc
  have hz : u2 = false := by rw [← hu2, z]; rfl
  rcases chs_act hch with q | q | q | q
  · simp at q
    have := b2i_3 (hct.trans q.1)
    rw [hz] at this
    simp at this
  · have q2 : (g02 || g12) = true := q
    rcases (show g02 = true ∨ g12 = true by simpa using q2) with q3 | q3
    · have := gg_u (hg02.trans q3); rw [hz] at this; simp at this
    · have := gg_u (hg12.trans q3); rw [hz] at this; simp at this
  · omega
  · have q2 : u2 = true := q
    rw [hz] at q2
    cases q2
end Go.Proofs.Ytdincfemiignjaa
