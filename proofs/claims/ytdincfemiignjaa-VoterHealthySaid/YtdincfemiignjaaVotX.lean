/- The plain laws of the voter: one liar; healthy sources; who is named. No walk in sight. -/
import Derived.Test.YtdincfemiignjaaVotM
namespace Go.Proofs.Ytdincfemiignjaa
open Go.RowKit
set_option linter.unusedVariables false

theorem agr {u v : Bool} {a b e f : Int} (h : gg u v a b e f = true) : dst a b ≤ e + f := by
  unfold gg at h
  simp at h
  exact h.2
theorem vang_mdx {a b c : Int} (h : midB a b c = true) : vang (mdx a b c) a b c = mid a b c := by
  have hm := mid_mem h
  unfold mdx
  split
  · rename_i h0; simpa [vang] using h0
  · split
    · rename_i h1; simpa [vang] using h1
    · rename_i h0 h1
      have h2 : mid a b c = nrm c := by
        rcases hm with h | h | h
        · exact absurd h.symm h0
        · exact absurd h.symm h1
        · exact h
      simp [vang, h2]
theorem mx3_ge (a b c : Int) : a ≤ mx3 a b c ∧ b ≤ mx3 a b c ∧ c ≤ mx3 a b c := by unfold mx3; (repeat' split) <;> omega
theorem midB_in {a b c : Int} (h : midB a b c = true) : dst a b < 16384 ∧ dst b c < 16384 ∧ dst c a < 16384 := by
  unfold midB at h; simp at h; exact ⟨h.1.1, h.1.2, h.2⟩
/-- The middle one of three, one of which may lie. -/
theorem mid_near {a0 a1 a2 e0 e1 e2 t : Int} {l0 l1 l2 : Bool} (hm : midB a0 a1 a2 = true) (h01 : (l0 && l1) = false) (h02 : (l0 && l2) = false) (h12 : (l1 && l2) = false)
    (he : (0 ≤ e0 ∧ e0 ≤ 16384) ∧ (0 ≤ e1 ∧ e1 ≤ 16384) ∧ (0 ≤ e2 ∧ e2 ≤ 16384)) (d0 : l0 = false → dst a0 t ≤ e0) (d1 : l1 = false → dst a1 t ≤ e1) (d2 : l2 = false → dst a2 t ≤ e2) :
    dst (mid a0 a1 a2) t ≤ mx3 e0 e1 e2 := by
  have hx := mx3_ge e0 e1 e2
  obtain ⟨b01, b12, b20⟩ := midB_in hm
  have c20 := dst_comm a2 a0
  have c12 := dst_comm a1 a2
  have c01 := dst_comm a0 a1
  unfold mid
  rw [if_pos hm]
  split
  · rename_i h
    rw [dst_nrm]
    cases l0
    · have := d0 rfl; omega
    · have q1 := d1 (by simpa using h01)
      have q2 := d2 (by simpa using h02)
      have := dst_mid (b := a0) q1 q2 he.2.1.2 he.2.2.2 b12 (by omega) (by omega)
      omega
  · rename_i hn
    split
    · rename_i h
      rw [dst_nrm]
      cases l1
      · have := d1 rfl; omega
      · have q0 := d0 (by simpa using h01)
        have q2 := d2 (by simpa using h12)
        have := dst_mid (b := a1) q0 q2 he.1.2 he.2.2.2 (by omega) (by omega) (by omega)
        omega
    · rename_i h
      rw [dst_nrm]
      cases l2
      · have := d2 rfl; omega
      · have q0 := d0 (by simpa using h02)
        have q1 := d1 (by simpa using h12)
        have := dst_mid (b := a2) q0 q1 he.1.2 he.2.1.2 b01 (by omega) (by omega)
        omega
theorem chT_1 {p : Int} {x0 x1 x2 T1 T2 S : Bool} {e : Int × Int} (he : e.2 ≠ 1) : (chT p x0 x1 x2 T1 T2 S e).2 ≠ 1 := by
  unfold chT
  split
  · show (if T1 = true then (3 : Int) else 4) ≠ 1
    split <;> omega
  · exact he
theorem chs_1 {p0 p1 p2 : Int} {x0 x1 x2 r0 r1 r2 M T1 T2 S : Bool} {d ci : Int} (h : chs p0 p1 p2 x0 x1 x2 r0 r1 r2 M T1 T2 S d = (ci, 1)) : M = true ∧ ci = d := by
  unfold chs at h
  split at h
  · rename_i g; simp at h; exact ⟨g, h.symm⟩
  split at h
  · simp at h
  split at h
  · simp at h
  split at h
  · simp at h
  · exact absurd (congrArg Prod.snd h) (chT_1 (chT_1 (chT_1 (by simp))))
theorem mn2_nn {f g : Bool} {a b : Int} (ha : 0 ≤ a) (hb : 0 ≤ b) : 0 ≤ mn2 f g a b := by unfold mn2; (repeat' split) <;> omega
theorem mn2_of {f g : Bool} {a b x : Int} (h : (f || g) = true) (hf : f = true → x ≤ 2 * a) (hg : g = true → x ≤ 2 * b) : x ≤ 2 * mn2 f g a b := by
  unfold mn2
  cases f <;> cases g <;> simp at h hf hg ⊢
  · exact hg
  · exact hf
  · split <;> omega
/-- The chosen one is within the bound. -/
theorem truth_le {e0 e1 e2 p0 p1 p2 n s0 s1 s2 : Int} {m0 m1 m2 : Bool} {sp a0 a1 a2 : Int} {r0 r1 r2 u0 u1 u2 g01 g02 g12 : Bool} {ct c0 c1 c2 cs : Int} {E0 E1 E2 : Bool} {ci cw t : Int} {l0 l1 l2 : Bool}
    (hv : VS e0 e1 e2 p0 p1 p2 n s0 s1 s2 m0 m1 m2 sp a0 a1 a2 r0 r1 r2 u0 u1 u2 g01 g02 g12 ct c0 c1 c2 cs E0 E1 E2 ci cw) (hco : vcode e0 e1 e2 p0 p1 p2 n = 0)
    (h01 : (l0 && l1) = false) (h02 : (l0 && l2) = false) (h12 : (l1 && l2) = false) (d0 : l0 = false → dst a0 t ≤ e0) (d1 : l1 = false → dst a1 t ≤ e1) (d2 : l2 = false → dst a2 t ≤ e2) (hcw : cw = 1 ∨ cw = 2) :
    dst (vang ci a0 a1 a2) t ≤ vbnd ci cw g01 g02 g12 e0 e1 e2 := by
  obtain ⟨he, hn, hpp⟩ := vcode_in hco
  obtain ⟨hu0, hu1, hu2, hg01, hg02, hg12, hct, hc0, hc1, hc2, hcs, hE0, hE1, hE2, hch⟩ := hv
  rcases hcw with rfl | rfl
  · obtain ⟨hM, rfl⟩ := chs_1 hch
    have hm : midB a0 a1 a2 = true := by simp at hM; exact hM.2
    rw [vang_mdx hm]
    exact mid_near hm h01 h02 h12 he d0 d1 d2
  · have hs := chs_2 hch
    have hb := chs_bd hch (by omega) (by omega) (by omega) (mdx_bd _ _ _)
    have t01 := dst_tri a0 a1 t
    have t02 := dst_tri a0 a2 t
    have t10 := dst_tri a1 a0 t
    have t12 := dst_tri a1 a2 t
    have t20 := dst_tri a2 a0 t
    have t21 := dst_tri a2 a1 t
    have c20 := dst_comm a2 a0
    have c12 := dst_comm a1 a2
    have c01 := dst_comm a0 a1
    show dst (vang ci a0 a1 a2) t ≤ bl ci g01 g02 g12 e0 e1 e2
    rcases (show ci = 0 ∨ ci = 1 ∨ ci = 2 by omega) with rfl | rfl | rfl
    · have hs2 : (g01 || g02) = true := hs
      rw [show vang 0 a0 a1 a2 = nrm a0 from rfl, dst_nrm, show bl 0 g01 g02 g12 e0 e1 e2 = e0 + 2 * mn2 g01 g02 e1 e2 from rfl]
      cases l0
      · have := d0 rfl; have := mn2_nn (f := g01) (g := g02) he.2.1.1 he.2.2.1; omega
      · have q1 := d1 (by simpa using h01)
        have q2 := d2 (by simpa using h02)
        have := mn2_of (x := dst a0 t - e0) (a := e1) (b := e2) hs2 (fun h => by have := agr (hg01.trans h); omega) (fun h => by have := agr (hg02.trans h); omega)
        omega
    · have hs2 : (g01 || g12) = true := hs
      rw [show vang 1 a0 a1 a2 = nrm a1 from rfl, dst_nrm, show bl 1 g01 g02 g12 e0 e1 e2 = e1 + 2 * mn2 g01 g12 e0 e2 from rfl]
      cases l1
      · have := d1 rfl; have := mn2_nn (f := g01) (g := g12) he.1.1 he.2.2.1; omega
      · have q0 := d0 (by simpa using h01)
        have q2 := d2 (by simpa using h12)
        have := mn2_of (x := dst a1 t - e1) (a := e0) (b := e2) hs2 (fun h => by have := agr (hg01.trans h); omega) (fun h => by have := agr (hg12.trans h); omega)
        omega
    · have hs2 : (g02 || g12) = true := hs
      rw [show vang 2 a0 a1 a2 = nrm a2 from rfl, dst_nrm, show bl 2 g01 g02 g12 e0 e1 e2 = e2 + 2 * mn2 g02 g12 e0 e1 from rfl]
      cases l2
      · have := d2 rfl; have := mn2_nn (f := g02) (g := g12) he.1.1 he.2.1.1; omega
      · have q0 := d0 (by simpa using h02)
        have q1 := d1 (by simpa using h12)
        have := mn2_of (x := dst a2 t - e2) (a := e0) (b := e1) hs2 (fun h => by have := agr (hg02.trans h); omega) (fun h => by have := agr (hg12.trans h); omega)
        omega

/-- Two healthy sources agree. -/
theorem pals {u v : Bool} {a b e f t : Int} (hu : u = true) (hv : v = true) (ha : dst a t ≤ e) (hb : dst b t ≤ f) : gg u v a b e f = true := by
  subst hu; subst hv
  have := dst_tri a t b
  have := dst_comm t b
  unfold gg; simp; omega
theorem gg_u {u v : Bool} {a b e f : Int} (h : gg u v a b e f = true) : u = true ∧ v = true := by
  unfold gg at h; simp at h; exact ⟨h.1.1, h.1.2⟩
theorem cnt_0 {A : Bool} (s n : Int) (h : A = false) : cnt A s n = 0 := by subst h; rfl
theorem keep_no {m : Bool} {c n : Int} (hm : m = false) (hc : c = 0) (hn : 1 ≤ n) : (m || decide (c = n)) = false := by
  subst hm; subst hc; rw [decide_eq_false (by omega)]; rfl
/-- A friend is chosen: there is an angle. -/
theorem chs_some {p0 p1 p2 : Int} {x0 x1 x2 r0 r1 r2 M T1 T2 S : Bool} {d ci cw : Int} (h : chs p0 p1 p2 x0 x1 x2 r0 r1 r2 M T1 T2 S d = (ci, cw)) (hr : sel p0 r0 r1 r2 = true ∨ sel p1 r0 r1 r2 = true ∨ sel p2 r0 r1 r2 = true) : cw = 1 ∨ cw = 2 := by
  unfold chs at h
  split at h
  · left; exact (congrArg Prod.snd h).symm
  split at h
  · right; exact (congrArg Prod.snd h).symm
  split at h
  · right; exact (congrArg Prod.snd h).symm
  split at h
  · right; exact (congrArg Prod.snd h).symm
  · rename_i h0 h1 h2; simp [h0, h1, h2] at hr
theorem sel_any {p0 p1 p2 : Int} {r0 r1 r2 : Bool} (hp : (p0 = 0 ∧ p1 = 1 ∧ p2 = 2) ∨ (p0 = 0 ∧ p1 = 2 ∧ p2 = 1) ∨ (p0 = 1 ∧ p1 = 0 ∧ p2 = 2) ∨ (p0 = 1 ∧ p1 = 2 ∧ p2 = 0) ∨ (p0 = 2 ∧ p1 = 0 ∧ p2 = 1) ∨ (p0 = 2 ∧ p1 = 1 ∧ p2 = 0))
    (h : r0 = true ∨ r1 = true ∨ r2 = true) : sel p0 r0 r1 r2 = true ∨ sel p1 r0 r1 r2 = true ∨ sel p2 r0 r1 r2 = true := by
  rcases hp with ⟨rfl, rfl, rfl⟩ | ⟨rfl, rfl, rfl⟩ | ⟨rfl, rfl, rfl⟩ | ⟨rfl, rfl, rfl⟩ | ⟨rfl, rfl, rfl⟩ | ⟨rfl, rfl, rfl⟩ <;> simp [sel] <;> (revert h; cases r0 <;> cases r1 <;> cases r2 <;> simp)
end Go.Proofs.Ytdincfemiignjaa
