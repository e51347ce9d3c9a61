/- A tick of the voter, by letters. No program in sight. -/
import Derived.Test.YtdincfemiignjaaVotP
import Derived.Test.YtdincfemiignjaaVotL
namespace Go.Proofs.Ytdincfemiignjaa
open Go.RowKit
set_option linter.unusedVariables false

/-- A tick: u active, g agree, ct how many, c counters, cs split, E named, ci chosen, cw how. -/
def VS (e0 e1 e2 p0 p1 p2 n s0 s1 s2 : Int) (m0 m1 m2 : Bool) (sp a0 a1 a2 : Int) (r0 r1 r2 : Bool) (u0 u1 u2 g01 g02 g12 : Bool) (ct c0 c1 c2 cs : Int) (E0 E1 E2 : Bool) (ci cw : Int) : Prop :=
  ((r0 && !m0) = u0) ∧ ((r1 && !m1) = u1) ∧ ((r2 && !m2) = u2) ∧ (gg u0 u1 a0 a1 e0 e1 = g01) ∧ (gg u0 u2 a0 a2 e0 e2 = g02) ∧ (gg u1 u2 a1 a2 e1 e2 = g12) ∧ (b2i u0 + b2i u1 + b2i u2 = ct) ∧ (cnt (acc u0 g01 g02 g12) s0 n = c0) ∧ (cnt (acc u1 g12 g01 g02) s1 n = c1) ∧ (cnt (acc u2 g02 g12 g01) s2 n = c2) ∧ (cnt (decide (ct = 2) && !g01 && !g12 && !g02) sp n = cs) ∧ ((m0 || decide (c0 = n)) = E0) ∧ ((m1 || decide (c1 = n)) = E1) ∧ ((m2 || decide (c2 = n)) = E2) ∧ (chs p0 p1 p2 u0 u1 u2 (g01 || g02) (g01 || g12) (g02 || g12) (decide (ct = 3) && midB a0 a1 a2) (decide (ct = 1)) (decide (ct = 2)) (decide (cs < n)) (mdx a0 a1 a2) = (ci, cw))
theorem VS.ex (e0 e1 e2 p0 p1 p2 n s0 s1 s2 : Int) (m0 m1 m2 : Bool) (sp a0 a1 a2 : Int) (r0 r1 r2 : Bool) : ∃ u0 u1 u2 g01 g02 g12 ct c0 c1 c2 cs E0 E1 E2 ci cw, VS e0 e1 e2 p0 p1 p2 n s0 s1 s2 m0 m1 m2 sp a0 a1 a2 r0 r1 r2 u0 u1 u2 g01 g02 g12 ct c0 c1 c2 cs E0 E1 E2 ci cw := by
  exact ⟨_, _, _, _, _, _, _, _, _, _, _, _, _, _, _, _, rfl, rfl, rfl, rfl, rfl, rfl, rfl, rfl, rfl, rfl, rfl, rfl, rfl, rfl, rfl⟩
/-- What is chosen is a source, or nothing. -/
theorem chT_bd {p : Int} {x0 x1 x2 T1 T2 S : Bool} {e : Int × Int} (hp : 0 ≤ p ∧ p ≤ 2) (he : (e.1 = -1 ∧ e.2 = 0) ∨ ((0 ≤ e.1 ∧ e.1 ≤ 2) ∧ (1 ≤ e.2 ∧ e.2 ≤ 4))) :
    ((chT p x0 x1 x2 T1 T2 S e).1 = -1 ∧ (chT p x0 x1 x2 T1 T2 S e).2 = 0) ∨ ((0 ≤ (chT p x0 x1 x2 T1 T2 S e).1 ∧ (chT p x0 x1 x2 T1 T2 S e).1 ≤ 2) ∧ (1 ≤ (chT p x0 x1 x2 T1 T2 S e).2 ∧ (chT p x0 x1 x2 T1 T2 S e).2 ≤ 4)) := by
  unfold chT
  split
  · right
    refine ⟨hp, ?_⟩
    show 1 ≤ (if T1 = true then (3 : Int) else 4) ∧ (if T1 = true then (3 : Int) else 4) ≤ 4
    split <;> omega
  · exact he
theorem mdx_bd (a b c : Int) : 0 ≤ mdx a b c ∧ mdx a b c ≤ 2 := by unfold mdx; (repeat' split) <;> omega
theorem chs_bd {p0 p1 p2 : Int} {x0 x1 x2 r0 r1 r2 M T1 T2 S : Bool} {d ci cw : Int} (h : chs p0 p1 p2 x0 x1 x2 r0 r1 r2 M T1 T2 S d = (ci, cw)) (hp0 : 0 ≤ p0 ∧ p0 ≤ 2) (hp1 : 0 ≤ p1 ∧ p1 ≤ 2) (hp2 : 0 ≤ p2 ∧ p2 ≤ 2) (hd : 0 ≤ d ∧ d ≤ 2) :
    (ci = -1 ∧ cw = 0) ∨ ((0 ≤ ci ∧ ci ≤ 2) ∧ (1 ≤ cw ∧ cw ≤ 4)) := by
  have key : ((chs p0 p1 p2 x0 x1 x2 r0 r1 r2 M T1 T2 S d).1 = -1 ∧ (chs p0 p1 p2 x0 x1 x2 r0 r1 r2 M T1 T2 S d).2 = 0) ∨ ((0 ≤ (chs p0 p1 p2 x0 x1 x2 r0 r1 r2 M T1 T2 S d).1 ∧ (chs p0 p1 p2 x0 x1 x2 r0 r1 r2 M T1 T2 S d).1 ≤ 2) ∧ (1 ≤ (chs p0 p1 p2 x0 x1 x2 r0 r1 r2 M T1 T2 S d).2 ∧ (chs p0 p1 p2 x0 x1 x2 r0 r1 r2 M T1 T2 S d).2 ≤ 4)) := by
    unfold chs
    split
    · right; exact ⟨hd, by simp⟩
    split
    · right; exact ⟨hp0, by simp⟩
    split
    · right; exact ⟨hp1, by simp⟩
    split
    · right; exact ⟨hp2, by simp⟩
    exact chT_bd hp0 (chT_bd hp1 (chT_bd hp2 (Or.inl ⟨rfl, rfl⟩)))
  rw [h] at key
  exact key
/-- Chosen by agreement: the chosen one has a friend. -/
theorem chT_2 {p : Int} {x0 x1 x2 T1 T2 S : Bool} {e : Int × Int} (he : e.2 ≠ 2) : (chT p x0 x1 x2 T1 T2 S e).2 ≠ 2 := by
  unfold chT
  split
  · show (if T1 = true then (3 : Int) else 4) ≠ 2
    split <;> omega
  · exact he
theorem chs_2 {p0 p1 p2 : Int} {x0 x1 x2 r0 r1 r2 M T1 T2 S : Bool} {d ci : Int} (h : chs p0 p1 p2 x0 x1 x2 r0 r1 r2 M T1 T2 S d = (ci, 2)) : sel ci r0 r1 r2 = true := by
  unfold chs at h
  split at h
  · simp at h
  split at h
  · rename_i g; simp at h; rw [← h]; exact g
  split at h
  · rename_i g; simp at h; rw [← h]; exact g
  split at h
  · rename_i g; simp at h; rw [← h]; exact g
  · exact absurd (congrArg Prod.snd h) (chT_2 (chT_2 (chT_2 (by simp))))
/-- The angle of the chosen source. -/
def vang (i a0 a1 a2 : Int) : Int := if i = 0 then nrm a0 else if i = 1 then nrm a1 else nrm a2
def mn2 (f g : Bool) (a b : Int) : Int := if f then (if g then (if b < a then b else a) else a) else b
def mx3 (a b c : Int) : Int := if (if a < b then b else a) < c then c else if a < b then b else a
/-- The bound: by the middle one; by agreement. -/
def bl (i : Int) (g01 g02 g12 : Bool) (e0 e1 e2 : Int) : Int := if i = 0 then e0 + 2 * mn2 g01 g02 e1 e2 else if i = 1 then e1 + 2 * mn2 g01 g12 e0 e2 else e2 + 2 * mn2 g02 g12 e0 e1
def vbnd (ci cw : Int) (g01 g02 g12 : Bool) (e0 e1 e2 : Int) : Int := if cw = 1 then mx3 e0 e1 e2 else if cw = 2 then bl ci g01 g02 g12 e0 e1 e2 else 0
def berr (cw : Int) : Int := if cw = 0 then 28 else if cw = 1 then 0 else if cw = 2 then 0 else 22
end Go.Proofs.Ytdincfemiignjaa
