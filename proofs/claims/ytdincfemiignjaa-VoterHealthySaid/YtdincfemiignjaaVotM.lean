/- The plain laws of the voter: turned angles, one liar. No walk in sight. -/
import Derived.Test.YtdincfemiignjaaVotV
import Derived.Test.YtdincfemiignjaaVotI
namespace Go.Proofs.Ytdincfemiignjaa
open Go.RowKit
set_option linter.unusedVariables false

theorem nrm_add (a b : Int) : nrm (nrm a + b) = nrm (a + b) := by unfold nrm; omega
theorem nrm_eq (a b c : Int) : (nrm (a + c) = nrm (b + c)) = (nrm a = nrm b) := by
  apply propext; unfold nrm; constructor <;> intro h <;> omega
theorem dst_add (a b c : Int) : dst (a + c) (b + c) = dst a b := by
  unfold dst dif; rw [show a + c - (b + c) = a - b by omega]
theorem gg_add (u v : Bool) (a b e f c : Int) : gg u v (a + c) (b + c) e f = gg u v a b e f := by unfold gg; rw [dst_add]
theorem midB_add (a b c d : Int) : midB (a + d) (b + d) (c + d) = midB a b c := by unfold midB; rw [dst_add, dst_add, dst_add]
theorem mdx_add {a b c : Int} (d : Int) (h : midB a b c = true) : mdx (a + d) (b + d) (c + d) = mdx a b c := by
  unfold mdx mid
  rw [midB_add, if_pos h, if_pos h, dst_add, dst_add, dst_add]
  split
  · simp only [nrm_eq]
  split
  · simp only [nrm_eq]
  · simp only [nrm_eq]
theorem chs_d {p0 p1 p2 : Int} {x0 x1 x2 r0 r1 r2 M T1 T2 S : Bool} {d d' : Int} (h : M = true → d' = d) : chs p0 p1 p2 x0 x1 x2 r0 r1 r2 M T1 T2 S d' = chs p0 p1 p2 x0 x1 x2 r0 r1 r2 M T1 T2 S d := by
  cases M
  · rfl
  · rw [h rfl]
/-- Turned angles: the same tick. -/
theorem VS.turn {e0 e1 e2 p0 p1 p2 n s0 s1 s2 : Int} {m0 m1 m2 : Bool} {sp a0 a1 a2 : Int} {r0 r1 r2 u0 u1 u2 g01 g02 g12 : Bool} {ct c0 c1 c2 cs : Int} {E0 E1 E2 : Bool} {ci cw : Int} (d : Int)
    (h : VS e0 e1 e2 p0 p1 p2 n s0 s1 s2 m0 m1 m2 sp a0 a1 a2 r0 r1 r2 u0 u1 u2 g01 g02 g12 ct c0 c1 c2 cs E0 E1 E2 ci cw) :
    VS e0 e1 e2 p0 p1 p2 n s0 s1 s2 m0 m1 m2 sp (a0 + d) (a1 + d) (a2 + d) r0 r1 r2 u0 u1 u2 g01 g02 g12 ct c0 c1 c2 cs E0 E1 E2 ci cw := by
  obtain ⟨hu0, hu1, hu2, hg01, hg02, hg12, hct, hc0, hc1, hc2, hcs, hE0, hE1, hE2, hch⟩ := h
  refine ⟨hu0, hu1, hu2, (gg_add _ _ _ _ _ _ _).trans hg01, (gg_add _ _ _ _ _ _ _).trans hg02, (gg_add _ _ _ _ _ _ _).trans hg12, hct, hc0, hc1, hc2, hcs, hE0, hE1, hE2, ?_⟩
  rw [midB_add]
  refine (chs_d fun hM => mdx_add d ?_).trans hch
  cases hm : midB a0 a1 a2
  · rw [hm, Bool.and_false] at hM; exact absurd hM Bool.false_ne_true
  · rfl
theorem vang_add (i a0 a1 a2 d : Int) : nrm (vang i a0 a1 a2 + d) = vang i (a0 + d) (a1 + d) (a2 + d) := by
  unfold vang; (repeat' split) <;> exact nrm_add _ _

/-- A healthy source is near the truth. -/
theorem near {t q e : Int} (h : -e ≤ q ∧ q ≤ e) (he : 0 ≤ e ∧ e ≤ 16384) : dst (Int.tmod t 65536 + q) t ≤ e := by
  have key : ∃ k : Int, Int.tmod t 65536 = t + 65536 * k := ⟨-(Int.tdiv t 65536), by have := Int.mul_tdiv_add_tmod t 65536; omega⟩
  obtain ⟨k, hk⟩ := key
  rw [hk]; unfold dst dif; omega
theorem inO_ok {o e : Int} (he : 0 ≤ e ∧ e ≤ 16384) : -e ≤ inO false o e ∧ inO false o e ≤ e := clp_bd _ _ _ (by omega)
theorem dst_tri (a b c : Int) : dst a c ≤ dst a b + dst b c := by unfold dst dif; omega
theorem dst_nrm (a b : Int) : dst (nrm a) b = dst a b := by unfold dst dif nrm; omega
/-- Between two that are near the truth: near the truth. -/
theorem dst_mid {a b c t : Int} {e f : Int} (ha : dst a t ≤ e) (hc : dst c t ≤ f) (he : e ≤ 16384) (hf : f ≤ 16384) (h1 : dst a c < 16384) (h2 : dst a b ≤ dst a c) (h3 : dst b c ≤ dst a c) : dst b t ≤ e ∨ dst b t ≤ f := by
  unfold dst dif at *; omega
end Go.Proofs.Ytdincfemiignjaa
