/- What the decoder counts along a way of which the count changes by one at most. No walk in sight. -/
import Derived.Test.YtfigdflhegdjfaaEncP
import Derived.Test.YtfigdflhegdjfaaAng
namespace Go.Proofs.Ytfigdflhegdjfaa
open Go.RowKit
set_option linter.unusedVariables false

theorem phs_sg (N : Int) : phs (sgA N) (sgB N) = N % 4 := by
  rcases (show N % 4 = 0 ∨ N % 4 = 1 ∨ N % 4 = 2 ∨ N % 4 = 3 by omega) with h | h | h | h <;> simp [phs, sgA, sgB, h]
theorem trk_D (N M : Int) : stD (phs (sgA N) (sgB N)) (sgA M) (sgB M) = (M - N) % 4 := by
  unfold stD; rw [phs_sg, phs_sg]; omega
theorem trk_N {N M ct : Int} (h1 : -1 ≤ M - N) (h2 : M - N ≤ 1) (b1 : -1099511627776 ≤ ct) (b2 : ct ≤ 1099511627776) : stN (phs (sgA N) (sgB N)) ct (sgA M) (sgB M) = ct + (M - N) := by
  unfold stN
  rw [trk_D, clp_in b1 b2]
  rcases (show M - N = -1 ∨ M - N = 0 ∨ M - N = 1 by omega) with h | h | h <;> rw [h] <;> rfl
theorem trk_E {N M : Int} (h1 : -1 ≤ M - N) (h2 : M - N ≤ 1) : stE (phs (sgA N) (sgB N)) 0 true (sgA M) (sgB M) = 0 := by
  unfold stE
  rw [trk_D, if_neg (by decide)]
  rcases (show M - N = -1 ∨ M - N = 0 ∨ M - N = 1 by omega) with h | h | h <;> rw [h] <;> rfl
theorem rmd_zero {x t : Int} (ht : 1 < t) (hx : x % t = 0) : rmd x t = 0 := by
  unfold rmd
  rw [Int.add_emod, hx, Int.zero_add, Int.emod_emod_of_dvd _ (Int.dvd_refl t), Int.emod_eq_of_lt (by omega) (by omega)]
  omega
theorem sub_mod {a b t : Int} (h1 : a % t = 0) (h2 : b % t = 0) : (a - b) % t = 0 := by
  rw [Int.sub_emod, h1, h2]; rfl
/-- The counter, while the index is known: what was known stays. -/
theorem trk_known {N M F t : Int} (ht : 1 < t) (h1 : -1 ≤ M - N) (h2 : M - N ≤ 1) (hF : F % t = 0) (b1 : -1099511627776 ≤ N - F) (b2 : N - F ≤ 1099511627776) :
    stC t (phs (sgA N) (sgB N)) (N - F) true (sgZ N t) true (sgA M) (sgB M) (sgZ M t) = M - F ∧ stS t (phs (sgA N) (sgB N)) (N - F) 0 true (sgZ N t) true (sgA M) (sgB M) (sgZ M t) = 0 := by
  have e := trk_N h1 h2 b1 b2
  rw [show N - F + (M - N) = M - F by omega] at e
  unfold stC stS
  rw [e]
  by_cases z : M % t = 0
  · have r := rmd_zero ht (sub_mod z hF)
    rw [r]
    refine ⟨?_, ?_⟩
    · rw [if_neg (by decide)]; split
      · rfl
      · rw [if_neg (by decide)]; omega
    · rw [if_neg (by decide)]; split <;> rfl
  · have z' : sgZ M t = false := by simp [sgZ, z]
    rw [z']
    simp [clp]
theorem trk_new {N M ct t : Int} (hk : stK false (sgZ N t) true (sgZ M t) = true) :
    stC t (phs (sgA N) (sgB N)) ct false (sgZ N t) true (sgA M) (sgB M) (sgZ M t) = 0 ∧ M % t = 0 := by
  have hk' : sgZ M t = true ∧ sgZ N t = false := by simpa [stK] using hk
  refine ⟨?_, ?_⟩
  · unfold stC
    rw [hk'.1, hk'.2]; rfl
  · have := hk'.1
    simpa [sgZ] using this
theorem trk_S {N M ct t : Int} : stS t (phs (sgA N) (sgB N)) ct 0 false (sgZ N t) true (sgA M) (sgB M) (sgZ M t) = 0 := by
  unfold stS
  rw [if_neg (by decide), if_pos (.inr (.inr rfl))]
  rfl
theorem dst_le {a b k : Int} (h1 : a - b ≤ k) (h2 : b - a ≤ k) : dst (nrm a) b ≤ k := by
  unfold dst dif nrm; omega
theorem trk_angle {c p F to : Int} (hc : 4 ≤ c) (hc2 : c ≤ 16384) (hF : F % (c * p) = 0) (b1 : -1099511627776 ≤ to) (b2 : to ≤ 1099511627776) (b3 : -1099511627776 ≤ cnt c to - F) (b4 : cnt c to - F ≤ 1099511627776) :
    dst (agl c (cnt c to - F)) to ≤ (32768 + c - 1) / c := by
  unfold agl
  rw [clp_in b3 b4]
  have hq : cnt c to = to * c / 65536 := by unfold cnt; rw [clp_in b1 b2]
  have q1 : 65536 * cnt c to ≤ to * c ∧ to * c < 65536 * cnt c to + 65536 := by rw [hq]; omega
  generalize cnt c to = Q at *
  clear hq b3 b4
  obtain ⟨m, hm⟩ := Int.dvd_of_emod_eq_zero hF
  obtain ⟨G, hG⟩ : ∃ G, p * m = G := ⟨_, rfl⟩
  have hF2 : F = c * G := by rw [hm, Int.mul_assoc, hG]
  have e : (2 * (Q - F) + 1) * 32768 / c = (2 * Q + 1) * 32768 / c - 65536 * G := by
    rw [hF2, show (2 * (Q - c * G) + 1) * 32768 = (2 * Q + 1) * 32768 + c * (-(65536 * G)) by rw [Int.mul_neg, ← Int.mul_assoc, Int.mul_comm c 65536, Int.mul_assoc]; omega, Int.add_mul_ediv_left _ _ (by omega)]
    omega
  rw [e]
  have hn : nrm ((2 * Q + 1) * 32768 / c - 65536 * G) = nrm ((2 * Q + 1) * 32768 / c) := by unfold nrm; omega
  rw [hn]
  have m1 := Int.emod_add_mul_ediv ((2 * Q + 1) * 32768) c
  have m2 := Int.emod_nonneg ((2 * Q + 1) * 32768) (show c ≠ 0 by omega)
  have m3 := Int.emod_lt_of_pos ((2 * Q + 1) * 32768) (show 0 < c by omega)
  have k1 := Int.emod_add_mul_ediv (32768 + c - 1) c
  have k2 := Int.emod_nonneg (32768 + c - 1) (show c ≠ 0 by omega)
  have k3 := Int.emod_lt_of_pos (32768 + c - 1) (show 0 < c by omega)
  generalize (2 * Q + 1) * 32768 / c = M at *
  generalize (2 * Q + 1) * 32768 % c = r1 at *
  generalize (32768 + c - 1) / c = B at *
  generalize (32768 + c - 1) % c = r2 at *
  have s1 : c * (M - to) = c * M - to * c := by rw [Int.mul_sub, Int.mul_comm to]
  have s2 : c * (B - (M - to)) = c * B - c * (M - to) := Int.mul_sub ..
  have s3 : c * (B - (to - M)) = c * B + c * (M - to) := by
    rw [show B - (to - M) = B + (M - to) by omega, Int.mul_add]
  refine dst_le ?_ ?_
  · have : 0 ≤ c * (B - (M - to)) := by omega
    have := Int.nonneg_of_mul_nonneg_right this (by omega)
    omega
  · have h : -c < c * (B - (to - M)) := by omega
    rcases (show B - (to - M) < 0 ∨ 0 ≤ B - (to - M) by omega) with g | g
    · have := Int.mul_le_mul_of_nonneg_left (show B - (to - M) ≤ -1 by omega) (show 0 ≤ c by omega)
      omega
    · omega
/-- The count, at positions that are not far. -/
theorem cnt_bd {c P : Int} (hc : 4 ≤ c) (hc2 : c ≤ 16384) (b1 : -137438953472 ≤ P) (b2 : P ≤ 137438953472) : -34359738369 ≤ cnt c P ∧ cnt c P ≤ 34359738368 := by
  unfold cnt
  rw [clp_in (by omega) (by omega)]
  have := prod_bd (x := P) (y := c) (m := 137438953472) (n := 16384) (by omega) ⟨b1, b2⟩ (by omega)
  omega
theorem half_bd {c : Int} (h : 4 ≤ c) (h2 : c ≤ 16384) : 0 ≤ (32768 + c - 1) / c ∧ (32768 + c - 1) / c ≤ 65536 := by
  have h0 : 0 ≤ (32768 + c - 1) / c := Int.ediv_nonneg (by omega) (by omega)
  have h1 := Int.emod_add_mul_ediv (32768 + c - 1) c
  have h3 := Int.emod_nonneg (32768 + c - 1) (show c ≠ 0 by omega)
  have := Int.mul_le_mul_of_nonneg_right h h0
  omega
theorem phs_wf (a b : Bool) : (Lit.int .i64 (phs a b)).wf = true := by
  cases a <;> cases b <;> decide
/-- What holds at the head of a round: P the position, N its count, F the count at which the index became known, ct, kn, hi the state's. -/
def TrkI (c p : Int) (k : Nat) (P N F ph ct : Int) (kn hi : Bool) : Prop :=
  N = cnt c P ∧ (-68719476736 - 16384 * (k : Int) ≤ P ∧ P ≤ 68719476736 + 16384 * (k : Int)) ∧ ph = phs (sgA N) (sgB N) ∧ hi = sgZ N (c * p) ∧
  (kn = true → ct = N - F ∧ F % (c * p) = 0 ∧ -34359738369 ≤ F ∧ F ≤ 34359738368)
theorem trk_bd {c p : Int} {k : Nat} {P N F ph ct : Int} {kn hi : Bool} (h : chkB c p = true) (hk : k ≤ 500) (hI : TrkI c p k P N F ph ct kn hi) :
    N = cnt c P ∧ -68719476736 - 16384 * (k : Int) ≤ P ∧ P ≤ 68719476736 + 16384 * (k : Int) ∧ -34359738369 ≤ N ∧ N ≤ 34359738368 := by
  obtain ⟨h1, h2, _, _, _⟩ := hI
  obtain ⟨c1, c2, _⟩ := chk_in h
  have := cnt_bd c1 c2 (P := P) (by omega) (by omega)
  rw [← h1] at this
  exact ⟨h1, h2.1, h2.2, this.1, this.2⟩
theorem trk_go {c p : Int} {k : Nat} {P N F ph ct : Int} {kn hi : Bool} (h : chkB c p = true) (hI : TrkI c p k P N F ph ct kn hi) (Q M : Int) (hQ : M = cnt c Q) (d1 : -1 ≤ M - N) (d2 : M - N ≤ 1)
    (hk : k < 500) (b1 : -68719476736 - 16384 * ((k : Int) + 1) ≤ Q) (b2 : Q ≤ 68719476736 + 16384 * ((k : Int) + 1)) :
    (Lit.int .i64 ph).wf = true ∧ stE ph 0 true (sgA M) (sgB M) = 0 ∧ stS (c * p) ph ct 0 kn hi true (sgA M) (sgB M) (sgZ M (c * p)) = 0 ∧
    (kn = true → stK kn hi true (sgZ M (c * p)) = true ∧ stC (c * p) ph ct kn hi true (sgA M) (sgB M) (sgZ M (c * p)) = M - F ∧ -34359738369 ≤ F ∧ F ≤ 34359738368 ∧ dst (agl c (M - F)) Q ≤ (32768 + c - 1) / c ∧ TrkI c p (k + 1) Q M F (phs (sgA M) (sgB M)) (M - F) true (sgZ M (c * p))) ∧
    (kn = false → stK kn hi true (sgZ M (c * p)) = true → stC (c * p) ph ct kn hi true (sgA M) (sgB M) (sgZ M (c * p)) = 0 ∧ dst (agl c 0) Q ≤ (32768 + c - 1) / c ∧ TrkI c p (k + 1) Q M M (phs (sgA M) (sgB M)) 0 true (sgZ M (c * p))) ∧
    (∀ T, kn = false → TrkI c p (k + 1) Q M F (phs (sgA M) (sgB M)) T false (sgZ M (c * p))) := by
  obtain ⟨e1, e2, e3, e4, e5⟩ := hI
  obtain ⟨c1, c2, c3, c4, c5⟩ := chk_in h
  have t1 : 1 < c * p := by
    have := Int.mul_le_mul_of_nonneg_left c4 (show 0 ≤ c by omega)
    omega
  have bM := cnt_bd c1 c2 (P := Q) (by omega) (by omega)
  have bN := cnt_bd c1 c2 (P := P) (by omega) (by omega)
  rw [← hQ] at bM
  rw [← e1] at bN
  have bq : -68719476736 - 16384 * ((k + 1 : Nat) : Int) ≤ Q ∧ Q ≤ 68719476736 + 16384 * ((k + 1 : Nat) : Int) := by omega
  subst e3
  subst e4
  refine ⟨phs_wf _ _, trk_E d1 d2, ?_, ?_, ?_, ?_⟩
  · cases kn
    · exact trk_S
    · obtain ⟨f1, f2, f3, f4⟩ := e5 rfl
      rw [f1]
      exact (trk_known t1 d1 d2 f2 (by omega) (by omega)).2
  · intro hk'
    obtain ⟨f1, f2, f3, f4⟩ := e5 hk'
    rw [hk', f1]
    have ha := trk_angle (to := Q) c1 c2 f2 (by omega) (by omega) (by rw [← hQ]; omega) (by rw [← hQ]; omega)
    rw [← hQ] at ha
    exact ⟨by simp [stK], (trk_known t1 d1 d2 f2 (by omega) (by omega)).1, f3, f4, ha, hQ, bq, rfl, rfl, fun _ => ⟨rfl, f2, f3, f4⟩⟩
  · intro hk' hs
    rw [hk'] at hs ⊢
    obtain ⟨g1, g2⟩ := trk_new (ct := ct) hs
    have ha := trk_angle (to := Q) c1 c2 g2 (by omega) (by omega) (by rw [← hQ]; omega) (by rw [← hQ]; omega)
    rw [← hQ, Int.sub_self] at ha
    exact ⟨g1, ha, hQ, bq, rfl, rfl, fun _ => ⟨by omega, g2, bM.1, bM.2⟩⟩
  · intro T hk'
    exact ⟨hQ, bq, rfl, rfl, fun hh => by cases hh⟩
end Go.Proofs.Ytfigdflhegdjfaa
