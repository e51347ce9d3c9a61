/- The walks of package angle, continued. -/
import Derived.Test.YtpcniocjedbbjaaAngW
import Derived.Test.YtpcniocjedbbjaaBase
namespace Go.Proofs.Ytpcniocjedbbjaa
open Go.RowKit

theorem ret_ii {a b : Int} {x : Value} (h : a = b) : Ending.returned (.tuple #[.int .i64 a, x]) = .returned (.tuple #[.int .i64 b, x]) := by rw [h]
theorem ret_b {a b : Bool} (h : a = b) : Ending.returned (.bool a) = .returned (.bool b) := by rw [h]

theorem sector_any (a : Int) (w : World) : Calls Try.prog 24 #[.int .i64 a] w fun e w' => e = .returned (.int .i64 (sct a)) ∧ w = w' := by
  have hb := nrm_bd a
  go_enter Try.func24, Try.ntmps24
  go_wp2_with (go_at_call 17; refine (norm_any _ _).mono ?_; rintro e w' ⟨rfl, rfl⟩)
  go_returns
  exact ⟨rfl, rfl⟩
theorem rsector_any (a : Int) (w : World) : Calls Try.prog 25 #[.int .i64 a] w fun e w' => e = .returned (.int .i64 (sct a)) ∧ w = w' := by
  have hb := nrm_bd a
  go_enter Try.func25, Try.ntmps25
  go_wp2_with (go_at_call 21; refine (rnorm_any _ _).mono ?_; rintro e w' ⟨rfl, rfl⟩)
  go_returns
  exact ⟨rfl, rfl⟩

theorem within_any (a f t : Int) (w : World) : Calls Try.prog 26 #[.int .i64 a, .int .i64 f, .int .i64 t] w fun e w' => e = .returned (.bool (wth a f t)) ∧ w = w' := by
  have e1 := nrm_wrap (a - f)
  have e2 := nrm_wrap (t - f)
  go_enter Try.func26, Try.ntmps26
  go_wp2_with (go_at_call 17; refine (norm_any _ _).mono ?_; rintro e w' ⟨rfl, rfl⟩)
  go_returns
  exact ⟨rfl, rfl⟩
theorem rwithin_any (a f t : Int) (w : World) : Calls Try.prog 27 #[.int .i64 a, .int .i64 f, .int .i64 t] w fun e w' => e = .returned (.bool (wth a f t)) ∧ w = w' := by
  have b1 := nrm_bd a
  have b2 := nrm_bd f
  have b3 := nrm_bd t
  have e1 := nrm_sub a f
  have e2 := nrm_sub t f
  go_enter Try.func27, Try.ntmps27
  go_wp2_with (go_at_call 21; refine (rnorm_any _ _).mono ?_; rintro e w' ⟨rfl, rfl⟩)
  go_returns
  exact ⟨rfl, rfl⟩

theorem prtB_in {num den : Int} (h : prtB num den = true) : 1 ≤ den ∧ den ≤ 1048576 ∧ 0 ≤ num ∧ num ≤ den := by
  simp [prtB] at h
  omega
theorem prtB_mk {num den : Int} (h : 1 ≤ den ∧ den ≤ 1048576 ∧ 0 ≤ num ∧ num ≤ den) : prtB num den = true := by
  simp [prtB]
  omega
theorem prtB_out {num den : Int} (h : prtB num den = false) : den < 1 ∨ (¬ den < 1 ∧ 1048576 < den) ∨ (¬ den < 1 ∧ ¬ 1048576 < den ∧ num < 0) ∨ (¬ den < 1 ∧ ¬ 1048576 < den ∧ ¬ num < 0 ∧ den < num) := by
  simp [prtB] at h
  omega
theorem itp_bd (a b num den : Int) (h : 1 ≤ den ∧ den ≤ 1048576 ∧ 0 ≤ num ∧ num ≤ den) :
    (-34359738368 ≤ dif b a * num ∧ dif b a * num ≤ 34359738368) ∧ (-34359738368 ≤ (dif b a * num).tdiv den ∧ (dif b a * num).tdiv den ≤ 34359738368) := by
  have hb := dif_bd b a
  have h1 := prod_bd (x := dif b a) (y := num) (m := 32768) (n := 1048576) (by omega) (by omega) (by omega)
  exact ⟨by omega, tdiv_le_abs _ _ _ h.1 (by omega)⟩

theorem interp_in (a b num den : Int) (h0 : prtB num den = true) (w : World) : Calls Try.prog 28 #[.int .i64 a, .int .i64 b, .int .i64 num, .int .i64 den] w fun e w' => e = .returned (.tuple #[.int .i64 (itp a b num den), .nilIface]) ∧ w = w' := by
  have hb := dif_bd b a
  have hn := nrm_bd a
  have h := prtB_in h0
  clear h0
  obtain ⟨h1, h2⟩ := itp_bd a b num den h
  go_enter Try.func28, Try.ntmps28
  go_wp2_with (first | (go_at_call 17; refine (norm_any _ _).mono ?_; rintro e w' ⟨rfl, rfl⟩) | (go_at_call 18; refine (diff_any _ _ _).mono ?_; rintro e w' ⟨rfl, rfl⟩))
  go_returns
  exact ⟨rfl, rfl⟩
theorem rinterp_in (a b num den : Int) (h0 : prtB num den = true) (w : World) : Calls Try.prog 29 #[.int .i64 a, .int .i64 b, .int .i64 num, .int .i64 den] w fun e w' => e = .returned (.tuple #[.int .i64 (itp a b num den), .int .i64 0]) ∧ w = w' := by
  have hb := dif_bd b a
  have hn := nrm_bd a
  have h := prtB_in h0
  clear h0
  obtain ⟨h1, h2⟩ := itp_bd a b num den h
  go_enter Try.func29, Try.ntmps29
  go_wp2_with (first | (go_at_call 21; refine (rnorm_any _ _).mono ?_; rintro e w' ⟨rfl, rfl⟩) | (go_at_call 22; refine (rdiff_any _ _ _).mono ?_; rintro e w' ⟨rfl, rfl⟩))
  go_returns
  exact ⟨rfl, rfl⟩
theorem interp_out (a b num den : Int) (h0 : prtB num den = false) (w : World) : Calls Try.prog 28 #[.int .i64 a, .int .i64 b, .int .i64 num, .int .i64 den] w fun e w' => e = .returned (.tuple #[.int .i64 0, .iface 52 (.int .i64 3)]) ∧ w = w' := by
  rcases prtB_out h0 with h | ⟨h1, h⟩ | ⟨h1, h2, h⟩ | ⟨h1, h2, h3, h⟩
  all_goals
    clear h0
    go_enter Try.func28, Try.ntmps28
    go_wp2_with fail
    go_returns
    exact ⟨rfl, rfl⟩
theorem rinterp_out (a b num den : Int) (h0 : prtB num den = false) (w : World) : Calls Try.prog 29 #[.int .i64 a, .int .i64 b, .int .i64 num, .int .i64 den] w fun e w' => e = .returned (.tuple #[.int .i64 0, .int .i64 3]) ∧ w = w' := by
  rcases prtB_out h0 with h | ⟨h1, h⟩ | ⟨h1, h2, h⟩ | ⟨h1, h2, h3, h⟩
  all_goals
    clear h0
    go_enter Try.func29, Try.ntmps29
    go_wp2_with fail
    go_returns
    exact ⟨rfl, rfl⟩

theorem runwrap_in (p a : Int) (hp : posB p = true) (w : World) : Calls Try.prog 31 #[.int .i64 p, .int .i64 a] w fun e w' => e = .returned (.tuple #[.int .i64 (p + dif a p), .int .i64 0]) ∧ w = w' := by
  have hq := posB_in hp
  have hb := dif_bd a p
  go_enter Try.func31, Try.ntmps31
  go_wp2_with (first | (go_at_call 22; refine (rdiff_any _ _ _).mono ?_; rintro e w' ⟨rfl, rfl⟩))
  go_returns
  exact ⟨rfl, rfl⟩
theorem runwrap_out (p a : Int) (hp : posB p = false) (w : World) : Calls Try.prog 31 #[.int .i64 p, .int .i64 a] w fun e w' => e = .returned (.tuple #[.int .i64 0, .int .i64 3]) ∧ w = w' := by
  rcases posB_out hp with h | h
  all_goals
    go_enter Try.func31, Try.ntmps31
    go_wp2_with fail
    go_returns
    exact ⟨rfl, rfl⟩

def elcB (p k : Int) : Bool := posB p && decide (1 ≤ k) && decide (k ≤ 64)
theorem elcB_in {p k : Int} (h : elcB p k = true) : posB p = true ∧ 1 ≤ k ∧ k ≤ 64 := by
  simp [elcB] at h
  exact ⟨h.1.1, h.1.2, h.2⟩
theorem elcB_out {p k : Int} (h : elcB p k = false) : posB p = false ∨ (posB p = true ∧ k < 1) ∨ (posB p = true ∧ ¬ k < 1 ∧ 64 < k) := by
  simp [elcB] at h
  cases hp : posB p
  · exact .inl rfl
  · refine .inr ?_
    simp [hp] at h
    rcases Int.lt_or_le k 1 with h1 | h1
    · exact .inl ⟨rfl, h1⟩
    · exact .inr ⟨rfl, by omega, by omega⟩
theorem electric_in (p k o : Int) (h0 : elcB p k = true) (w : World) : Calls Try.prog 32 #[.int .i64 p, .int .i64 k, .int .i64 o] w fun e w' => e = .returned (.tuple #[.int .i64 (elc p k o), .nilIface]) ∧ w = w' := by
  obtain ⟨hp, hk⟩ := elcB_in h0
  clear h0
  have hq := posB_in hp
  have hb := prod_bd (x := p) (y := k) (m := 72057594037927936) (n := 64) (by omega) (by omega) (by omega)
  have he := elc_wrap p k o
  go_enter Try.func32, Try.ntmps32
  go_wp2_with (first | (go_at_call 17; refine (norm_any _ _).mono ?_; rintro e w' ⟨rfl, rfl⟩) | (go_at_call 34; refine (pos_any _ _).mono ?_; rintro e w' ⟨rfl, rfl⟩))
  go_returns
  exact ⟨rfl, rfl⟩
theorem relectric_in (p k o : Int) (h0 : elcB p k = true) (w : World) : Calls Try.prog 33 #[.int .i64 p, .int .i64 k, .int .i64 o] w fun e w' => e = .returned (.tuple #[.int .i64 (elc p k o), .int .i64 0]) ∧ w = w' := by
  obtain ⟨hp, hk⟩ := elcB_in h0
  clear h0
  have hq := posB_in hp
  have b1 := nrm_bd p
  have b2 := nrm_bd o
  have hb := prod_bd (x := nrm p) (y := k) (m := 65536) (n := 64) (by omega) (by omega) (by omega)
  have he := elc_ref p k o
  go_enter Try.func33, Try.ntmps33
  go_wp2_with (first | (go_at_call 21; refine (rnorm_any _ _).mono ?_; rintro e w' ⟨rfl, rfl⟩))
  go_returns
  exact ⟨rfl, rfl⟩
theorem electric_out (p k o : Int) (h0 : elcB p k = false) (w : World) : Calls Try.prog 32 #[.int .i64 p, .int .i64 k, .int .i64 o] w fun e w' => e = .returned (.tuple #[.int .i64 0, .iface 52 (.int .i64 3)]) ∧ w = w' := by
  rcases elcB_out h0 with h | ⟨h, h1⟩ | ⟨h, h1, h2⟩
  all_goals clear h0
  all_goals
    go_enter Try.func32, Try.ntmps32
    go_wp2_with (first | (go_at_call 34; refine (pos_any _ _).mono ?_; rintro e w' ⟨rfl, rfl⟩))
    go_returns
    exact ⟨rfl, rfl⟩
theorem relectric_out (p k o : Int) (h0 : elcB p k = false) (w : World) : Calls Try.prog 33 #[.int .i64 p, .int .i64 k, .int .i64 o] w fun e w' => e = .returned (.tuple #[.int .i64 0, .int .i64 3]) ∧ w = w' := by
  rcases elcB_out h0 with h | ⟨h, h1⟩ | ⟨h, h1, h2⟩
  all_goals clear h0
  · rcases posB_out h with h | h
    all_goals
      go_enter Try.func33, Try.ntmps33
      go_wp2_with fail
      go_returns
      exact ⟨rfl, rfl⟩
  all_goals
    have hq := posB_in h
    go_enter Try.func33, Try.ntmps33
    go_wp2_with fail
    go_returns
    exact ⟨rfl, rfl⟩
end Go.Proofs.Ytpcniocjedbbjaa
