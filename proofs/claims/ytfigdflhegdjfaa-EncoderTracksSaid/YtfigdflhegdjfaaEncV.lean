/- The contract of encoder.Stuck; what the decoder counts when a line is stuck. -/
import Derived.Test.YtfigdflhegdjfaaEnc
namespace Go.Proofs.Ytfigdflhegdjfaa
open Go.RowKit
set_option linter.unusedVariables false

theorem stuck_0 (a b z v : Bool) (w : World) : Calls Try.prog 23 #[.agg #[.bool a, .bool b, .bool z], .int .i64 0, .bool v] w fun e w' => e = .returned (.agg #[.bool v, .bool b, .bool z]) ∧ w' = (w.alloc (.cells #[.bool v, .bool b, .bool z] 34)).alloc (.cells #[.bool v, .bool b, .bool z] 34) := by
  go_enter Try.func23, Try.ntmps23
  go_wp2
  refine bodyPost_ret (by simp [results, Try.results23, go_sem]; try rfl) rfl ?_
  exact ⟨rfl, rfl⟩
theorem stuck_1 (a b z v : Bool) (w : World) : Calls Try.prog 23 #[.agg #[.bool a, .bool b, .bool z], .int .i64 1, .bool v] w fun e w' => e = .returned (.agg #[.bool a, .bool v, .bool z]) ∧ w' = (w.alloc (.cells #[.bool a, .bool v, .bool z] 34)).alloc (.cells #[.bool a, .bool v, .bool z] 34) := by
  go_enter Try.func23, Try.ntmps23
  go_wp2
  refine bodyPost_ret (by simp [results, Try.results23, go_sem]; try rfl) rfl ?_
  exact ⟨rfl, rfl⟩
theorem stuck_2 (a b z v : Bool) (w : World) : Calls Try.prog 23 #[.agg #[.bool a, .bool b, .bool z], .int .i64 2, .bool v] w fun e w' => e = .returned (.agg #[.bool a, .bool b, .bool v]) ∧ w' = (w.alloc (.cells #[.bool a, .bool b, .bool v] 34)).alloc (.cells #[.bool a, .bool b, .bool v] 34) := by
  go_enter Try.func23, Try.ntmps23
  go_wp2
  refine bodyPost_ret (by simp [results, Try.results23, go_sem]; try rfl) rfl ?_
  exact ⟨rfl, rfl⟩
theorem stuck_3 (a b z v : Bool) (w : World) : Calls Try.prog 23 #[.agg #[.bool a, .bool b, .bool z], .int .i64 3, .bool v] w fun e w' => e = .returned (.agg #[.bool a, .bool b, .bool z]) ∧ w' = (w.alloc (.cells #[.bool a, .bool b, .bool z] 34)).alloc (.cells #[.bool a, .bool b, .bool z] 34) := by
  go_enter Try.func23, Try.ntmps23
  go_wp2
  refine bodyPost_ret (by simp [results, Try.results23, go_sem]; try rfl) rfl ?_
  exact ⟨rfl, rfl⟩
theorem stuck_4 (a b z v : Bool) (w : World) : Calls Try.prog 23 #[.agg #[.bool a, .bool b, .bool z], .int .i64 4, .bool v] w fun e w' => e = .returned (.agg #[.bool a, .bool b, .bool z]) ∧ w' = (w.alloc (.cells #[.bool a, .bool b, .bool z] 34)).alloc (.cells #[.bool a, .bool b, .bool z] 34) := by
  go_enter Try.func23, Try.ntmps23
  go_wp2
  refine bodyPost_ret (by simp [results, Try.results23, go_sem]; try rfl) rfl ?_
  exact ⟨rfl, rfl⟩

/-- The signals, if line A (l false) or B (l true) is stuck at v and the other is o. -/
def sA (l v o : Bool) : Bool := if l then o else v
def sB (l v o : Bool) : Bool := if l then v else o
def gg (l v o : Bool) : Int := if o then (if l = v then -1 else 1) else 0
theorem stk_N (l v o o' : Bool) (ct : Int) (h1 : -1099511627776 ≤ ct) (h2 : ct ≤ 1099511627776) : stN (phs (sA l v o) (sB l v o)) ct (sA l v o') (sB l v o') = ct + (gg l v o' - gg l v o) := by
  unfold stN
  rw [clp_in h1 h2]
  congr 1
  revert l v o o'
  decide
theorem gg_bd (l v o o' : Bool) : -1 ≤ gg l v o' - gg l v o ∧ gg l v o' - gg l v o ≤ 1 := by
  revert l v o o'
  decide
theorem stC_low (t ph ct : Int) (kn hi st a b : Bool) : stC t ph ct kn hi st a b false = if st = false then 0 else stN ph ct a b := by
  unfold stC; simp
/-- What holds at the head of a round. -/
def StkI (l v fst : Bool) (F ph ct : Int) (st : Bool) : Prop :=
  (fst = true ∧ F = 0 ∧ -549755813888 ≤ ct ∧ ct ≤ 549755813888 ∧ (Lit.int .i64 ph).wf = true) ∨
  (fst = false ∧ st = true ∧ -549755813889 ≤ F ∧ F ≤ 549755813889 ∧ ∃ o o0 : Bool, ph = phs (sA l v o) (sB l v o) ∧ ct = F + (gg l v o - gg l v o0))
theorem stN_near (ph ct : Int) (a b : Bool) (h1 : -549755813888 ≤ ct) (h2 : ct ≤ 549755813888) : -549755813889 ≤ stN ph ct a b ∧ stN ph ct a b ≤ 549755813889 := by
  unfold stN
  rw [clp_in (by omega) (by omega)]
  (repeat' split) <;> omega
theorem stk_first {l v : Bool} {F ph ct : Int} {st : Bool} (o : Bool) (t : Int) (kn hi : Bool) (h : StkI l v true F ph ct st) :
    (Lit.int .i64 ph).wf = true ∧ StkI l v false (stC t ph ct kn hi st (sA l v o) (sB l v o) false) (phs (sA l v o) (sB l v o)) (stC t ph ct kn hi st (sA l v o) (sB l v o) false) true := by
  rcases h with ⟨_, _, h1, h2, h3⟩ | ⟨h, _⟩
  · refine ⟨h3, .inr ⟨rfl, rfl, ?_, ?_, o, o, rfl, by omega⟩⟩
    all_goals
      rw [stC_low]
      have := stN_near ph ct (sA l v o) (sB l v o) h1 h2
      split <;> omega
  · exact absurd h (by decide)
theorem stk_next {l v : Bool} {F ph ct : Int} {st : Bool} (o : Bool) (t : Int) (kn hi : Bool) (h : StkI l v false F ph ct st) :
    (Lit.int .i64 ph).wf = true ∧ -549755813889 ≤ F ∧ F ≤ 549755813889 ∧ F - 1 ≤ stC t ph ct kn hi st (sA l v o) (sB l v o) false ∧ stC t ph ct kn hi st (sA l v o) (sB l v o) false ≤ F + 1 ∧
    StkI l v false F (phs (sA l v o) (sB l v o)) (stC t ph ct kn hi st (sA l v o) (sB l v o) false) true := by
  rcases h with ⟨h, _⟩ | ⟨_, h1, h2, h3, o1, o0, h4, h5⟩
  · exact absurd h (by decide)
  · have b1 := gg_bd l v o0 o1
    have b2 := gg_bd l v o0 o
    have e : stC t ph ct kn hi st (sA l v o) (sB l v o) false = F + (gg l v o - gg l v o0) := by
      rw [stC_low, if_neg (by rw [h1]; decide), h4, stk_N l v o1 o ct (by omega) (by omega), h5]
      omega
    have w1 : (Lit.int .i64 ph).wf = true := by
      have := phs_bd (sA l v o1) (sB l v o1)
      rw [h4]
      generalize phs (sA l v o1) (sB l v o1) = q at *
      rcases (show q = 0 ∨ q = 1 ∨ q = 2 ∨ q = 3 by omega) with rfl | rfl | rfl | rfl <;> decide
    exact ⟨w1, h2, h3, by omega, by omega, .inr ⟨rfl, rfl, h2, h3, o, o0, rfl, e⟩⟩
/-- A block's number below the sums of the walk. -/
theorem lt_all {b s : Nat} (h : b < s) : (∀ k1, b < s + k1) ∧ (∀ k1 k2, b < s + k1 + k2) ∧ (∀ k1 k2 k3, b < s + k1 + k2 + k3) ∧ (∀ k1 k2 k3 k4, b < s + k1 + k2 + k3 + k4) ∧ (∀ k1 k2 k3 k4 k5, b < s + k1 + k2 + k3 + k4 + k5) ∧ (∀ k1 k2 k3 k4 k5 k6, b < s + k1 + k2 + k3 + k4 + k5 + k6) ∧ (∀ k1 k2 k3 k4 k5 k6 k7, b < s + k1 + k2 + k3 + k4 + k5 + k6 + k7) ∧ (∀ k1 k2 k3 k4 k5 k6 k7 k8, b < s + k1 + k2 + k3 + k4 + k5 + k6 + k7 + k8) := by
  refine ⟨?_, ?_, ?_, ?_, ?_, ?_, ?_, ?_⟩ <;> (intros; omega)
end Go.Proofs.Ytfigdflhegdjfaa
