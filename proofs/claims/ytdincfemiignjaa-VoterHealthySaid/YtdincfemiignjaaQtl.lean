/- A region that draws its order: its first n operations read, or call functions that leave garbage behind; its rest is a chain (a store). One walk of the text's order serves. No program in sight. -/
import Derived.StillTail
import Derived.Deep.Quiet
import Derived.BigQuiet
import Derived.Laws.Rows
import Derived.Test.YtdincfemiignjaaGar
namespace Go.Proofs.Ytdincfemiignjaa
open Go.RowKit

section
variable {P : Program} {ops : Array Oper} {md : Region.Mode} {C : World → Prop}

/-- For f operations on, only the first n come up, whatever order is drawn; then L. -/
def tq (P : Program) (md : Region.Mode) (ops : Array Oper) (C : World → Prop) (n : Nat) (L : Array Bool → Act → Prop) : Nat → Array Bool → Act → Prop
  | 0, s, a => L s a
  | f + 1, s, a => Region.ready md ops s ≠ [] ∧ ∀ i ∈ Region.ready md ops s, i < n ∧ qOp P ops C i (tq P md ops C n L f (s.setIfInBounds i true)) a

theorem tq_any {n g : Nat} {L : Array Bool → Act → Prop} {Q : Exit → Act → World → Prop} (hL : ∀ s a, L s a → ∀ w, C w → wpAny P md ops Q g s a w) (f : Nat) :
    ∀ (s : Array Bool) (a : Act) (w : World), C w → tq P md ops C n L f s a → wpAny P md ops Q (g + f) s a w := by
  induction f with
  | zero => intro s a w hw h; exact hL _ _ h w hw
  | succ f ih =>
    intro s a w hw h
    exact ⟨fun e => absurd e h.1, fun i hi => wpOp_of_qOp hw (fun a' w' hw' h' => ih _ a' w' hw' h') (h.2 i hi).2⟩

theorem tq_take {n i : Nat} {oi : Oper} {v : Value} {L : Array Bool → Act → Prop} (hi : ops[i]? = some oi) (hsel : Region.noSelect ops = true)
    (hs : Region.sinkB md ops n = true) (hc : Region.chainB md ops n = true) (hn : n < ops.size) (hin : i < n)
    (hdone : ∀ s a, L s a → ∀ j ∈ Region.ready md ops s, n ≤ j) (f : Nat) :
    ∀ (s : Array Bool) (a : Act), HeadInv md ops n s →
      (∀ j oj, ops[j]? = some oj → j ≠ i → s.getD j true = false → (∀ e ∈ oj.after, Region.binds md e = true → e.on ≠ i) → oi.apart ops oj = true) →
      i ∈ Region.ready md ops s → YieldsIn P ops C oi v a → tq P md ops C n L f (s.setIfInBounds i true) (a.put oi.dst v) → tq P md ops C n L (f + 1) s a := by
  have hS := Region.noSelect_spec hsel
  induction f with
  | zero =>
    intro s a inv _ hr hy H
    have hun := (mem_ready.1 hr).1
    refine ⟨List.ne_nil_of_mem hr, fun j hj => ?_⟩
    have hjn : j < n := Nat.lt_of_not_le fun h => tail_waits hs hc hn inv _ i rfl hin hun j h hj
    by_cases e : j = i
    · subst e; exact ⟨hjn, hy.qOp hi H⟩
    · exact absurd (hdone _ _ H j (ready_mono hj e)) (Nat.not_le_of_lt hjn)
  | succ f ih =>
    intro s a inv hfree hr hy H
    have hun := (mem_ready.1 hr).1
    refine ⟨List.ne_nil_of_mem hr, fun j hj => ?_⟩
    have hjn : j < n := Nat.lt_of_not_le fun h => tail_waits hs hc hn inv _ i rfl hin hun j h hj
    refine ⟨hjn, ?_⟩
    by_cases e : j = i
    · subst e; exact hy.qOp hi H
    · obtain ⟨hju, oj, hoj, hall⟩ := mem_ready.1 hj
      have hno : ∀ e ∈ oj.after, Region.binds md e = true → e.on ≠ i := by
        intro e he hb heq
        have h1 := hall e he hb
        rw [heq, getD_both hun] at h1
        exact Bool.false_ne_true h1
      refine qOp_mono ?_ (qOp_put hoj (hfree j oj hoj e hju hno) (fun cs b => hS i oi cs b hi) (fun cs b => hS j oj cs b hoj) hy (H.2 j (ready_mono hj e)).2)
      intro a' h3
      refine ih _ a' (inv.set hj hjn) ?_ (ready_mono hr (Ne.symm e)) h3.1 (by rw [Array.setIfInBounds_comm _ _ e]; exact h3.2)
      intro k ok hk hki hku hkn
      refine hfree k ok hk hki ?_ hkn
      by_cases ejk : j = k
      · subst ejk; exact hju
      · rwa [getD_set_ne true ejk] at hku

theorem tq_lex {n g : Nat} {Lq : Act → Prop} (hsel : Region.noSelect ops = true) (hs : Region.sinkB md ops n = true) (hc : Region.chainB md ops n = true) (hn : n < ops.size) (l : List Oper) :
    ∀ (k : Nat) (s : Array Bool) (a : Act), (∀ j, j < l.length → l[j]? = ops[k + j]?) → k + l.length = n → HeadInv md ops n s →
      Region.lexHead md ops g l.length k s = true → wpQuiet P ops C Lq l a →
      tq P md ops C n (fun s' a' => Region.seqB md ops g n s' = true ∧ Lq a') l.length s a := by
  induction l with
  | nil =>
    intro k s a _ hk _ hB h
    obtain rfl : k = n := by simpa using hk
    exact ⟨by simpa [Region.lexHead] using hB, h⟩
  | cons o l ih =>
    intro k s a hl hk inv hB h
    have h0 : ops[k]? = some o := by simpa using (hl 0 (by simp)).symm
    simp only [List.length_cons] at hk
    simp only [List.length_cons, Region.lexHead, Bool.and_eq_true] at hB
    have hr : k ∈ Region.ready md ops s := by simpa using hB.1.1
    have hq : qOp P ops C k (wpQuiet P ops C Lq l) a := by unfold qOp; rw [h0]; exact h
    obtain ⟨v, hy, hK⟩ := yieldsIn_of_qOp h0 hq
    refine tq_take h0 hsel hs hc hn (by omega) (fun s' a' hL => seqB_ready hL.1) l.length s a inv (Region.free_spec h0 hB.1.2) hr hy ?_
    refine ih (k + 1) _ _ (fun j hj => ?_) (by omega) (inv.set hr (by omega)) hB.2 hK
    have := hl (j + 1) (by simp only [List.length_cons]; omega)
    rw [show k + 1 + j = k + (j + 1) by omega, ← this]
    rfl

theorem wp_region_qtail {id : Nat} {Q : Exit → Act → World → Prop} {a : Act} {w : World} {l : List Oper} (C : World → Prop) (n : Nat) (hm : P.follows .mixedOrders = true) (hB : Region.lexTailB .any l.toArray n = true) (hC : C w.drew)
    (h : wpQuiet P l.toArray C (fun a' => ∀ w', C w' → wpList P l.toArray Q (l.drop n) a' w') (l.take n) a) : (Code.region id l.toArray true).wp P Q a w := by
  simp only [Region.lexTailB, Bool.and_eq_true, decide_eq_true_eq] at hB
  obtain ⟨⟨⟨⟨hsel, hn⟩, hs⟩, hc⟩, hlex⟩ := hB
  have hln : n < l.length := by simpa using hn
  have htl : (l.take n).length = n := by rw [List.length_take]; omega
  have hdl : l.toArray.size - n = (l.drop n).length := by rw [List.length_drop]; rfl
  have inv : HeadInv .any l.toArray n (Array.replicate l.toArray.size false) :=
    ⟨Array.size_replicate, fun j oj _ h => absurd ((getD_replicate_false _ _).symm.trans h) Bool.false_ne_true, fun t _ ht => getD_in (by rwa [Array.size_replicate]) (getD_replicate_false _ _)⟩
  have H := tq_lex (g := l.toArray.size - n) hsel hs hc hn (l.take n) 0 _ a (fun j hj => by
    rw [htl] at hj
    simp [hj]) (by omega) inv (by rw [htl]; exact hlex) h
  refine wp_region_any hm ?_
  have G := tq_any (Q := Q) (g := l.toArray.size - n) (fun s a' hL w' hw' => by
    have h1 := wpAny_of_seq (md := .any) (Q' := Q) (l.drop n) n s a' w' (fun j => by simp [List.getElem?_drop]) (by rw [← hdl]; exact hL.1) (hL.2 w' hw')
    rwa [← hdl] at h1) _ _ a w.drew hC H
  rwa [htl, show l.toArray.size - n + n = l.toArray.size by omega] at G
end

/-- Garbage behind, and draws. -/
structure Gp where
  os : List Obj
  n : Nat
instance : Nonempty Gp := ⟨⟨[], 0⟩⟩
theorem gp_drew (w : World) : ∃ g : Gp, w.drew = (allocs w g.os).drewN g.n := ⟨⟨[], 1⟩, rfl⟩
theorem gp_drewN (w : World) (m : Nat) : ∃ g : Gp, (w.drewN m).drew = (allocs w g.os).drewN g.n := ⟨⟨[], m + 1⟩, rfl⟩
theorem gp_drew2 (w : World) (m : Nat) : ∃ g : Gp, (w.drewN m).drew.drew = (allocs w g.os).drewN g.n := ⟨⟨[], m + 1 + 1⟩, rfl⟩
theorem gp_of_gar {a b : World} (h : Gar a b) : ∃ g : Gp, b = (allocs a g.os).drewN g.n := let ⟨os, n, h⟩ := h; ⟨⟨os, n⟩, h⟩
theorem gar_gp (w : World) (g : Gp) : Gar w ((allocs w g.os).drewN g.n) := ⟨g.os, g.n, rfl⟩
theorem gp_all {X : World → Prop} {W : World} (h : ∀ os n, X ((allocs W os).drewN n)) : ∀ w', (∃ g : Gp, w' = (allocs W g.os).drewN g.n) → X w' := fun _ ⟨g, e⟩ => e ▸ h g.os g.n
theorem calls_gp {P : Program} {f : FuncId} {args : Array Value} {W : World} {v : Value} (h : ∀ w, Gar W w → Calls P f args w fun e w' => e = .returned v ∧ Gar W w') (g : Gp) :
    Calls P f args ((allocs W g.os).drewN g.n) fun e w'' => e = .returned v ∧ ∃ g' : Gp, w'' = (allocs W g'.os).drewN g'.n :=
  (h _ (gar_gp W g)).mono fun _ _ ⟨he, hg⟩ => ⟨he, gp_of_gar hg⟩
theorem calls_gp0 {P : Program} {f : FuncId} {args : Array Value} {W : World} {v : Value} (h : ∀ w, Calls P f args w fun e w' => e = .returned v ∧ w = w') (g : Gp) :
    Calls P f args ((allocs W g.os).drewN g.n) fun e w'' => e = .returned v ∧ ∃ g' : Gp, w'' = (allocs W g'.os).drewN g'.n :=
  (h _).mono fun _ _ ⟨he, hg⟩ => ⟨he, g, hg.symm⟩
/-- A struct or an array that is a block of its own, read whole. -/
theorem quiet_load_row {P : Program} {C : World → Prop} {K : Act → Prop} {a : Act} {o : Oper} (ty : TypeId) (x : Operand) (ho : o.op = .load ty x)
    (g : Nat) (hx : a.eval x = .pointer (some ⟨g, 0, none⟩)) (t : TypeId) (cs : Array Value) (fr : Nat × Nat) (d : TypeDesc) (hg : ∀ w, C w → w.heap[g]? = some (.cells cs t fr))
    (hu : P.underlying ty = some d) (hd : (match d with | .struct _ | .array _ _ => true | _ => false) = true) (hi : (P.info? ty).map (·.size) = some cs.size)
    (h : K (a.put o.dst (.agg cs))) : o.quiet P a C K :=
  ⟨.agg cs, fun w hw => by
    unfold Oper.quietAt execOp
    simp only [ho, hx, Instr.loadAt, Instr.sureAddr, Sem.run_bind, Sem.run_pure, Result.andThen_ok]
    rw [run_loadVar_row w g t ty cs fr d (hg w hw) hu hd hi]
    exact ⟨rfl, rfl⟩, h⟩
end Go.Proofs.Ytdincfemiignjaa
