/- What the walk is told of an argument: a value of numbers and bools as its cells; a row of such values. No program in sight. -/
import Derived.WalkKit
import Derived.ProofKit
import Derived.OpenShut
import Derived.ChangeOld
import Derived.Below
namespace Go.Proofs.Ytdincfemiignjaa
open Go.ChangeShapes Go.WideShapes Go.ChangeAt Go.RowKit

/-- A cell's kind: none: a bool; some k: an integer of kind k. -/
def IsK : Option IntKind → Value → Prop
  | none, v => ∃ b, v = .bool b
  | some k, v => ∃ n, v = .int k n ∧ (Lit.int k n).wf = true
def Flat : List (Option IntKind) → List Value → Prop
  | [], [] => True
  | k :: ks, v :: vs => IsK k v ∧ Flat ks vs
  | _, _ => False
theorem flat_nil {vs : List Value} (h : Flat [] vs) : vs = [] := by cases vs <;> simp_all [Flat]
theorem flat_int {k : IntKind} {ks : List (Option IntKind)} {vs : List Value} (h : Flat (some k :: ks) vs) : ∃ n r, vs = .int k n :: r ∧ (Lit.int k n).wf = true ∧ Flat ks r := by
  cases vs with
  | nil => simp [Flat] at h
  | cons v r =>
    obtain ⟨⟨n, rfl, hn⟩, h2⟩ := h
    exact ⟨n, r, rfl, hn, h2⟩
theorem flat_bool {ks : List (Option IntKind)} {vs : List Value} (h : Flat (none :: ks) vs) : ∃ b r, vs = .bool b :: r ∧ Flat ks r := by
  cases vs with
  | nil => simp [Flat] at h
  | cons v r =>
    obtain ⟨⟨b, rfl⟩, h2⟩ := h
    exact ⟨b, r, rfl, h2⟩
theorem flat_append {a b : List (Option IntKind)} {u v : List Value} (h : Flat a u) (g : Flat b v) : Flat (a ++ b) (u ++ v) := by
  induction a generalizing u with
  | nil => rw [flat_nil h]; exact g
  | cons k ks ih =>
    cases u with
    | nil => simp [Flat] at h
    | cons x r => exact ⟨h.1, ih h.2⟩
theorem flat_length {a : List (Option IntKind)} {u : List Value} (h : Flat a u) : u.length = a.length := by
  induction a generalizing u with
  | nil => rw [flat_nil h]; rfl
  | cons k ks ih =>
    cases u with
    | nil => simp [Flat] at h
    | cons x r => simp [ih h.2]

/-- The cells of a type of numbers and bools, off the program's table. -/
def flatFs (sub : TypeId → Option (List (Option IntKind))) (P : Program) : Nat → List Field → Option (List (Option IntKind))
  | _, [] => some []
  | off, f :: fs => (sub f.type).bind fun ks => if f.offset = off ∧ ks.length = P.cellsOf f.type then (flatFs sub P (off + ks.length) fs).bind fun r => some (ks ++ r) else none
def flatArr (ks : List (Option IntKind)) : Nat → List (Option IntKind)
  | 0 => []
  | n + 1 => ks ++ flatArr ks n
def flatK (P : Program) : Nat → TypeId → Option (List (Option IntKind))
  | 0, _ => none
  | n + 1, t =>
    match P.underlying t with
    | some .bool => some [none]
    | some (.int k) => some [some k]
    | some (.struct fs) => (flatFs (flatK P n) P 0 fs.toList).bind fun ks => if ks.length = P.cellsOf t then some ks else none
    | some (.array m e) => (flatK P n e).bind fun ks => if ks.length = P.cellsOf e ∧ (flatArr ks m).length = P.cellsOf t then some (flatArr ks m) else none
    | _ => none

theorem flatArr_length (ks : List (Option IntKind)) (n : Nat) : (flatArr ks n).length = n * ks.length := by
  induction n with
  | zero => simp [flatArr]
  | succ n ih => simp [flatArr, ih, Nat.succ_mul, Nat.add_comm]

section
variable {H : Type} {enc : TypeId × Value → H} {P : Program} {w : World} {base : Nat} {spare : Nat → Bool} {held : Bool}

theorem flat_fields {sub : TypeId → Option (List (Option IntKind))} {m : Nat} (hsub : ∀ t cs x ks, sub t = some ks → DataW.trod enc P w base spare held m t cs = some x → Flat ks cs) (cs : List Value) :
    ∀ (fs : List Field) (off : Nat) (ks : List (Option IntKind)), flatFs sub P off fs = some ks → (cs.drop off).length = ks.length →
      (∀ f ∈ fs, ∃ y, DataW.trod enc P w base spare held m f.type ((cs.drop f.offset).take (P.cellsOf f.type)) = some y) → Flat ks (cs.drop off) := by
  intro fs
  induction fs with
  | nil =>
    intro off ks h hl _
    simp only [flatFs, Option.some.injEq] at h
    subst h
    rw [List.eq_nil_of_length_eq_zero hl]
    trivial
  | cons f fs ih =>
    intro off ks h hl hy
    simp only [flatFs, Option.bind_eq_some_iff] at h
    obtain ⟨k1, h1, h2⟩ := h
    split at h2
    · rename_i hc
      simp only [Option.bind_eq_some_iff, Option.some.injEq] at h2
      obtain ⟨r, h3, rfl⟩ := h2
      obtain ⟨y, hy1⟩ := hy f (by simp)
      have g1 := hsub _ _ _ _ h1 hy1
      rw [hc.1] at g1
      have g2 := ih (off + k1.length) r h3 (by simp only [List.length_drop, List.length_append] at hl ⊢; omega) (fun g hg => hy g (by simp [hg]))
      have e : cs.drop off = (cs.drop off).take (P.cellsOf f.type) ++ cs.drop (off + k1.length) := by
        rw [← List.drop_drop, hc.2, List.take_append_drop]
      rw [e]
      exact flat_append g1 g2
    · exact absurd h2 (by simp)

theorem flat_elems {e : TypeId} {ks : List (Option IntKind)} {m : Nat} (hsub : ∀ cs x, DataW.trod enc P w base spare held m e cs = some x → Flat ks cs) (hk : ks.length = P.cellsOf e) (cs : List Value) :
    ∀ (n i0 : Nat), (cs.drop (i0 * P.cellsOf e)).length = (flatArr ks n).length →
      (∀ i, i < n → ∃ y, DataW.trod enc P w base spare held m e ((cs.drop ((i0 + i) * P.cellsOf e)).take (P.cellsOf e)) = some y) → Flat (flatArr ks n) (cs.drop (i0 * P.cellsOf e)) := by
  intro n
  induction n with
  | zero =>
    intro i0 hl _
    have e0 : cs.drop (i0 * P.cellsOf e) = [] := List.eq_nil_of_length_eq_zero (by rw [hl]; rfl)
    rw [e0]
    trivial
  | succ n ih =>
    intro i0 hl hy
    obtain ⟨y, hy0⟩ := hy 0 (by omega)
    rw [Nat.add_zero] at hy0
    have g1 := hsub _ _ hy0
    have g2 := ih (i0 + 1) (by simp only [List.length_drop, flatArr, List.length_append, Nat.succ_mul] at hl ⊢; omega)
      (fun i hi => by have := hy (i + 1) (by omega); rwa [show i0 + (i + 1) = i0 + 1 + i by omega] at this)
    have e : cs.drop (i0 * P.cellsOf e) = (cs.drop (i0 * P.cellsOf e)).take (P.cellsOf e) ++ cs.drop ((i0 + 1) * P.cellsOf e) := by
      rw [Nat.succ_mul, ← List.drop_drop, List.take_append_drop]
    rw [e]
    exact flat_append g1 g2

theorem flat_trod : ∀ (n : Nat) (t : TypeId) (ks : List (Option IntKind)), flatK P n t = some ks → ∀ (fuel : Nat) (cs : List Value) (x : DataW H × List MemPlace), DataW.trod enc P w base spare held fuel t cs = some x → Flat ks cs := by
  intro n
  induction n with
  | zero => intro t ks h; simp [flatK] at h
  | succ n ih =>
    intro t ks h fuel cs x hx
    unfold flatK at h
    split at h
    · rename_i ht
      simp only [Option.some.injEq] at h
      subst h
      obtain ⟨b, rfl, _⟩ := DataW.trod_bool ht hx
      exact ⟨⟨b, rfl⟩, trivial⟩
    · rename_i k ht
      simp only [Option.some.injEq] at h
      subst h
      obtain ⟨v, rfl, _, hw⟩ := DataW.trod_int ht hx
      exact ⟨⟨v, rfl, hw⟩, trivial⟩
    · rename_i fs ht
      simp only [Option.bind_eq_some_iff] at h
      obtain ⟨k1, h1, h2⟩ := h
      split at h2
      · rename_i hl
        simp only [Option.some.injEq] at h2
        subst h2
        obtain ⟨xs, m, _, _, hcl, hxl, hf⟩ := DataW.trod_struct ht hx
        have := flat_fields (m := m) (fun t cs x ks h hx => ih t ks h m cs x hx) cs fs.toList 0 k1 h1 (by rw [List.drop_zero, hcl, hl]) (fun f hf' => by
          obtain ⟨i, hi⟩ := List.mem_iff_getElem?.1 hf'
          have hi' : fs[i]? = some f := by rw [← hi]; simp
          have hb : i < xs.length := by rw [hxl]; exact (Array.getElem?_eq_some_iff.1 hi').1
          exact ⟨xs[i], by rw [hf i f hi']; exact List.getElem?_eq_getElem hb⟩)
        rwa [List.drop_zero] at this
      · exact absurd h2 (by simp)
    · rename_i m e ht
      simp only [Option.bind_eq_some_iff] at h
      obtain ⟨k1, h1, h2⟩ := h
      split at h2
      · rename_i hl
        simp only [Option.some.injEq] at h2
        subst h2
        obtain ⟨xs, m', _, _, hcl, hxl, hf⟩ := DataW.trod_array ht hx
        have := flat_elems (m := m') (fun cs x hx => ih e k1 h1 m' cs x hx) hl.1 cs m 0 (by rw [Nat.zero_mul, List.drop_zero, hcl, hl.2]) (fun i hi => by
          rw [Nat.zero_add]
          exact ⟨xs[i]'(by omega), by rw [hf i hi]; exact List.getElem?_eq_getElem (by omega)⟩)
        rwa [Nat.zero_mul, List.drop_zero] at this
      · exact absurd h2 (by simp)
    · exact absurd h (by simp)

/-- An argument of numbers and bools, opened: its cells. -/
theorem open_flat {n : Nat} {t : TypeId} {ks : List (Option IntKind)} {r : Reach} {b0 : Nat} {v : Value} {d : DataW H} {p : List MemPlace} (hk : flatK P n t = some ks)
    (ht : (∃ fs, P.underlying t = some (.struct fs)) ∨ ∃ m e, P.underlying t = some (.array m e)) (hv : Value.okWide P w r b0 t v) (h : DataW.Trod enc P w base spare held t v d p) :
    ∃ cs : List Value, v = .agg cs.toArray ∧ Flat ks cs := by
  obtain ⟨fuel, hf⟩ := h
  obtain ⟨cs, rfl, _⟩ : ∃ cs, v = .agg cs ∧ cs.size = P.cellsOf t := by
    rcases ht with ⟨fs, ht⟩ | ⟨m, e, ht⟩ <;> (simp only [Value.okWide, ht] at hv; obtain ⟨cs, h1, h2, _⟩ := hv; exact ⟨cs, h1, h2⟩)
  exact ⟨cs.toList, by simp, flat_trod n t ks hk fuel _ _ hf⟩

theorem add_add (a : Addr) (i j : Nat) : (a.add i).add j = a.add (i + j) := by
  unfold Addr.add
  by_cases hi : i = 0 <;> by_cases hj : j = 0 <;> simp [hi, hj, Nat.add_assoc]

/-- What the walk is told of a slice of such values: nil, or a row: element i has the cells 'D i', 'c' of them, from 'i * c' on. -/
def IsRows (ks : List (Option IntKind)) (w : World) (a : Option Addr) (len cap : Nat) (D : Nat → List Value) : Prop :=
  (a = none ∧ len = 0 ∧ cap = 0) ∨
  ∃ x, a = some x ∧ len ≤ cap ∧ cap ≤ maxLen ∧ ∀ i, i < len → Flat ks (D i) ∧ ∀ j, j < ks.length → w.cell? (x.add (i * ks.length + j)) = some ((D i).getD j undef)

theorem open_rows {n : Nat} {t e : TypeId} {ks : List (Option IntKind)} {r : Reach} {b0 : Nat} {v : Value} {d : DataW H} {p : List MemPlace} (hk : flatK P n e = some ks) (hc : ks.length = P.cellsOf e)
    (ht : P.underlying t = some (.slice e)) (hv : Value.okWide P w r b0 t v) (h : DataW.Trod enc P w base spare held t v d p) :
    ∃ (a : Option Addr) (len cap : Nat) (D : Nat → List Value), v = .slice a len cap ∧ IsRows ks w a len cap D := by
  obtain ⟨a, len, cap, rfl⟩ := okWide_slice ht hv
  obtain ⟨fuel, hf⟩ := h
  rcases DataW.trod_slice ht hf with ⟨hcs, _⟩ | ⟨x, l, c, elems, rest, m, _, hcs, _, _, hl, hm, hel, he, _, _⟩
  · simp [Value.cells] at hcs
    exact ⟨a, len, cap, fun _ => [], rfl, .inl hcs⟩
  · simp [Value.cells] at hcs
    obtain ⟨rfl, rfl, rfl⟩ := hcs
    refine ⟨some x, len, cap, fun i => ((w.cells? base (x.add (i * P.cellsOf e)) (P.cellsOf e)).getD []), rfl, .inr ⟨x, rfl, hl, hm, fun i hi => ?_⟩⟩
    have h1 := he i hi
    rw [List.getElem?_eq_getElem (by omega)] at h1
    obtain ⟨cs, hcs, hx⟩ := Option.bind_eq_some_iff.1 h1
    have hfl := flat_trod n e ks hk _ _ _ hx
    simp only [hcs, Option.getD_some]
    refine ⟨hfl, fun j hj => ?_⟩
    obtain ⟨_, hlen, hcell⟩ := World.cells?_some hcs
    have hj' : j < cs.length := by rw [flat_length hfl]; exact hj
    rw [hc, ← add_add, hcell j (by omega)]
    simp [List.getD, hj']
end
end Go.Proofs.Ytdincfemiignjaa
