/- 'Gar w w': the world with some new blocks behind, and draws: what a function leaves that only computes. No program in sight. -/
import Derived.Test.YtdincfemiignjaaDrw
namespace Go.Proofs.Ytdincfemiignjaa
open Go.RowKit

/-- w with the blocks os behind its own. -/
def allocs (w : World) : List Obj → World
  | [] => w
  | o :: os => allocs (w.alloc o) os
theorem allocs_cons (w : World) (o : Obj) (os : List Obj) : allocs w (o :: os) = allocs (w.alloc o) os := rfl
theorem allocs_append (w : World) (a b : List Obj) : allocs w (a ++ b) = allocs (allocs w a) b := by
  induction a generalizing w with
  | nil => rfl
  | cons o a ih => exact ih _
theorem allocs_snoc (w : World) (a : List Obj) (o : Obj) : (allocs w a).alloc o = allocs w (a ++ [o]) := by rw [allocs_append]; rfl
@[go_sem, simp] theorem size_allocs (w : World) (os : List Obj) : (allocs w os).heap.size = w.heap.size + os.length := by
  induction os generalizing w with
  | nil => rfl
  | cons o os ih => rw [allocs_cons, ih]; simp; omega
@[go_sem] theorem cell_allocs (w : World) (os : List Obj) (n i : Nat) (hn : n < w.heap.size) : (allocs w os).cell? ⟨n, i, none⟩ = w.cell? ⟨n, i, none⟩ := by
  induction os generalizing w with
  | nil => rfl
  | cons o os ih =>
    rw [allocs_cons, ih _ (by simp; omega)]
    exact World.cell?_alloc_past o n i hn
@[go_sem] theorem frozen_allocs (w : World) (os : List Obj) (n i : Nat) (hn : n < w.heap.size) : (allocs w os).frozen? ⟨n, i, none⟩ = w.frozen? ⟨n, i, none⟩ := by
  induction os generalizing w with
  | nil => rfl
  | cons o os ih =>
    rw [allocs_cons, ih _ (by simp; omega)]
    exact World.frozen?_alloc_past o n i hn
@[go_sem] theorem setCell_allocs (w : World) (os : List Obj) (n i : Nat) (v : Value) (hn : n < w.heap.size) : (allocs w os).setCell ⟨n, i, none⟩ v = allocs (w.setCell ⟨n, i, none⟩ v) os := by
  induction os generalizing w with
  | nil => rfl
  | cons o os ih =>
    rw [allocs_cons, allocs_cons, ih _ (by simp; omega), World.setCell_alloc_past o n i v hn]
theorem drewN_alloc (w : World) (n : Nat) (o : Obj) : (w.drewN n).alloc o = (w.alloc o).drewN n := rfl
@[go_sem] theorem allocs_drewN (w : World) (n : Nat) (os : List Obj) : allocs (w.drewN n) os = (allocs w os).drewN n := by
  induction os generalizing w with
  | nil => rfl
  | cons o os ih => rw [allocs_cons, drewN_alloc, ih]; rfl
@[go_sem] theorem allocs_drew (w : World) (os : List Obj) : allocs w.drew os = (allocs w os).drew := allocs_drewN w 1 os
@[go_sem] theorem lt_add_len {n m : Nat} (k : Nat) (h : n < m) : n < m + k := Nat.lt_add_right k h

def Gar (a b : World) : Prop := ∃ os n, b = (allocs a os).drewN n
theorem Gar.refl (w : World) : Gar w w := ⟨[], 0, rfl⟩
theorem Gar.alloc {a b : World} (h : Gar a b) (o : Obj) : Gar a (b.alloc o) := by
  obtain ⟨os, n, rfl⟩ := h
  exact ⟨os ++ [o], n, by rw [drewN_alloc, allocs_snoc]⟩
theorem Gar.allocs {a b : World} (h : Gar a b) (l : List Obj) : Gar a (allocs b l) := by
  obtain ⟨os, n, rfl⟩ := h
  exact ⟨os ++ l, n, by rw [allocs_drewN, allocs_append]⟩
theorem Gar.drewN {a b : World} (h : Gar a b) (k : Nat) : Gar a (b.drewN k) := by
  obtain ⟨os, n, rfl⟩ := h
  exact ⟨os, n + k, by rw [World.drewN_drewN]⟩
theorem Gar.drew {a b : World} (h : Gar a b) : Gar a b.drew := h.drewN 1
theorem Gar.trans {a b c : World} (h : Gar a b) (g : Gar b c) : Gar a c := by
  obtain ⟨l, m, rfl⟩ := g
  exact (h.allocs l).drewN m
theorem Gar.bel {a b : World} (h : Gar a b) : Bel a b := by
  obtain ⟨os, n, rfl⟩ := h
  refine Bel.drewN ?_ n
  have : ∀ (os : List Obj) (x : World), Bel a x → Bel a (Go.Proofs.Ytdincfemiignjaa.allocs x os) := by
    intro os
    induction os with
    | nil => exact fun x h => h
    | cons o os ih => exact fun x h => ih _ (h.alloc o)
  exact this os a (Bel.refl a)
theorem on_gar {P : Program} {f : FuncId} {args : Array Value} {w0 w : World} {r : Ending} (hb : Gar w0 w) (h : Calls P f args w fun e w' => e = r ∧ Gar w w') : Calls P f args w fun e w' => e = r ∧ Gar w0 w' :=
  h.mono fun _ _ ⟨he, hg⟩ => ⟨he, hb.trans hg⟩
end Go.Proofs.Ytdincfemiignjaa
