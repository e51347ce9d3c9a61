/- A struct of many cells, read and laid whole, at whatever block; built whole. No walk in sight. -/
import Derived.Deep.WholeRow
import Derived.Deep.MidRow
import Derived.Test.YtdincfemiignjaaGar
import Derived.Test.YtdincfemiignjaaLtt
namespace Go.Proofs.Ytdincfemiignjaa
open Go.RowKit
variable {P : Program}

theorem hp_last {x : World} {o : Obj} {n : Nat} (h : x.heap.size = n) : (x.alloc o).heap[n]? = some o := by
  subst h; exact heap_alloc_last x o
theorem hp_past {x : World} {o c : Obj} {n : Nat} (h : x.heap[n]? = some c) : (x.alloc o).heap[n]? = some c := by
  have hn : n < x.heap.size := (Array.getElem?_eq_some_iff.1 h).1
  show (x.heap.push o)[n]? = some c
  rw [Array.getElem?_push, if_neg (by omega)]; exact h
theorem hp_allocs {x : World} {os : List Obj} {c : Obj} {n : Nat} (h : x.heap[n]? = some c) : (allocs x os).heap[n]? = some c := by
  induction os generalizing x with
  | nil => exact h
  | cons o os ih => exact ih (hp_past h)
theorem hp_drewN {x : World} {k : Nat} {c : Obj} {n : Nat} (h : x.heap[n]? = some c) : (x.drewN k).heap[n]? = some c := h
theorem hp_drew {x : World} {c : Obj} {n : Nat} (h : x.heap[n]? = some c) : x.drew.heap[n]? = some c := h

theorem sr_last {x : World} {c c' : Array Value} {t : TypeId} {n : Nat} (h : x.heap.size = n) : (x.alloc (.cells c t)).setRow n c' = x.alloc (.cells c' t) := by
  subst h; exact World.setRow_alloc_new x c c' t
theorem sr_past {x x' : World} {o : Obj} {c' : Array Value} {n : Nat} (hn : n < x.heap.size) (h : x.setRow n c' = x') : (x.alloc o).setRow n c' = x'.alloc o := by
  subst h
  simp only [World.setRow, World.alloc]
  congr 1
  apply Array.ext_getElem?
  intro i
  rw [Array.getElem?_modify, Array.getElem?_push, Array.getElem?_push, Array.getElem?_modify, Array.size_modify]
  by_cases hi : n = i
  · subst hi
    rw [if_pos rfl, if_neg (by omega), if_neg (by omega), if_pos rfl]
  · simp [hi]
theorem size_setRow' (x : World) (n : Nat) (c' : Array Value) : (x.setRow n c').heap.size = x.heap.size := by simp [World.setRow]
theorem sr_allocs {x x' : World} {os : List Obj} {c' : Array Value} {n : Nat} (hn : n < x.heap.size) (h : x.setRow n c' = x') : (allocs x os).setRow n c' = allocs x' os := by
  induction os generalizing x x' with
  | nil => exact h
  | cons o os ih => exact ih (by simp; omega) (sr_past hn h)
theorem sr_drewN {x x' : World} {k : Nat} {c' : Array Value} {n : Nat} (h : x.setRow n c' = x') : (x.drewN k).setRow n c' = x'.drewN k := by subst h; rfl
theorem sr_drew {x x' : World} {c' : Array Value} {n : Nat} (h : x.setRow n c' = x') : x.drew.setRow n c' = x'.drew := by subst h; rfl

theorem rw_last {x : World} {c c' : Array Value} {t : TypeId} {n : Nat} (h : x.heap.size = n) : (x.alloc (.cells c t)).setRow n c' = x.alloc (.cells c' t) := sr_last h
theorem rw_past {x : World} {o : Obj} {c' : Array Value} {n : Nat} (hn : n < x.heap.size) : (x.alloc o).setRow n c' = (x.setRow n c').alloc o := sr_past hn rfl
theorem rw_allocs {x : World} {os : List Obj} {c' : Array Value} {n : Nat} (hn : n < x.heap.size) : (allocs x os).setRow n c' = allocs (x.setRow n c') os := sr_allocs hn rfl
theorem rw_drewN {x : World} {k : Nat} {c' : Array Value} {n : Nat} : (x.drewN k).setRow n c' = (x.setRow n c').drewN k := rfl
theorem rw_drew {x : World} {c' : Array Value} {n : Nat} : x.drew.setRow n c' = (x.setRow n c').drew := rfl
/-- Where a walk is to stop. -/
def Stp (p : Prop) : Prop := p
theorem Stp.mk {p : Prop} (h : Stp p) : p := h
theorem Stp.go {p : Prop} (h : p) : Stp p := h

theorem wpList_store_blk {ops : Array Oper} {rest : List Oper} {op : Oper} {a : Act} {w w' : World} {Q : Exit → Act → World → Prop} (hgd : op.guard = none) (ty : TypeId) (x y : Operand) (ho : op.op = .store ty x y)
    (n : Nat) (c c' : Array Value) (hx : a.eval x = .pointer (some ⟨n, 0, none⟩)) (hy : a.eval y = .agg c') (hb : w.heap[n]? = some (.cells c ty (0, 0)))
    (hi : (P.info? ty).map (·.size) = some c'.size) (hs : c.size = c'.size) (h1 : c'.all (·.oneCell') = true) (hw : w.setRow n c' = w')
    (h : wpList P ops Q rest (a.put op.dst undef) w') : wpList P ops Q (op :: rest) a w :=
  wpList_plain hgd fun _ hK => by
    subst hw
    unfold Oper.wp execOp
    simp only [ho, hx, hy, Instr.storeAt, Instr.sureAddr, Sem.run_bind, Sem.run_pure, run_storeVar_row w n ty ty c c' hb hi hs h1, Result.andThen_ok]
    exact hK _ _ h

theorem wpList_build_all {ops : Array Oper} {rest : List Oper} {op : Oper} {a : Act} {w : World} {Q : Exit → Act → World → Prop} (hgd : op.guard = none) (ty : TypeId) (parts : Array (Nat × Operand)) (ho : op.op = .build ty parts)
    (parts' : Array (Nat × Value)) (hp : parts.map (fun x => (x.1, a.eval x.2)) = parts') (c : Array Value) (hb : P.built ty parts'.toList = some c)
    (h : wpList P ops Q rest (a.put op.dst (.agg c)) w) : wpList P ops Q (op :: rest) a w :=
  wpList_plain hgd fun _ hK => by
    unfold Oper.wp execOp
    have hp' : (parts.map fun (i, x) => (i, a.eval x)) = parts' := hp
    simp only [ho, hp', Sem.run_bind, Sem.run_pure, run_build w ty parts' c hb, Result.andThen_ok]
    exact hK _ _ h
end Go.Proofs.Ytdincfemiignjaa
