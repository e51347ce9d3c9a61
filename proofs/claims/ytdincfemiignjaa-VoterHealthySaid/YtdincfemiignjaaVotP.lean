/- What the voter chooses. No program in sight. -/
import Derived.Test.YtdincfemiignjaaVotG
namespace Go.Proofs.Ytdincfemiignjaa
open Go.RowKit
set_option linter.unusedVariables false

def sel (p : Int) (b0 b1 b2 : Bool) : Bool := if p = 0 then b0 else if p = 1 then b1 else b2
theorem sel0 {p : Int} {b0 b1 b2 : Bool} (h : p = 0) : sel p b0 b1 b2 = b0 := if_pos h
theorem sel1 {p : Int} {b0 b1 b2 : Bool} (h : p = 1) : sel p b0 b1 b2 = b1 := by subst h; rfl
theorem sel2 {p : Int} {b0 b1 b2 : Bool} (h : p = 2) : sel p b0 b1 b2 = b2 := by subst h; rfl
/-- Which of three angles is the middle one. -/
def mdx (a0 a1 a2 : Int) : Int := if nrm a0 = mid a0 a1 a2 then 0 else if nrm a1 = mid a0 a1 a2 then 1 else 2
theorem mid_mem {a b c : Int} (h : midB a b c = true) : mid a b c = nrm a ∨ mid a b c = nrm b ∨ mid a b c = nrm c := by
  unfold mid; rw [if_pos h]; (repeat' split) <;> simp
/-- The choice: M: three and a middle one (its number d); r: has a friend; x: active; T1, T2: one, two active; S: the split is short. -/
def chT (p : Int) (x0 x1 x2 T1 T2 S : Bool) (e : Int × Int) : Int × Int :=
  if sel p x0 x1 x2 && (T1 || (T2 && S)) then (p, if T1 then 3 else 4) else e
def chs (p0 p1 p2 : Int) (x0 x1 x2 r0 r1 r2 M T1 T2 S : Bool) (d : Int) : Int × Int :=
  if M then (d, 1) else if sel p0 r0 r1 r2 then (p0, 2) else if sel p1 r0 r1 r2 then (p1, 2) else if sel p2 r0 r1 r2 then (p2, 2)
  else chT p0 x0 x1 x2 T1 T2 S (chT p1 x0 x1 x2 T1 T2 S (chT p2 x0 x1 x2 T1 T2 S (-1, 0)))
/-- The first k have no friends. -/
def PrI (p0 p1 p2 : Int) (r0 r1 r2 : Bool) (k : Nat) : Prop := (0 < k → sel p0 r0 r1 r2 = false) ∧ (1 < k → sel p1 r0 r1 r2 = false) ∧ (2 < k → sel p2 r0 r1 r2 = false)
theorem PrI.start {p0 p1 p2 : Int} {r0 r1 r2 : Bool} : PrI p0 p1 p2 r0 r1 r2 0 := ⟨by omega, by omega, by omega⟩
theorem PrI.next0 {p0 p1 p2 : Int} {r0 r1 r2 : Bool} (h : PrI p0 p1 p2 r0 r1 r2 0) (g : sel p0 r0 r1 r2 = false) : PrI p0 p1 p2 r0 r1 r2 1 :=
  ⟨fun _ => g, fun h2 => absurd h2 (by omega), fun h2 => absurd h2 (by omega)⟩
theorem chs_f0 {p0 p1 p2 : Int} {x0 x1 x2 r0 r1 r2 T1 T2 S : Bool} {d : Int} (h : PrI p0 p1 p2 r0 r1 r2 0) (g : sel p0 r0 r1 r2 = true) : chs p0 p1 p2 x0 x1 x2 r0 r1 r2 false T1 T2 S d = (p0, 2) := by
  unfold chs; simp [g]
theorem PrI.next1 {p0 p1 p2 : Int} {r0 r1 r2 : Bool} (h : PrI p0 p1 p2 r0 r1 r2 1) (g : sel p1 r0 r1 r2 = false) : PrI p0 p1 p2 r0 r1 r2 2 :=
  ⟨fun _ => h.1 (by omega), fun _ => g, fun h2 => absurd h2 (by omega)⟩
theorem chs_f1 {p0 p1 p2 : Int} {x0 x1 x2 r0 r1 r2 T1 T2 S : Bool} {d : Int} (h : PrI p0 p1 p2 r0 r1 r2 1) (g : sel p1 r0 r1 r2 = true) : chs p0 p1 p2 x0 x1 x2 r0 r1 r2 false T1 T2 S d = (p1, 2) := by
  unfold chs; simp [h.1 (by omega), g]
theorem PrI.next2 {p0 p1 p2 : Int} {r0 r1 r2 : Bool} (h : PrI p0 p1 p2 r0 r1 r2 2) (g : sel p2 r0 r1 r2 = false) : PrI p0 p1 p2 r0 r1 r2 3 :=
  ⟨fun _ => h.1 (by omega), fun _ => h.2.1 (by omega), fun _ => g⟩
theorem chs_f2 {p0 p1 p2 : Int} {x0 x1 x2 r0 r1 r2 T1 T2 S : Bool} {d : Int} (h : PrI p0 p1 p2 r0 r1 r2 2) (g : sel p2 r0 r1 r2 = true) : chs p0 p1 p2 x0 x1 x2 r0 r1 r2 false T1 T2 S d = (p2, 2) := by
  unfold chs; simp [h.1 (by omega), h.2.1 (by omega), g]
theorem chs_m {p0 p1 p2 : Int} {x0 x1 x2 r0 r1 r2 T1 T2 S : Bool} {d : Int} : chs p0 p1 p2 x0 x1 x2 r0 r1 r2 true T1 T2 S d = (d, 1) := rfl
/-- The first k are not taken. -/
def TkI (p0 p1 p2 : Int) (x0 x1 x2 T1 T2 S : Bool) (k : Nat) : Prop :=
  (0 < k → (sel p0 x0 x1 x2 && (T1 || (T2 && S))) = false) ∧ (1 < k → (sel p1 x0 x1 x2 && (T1 || (T2 && S))) = false) ∧ (2 < k → (sel p2 x0 x1 x2 && (T1 || (T2 && S))) = false)
theorem TkI.start {p0 p1 p2 : Int} {x0 x1 x2 T1 T2 S : Bool} : TkI p0 p1 p2 x0 x1 x2 T1 T2 S 0 := ⟨by omega, by omega, by omega⟩
theorem TkI.next0 {p0 p1 p2 : Int} {x0 x1 x2 T1 T2 S : Bool} (h : TkI p0 p1 p2 x0 x1 x2 T1 T2 S 0) (g : (sel p0 x0 x1 x2 && (T1 || (T2 && S))) = false) : TkI p0 p1 p2 x0 x1 x2 T1 T2 S 1 :=
  ⟨fun _ => g, fun h2 => absurd h2 (by omega), fun h2 => absurd h2 (by omega)⟩
theorem chs_t0 {p0 p1 p2 : Int} {x0 x1 x2 r0 r1 r2 T1 T2 S : Bool} {d : Int} (h : PrI p0 p1 p2 r0 r1 r2 3) (h2 : TkI p0 p1 p2 x0 x1 x2 T1 T2 S 0) (g : (sel p0 x0 x1 x2 && (T1 || (T2 && S))) = true) :
    chs p0 p1 p2 x0 x1 x2 r0 r1 r2 false T1 T2 S d = (p0, if T1 then 3 else 4) := by
  unfold chs chT
  rw [if_neg Bool.false_ne_true, h.1 (by omega), h.2.1 (by omega), h.2.2 (by omega), g]
  simp
theorem TkI.next1 {p0 p1 p2 : Int} {x0 x1 x2 T1 T2 S : Bool} (h : TkI p0 p1 p2 x0 x1 x2 T1 T2 S 1) (g : (sel p1 x0 x1 x2 && (T1 || (T2 && S))) = false) : TkI p0 p1 p2 x0 x1 x2 T1 T2 S 2 :=
  ⟨fun _ => h.1 (by omega), fun _ => g, fun h2 => absurd h2 (by omega)⟩
theorem chs_t1 {p0 p1 p2 : Int} {x0 x1 x2 r0 r1 r2 T1 T2 S : Bool} {d : Int} (h : PrI p0 p1 p2 r0 r1 r2 3) (h2 : TkI p0 p1 p2 x0 x1 x2 T1 T2 S 1) (g : (sel p1 x0 x1 x2 && (T1 || (T2 && S))) = true) :
    chs p0 p1 p2 x0 x1 x2 r0 r1 r2 false T1 T2 S d = (p1, if T1 then 3 else 4) := by
  unfold chs chT
  rw [if_neg Bool.false_ne_true, h.1 (by omega), h.2.1 (by omega), h.2.2 (by omega), h2.1 (by omega), g]
  simp
theorem TkI.next2 {p0 p1 p2 : Int} {x0 x1 x2 T1 T2 S : Bool} (h : TkI p0 p1 p2 x0 x1 x2 T1 T2 S 2) (g : (sel p2 x0 x1 x2 && (T1 || (T2 && S))) = false) : TkI p0 p1 p2 x0 x1 x2 T1 T2 S 3 :=
  ⟨fun _ => h.1 (by omega), fun _ => h.2.1 (by omega), fun _ => g⟩
theorem chs_t2 {p0 p1 p2 : Int} {x0 x1 x2 r0 r1 r2 T1 T2 S : Bool} {d : Int} (h : PrI p0 p1 p2 r0 r1 r2 3) (h2 : TkI p0 p1 p2 x0 x1 x2 T1 T2 S 2) (g : (sel p2 x0 x1 x2 && (T1 || (T2 && S))) = true) :
    chs p0 p1 p2 x0 x1 x2 r0 r1 r2 false T1 T2 S d = (p2, if T1 then 3 else 4) := by
  unfold chs chT
  rw [if_neg Bool.false_ne_true, h.1 (by omega), h.2.1 (by omega), h.2.2 (by omega), h2.1 (by omega), h2.2.1 (by omega), g]
  simp
theorem chs_n {p0 p1 p2 : Int} {x0 x1 x2 r0 r1 r2 T1 T2 S : Bool} {d : Int} (h : PrI p0 p1 p2 r0 r1 r2 3) (h2 : TkI p0 p1 p2 x0 x1 x2 T1 T2 S 3) : chs p0 p1 p2 x0 x1 x2 r0 r1 r2 false T1 T2 S d = (-1, 0) := by
  unfold chs chT
  rw [if_neg Bool.false_ne_true, h.1 (by omega), h.2.1 (by omega), h.2.2 (by omega), h2.1 (by omega), h2.2.1 (by omega), h2.2.2 (by omega)]
  simp
theorem ret_ii {a b : Int} {c : Int × Int} (h : c = (a, b)) : Ending.returned (.tuple #[.int .i64 a, .int .i64 b]) = .returned (.tuple #[.int .i64 c.1, .int .i64 c.2]) := by rw [h]
end Go.Proofs.Ytdincfemiignjaa
