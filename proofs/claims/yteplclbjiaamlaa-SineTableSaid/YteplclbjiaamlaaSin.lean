/- The plain mathematics of the table sine: values, kernel-checked facts on the first quarter. No program in sight. -/
namespace Go.Proofs.Yteplclbjiaamlaa

/-- p holds of every number below n (checked one by one). -/
def allB : Nat → (Nat → Bool) → Bool
  | 0, _ => true
  | n + 1, p => p n && allB n p
theorem allB_at {n : Nat} {p : Nat → Bool} (h : allB n p = true) : ∀ i, i < n → p i = true := by
  induction n with
  | zero => intro i hi; omega
  | succ n ih =>
    simp only [allB, Bool.and_eq_true] at h
    intro i hi
    by_cases e : i = n
    · rw [e]; exact h.1
    · exact ih h.2 i (by omega)
/-- Two loops of 128: every number below 16384. -/
def allQ (p : Nat → Bool) : Bool := allB 128 fun i => allB 128 fun j => p (Nat.add (Nat.mul 128 i) j)
theorem allQ_at {p : Nat → Bool} (h : allQ p = true) (a : Nat) (ha : a < 16384) : p a = true := by
  have h1 := allB_at (allB_at h (a / 128) (by omega)) (a % 128) (by omega)
  have e : Nat.add (Nat.mul 128 (a / 128)) (a % 128) = a := by
    show 128 * (a / 128) + a % 128 = a
    omega
  rw [e] at h1
  exact h1

/-- The table. -/
def tabL : List Nat :=
  [0, 804, 1607, 2410, 3211, 4011, 4808, 5602, 6392, 7179, 7961, 8739, 9512, 10278, 11039, 11793,
   12539, 13278, 14010, 14732, 15446, 16151, 16846, 17530, 18204, 18868, 19519, 20159, 20787, 21403, 22005, 22594,
   23170, 23732, 24279, 24812, 25330, 25832, 26319, 26790, 27245, 27684, 28106, 28511, 28898, 29269, 29621, 29956,
   30273, 30572, 30852, 31114, 31357, 31581, 31785, 31971, 32138, 32285, 32413, 32521, 32610, 32679, 32728, 32758, 32768]
/-- The table, packed into one number (16 bits each). -/
def tabP : Nat := 5890770722912837194652775543430117125116164667208546053447811493435406805529632160669047151735891288580916136998059304805473766316353728366933539403580314132850225232487379566978178471354510168963111264081013961634872490018163197713437719561208896581519307874231926690025254186646323217861538514693060082796855296
def tb (k : Nat) : Nat := Nat.mod (Nat.shiftRight tabP (Nat.mul 16 k)) 65536
/-- Sine and cosine in the first quarter, both ends included. -/
def sn (a : Nat) : Nat :=
  Nat.div (Nat.add (Nat.mul (tb (Nat.div a 256)) (Nat.sub 256 (Nat.mod a 256))) (Nat.mul (tb (Nat.add (Nat.div a 256) 1)) (Nat.mod a 256))) 256
def cs (a : Nat) : Nat :=
  Nat.div (Nat.add (Nat.mul (tb (Nat.sub 64 (Nat.div a 256))) (Nat.sub 256 (Nat.mod a 256))) (Nat.mul (tb (Nat.sub 63 (Nat.div a 256))) (Nat.mod a 256))) 256

theorem sn_zero : sn 0 = 0 := by decide +kernel
theorem cs_zero : cs 0 = 32768 := by decide +kernel
theorem sn_end : sn 16384 = 32768 := by decide +kernel
theorem cs_end : cs 16384 = 0 := by decide +kernel

/-- Length: 32762² ≤ cos² + sin² ≤ 2³⁰. -/
theorem chkLen : allQ (fun a => Nat.ble (Nat.add (Nat.mul (cs a) (cs a)) (Nat.mul (sn a) (sn a))) 1073741824 && Nat.ble 1073348644 (Nat.add (Nat.mul (cs a) (cs a)) (Nat.mul (sn a) (sn a)))) = true := by decide +kernel
/-- One step: by at most 4 each, in the right direction. -/
theorem chkStep : allQ (fun a => Nat.ble (sn a) (sn (Nat.add a 1)) && Nat.ble (sn (Nat.add a 1)) (Nat.add (sn a) 4) && Nat.ble (cs (Nat.add a 1)) (cs a) && Nat.ble (cs a) (Nat.add (cs (Nat.add a 1)) 4)) = true := by decide +kernel
/-- The directions turn strictly. -/
theorem chkTurn : allQ (fun a => Nat.ble (Nat.add (Nat.mul (sn a) (cs (Nat.add a 1))) 1) (Nat.mul (cs a) (sn (Nat.add a 1)))) = true := by decide +kernel
/-- Mirrored at an eighth of a turn. -/
theorem chkMirror : allQ (fun a => Nat.beq (sn (Nat.sub 16384 a)) (cs a)) = true := by decide +kernel
theorem chkMirror' : allQ (fun a => Nat.beq (cs (Nat.sub 16384 a)) (sn a)) = true := by decide +kernel
/-- Bounds. -/
theorem chkBd : allQ (fun a => Nat.ble (sn a) 32767 && Nat.ble 1 (cs a) && Nat.ble (cs a) 32768) = true := by decide +kernel

end Go.Proofs.Yteplclbjiaamlaa
