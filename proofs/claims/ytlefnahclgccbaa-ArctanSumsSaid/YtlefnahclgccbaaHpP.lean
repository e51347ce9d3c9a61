/- The high-precision directions as a group; the table's directions in their terms. No program in sight. -/
import Derived.Test.YtlefnahclgccbaaSinP
import Derived.Test.YtlefnahclgccbaaHp
namespace Go.Proofs.Ytlefnahclgccbaa
open Go.RowKit

theorem pb {x y m n : Int} (hx : -m ≤ x ∧ x ≤ m) (hy : -n ≤ y ∧ y ≤ n) : -(m * n) ≤ x * y ∧ x * y ≤ m * n := by
  have h1 : 0 ≤ (m - x) * (n + y) := Int.mul_nonneg (by omega) (by omega)
  have h2 : 0 ≤ (m + x) * (n - y) := Int.mul_nonneg (by omega) (by omega)
  have h3 : 0 ≤ (m - x) * (n - y) := Int.mul_nonneg (by omega) (by omega)
  have h4 : 0 ≤ (m + x) * (n + y) := Int.mul_nonneg (by omega) (by omega)
  have e1 : (m - x) * (n + y) = m * n + m * y - x * n - x * y := by grind
  have e2 : (m + x) * (n - y) = m * n - m * y + x * n - x * y := by grind
  have e3 : (m - x) * (n - y) = m * n - m * y - x * n + x * y := by grind
  have e4 : (m + x) * (n + y) = m * n + m * y + x * n + x * y := by grind
  omega

/-- A product of two complex numbers, each known up to an error. -/
theorem nm {Ar Ai Br Bi Pr Pi Qr Qi : Int} {e1 e2 a b : Int} (h1 : -e1 ≤ Ar - Pr ∧ Ar - Pr ≤ e1) (h2 : -e1 ≤ Ai - Pi ∧ Ai - Pi ≤ e1) (h3 : -e2 ≤ Br - Qr ∧ Br - Qr ≤ e2) (h4 : -e2 ≤ Bi - Qi ∧ Bi - Qi ≤ e2)
    (ha : -a ≤ Pr ∧ Pr ≤ a) (ha' : -a ≤ Pi ∧ Pi ≤ a) (hb : -b ≤ Qr ∧ Qr ≤ b) (hb' : -b ≤ Qi ∧ Qi ≤ b) :
    (-(2 * (a * e2 + e1 * b + e1 * e2)) ≤ (Ar * Br - Ai * Bi) - (Pr * Qr - Pi * Qi) ∧ (Ar * Br - Ai * Bi) - (Pr * Qr - Pi * Qi) ≤ 2 * (a * e2 + e1 * b + e1 * e2)) ∧
    (-(2 * (a * e2 + e1 * b + e1 * e2)) ≤ (Ai * Br + Ar * Bi) - (Pi * Qr + Pr * Qi) ∧ (Ai * Br + Ar * Bi) - (Pi * Qr + Pr * Qi) ≤ 2 * (a * e2 + e1 * b + e1 * e2)) := by
  have one : ∀ {A P B Q : Int}, -e1 ≤ A - P ∧ A - P ≤ e1 → -e2 ≤ B - Q ∧ B - Q ≤ e2 → -a ≤ P ∧ P ≤ a → -b ≤ Q ∧ Q ≤ b → -(a * e2 + e1 * b + e1 * e2) ≤ A * B - P * Q ∧ A * B - P * Q ≤ a * e2 + e1 * b + e1 * e2 := by
    intro A P B Q g1 g2 g3 g4
    have p1 := pb g3 g2
    have p2 := pb g1 g4
    have p3 := pb g1 g2
    have e : A * B - P * Q = P * (B - Q) + (A - P) * Q + (A - P) * (B - Q) := by grind
    omega
  have k1 := one h1 h3 ha hb
  have k2 := one h2 h4 ha' hb'
  have k3 := one h2 h3 ha' hb
  have k4 := one h1 h4 ha hb'
  omega

theorem nr_at {a b : Nat} (h : nr a b = true) : -4398046511104 ≤ (a : Int) - b ∧ (a : Int) - b ≤ 4398046511104 := by
  simp only [nr, Bool.and_eq_true, Nat.ble_eq] at h
  have h1 : a ≤ 4398046511104 + b := h.1
  have h2 : b ≤ 4398046511104 + a := h.2
  omega
theorem B_at (k : Nat) (h : k < 256) : (fc k : Int) ≤ 1099511627776 ∧ (fs k : Int) ≤ 1099511627776 ∧ (gs k : Int) ≤ 1099511627776 ∧ (gc k : Int) ≤ 1099511627776 := by
  have := allB_at chkB k h
  simp only [Bool.and_eq_true, Nat.ble_eq] at this
  omega
theorem okF_at (f g : Nat) (hf : f < 256) (hg : g < 256) : okF f g = true := by
  rcases (show f < 64 ∨ (64 ≤ f ∧ f < 128) ∨ (128 ≤ f ∧ f < 192) ∨ 192 ≤ f by omega) with h | h | h | h
  · exact allB_at (allB_at chkF0 f h) g hg
  · have := allB_at (allB_at chkF1 (f - 64) (by omega)) g hg
    rwa [show Nat.add 64 (f - 64) = f from (by show 64 + (f - 64) = f; omega)] at this
  · have := allB_at (allB_at chkF2 (f - 128) (by omega)) g hg
    rwa [show Nat.add 128 (f - 128) = f from (by show 128 + (f - 128) = f; omega)] at this
  · have := allB_at (allB_at chkF3 (f - 192) (by omega)) g hg
    rwa [show Nat.add 192 (f - 192) = f from (by show 192 + (f - 192) = f; omega)] at this

/-- The direction of 256 * j units, j up to 128. -/
def gR (j : Nat) : Int := if j ≤ 64 then (gc j : Int) else -(gs (j - 64) : Int)
def gI (j : Nat) : Int := if j ≤ 64 then (gs j : Int) else (gc (j - 64) : Int)
theorem g_end : gc 64 = 0 ∧ gs 64 = 1099511627776 ∧ gs 0 = 0 ∧ gc 0 = 1099511627776 := by decide +kernel
theorem G_at (k l : Nat) (hk : k < 64) (hl : l < 64) :
    (-4398046511104 ≤ ((gc k : Int) * gc l - gs k * gs l) - 1099511627776 * gR (k + l) ∧ ((gc k : Int) * gc l - gs k * gs l) - 1099511627776 * gR (k + l) ≤ 4398046511104) ∧
    (-4398046511104 ≤ ((gs k : Int) * gc l + gc k * gs l) - 1099511627776 * gI (k + l) ∧ ((gs k : Int) * gc l + gc k * gs l) - 1099511627776 * gI (k + l) ≤ 4398046511104) := by
  have h := allB_at (allB_at chkG k hk) l hl
  unfold okG at h
  unfold gR gI
  by_cases e : k + l ≤ 64
  · have hb : Nat.ble (Nat.add k l) 64 = true := by simpa using e
    rw [hb] at h
    simp only [cond_true, Bool.and_eq_true] at h
    have h1 : nr (gc k * gc l) (gs k * gs l + 1099511627776 * gc (k + l)) = true := h.1
    have h2 : nr (gs k * gc l + gc k * gs l) (1099511627776 * gs (k + l)) = true := h.2
    have n1 := nr_at h1
    have n2 := nr_at h2
    rw [if_pos e, if_pos e]
    simp only [Int.natCast_add, Int.natCast_mul, Int.cast_ofNat_Int] at n1 n2
    omega
  · have hb : Nat.ble (Nat.add k l) 64 = false := by
      cases hx : Nat.ble (Nat.add k l) 64
      · rfl
      · exact absurd (by simpa using hx) e
    rw [hb] at h
    simp only [cond_false, Bool.and_eq_true] at h
    have h1 : nr (gc k * gc l + 1099511627776 * gs (k + l - 64)) (gs k * gs l) = true := h.1
    have h2 : nr (gs k * gc l + gc k * gs l) (1099511627776 * gc (k + l - 64)) = true := h.2
    have n1 := nr_at h1
    have n2 := nr_at h2
    rw [if_neg e, if_neg e]
    simp only [Int.natCast_add, Int.natCast_mul, Int.cast_ofNat_Int] at n1 n2
    omega
/-- One multiple further. -/
theorem G_next (j : Nat) (hj : j < 127) :
    (-4398046511104 ≤ (gR j * gc 1 - gI j * gs 1) - 1099511627776 * gR (j + 1) ∧ (gR j * gc 1 - gI j * gs 1) - 1099511627776 * gR (j + 1) ≤ 4398046511104) ∧
    (-4398046511104 ≤ (gI j * gc 1 + gR j * gs 1) - 1099511627776 * gI (j + 1) ∧ (gI j * gc 1 + gR j * gs 1) - 1099511627776 * gI (j + 1) ≤ 4398046511104) := by
  by_cases h1 : j < 64
  · have := G_at j 1 h1 (by omega)
    have e1 : gR j = gc j := by unfold gR; rw [if_pos (by omega)]
    have e2 : gI j = gs j := by unfold gI; rw [if_pos (by omega)]
    rw [e1, e2]
    exact this
  · by_cases h2 : j = 64
    · subst h2
      obtain ⟨g1, g2, -, -⟩ := g_end
      have e1 : gR 64 = 0 := by unfold gR; rw [if_pos (by omega), g1]; rfl
      have e2 : gI 64 = 1099511627776 := by unfold gI; rw [if_pos (by omega), g2]; rfl
      have e3 : gR (64 + 1) = -(gs 1 : Int) := by unfold gR; rw [if_neg (by omega)]
      have e4 : gI (64 + 1) = (gc 1 : Int) := by unfold gI; rw [if_neg (by omega)]
      rw [e1, e2, e3, e4]
      omega
    · have := G_at (j - 64) 1 (by omega) (by omega)
      have e1 : gR j = -(gs (j - 64) : Int) := by unfold gR; rw [if_neg (by omega)]
      have e2 : gI j = (gc (j - 64) : Int) := by unfold gI; rw [if_neg (by omega)]
      have e3 : gR (j + 1) = -(gs (j + 1 - 64) : Int) := by unfold gR; rw [if_neg (by omega)]
      have e4 : gI (j + 1) = (gc (j + 1 - 64) : Int) := by unfold gI; rw [if_neg (by omega)]
      have e5 : gR (j - 64 + 1) = (gc (j + 1 - 64) : Int) := by unfold gR; rw [if_pos (by omega), show j - 64 + 1 = j + 1 - 64 by omega]
      have e6 : gI (j - 64 + 1) = (gs (j + 1 - 64) : Int) := by unfold gI; rw [if_pos (by omega), show j - 64 + 1 = j + 1 - 64 by omega]
      rw [e5, e6] at this
      rw [e1, e2, e3, e4, Int.neg_mul, Int.neg_mul]
      omega
theorem gRI_bd (j : Nat) (hj : j ≤ 128) : (-1099511627776 ≤ gR j ∧ gR j ≤ 1099511627776) ∧ (-1099511627776 ≤ gI j ∧ gI j ≤ 1099511627776) := by
  have h1 := B_at j (by omega)
  have h2 := B_at (j - 64) (by omega)
  unfold gR gI
  split <;> omega

/-- The direction of n units, n below 16384 (2^80 a coordinate). -/
def yR (n : Nat) : Int := (gc (n / 256) : Int) * fc (n % 256) - gs (n / 256) * fs (n % 256)
def yI (n : Nat) : Int := (gs (n / 256) : Int) * fc (n % 256) + gc (n / 256) * fs (n % 256)
/-- The direction of 256 * K + h units, in these terms. -/
theorem target (K h : Nat) (hK : K < 128) (hh : h < 256) :
    (K < 64 → gR K * fc h - gI K * fs h = yR (256 * K + h) ∧ gI K * fc h + gR K * fs h = yI (256 * K + h)) ∧
    (64 ≤ K → gR K * fc h - gI K * fs h = -yI (256 * K + h - 16384) ∧ gI K * fc h + gR K * fs h = yR (256 * K + h - 16384)) := by
  refine ⟨fun hlt => ?_, fun hge => ?_⟩
  · have e1 : gR K = gc K := by unfold gR; rw [if_pos (by omega)]
    have e2 : gI K = gs K := by unfold gI; rw [if_pos (by omega)]
    unfold yR yI
    rw [e1, e2, show (256 * K + h) / 256 = K by omega, show (256 * K + h) % 256 = h by omega]
    exact ⟨rfl, rfl⟩
  · have e1 : gR K = -(gs (K - 64) : Int) := by
      by_cases e : K = 64
      · subst e
        obtain ⟨g1, -, g3, -⟩ := g_end
        unfold gR
        rw [if_pos (by omega), g1, show 64 - 64 = 0 by omega, g3]; rfl
      · unfold gR; rw [if_neg (by omega)]
    have e2 : gI K = (gc (K - 64) : Int) := by
      by_cases e : K = 64
      · subst e
        obtain ⟨-, g2, -, g4⟩ := g_end
        unfold gI
        rw [if_pos (by omega), g2, show 64 - 64 = 0 by omega, g4]
      · unfold gI; rw [if_neg (by omega)]
    unfold yR yI
    rw [e1, e2, show (256 * K + h - 16384) / 256 = K - 64 by omega, show (256 * K + h - 16384) % 256 = h by omega]
    constructor <;> grind

/-- A product of two directions is the direction of the sum, up to 2^126. -/
theorem comp0 (m n : Nat) (hm : m < 16384) (hn : n < 16384) : ∃ Tr Ti : Int,
    (-85070591730234615865843651857942052864 ≤ (yR m * yR n - yI m * yI n) - 1208925819614629174706176 * Tr ∧ (yR m * yR n - yI m * yI n) - 1208925819614629174706176 * Tr ≤ 85070591730234615865843651857942052864) ∧
    (-85070591730234615865843651857942052864 ≤ (yI m * yR n + yR m * yI n) - 1208925819614629174706176 * Ti ∧ (yI m * yR n + yR m * yI n) - 1208925819614629174706176 * Ti ≤ 85070591730234615865843651857942052864) ∧
    (m + n < 16384 → Tr = yR (m + n) ∧ Ti = yI (m + n)) ∧ (16384 ≤ m + n → Tr = -yI (m + n - 16384) ∧ Ti = yR (m + n - 16384)) := by
  have hG := G_at (m / 256) (n / 256) (by omega) (by omega)
  have hF := okF_at (m % 256) (n % 256) (by omega) (by omega)
  have hb := gRI_bd (m / 256 + n / 256) (by omega)
  have idr : yR m * yR n - yI m * yI n = ((gc (m / 256) : Int) * gc (n / 256) - gs (m / 256) * gs (n / 256)) * ((fc (m % 256) : Int) * fc (n % 256) - fs (m % 256) * fs (n % 256)) - ((gs (m / 256) : Int) * gc (n / 256) + gc (m / 256) * gs (n / 256)) * ((fs (m % 256) : Int) * fc (n % 256) + fc (m % 256) * fs (n % 256)) := by unfold yR yI; grind
  have idi : yI m * yR n + yR m * yI n = ((gs (m / 256) : Int) * gc (n / 256) + gc (m / 256) * gs (n / 256)) * ((fc (m % 256) : Int) * fc (n % 256) - fs (m % 256) * fs (n % 256)) + ((gc (m / 256) : Int) * gc (n / 256) - gs (m / 256) * gs (n / 256)) * ((fs (m % 256) : Int) * fc (n % 256) + fc (m % 256) * fs (n % 256)) := by unfold yR yI; grind
  rw [idr, idi]
  unfold okF at hF
  by_cases e : 256 ≤ m % 256 + n % 256
  · have hx : Nat.ble 256 (Nat.add (m % 256) (n % 256)) = true := by simpa using e
    rw [hx] at hF
    simp only [cond_true, Bool.and_eq_true] at hF
    have h1 : nr (fc (m % 256) * fc (n % 256) + gs 1 * fs (m % 256 + n % 256 - 256)) (fs (m % 256) * fs (n % 256) + gc 1 * fc (m % 256 + n % 256 - 256)) = true := hF.1
    have h2 : nr (fs (m % 256) * fc (n % 256) + fc (m % 256) * fs (n % 256)) (gs 1 * fc (m % 256 + n % 256 - 256) + gc 1 * fs (m % 256 + n % 256 - 256)) = true := hF.2
    have n1 := nr_at h1
    have n2 := nr_at h2
    simp only [Int.natCast_add, Int.natCast_mul] at n1 n2
    obtain ⟨h, hh⟩ : ∃ h, m % 256 + n % 256 - 256 = h := ⟨_, rfl⟩
    rw [hh] at n1 n2
    have hn' := G_next (m / 256 + n / 256) (by omega)
    have hbn := gRI_bd (m / 256 + n / 256 + 1) (by omega)
    have hfb := B_at h (by omega)
    have hg1 := B_at 1 (by omega)
    have q1 := pb (x := (gc 1 : Int)) (y := (fc h : Int)) (m := 1099511627776) (n := 1099511627776) (by omega) (by omega)
    have q2 := pb (x := (gs 1 : Int)) (y := (fs h : Int)) (m := 1099511627776) (n := 1099511627776) (by omega) (by omega)
    have q3 := pb (x := (gs 1 : Int)) (y := (fc h : Int)) (m := 1099511627776) (n := 1099511627776) (by omega) (by omega)
    have q4 := pb (x := (gc 1 : Int)) (y := (fs h : Int)) (m := 1099511627776) (n := 1099511627776) (by omega) (by omega)
    have k1 := nm (e1 := 4398046511104) (e2 := 4398046511104) (a := 1208925819614629174706176) (b := 2417851639229258349412352) (Pr := 1099511627776 * gR (m / 256 + n / 256)) (Pi := 1099511627776 * gI (m / 256 + n / 256)) (Qr := (gc 1 : Int) * fc h - gs 1 * fs h) (Qi := (gs 1 : Int) * fc h + gc 1 * fs h)
      hG.1 hG.2 (Br := (fc (m % 256) : Int) * fc (n % 256) - fs (m % 256) * fs (n % 256)) (Bi := (fs (m % 256) : Int) * fc (n % 256) + fc (m % 256) * fs (n % 256)) (by omega) (by omega) (by omega) (by omega) (by omega) (by omega)
    have k2 := nm (e1 := 4398046511104) (e2 := 0) (a := 1208925819614629174706176) (b := 1099511627776) (Br := (fc h : Int)) (Bi := (fs h : Int)) (Qr := (fc h : Int)) (Qi := (fs h : Int)) hn'.1 hn'.2 (by omega) (by omega) (by omega) (by omega) (by omega) (by omega)
    obtain ⟨t1, t2⟩ := target (m / 256 + n / 256 + 1) h (by omega) (by omega)
    refine ⟨gR (m / 256 + n / 256 + 1) * fc h - gI (m / 256 + n / 256 + 1) * fs h, gI (m / 256 + n / 256 + 1) * fc h + gR (m / 256 + n / 256 + 1) * fs h, ?_, ?_, ?_, ?_⟩
    · have r1 : 1099511627776 * gR (m / 256 + n / 256) * ((gc 1 : Int) * fc h - gs 1 * fs h) - 1099511627776 * gI (m / 256 + n / 256) * ((gs 1 : Int) * fc h + gc 1 * fs h) = 1099511627776 * ((gR (m / 256 + n / 256) * gc 1 - gI (m / 256 + n / 256) * gs 1) * fc h - (gI (m / 256 + n / 256) * gc 1 + gR (m / 256 + n / 256) * gs 1) * fs h) := by grind
      have r2 : 1099511627776 * gR (m / 256 + n / 256 + 1) * fc h - 1099511627776 * gI (m / 256 + n / 256 + 1) * fs h = 1099511627776 * (gR (m / 256 + n / 256 + 1) * fc h - gI (m / 256 + n / 256 + 1) * fs h) := by grind
      omega
    · have r1 : 1099511627776 * gI (m / 256 + n / 256) * ((gc 1 : Int) * fc h - gs 1 * fs h) + 1099511627776 * gR (m / 256 + n / 256) * ((gs 1 : Int) * fc h + gc 1 * fs h) = 1099511627776 * ((gI (m / 256 + n / 256) * gc 1 + gR (m / 256 + n / 256) * gs 1) * fc h + (gR (m / 256 + n / 256) * gc 1 - gI (m / 256 + n / 256) * gs 1) * fs h) := by grind
      have r2 : 1099511627776 * gI (m / 256 + n / 256 + 1) * fc h + 1099511627776 * gR (m / 256 + n / 256 + 1) * fs h = 1099511627776 * (gI (m / 256 + n / 256 + 1) * fc h + gR (m / 256 + n / 256 + 1) * fs h) := by grind
      omega
    · intro hlt
      have := t1 (by omega)
      rwa [show 256 * (m / 256 + n / 256 + 1) + h = m + n by omega] at this
    · intro hge
      have := t2 (by omega)
      rwa [show 256 * (m / 256 + n / 256 + 1) + h = m + n by omega] at this
  · have hx : Nat.ble 256 (Nat.add (m % 256) (n % 256)) = false := by
      cases hy : Nat.ble 256 (Nat.add (m % 256) (n % 256))
      · rfl
      · exact absurd (by simpa using hy) e
    rw [hx] at hF
    simp only [cond_false, Bool.and_eq_true] at hF
    have h1 : nr (fc (m % 256) * fc (n % 256)) (fs (m % 256) * fs (n % 256) + 1099511627776 * fc (m % 256 + n % 256)) = true := hF.1
    have h2 : nr (fs (m % 256) * fc (n % 256) + fc (m % 256) * fs (n % 256)) (1099511627776 * fs (m % 256 + n % 256)) = true := hF.2
    have n1 := nr_at h1
    have n2 := nr_at h2
    simp only [Int.natCast_add, Int.natCast_mul, Int.cast_ofNat_Int] at n1 n2
    obtain ⟨h, hh⟩ : ∃ h, m % 256 + n % 256 = h := ⟨_, rfl⟩
    rw [hh] at n1 n2
    have hfb := B_at h (by omega)
    have k1 := nm (e1 := 4398046511104) (e2 := 4398046511104) (a := 1208925819614629174706176) (b := 1208925819614629174706176) (Pr := 1099511627776 * gR (m / 256 + n / 256)) (Pi := 1099511627776 * gI (m / 256 + n / 256)) (Qr := 1099511627776 * (fc h : Int)) (Qi := 1099511627776 * (fs h : Int))
      hG.1 hG.2 (Br := (fc (m % 256) : Int) * fc (n % 256) - fs (m % 256) * fs (n % 256)) (Bi := (fs (m % 256) : Int) * fc (n % 256) + fc (m % 256) * fs (n % 256)) (by omega) (by omega) (by omega) (by omega) (by omega) (by omega)
    obtain ⟨t1, t2⟩ := target (m / 256 + n / 256) h (by omega) (by omega)
    refine ⟨gR (m / 256 + n / 256) * fc h - gI (m / 256 + n / 256) * fs h, gI (m / 256 + n / 256) * fc h + gR (m / 256 + n / 256) * fs h, ?_, ?_, ?_, ?_⟩
    · have r1 : 1099511627776 * gR (m / 256 + n / 256) * (1099511627776 * (fc h : Int)) - 1099511627776 * gI (m / 256 + n / 256) * (1099511627776 * (fs h : Int)) = 1208925819614629174706176 * (gR (m / 256 + n / 256) * fc h - gI (m / 256 + n / 256) * fs h) := by grind
      omega
    · have r1 : 1099511627776 * gI (m / 256 + n / 256) * (1099511627776 * (fc h : Int)) + 1099511627776 * gR (m / 256 + n / 256) * (1099511627776 * (fs h : Int)) = 1208925819614629174706176 * (gI (m / 256 + n / 256) * fc h + gR (m / 256 + n / 256) * fs h) := by grind
      omega
    · intro hlt
      have := t1 (by omega)
      rwa [show 256 * (m / 256 + n / 256) + h = m + n by omega] at this
    · intro hge
      have := t2 (by omega)
      rwa [show 256 * (m / 256 + n / 256) + h = m + n by omega] at this

/-- The direction of any angle. -/
def xr (a : Int) : Int := tc (yR ((nrm a).toNat % 16384)) (yI ((nrm a).toNat % 16384)) ((nrm a).toNat / 16384)
def xi (a : Int) : Int := ts (yR ((nrm a).toNat % 16384)) (yI ((nrm a).toNat % 16384)) ((nrm a).toNat / 16384)
theorem x_of {a : Int} {q r : Nat} (h : isQ a q r) : xr a = tc (yR r) (yI r) q ∧ xi a = ts (yR r) (yI r) q := by
  obtain ⟨h1, h2, h3⟩ := h
  unfold xr xi
  rw [h3, show (16384 * (q : Int) + (r : Int)).toNat = 16384 * q + r by omega, show (16384 * q + r) % 16384 = r by omega, show (16384 * q + r) / 16384 = q by omega]
  exact ⟨rfl, rfl⟩
theorem x_rot (a : Int) : xr (a + 16384) = -xi a ∧ xi (a + 16384) = xr a := by
  obtain ⟨q, r, h⟩ := isQ_of a
  obtain ⟨e1, e2⟩ := x_of h
  obtain ⟨f1, f2⟩ := x_of (isQ_next h)
  obtain ⟨h1, -, -⟩ := h
  rw [e1, e2, f1, f2]
  rcases (show q = 0 ∨ q = 1 ∨ q = 2 ∨ q = 3 by omega) with rfl | rfl | rfl | rfl <;> simp [tc, ts]

/-- The table's direction in terms of the exact one. -/
theorem P_at (a : Int) : (-2115620184325601055735808 ≤ xr a * bs a - xi a * bc a ∧ xr a * bs a - xi a * bc a ≤ 2115620184325601055735808) ∧
    (39608036628034095650898444288 ≤ xr a * bc a + xi a * bs a ∧ xr a * bc a + xi a * bs a ≤ 39614082437723789514183278592) := by
  obtain ⟨q, r, h⟩ := isQ_of a
  obtain ⟨e1, e2⟩ := x_of h
  obtain ⟨f1, f2⟩ := b_of h
  have hr := h.2.1
  obtain ⟨h1, -, -⟩ := h
  have hp := allQ_at chkP r hr
  simp only [okP, Bool.and_eq_true, Nat.ble_eq] at hp
  obtain ⟨⟨⟨⟨-, p1⟩, p2⟩, p3⟩, p4⟩ := hp
  have p1' : gc (r / 256) * fc (r % 256) * sn r ≤ 2115620184325601055735808 + (gs (r / 256) * fs (r % 256) * sn r + (gs (r / 256) * fc (r % 256) + gc (r / 256) * fs (r % 256)) * cs r) := p1
  have p2' : gs (r / 256) * fs (r % 256) * sn r + (gs (r / 256) * fc (r % 256) + gc (r / 256) * fs (r % 256)) * cs r ≤ 2115620184325601055735808 + gc (r / 256) * fc (r % 256) * sn r := p2
  have p3' : gc (r / 256) * fc (r % 256) * cs r + (gs (r / 256) * fc (r % 256) + gc (r / 256) * fs (r % 256)) * sn r ≤ 39614082437723789514183278592 + gs (r / 256) * fs (r % 256) * cs r := p3
  have p4' : 39608036628034095650898444288 + gs (r / 256) * fs (r % 256) * cs r ≤ gc (r / 256) * fc (r % 256) * cs r + (gs (r / 256) * fc (r % 256) + gc (r / 256) * fs (r % 256)) * sn r := p4
  clear p1 p2 p3 p4
  have z : (-2115620184325601055735808 ≤ yR r * sn r - yI r * cs r ∧ yR r * sn r - yI r * cs r ≤ 2115620184325601055735808) ∧ (39608036628034095650898444288 ≤ yR r * cs r + yI r * sn r ∧ yR r * cs r + yI r * sn r ≤ 39614082437723789514183278592) := by
    unfold yR yI
    rw [Int.sub_mul, Int.sub_mul]
    have q1 := Int.ofNat_le.mpr p1'
    have q2 := Int.ofNat_le.mpr p2'
    have q3 := Int.ofNat_le.mpr p3'
    have q4 := Int.ofNat_le.mpr p4'
    simp only [Int.natCast_add, Int.natCast_mul, Int.cast_ofNat_Int] at q1 q2 q3 q4
    omega
  rw [e1, e2, f1, f2]
  rcases (show q = 0 ∨ q = 1 ∨ q = 2 ∨ q = 3 by omega) with rfl | rfl | rfl | rfl <;> simp only [tc, ts, Int.neg_mul, Int.mul_neg, Int.neg_neg] <;> omega

/-- Two directions' product is the direction of the sum, up to 2^126. -/
theorem comp (a b : Int) :
    (-85070591730234615865843651857942052864 ≤ (xr a * xr b - xi a * xi b) - 1208925819614629174706176 * xr (a + b) ∧ (xr a * xr b - xi a * xi b) - 1208925819614629174706176 * xr (a + b) ≤ 85070591730234615865843651857942052864) ∧
    (-85070591730234615865843651857942052864 ≤ (xi a * xr b + xr a * xi b) - 1208925819614629174706176 * xi (a + b) ∧ (xi a * xr b + xr a * xi b) - 1208925819614629174706176 * xi (a + b) ≤ 85070591730234615865843651857942052864) := by
  obtain ⟨q, r, h⟩ := isQ_of a
  obtain ⟨q', r', h'⟩ := isQ_of b
  obtain ⟨e1, e2⟩ := x_of h
  obtain ⟨f1, f2⟩ := x_of h'
  obtain ⟨Tr, Ti, k1, k2, k3, k4⟩ := comp0 r r' h.2.1 h'.2.1
  have key : xr (a + b) = tc Tr Ti ((q + q') % 4) ∧ xi (a + b) = ts Tr Ti ((q + q') % 4) := by
    by_cases hs : r + r' < 16384
    · obtain ⟨t1, t2⟩ := k3 hs
      have := x_of (a := a + b) (q := (q + q') % 4) (r := r + r') (by unfold isQ nrm at *; omega)
      rw [t1, t2]
      exact this
    · obtain ⟨t1, t2⟩ := k4 (by omega)
      have := x_of (a := a + b) (q := (q + q' + 1) % 4) (r := r + r' - 16384) (by unfold isQ nrm at *; omega)
      rw [this.1, this.2, t1, t2]
      rcases (show (q + q') % 4 = 0 ∨ (q + q') % 4 = 1 ∨ (q + q') % 4 = 2 ∨ (q + q') % 4 = 3 by omega) with g | g | g | g
      · rw [g, show (q + q' + 1) % 4 = 1 by omega]; simp [tc, ts]
      · rw [g, show (q + q' + 1) % 4 = 2 by omega]; simp [tc, ts]
      · rw [g, show (q + q' + 1) % 4 = 3 by omega]; simp [tc, ts]
      · rw [g, show (q + q' + 1) % 4 = 0 by omega]; simp [tc, ts]
  obtain ⟨h1, -, -⟩ := h
  obtain ⟨h1', -, -⟩ := h'
  rw [key.1, key.2, e1, e2, f1, f2]
  clear key k3 k4 e1 e2 f1 f2
  rcases (show q = 0 ∨ q = 1 ∨ q = 2 ∨ q = 3 by omega) with rfl | rfl | rfl | rfl <;> rcases (show q' = 0 ∨ q' = 1 ∨ q' = 2 ∨ q' = 3 by omega) with rfl | rfl | rfl | rfl <;> simp only [tc, ts, Int.neg_mul, Int.mul_neg, Int.neg_neg, Nat.zero_add, Nat.add_zero, Nat.reduceAdd, Nat.reduceMod] <;> omega
end Go.Proofs.Ytlefnahclgccbaa
