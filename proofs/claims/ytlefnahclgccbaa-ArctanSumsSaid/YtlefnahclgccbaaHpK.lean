/- The product of two of the table's directions lies near the direction of the sum of the angles. No program in sight. -/
import Derived.Test.YtlefnahclgccbaaHpS
import Derived.Test.YtlefnahclgccbaaAtn
namespace Go.Proofs.Ytlefnahclgccbaa
open Go.RowKit

theorem x_size2 (a : Int) : xr a * xr a + xi a * xi a ≤ 1462037093567730950857007106817080996884094360784 := by
  obtain ⟨h1, h2⟩ := P_at a
  have hl := (b_len a).2
  have id : (xr a * xr a + xi a * xi a) * (bc a * bc a + bs a * bs a) = (xr a * bc a + xi a * bs a) * (xr a * bc a + xi a * bs a) + (xr a * bs a - xi a * bc a) * (xr a * bs a - xi a * bc a) := by grind
  have p1 := sq_up2 (a := xr a * bc a + xi a * bs a) (m := 39614082437723789514183278592) (by omega)
  have p2 := sq_up2 h1
  have p3 : (xr a * xr a + xi a * xi a) * 1073348644 ≤ (xr a * xr a + xi a * xi a) * (bc a * bc a + bs a * bs a) := Int.mul_le_mul_of_nonneg_left hl (by have := sqn (xr a); have := sqn (xi a); omega)
  omega
theorem sq_root {a m : Int} (hm : 0 ≤ m) (h : a * a ≤ m * m) : -m ≤ a ∧ a ≤ m := by
  have one : ∀ b : Int, b * b ≤ m * m → b ≤ m := by
    intro b hb
    rcases Int.lt_or_le m b with g | g
    · exfalso
      have := Int.mul_le_mul (a := m + 1) (b := m + 1) (c := b) (d := b) (by omega) (by omega) (by omega) (by omega)
      have e : (m + 1) * (m + 1) = m * m + 2 * m + 1 := by grind
      omega
    · exact g
  have h1 := one a h
  have h2 := one (-a) (by rw [Int.neg_mul_neg]; exact h)
  omega
theorem x_bd (a : Int) : (-1210134745434243803880882 ≤ xr a ∧ xr a ≤ 1210134745434243803880882) ∧ (-1210134745434243803880882 ≤ xi a ∧ xi a ≤ 1210134745434243803880882) := by
  have h := x_size2 a
  have h1 := sqn (xr a)
  have h2 := sqn (xi a)
  exact ⟨sq_root (by omega) (by omega), sq_root (by omega) (by omega)⟩

/-! The names of the parts: W = x_a x_b, U = conj W x_g, Q = conj (P_a P_b) P_g, N = |W|^2 |x_g|^2. -/
def Wr (a b : Int) : Int := xr a * xr b - xi a * xi b
def Wi (a b : Int) : Int := xi a * xr b + xr a * xi b
def pp (a : Int) : Int := xr a * bc a + xi a * bs a
def qq (a : Int) : Int := xr a * bs a - xi a * bc a
def Urf (a b j : Int) : Int := Wr a b * xr (a + b + j) + Wi a b * xi (a + b + j)
def Uif (a b j : Int) : Int := Wr a b * xi (a + b + j) - Wi a b * xr (a + b + j)
def Qrf (a b j : Int) : Int := (pp a * pp b - qq a * qq b) * pp (a + b + j) + (pp a * qq b + qq a * pp b) * qq (a + b + j)
def Qif (a b j : Int) : Int := (pp a * pp b - qq a * qq b) * qq (a + b + j) - (pp a * qq b + qq a * pp b) * pp (a + b + j)
def Nf (a b j : Int) : Int := (xr a * xr a + xi a * xi a) * (xr b * xr b + xi b * xi b) * (xr (a + b + j) * xr (a + b + j) + xi (a + b + j) * xi (a + b + j))

theorem K_id (c s x y C Z X1 Y1 X2 Y2 X3 Y3 : Int) :
    ((c * x - s * y) * Z - (s * x + c * y) * C) * ((X1 * X1 + Y1 * Y1) * (X2 * X2 + Y2 * Y2) * (X3 * X3 + Y3 * Y3)) =
      (((X1 * c + Y1 * s) * (X2 * x + Y2 * y) - (X1 * s - Y1 * c) * (X2 * y - Y2 * x)) * (X3 * C + Y3 * Z) + ((X1 * c + Y1 * s) * (X2 * y - Y2 * x) + (X1 * s - Y1 * c) * (X2 * x + Y2 * y)) * (X3 * Z - Y3 * C)) * ((X1 * X2 - Y1 * Y2) * Y3 - (Y1 * X2 + X1 * Y2) * X3) +
      (((X1 * c + Y1 * s) * (X2 * x + Y2 * y) - (X1 * s - Y1 * c) * (X2 * y - Y2 * x)) * (X3 * Z - Y3 * C) - ((X1 * c + Y1 * s) * (X2 * y - Y2 * x) + (X1 * s - Y1 * c) * (X2 * x + Y2 * y)) * (X3 * C + Y3 * Z)) * ((X1 * X2 - Y1 * Y2) * X3 + (Y1 * X2 + X1 * Y2) * Y3) ∧
    ((c * x - s * y) * C + (s * x + c * y) * Z) * ((X1 * X1 + Y1 * Y1) * (X2 * X2 + Y2 * Y2) * (X3 * X3 + Y3 * Y3)) =
      (((X1 * c + Y1 * s) * (X2 * x + Y2 * y) - (X1 * s - Y1 * c) * (X2 * y - Y2 * x)) * (X3 * C + Y3 * Z) + ((X1 * c + Y1 * s) * (X2 * y - Y2 * x) + (X1 * s - Y1 * c) * (X2 * x + Y2 * y)) * (X3 * Z - Y3 * C)) * ((X1 * X2 - Y1 * Y2) * X3 + (Y1 * X2 + X1 * Y2) * Y3) -
      (((X1 * c + Y1 * s) * (X2 * x + Y2 * y) - (X1 * s - Y1 * c) * (X2 * y - Y2 * x)) * (X3 * Z - Y3 * C) - ((X1 * c + Y1 * s) * (X2 * y - Y2 * x) + (X1 * s - Y1 * c) * (X2 * x + Y2 * y)) * (X3 * C + Y3 * Z)) * ((X1 * X2 - Y1 * Y2) * Y3 - (Y1 * X2 + X1 * Y2) * X3) := by
  -- step by step: P_a P_b = conj W d_a d_b
  have e1 : (X1 * c + Y1 * s) * (X2 * x + Y2 * y) - (X1 * s - Y1 * c) * (X2 * y - Y2 * x) = (X1 * X2 - Y1 * Y2) * (c * x - s * y) + (Y1 * X2 + X1 * Y2) * (s * x + c * y) := by grind
  have e2 : (X1 * c + Y1 * s) * (X2 * y - Y2 * x) + (X1 * s - Y1 * c) * (X2 * x + Y2 * y) = (X1 * X2 - Y1 * Y2) * (s * x + c * y) - (Y1 * X2 + X1 * Y2) * (c * x - s * y) := by grind
  have e3 : (X1 * X1 + Y1 * Y1) * (X2 * X2 + Y2 * Y2) = (X1 * X2 - Y1 * Y2) * (X1 * X2 - Y1 * Y2) + (Y1 * X2 + X1 * Y2) * (Y1 * X2 + X1 * Y2) := by grind
  rw [e1, e2, e3]
  generalize X1 * X2 - Y1 * Y2 = W1
  generalize Y1 * X2 + X1 * Y2 = W2
  generalize c * x - s * y = D1
  generalize s * x + c * y = D2
  constructor <;> grind

theorem K_core (a b j J1 J2 : Int) (h1 : xr j = J1) (h2 : xi j = J2) (g1 : 0 ≤ J1 ∧ J1 ≤ 1208925819614629174706176) (g2 : 0 ≤ J2 ∧ J2 ≤ 1208925819614629174706176) :
    (1208925819614629174706176 * 1461055656455168997834700464688290795602634080256 * J2 - 497820559675144451106866606848659885059662729092818528800892362639538964634010203979776 ≤ 1208925819614629174706176 * Uif a b j) ∧ (1208925819614629174706176 * Uif a b j ≤ 1208925819614629174706176 * 1462037093567730950857007106817080996884094360784 * J2 + 497820559675144451106866606848659885059662729092818528800892362639538964634010203979776) ∧ (1208925819614629174706176 * 1461055656455168997834700464688290795602634080256 * J1 - 497820559675144451106866606848659885059662729092818528800892362639538964634010203979776 ≤ 1208925819614629174706176 * Urf a b j) ∧ (1208925819614629174706176 * Urf a b j ≤ 1208925819614629174706176 * 1462037093567730950857007106817080996884094360784 * J1 + 497820559675144451106866606848659885059662729092818528800892362639538964634010203979776) ∧
    (62136951297461992300954567315757627860376814028502418553075312348826899883398281560064 ≤ Qrf a b j) ∧ (-9959972950966808465120170261659426999685896668113564403631737474692667990603726848 ≤ Qif a b j ∧ Qif a b j ≤ 9959972950966808465120170261659426999685896668113564403631737474692667990603726848) ∧ (0 ≤ Nf a b j) ∧ (Nf a b j ≤ 3125180990306247497934761823232676485777790296874820517069833599069140311831443395848822896348997985279541225699559831625749310102945888502370304) ∧
    (crs (bc a * bc b - bs a * bs b) (bs a * bc b + bc a * bs b) (bc (a + b + j)) (bs (a + b + j)) * Nf a b j = Qrf a b j * Uif a b j + Qif a b j * Urf a b j) ∧
    (dt (bc a * bc b - bs a * bs b) (bs a * bc b + bc a * bs b) (bc (a + b + j)) (bs (a + b + j)) * Nf a b j = Qrf a b j * Urf a b j - Qif a b j * Uif a b j) := by
  have id := K_id (bc a) (bs a) (bc b) (bs b) (bc (a + b + j)) (bs (a + b + j)) (xr a) (xi a) (xr b) (xi b) (xr (a + b + j)) (xi (a + b + j))
  obtain ⟨A1, A2⟩ := P_at a
  obtain ⟨B1, B2⟩ := P_at b
  obtain ⟨C1, C2⟩ := P_at (a + b + j)
  -- U
  obtain ⟨E1, E2⟩ := comp a b
  obtain ⟨F1, F2⟩ := comp (a + b) j
  have m1 := x_size (a + b)
  have m2 := x_size2 (a + b)
  have m3 := x_bd (a + b)
  have m4 := x_bd (a + b + j)
  have hU : (1208925819614629174706176 * 1461055656455168997834700464688290795602634080256 * J2 - 497820559675144451106866606848659885059662729092818528800892362639538964634010203979776 ≤ 1208925819614629174706176 * Uif a b j) ∧ (1208925819614629174706176 * Uif a b j ≤ 1208925819614629174706176 * 1462037093567730950857007106817080996884094360784 * J2 + 497820559675144451106866606848659885059662729092818528800892362639538964634010203979776) ∧ (1208925819614629174706176 * 1461055656455168997834700464688290795602634080256 * J1 - 497820559675144451106866606848659885059662729092818528800892362639538964634010203979776 ≤ 1208925819614629174706176 * Urf a b j) ∧ (1208925819614629174706176 * Urf a b j ≤ 1208925819614629174706176 * 1462037093567730950857007106817080996884094360784 * J1 + 497820559675144451106866606848659885059662729092818528800892362639538964634010203979776) := by
    rw [h1, h2] at F1 F2
    have v1 : Wr a b = xr a * xr b - xi a * xi b := rfl
    have v2 : Wi a b = xi a * xr b + xr a * xi b := rfl
    rw [← v1] at E1
    rw [← v2] at E2
    unfold Uif Urf
    generalize Wr a b = W1 at *
    generalize Wi a b = W2 at *
    generalize xr (a + b) = M1 at *
    generalize xi (a + b) = M2 at *
    generalize xr (a + b + j) = X3 at *
    generalize xi (a + b + j) = Y3 at *
    -- t: the coordinates of M J
    obtain ⟨t1, ht1⟩ : ∃ t, M1 * J1 - M2 * J2 = t := ⟨_, rfl⟩
    obtain ⟨t2, ht2⟩ : ∃ t, M2 * J1 + M1 * J2 = t := ⟨_, rfl⟩
    rw [ht1] at F1
    rw [ht2] at F2
    have tb1 : -1462963139053304412852122920643898702358795780096 ≤ t1 ∧ t1 ≤ 1462963139053304412852122920643898702358795780096 := by omega
    have tb2 : -1462963139053304412852122920643898702358795780096 ≤ t2 ∧ t2 ≤ 1462963139053304412852122920643898702358795780096 := by omega
    have wb1 : -1462963139053304412852122920643898702358795780096 ≤ W1 ∧ W1 ≤ 1462963139053304412852122920643898702358795780096 := by omega
    have wb2 : -1462963139053304412852122920643898702358795780096 ≤ W2 ∧ W2 ≤ 1462963139053304412852122920643898702358795780096 := by omega
    have i1 : 1208925819614629174706176 * (W1 * Y3 - W2 * X3) = 1208925819614629174706176 * ((M1 * M1 + M2 * M2) * J2) + ((W1 - 1208925819614629174706176 * M1) * t2 - (W2 - 1208925819614629174706176 * M2) * t1) - (W1 * (t2 - 1208925819614629174706176 * Y3) - W2 * (t1 - 1208925819614629174706176 * X3)) := by rw [← ht1, ← ht2]; grind
    have i2 : 1208925819614629174706176 * (W1 * X3 + W2 * Y3) = 1208925819614629174706176 * ((M1 * M1 + M2 * M2) * J1) + ((W1 - 1208925819614629174706176 * M1) * t1 + (W2 - 1208925819614629174706176 * M2) * t2) - (W1 * (t1 - 1208925819614629174706176 * X3) + W2 * (t2 - 1208925819614629174706176 * Y3)) := by rw [← ht1, ← ht2]; grind
    have b1 := pb E1 tb2
    have b2 := pb E2 tb1
    have b3 := pb wb1 F2
    have b4 := pb wb2 F1
    have b5 := pb E1 tb1
    have b6 := pb E2 tb2
    have b7 := pb wb1 F1
    have b8 := pb wb2 F2
    have c1 : 1461055656455168997834700464688290795602634080256 * J2 ≤ (M1 * M1 + M2 * M2) * J2 := Int.mul_le_mul_of_nonneg_right m1 g2.1
    have c2 : (M1 * M1 + M2 * M2) * J2 ≤ 1462037093567730950857007106817080996884094360784 * J2 := Int.mul_le_mul_of_nonneg_right m2 g2.1
    have c3 : 1461055656455168997834700464688290795602634080256 * J1 ≤ (M1 * M1 + M2 * M2) * J1 := Int.mul_le_mul_of_nonneg_right m1 g1.1
    have c4 : (M1 * M1 + M2 * M2) * J1 ≤ 1462037093567730950857007106817080996884094360784 * J1 := Int.mul_le_mul_of_nonneg_right m2 g1.1
    rw [i1, i2]
    generalize (M1 * M1 + M2 * M2) * J2 = z1 at *
    generalize (M1 * M1 + M2 * M2) * J1 = z2 at *
    omega
  clear E1 E2 F1 F2 m1 m2 m3 m4
  -- Q
  have hA : pp a = xr a * bc a + xi a * bs a := rfl
  have hA' : qq a = xr a * bs a - xi a * bc a := rfl
  have hB : pp b = xr b * bc b + xi b * bs b := rfl
  have hB' : qq b = xr b * bs b - xi b * bc b := rfl
  have hC : pp (a + b + j) = xr (a + b + j) * bc (a + b + j) + xi (a + b + j) * bs (a + b + j) := rfl
  have hC' : qq (a + b + j) = xr (a + b + j) * bs (a + b + j) - xi (a + b + j) * bc (a + b + j) := rfl
  rw [← hA, ← hA', ← hB, ← hB', ← hC, ← hC'] at id
  rw [← hA] at A2
  rw [← hA'] at A1
  rw [← hB] at B2
  rw [← hB'] at B1
  rw [← hC] at C2
  rw [← hC'] at C1
  clear hA hA' hB hB' hC hC'
  have hQ : (62136951297461992300954567315757627860376814028502418553075312348826899883398281560064 ≤ Qrf a b j) ∧ (-9959972950966808465120170261659426999685896668113564403631737474692667990603726848 ≤ Qif a b j ∧ Qif a b j ≤ 9959972950966808465120170261659426999685896668113564403631737474692667990603726848) := by
    unfold Qrf Qif
    generalize pp a = p1 at *
    generalize qq a = q1 at *
    generalize pp b = p2 at *
    generalize qq b = q2 at *
    generalize pp (a + b + j) = p3 at *
    generalize qq (a + b + j) = q3 at *
    have s1 := mul_bd (l := 39608036628034095650898444288) (u := 39614082437723789514183278592) (by omega) A2 B2
    have s2 := pb A1 B1
    have s3 := pb (x := p1) (y := q2) (m := 39614082437723789514183278592) (n := 2115620184325601055735808) (by omega) B1
    have s4 := pb (x := q1) (y := p2) (m := 2115620184325601055735808) (n := 39614082437723789514183278592) A1 (by omega)
    have s5 : 1568796561051841769637393140449268150119166748842346414080 * 39608036628034095650898444288 ≤ (p1 * p2 - q1 * q2) * p3 := Int.mul_le_mul (by omega) C2.1 (by omega) (by omega)
    have s6 := pb (x := p1 * q2 + q1 * p2) (y := q3) (m := 167616704777573518353803789798565960031532568828444672) (n := 2115620184325601055735808) (by omega) C1
    have s7 := pb (x := p1 * p2 - q1 * q2) (y := q3) (m := 1569275531858625138259199216000477044043710907314578915328) (n := 2115620184325601055735808) (by omega) C1
    have s8 := pb (x := p1 * q2 + q1 * p2) (y := p3) (m := 167616704777573518353803789798565960031532568828444672) (n := 39614082437723789514183278592) (by omega) (by omega)
    generalize (p1 * p2 - q1 * q2) * p3 = z1 at *
    generalize (p1 * q2 + q1 * p2) * q3 = z2 at *
    generalize (p1 * p2 - q1 * q2) * q3 = z3 at *
    generalize (p1 * q2 + q1 * p2) * p3 = z4 at *
    omega
  have n1 := x_size2 a
  have n2 := x_size2 b
  have n3 := x_size2 (a + b + j)
  have nn : ∀ z w : Int, 0 ≤ z * z + w * w := fun z w => by have := sqn z; have := sqn w; omega
  have k1 := nn (xr a) (xi a)
  have k2 := nn (xr b) (xi b)
  have k3 := nn (xr (a + b + j)) (xi (a + b + j))
  have hN : 0 ≤ Nf a b j ∧ Nf a b j ≤ 3125180990306247497934761823232676485777790296874820517069833599069140311831443395848822896348997985279541225699559831625749310102945888502370304 := by
    unfold Nf
    have l1 : 0 ≤ (xr a * xr a + xi a * xi a) * (xr b * xr b + xi b * xi b) := Int.mul_nonneg k1 k2
    have l2 : (xr a * xr a + xi a * xi a) * (xr b * xr b + xi b * xi b) ≤ 1462037093567730950857007106817080996884094360784 * 1462037093567730950857007106817080996884094360784 := Int.mul_le_mul n1 n2 k2 (by omega)
    refine ⟨Int.mul_nonneg l1 k3, ?_⟩
    have l3 := Int.mul_le_mul l2 n3 k3 (by omega)
    have e : (1462037093567730950857007106817080996884094360784 * 1462037093567730950857007106817080996884094360784 * 1462037093567730950857007106817080996884094360784 : Int) = 3125180990306247497934761823232676485777790296874820517069833599069140311831443395848822896348997985279541225699559831625749310102945888502370304 := by decide +kernel
    rw [e] at l3
    exact l3
  exact ⟨hU.1, hU.2.1, hU.2.2.1, hU.2.2.2, hQ.1, hQ.2, hN.1, hN.2, id.1, id.2⟩

theorem K_3 (a b : Int) : 4294967296 ≤ crs (bc a * bc b - bs a * bs b) (bs a * bc b + bc a * bs b) (bc (a + b + 3)) (bs (a + b + 3)) ∧ 17592186044416 ≤ dt (bc a * bc b - bs a * bs b) (bs a * bc b + bc a * bs b) (bc (a + b + 3)) (bs (a + b + 3)) := by
  have hJ : xr 3 = 1208925769609939855081472 ∧ xi 3 = 347712929370044628992 := by decide +kernel
  obtain ⟨U1, U2, U3, U4, Q1, Q2, N0, NN, id1, id2⟩ := K_core a b 3 1208925769609939855081472 347712929370044628992 hJ.1 hJ.2 (by omega) (by omega)
  generalize crs (bc a * bc b - bs a * bs b) (bs a * bc b + bc a * bs b) (bc (a + b + 3)) (bs (a + b + 3)) = Ei at *
  generalize dt (bc a * bc b - bs a * bs b) (bs a * bc b + bc a * bs b) (bc (a + b + 3)) (bs (a + b + 3)) = Er at *
  generalize Nf a b 3 = N at *
  generalize Qrf a b 3 = Qr at *
  generalize Qif a b 3 = Qi at *
  generalize Urf a b 3 = Ur at *
  generalize Uif a b 3 = Ui at *
  have u1 : 508027530491184874179659502788337392212202694562758248195015076478976 ≤ Ui := by omega
  have u2 : Ui ≤ 508369612439617256245312865928831137072000461184637397013486270152705 := by omega
  have u3 : 1766307833511233554602928258265146847904404090139898551277825555070713856 ≤ Ur := by omega
  have u4 : Ur ≤ 1767494318951436301817923915454500494444721914834685493911966833677697025 := by omega
  have k1 : 62136951297461992300954567315757627860376814028502418553075312348826899883398281560064 * 508027530491184874179659502788337392212202694562758248195015076478976 ≤ Qr * Ui := Int.mul_le_mul Q1 u1 (by omega) (by omega)
  have k2 := pb (x := Qi) (y := Ur) (m := 9959972950966808465120170261659426999685896668113564403631737474692667990603726848) (n := 1767494318951436301817923915454500494444721914834685493911966833677697025) Q2 (by omega)
  have k3 : 62136951297461992300954567315757627860376814028502418553075312348826899883398281560064 * 1766307833511233554602928258265146847904404090139898551277825555070713856 ≤ Qr * Ur := Int.mul_le_mul Q1 u3 (by omega) (by omega)
  have k4 := pb (x := Qi) (y := Ui) (m := 9959972950966808465120170261659426999685896668113564403631737474692667990603726848) (n := 508369612439617256245312865928831137072000461184637397013486270152705) Q2 (by omega)
  generalize Qr * Ui = t1 at *
  generalize Qi * Ur = t2 at *
  generalize Qr * Ur = t3 at *
  generalize Qi * Ui = t4 at *
  refine ⟨?_, ?_⟩
  · rcases Int.lt_or_le Ei 4294967296 with h | h
    · exfalso
      have m1 : Ei * N ≤ 4294967296 * N := Int.mul_le_mul_of_nonneg_right (by omega) (by omega)
      omega
    · exact h
  · rcases Int.lt_or_le Er 17592186044416 with h | h
    · exfalso
      have m1 : Er * N ≤ 17592186044416 * N := Int.mul_le_mul_of_nonneg_right (by omega) (by omega)
      omega
    · exact h

theorem K_4 (a b : Int) : 4294967296 ≤ crs (bc a * bc b - bs a * bs b) (bs a * bc b + bc a * bs b) (bc (a + b + 4)) (bs (a + b + 4)) ∧ 17592186044416 ≤ dt (bc a * bc b - bs a * bs b) (bs a * bc b + bc a * bs b) (bc (a + b + 4)) (bs (a + b + 4)) := by
  have hJ : xr 4 = 1208925730716915045761024 ∧ xi 4 = 463617234029005242368 := by decide +kernel
  obtain ⟨U1, U2, U3, U4, Q1, Q2, N0, NN, id1, id2⟩ := K_core a b 4 1208925730716915045761024 463617234029005242368 hJ.1 hJ.2 (by omega) (by omega)
  generalize crs (bc a * bc b - bs a * bs b) (bs a * bc b + bc a * bs b) (bc (a + b + 4)) (bs (a + b + 4)) = Ei at *
  generalize dt (bc a * bc b - bs a * bs b) (bs a * bc b + bc a * bs b) (bc (a + b + 4)) (bs (a + b + 4)) = Er at *
  generalize Nf a b 4 = N at *
  generalize Qrf a b 4 = Qr at *
  generalize Qif a b 4 = Qi at *
  generalize Urf a b 4 = Ur at *
  generalize Uif a b 4 = Ui at *
  have u1 : 677370170420662475630240463855403747894360589516876867105790447583232 ≤ Ui := by omega
  have u2 : Ui ≤ 677826005155192848919508769744791681303252431482248176109973550399489 := by omega
  have u3 : 1766307776686359660294067066192728398680747630451869753263047598216839168 ≤ Ur := by omega
  have u4 : Ur ≤ 1767494262088391349541402859376171029778451464693831851153343873697185793 := by omega
  have k1 : 62136951297461992300954567315757627860376814028502418553075312348826899883398281560064 * 677370170420662475630240463855403747894360589516876867105790447583232 ≤ Qr * Ui := Int.mul_le_mul Q1 u1 (by omega) (by omega)
  have k2 := pb (x := Qi) (y := Ur) (m := 9959972950966808465120170261659426999685896668113564403631737474692667990603726848) (n := 1767494262088391349541402859376171029778451464693831851153343873697185793) Q2 (by omega)
  have k3 : 62136951297461992300954567315757627860376814028502418553075312348826899883398281560064 * 1766307776686359660294067066192728398680747630451869753263047598216839168 ≤ Qr * Ur := Int.mul_le_mul Q1 u3 (by omega) (by omega)
  have k4 := pb (x := Qi) (y := Ui) (m := 9959972950966808465120170261659426999685896668113564403631737474692667990603726848) (n := 677826005155192848919508769744791681303252431482248176109973550399489) Q2 (by omega)
  generalize Qr * Ui = t1 at *
  generalize Qi * Ur = t2 at *
  generalize Qr * Ur = t3 at *
  generalize Qi * Ui = t4 at *
  refine ⟨?_, ?_⟩
  · rcases Int.lt_or_le Ei 4294967296 with h | h
    · exfalso
      have m1 : Ei * N ≤ 4294967296 * N := Int.mul_le_mul_of_nonneg_right (by omega) (by omega)
      omega
    · exact h
  · rcases Int.lt_or_le Er 17592186044416 with h | h
    · exfalso
      have m1 : Er * N ≤ 17592186044416 * N := Int.mul_le_mul_of_nonneg_right (by omega) (by omega)
      omega
    · exact h
end Go.Proofs.Ytlefnahclgccbaa
