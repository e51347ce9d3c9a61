/- The walk of the reference's exact sine. -/
import Derived.Test.YteplclbjiaamlaaExa
import Derived.Test.YteplclbjiaamlaaBase
import Derived.Test.YteplclbjiaamlaaNormW
namespace Go.Proofs.Yteplclbjiaamlaa
open Go.RowKit

theorem pd {x y m n : Int} (hx : -m ≤ x ∧ x ≤ m) (hy : -n ≤ y ∧ y ≤ n) : -(m * n) ≤ x * y ∧ x * y ≤ m * n := by
  have h1 : 0 ≤ (m - x) * (n + y) := Int.mul_nonneg (by omega) (by omega)
  have h2 : 0 ≤ (m + x) * (n - y) := Int.mul_nonneg (by omega) (by omega)
  have h3 : 0 ≤ (m - x) * (n - y) := Int.mul_nonneg (by omega) (by omega)
  have h4 : 0 ≤ (m + x) * (n + y) := Int.mul_nonneg (by omega) (by omega)
  have e1 : (m - x) * (n + y) = m * n + m * y - x * n - x * y := by grind
  have e2 : (m + x) * (n - y) = m * n - m * y + x * n - x * y := by grind
  have e3 : (m - x) * (n - y) = m * n - m * y - x * n + x * y := by grind
  have e4 : (m + x) * (n + y) = m * n + m * y + x * n + x * y := by grind
  omega
theorem tdiv_half (x y m : Int) (hy : 2 ≤ y) (hx : -m ≤ x ∧ x ≤ m) : -m ≤ 2 * x.tdiv y ∧ 2 * x.tdiv y ≤ m := by
  have key : ∀ z : Int, 0 ≤ z → z ≤ m → 0 ≤ z / y ∧ 2 * (z / y) ≤ m := by
    intro z h1 h2
    have h3 := Int.ediv_nonneg h1 (show 0 ≤ y by omega)
    have h4 := Int.mul_ediv_self_le (x := z) (k := y) (by omega)
    have h5 : 2 * (z / y) ≤ y * (z / y) := Int.mul_le_mul_of_nonneg_right hy h3
    omega
  rcases tdiv_cases x y (by omega) with ⟨h, e⟩ | ⟨h, e⟩
  · have := key x h hx.2; omega
  · have := key (-x) (by omega) (by omega); omega
theorem exT_bd (x n t : Int) (hx : 0 ≤ x ∧ x ≤ 1686629714) (ht : -1686629714 ≤ t ∧ t ≤ 1686629714) (hn : 1 ≤ n) :
    (-2844719792149201796 ≤ t * x ∧ t * x ≤ 2844719792149201796) ∧ (-1324675937 ≤ -(t * x / 1073741824).tdiv (n + 1) ∧ -(t * x / 1073741824).tdiv (n + 1) ≤ 1324675937) ∧
    (-2844719792149201796 ≤ -(t * x / 1073741824).tdiv (n + 1) * x ∧ -(t * x / 1073741824).tdiv (n + 1) * x ≤ 2844719792149201796) ∧ (-1686629714 ≤ exT x n t ∧ exT x n t ≤ 1686629714) := by
  have h1 := pd (x := t) (y := x) (m := 1686629714) (n := 1686629714) ht (by omega)
  have h2 := tdiv_half (t * x / 1073741824) (n + 1) 2649351874 (by omega) (by omega)
  have h3 := pd (x := -(t * x / 1073741824).tdiv (n + 1)) (y := x) (m := 1686629714) (n := 1686629714) (by omega) (by omega)
  have h4 := tdiv_half (-(t * x / 1073741824).tdiv (n + 1) * x / 1073741824) (n + 2) 2649351874 (by omega) (by omega)
  unfold exT
  exact ⟨by omega, by omega, by omega, by omega⟩

set_option maxHeartbeats 1000000 in
theorem exact_nat (r : Nat) (h : r ≤ 16384) (w : World) : Calls Try.prog 20 #[.int .i64 (r : Int)] w fun e w' => e = .returned (.int .i64 (exV r)) ∧ w = w' := by
  have hr := (exa_at r h).1
  have ex : (exX r : Int) = (r : Int) * 3373259426 / 32768 := by
    have : exX r = 3373259426 * r / 32768 := rfl
    rw [this]; omega
  have hx : 0 ≤ (exX r : Int) ∧ (exX r : Int) ≤ 1686629714 := by rw [ex]; omega
  have hR := hide hr
  clear hr
  have ex2 := ex.symm
  clear ex
  obtain ⟨X, hX⟩ : ∃ X : Int, (exX r : Int) = X := ⟨_, rfl⟩
  rw [hX] at hx ex2 hR
  clear hX
  go_enter Try.func20, Try.ntmps20
  go_wp2
  rw [ex2]
  clear ex2
  go_loop [4, 5, 6] (fun s t n => ∃ (F : Nat) (S T : Int), F ≤ 8 ∧ n = .int .i64 (17 - 2 * (F : Int)) ∧ s = .int .i64 S ∧ t = .int .i64 T ∧ exR X F S T (17 - 2 * (F : Int)) = some (exV r) ∧ (-1686629714 ≤ T ∧ T ≤ 1686629714) ∧ (-1686629714 * (8 - (F : Int)) ≤ S ∧ S ≤ 1686629714 * (8 - (F : Int)))) (fun _ _ n => (20 - intOf n).toNat)
  case atStart => exact ⟨8, 0, X, by omega, rfl, rfl, rfl, hR.out, by omega, by omega, by omega⟩
  case round =>
    obtain ⟨F, S, T, hF, rfl, rfl, rfl, hE, hT, hS⟩ := hrel
    cases F with
    | zero => simp [exR] at hE
    | succ F =>
      by_cases ht : T = 0
      · subst ht
        have e : S = exV r := by simpa [exR] using hE
        clear hE
        have hE := hide e
        clear e
        go_wp2
        go_returns
        exact ⟨ret_int hE.out, rfl⟩
      · have e : exR X F (S + T) (exT X (17 - 2 * ((F + 1 : Nat) : Int)) T) (17 - 2 * (F : Int)) = some (exV r) := by
          unfold exR at hE
          rw [if_neg ht, show (17 - 2 * ((F + 1 : Nat) : Int) + 2) = 17 - 2 * (F : Int) by omega] at hE
          exact hE
        clear hE
        obtain ⟨n, hn⟩ : ∃ n : Int, 17 - 2 * ((F + 1 : Nat) : Int) = n := ⟨_, rfl⟩
        rw [hn] at e ⊢
        have hn1 : 1 ≤ n ∧ n ≤ 17 := by omega
        obtain ⟨b1, b2, b3, b4⟩ := exT_bd X n T hx hT hn1.1
        have hE := hide e
        clear e
        have hN := hide hn
        clear hn
        have hd : (T == 0) = false := by simpa using ht
        have hS2 : -1686629714 * 8 ≤ S ∧ S ≤ 1686629714 * 8 := by omega
        go_wp2
        go_round
        case rel =>
          have hn := hN.out
          exact ⟨F, S + T, exT X n T, by omega, by go_num, rfl, rfl, hE.out, b4, by omega, by omega⟩
        case measure =>
          have hn := hN.out
          simp [intOf]; omega
theorem exact_any (y : Int) (h : 0 ≤ y ∧ y ≤ 16384) (w : World) : Calls Try.prog 20 #[.int .i64 y] w fun e w' => e = .returned (.int .i64 (exV y.toNat)) ∧ w = w' := by
  have e : y = (y.toNat : Int) := by omega
  have := exact_nat y.toNat (by omega) w
  rwa [← e] at this
end Go.Proofs.Yteplclbjiaamlaa
