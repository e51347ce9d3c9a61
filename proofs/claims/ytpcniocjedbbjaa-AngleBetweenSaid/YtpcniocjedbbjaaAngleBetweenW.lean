/- The walk of the law AngleBetween. -/
import Derived.Test.YtpcniocjedbbjaaAngA
import Derived.Test.YtpcniocjedbbjaaFlat
import Derived.Test.YtpcniocjedbbjaaBel
import Derived.Test.YtpcniocjedbbjaaQui
namespace Go.Proofs.Ytpcniocjedbbjaa
open Go.RowKit
set_option linter.unusedVariables false

theorem dst_nl (a x : Int) : dst (nrm a) x = dst a x := by unfold dst dif nrm; (repeat' split) <;> omega
theorem dst_nr (a x : Int) : dst x (nrm a) = dst x a := by unfold dst dif nrm; (repeat' split) <;> omega
theorem dst_self (a : Int) : dst a a = 0 := by unfold dst dif; (repeat' split) <;> omega
theorem dif_tri (a b c : Int) (h : dst a b < 16384) (g : dst b c < 16384) (f : dst c a < 16384) : dif a b + dif b c + dif c a = 0 := by
  unfold dst at h g f
  have e : (dif a b + dif b c + dif c a) % 65536 = 0 := by unfold dif; omega
  omega
theorem dif_sub (t a b : Int) (h : dst t a < 16384) (g : dst t b < 16384) (f : dst a b < 16384) : dif t b - dif t a = dif a b := by
  unfold dst at h g f
  have e : (dif t b - dif t a - dif a b) % 65536 = 0 := by unfold dif; omega
  omega
theorem dif_nil (a b : Int) (h : dif a b = 0) : nrm a = nrm b := by unfold dif at h; unfold nrm; omega

def sumK (m a b c : Int) (k : Nat) : Int := (if 0 < k then dst m a else 0) + (if 1 < k then dst m b else 0) + (if 2 < k then dst m c else 0)
def nearK (t m a b c : Int) (k : Nat) : Int := (if 0 < k ∧ dst t m ≤ dst t a then 1 else 0) + (if 1 < k ∧ dst t m ≤ dst t b then 1 else 0) + (if 2 < k ∧ dst t m ≤ dst t c then 1 else 0)
def closeK (t a b c : Int) (k : Nat) : Bool := (decide (k ≤ 0) || decide (dst t a < 16384)) && (decide (k ≤ 1) || decide (dst t b < 16384)) && (decide (k ≤ 2) || decide (dst t c < 16384))

theorem midB_rot (a b c : Int) : midB c a b = midB a b c := by
  unfold midB
  cases decide (dst a b < 16384) <;> cases decide (dst b c < 16384) <;> cases decide (dst c a < 16384) <;> rfl

theorem mid_out {a b c : Int} (h : midB a b c = false) : mid a b c = 0 := by unfold mid; rw [if_neg (by simp [h])]
theorem midB_far {a b c F : Int} (h1 : dst a b ≤ F) (h2 : dst b c ≤ F) (h3 : dst a c ≤ F) (h4 : F = dst a b ∨ F = dst b c ∨ F = dst a c) : midB a b c = decide (F < 16384) := by
  rw [dst_comm a c] at h3 h4
  unfold midB
  by_cases f : F < 16384
  · simp [f]; omega
  · simp [f]; omega

theorem between {a b c t F : Int} (h : midB a b c = true) (h1 : dst a b ≤ F) (h2 : dst b c ≤ F) (h3 : dst a c ≤ F) (h4 : F = dst a b ∨ F = dst b c ∨ F = dst a c) :
    mid c a b = mid a b c ∧ sumK (mid a b c) a b c 3 = F ∧ (closeK t a b c 3 = true → 2 ≤ nearK t (mid a b c) a b c 3) := by
  have hB := h
  have hr := midB_rot a b c
  rw [h] at hr
  simp only [midB, Bool.and_eq_true, decide_eq_true_eq] at hB
  obtain ⟨⟨q1, q2⟩, q3⟩ := hB
  have e1 := dif_tri a b c q1 q2 q3
  have e2 := dif_nil a b
  have e3 := dif_nil b c
  have e4 := dif_nil c a
  have f1 : dst a b = dif a b ∨ dst a b = -dif a b := by unfold dst; split <;> omega
  have f2 : dst b c = dif b c ∨ dst b c = -dif b c := by unfold dst; split <;> omega
  have f3 : dst c a = dif c a ∨ dst c a = -dif c a := by unfold dst; split <;> omega
  have b1 := dst_bd a b
  have b2 := dst_bd b c
  have b3 := dst_bd c a
  rw [dst_comm a c] at h3 h4
  have hm : (mid a b c = nrm a ∧ dst c a ≤ dst b c ∧ dst a b ≤ dst b c) ∨ (mid a b c = nrm b ∧ dst a b ≤ dst c a ∧ dst b c ≤ dst c a) ∨ (mid a b c = nrm c ∧ dst b c ≤ dst a b ∧ dst c a ≤ dst a b) := by
    unfold mid; rw [if_pos h]; split
    · exact .inl ⟨rfl, by omega, by omega⟩
    · split
      · exact .inr (.inl ⟨rfl, by omega, by omega⟩)
      · exact .inr (.inr ⟨rfl, by omega, by omega⟩)
  have hn : (mid c a b = nrm a ∧ dst c a ≤ dst b c ∧ dst a b ≤ dst b c) ∨ (mid c a b = nrm b ∧ dst a b ≤ dst c a ∧ dst b c ≤ dst c a) ∨ (mid c a b = nrm c ∧ dst b c ≤ dst a b ∧ dst c a ≤ dst a b) := by
    unfold mid; rw [if_pos hr]; split
    · exact .inr (.inr ⟨rfl, by omega, by omega⟩)
    · split
      · exact .inl ⟨rfl, by omega, by omega⟩
      · exact .inr (.inl ⟨rfl, by omega, by omega⟩)
  refine ⟨?_, ?_, ?_⟩
  · rcases hm with ⟨m1, m2, m3⟩ | ⟨m1, m2, m3⟩ | ⟨m1, m2, m3⟩ <;> rcases hn with ⟨n1, n2, n3⟩ | ⟨n1, n2, n3⟩ | ⟨n1, n2, n3⟩ <;> rw [m1, n1] <;> omega
  · clear hn e2 e3 e4
    unfold sumK
    rcases hm with ⟨m1, m2, m3⟩ | ⟨m1, m2, m3⟩ | ⟨m1, m2, m3⟩ <;> rw [m1, dst_nl, dst_nl, dst_nl, dst_self] <;> simp only [show 0 < 3 by omega, show 1 < 3 by omega, show 2 < 3 by omega, if_true]
    · rw [dst_comm a c]; omega
    · rw [dst_comm b a]; omega
    · rw [dst_comm c b]; omega
  · intro hc
    clear hn e2 e3 e4
    simp only [closeK, Bool.and_eq_true, Bool.or_eq_true, decide_eq_true_eq] at hc
    have t1 : dst t a < 16384 := by omega
    have t2 : dst t b < 16384 := by omega
    have t3 : dst t c < 16384 := by omega
    clear hc
    have s1 := dif_sub t a b t1 t2 q1
    have s2 := dif_sub t b c t2 t3 q2
    have g1 : (0 ≤ dif t a ∧ dst t a = dif t a) ∨ (dif t a < 0 ∧ dst t a = -dif t a) := by unfold dst; split <;> omega
    have g2 : (0 ≤ dif t b ∧ dst t b = dif t b) ∨ (dif t b < 0 ∧ dst t b = -dif t b) := by unfold dst; split <;> omega
    have g3 : (0 ≤ dif t c ∧ dst t c = dif t c) ∨ (dif t c < 0 ∧ dst t c = -dif t c) := by unfold dst; split <;> omega
    unfold nearK
    rcases hm with ⟨m1, m2, m3⟩ | ⟨m1, m2, m3⟩ | ⟨m1, m2, m3⟩ <;> rw [m1, dst_nr] <;> (repeat' split) <;> omega

theorem mx3_ex {P : Program} (x y z : Int) :
    ∃ M : Int, (∀ (ts : Array TypeId) (t : TypeId) (w : World), (Builtin.max_ ts t #[.int .i64 x, .int .i64 y, .int .i64 z]).run P w = .ok (.int .i64 M) w)
      ∧ x ≤ M ∧ y ≤ M ∧ z ≤ M ∧ (M = x ∨ M = y ∨ M = z) := by
  refine ⟨(if z > (if y > x then y else x) then z else (if y > x then y else x)), ?_, ?_⟩
  · intro ts t w
    simp [Builtin.max_, Builtin.max2]
  · (repeat' split) <;> omega

theorem nearK_bd (t m a b c : Int) (k : Nat) : 0 ≤ nearK t m a b c k ∧ nearK t m a b c k ≤ 3 := by unfold nearK; (repeat' split) <;> omega
theorem sumK_bd (m a b c : Int) (k : Nat) : 0 ≤ sumK m a b c k ∧ sumK m a b c k ≤ 98304 := by
  have := dst_bd m a
  have := dst_bd m b
  have := dst_bd m c
  unfold sumK; (repeat' split) <;> omega

/-- The steps of the loop. -/
theorem btw_step (t m a b c x : Int) (k : Nat) (h : (k = 0 ∧ x = a) ∨ (k = 1 ∧ x = b) ∨ (k = 2 ∧ x = c)) :
    sumK m a b c (k + 1) = sumK m a b c k + dst m x ∧ nearK t m a b c (k + 1) = nearK t m a b c k + (if dst t m ≤ dst t x then 1 else 0) ∧ closeK t a b c (k + 1) = (closeK t a b c k && decide (dst t x < 16384)) := by
  rcases h with ⟨rfl, rfl⟩ | ⟨rfl, rfl⟩ | ⟨rfl, rfl⟩ <;> refine ⟨by simp [sumK], by simp [nearK], by simp [closeK]⟩

set_option maxHeartbeats 1000000 in
theorem angleBetween_walk (a0x0 a0x1 a0x2 : Int) (a1 : Int) (w : World) (w0x0 : (Lit.int .i64 a0x0).wf = true) (w0x1 : (Lit.int .i64 a0x1).wf = true) (w0x2 : (Lit.int .i64 a0x2).wf = true) (w1 : (Lit.int .i64 a1).wf = true) :
    Calls Try.prog 6 #[.agg #[.int .i64 a0x0, .int .i64 a0x1, .int .i64 a0x2], .int .i64 a1] w fun e w' => e = .returned (.bool true) ∧ Below w.heap.size w w' := by
  obtain ⟨F, mF, h1, h2, h3, h4⟩ := mx3_ex (P := Try.prog) (dst a0x0 a0x1) (dst a0x1 a0x2) (dst a0x0 a0x2)
  have eB := midB_far h1 h2 h3 h4
  have eR := midB_rot a0x0 a0x1 a0x2
  have dF : 0 ≤ F ∧ F ≤ 32768 := by
    have := dst_bd a0x0 a0x1
    have := dst_bd a0x1 a0x2
    have := dst_bd a0x0 a0x2
    omega
  have c1 := middle_any a0x0 a0x1 a0x2
  have c2 := middle_any a0x2 a0x0 a0x1
  rw [eR] at c2
  by_cases hB : midB a0x0 a0x1 a0x2 = true
  · have hF : F < 16384 := by rw [hB] at eB; simpa using eB.symm
    obtain ⟨e1, e2, e3⟩ := between (t := a1) hB h1 h2 h3 h4
    rw [hB] at c1 c2
    rw [e1] at c2
    obtain ⟨m, hm⟩ : ∃ m, mid a0x0 a0x1 a0x2 = m := ⟨_, rfl⟩
    rw [hm] at c1 c2 e2 e3
    have i0 : ∀ w, (Instr.index 29 (.agg #[.int .i64 a0x0, .int .i64 a0x1, .int .i64 a0x2]) (.int .i64 0)).run Try.prog w = .ok (.int .i64 a0x0) w := fun _ => by kernel_rfl
    have i1 : ∀ w, (Instr.index 29 (.agg #[.int .i64 a0x0, .int .i64 a0x1, .int .i64 a0x2]) (.int .i64 1)).run Try.prog w = .ok (.int .i64 a0x1) w := fun _ => by kernel_rfl
    have i2 : ∀ w, (Instr.index 29 (.agg #[.int .i64 a0x0, .int .i64 a0x1, .int .i64 a0x2]) (.int .i64 2)).run Try.prog w = .ok (.int .i64 a0x2) w := fun _ => by kernel_rfl
    have hd := hide (And.intro e2 e3)
    clear hm eB eR hB e1 e2 e3 h1 h2 h3 h4
    go_enter Try.func6, Try.ntmps6
    go_wp2_with (first | (go_at_call 13; (with_reducible refine (awake_true _).mono ?_); rintro e w' ⟨rfl, rfl⟩) | (go_at_call 14; (first | (with_reducible refine (c1 _).mono ?_) | (with_reducible refine (c2 _).mono ?_)); rintro e w' ⟨rfl, rfl⟩))
    go_quiet ((go_at_call 19; exact quiet_eq (dist_any _ _ _)))
    go_wp2_with (fail)
    go_loop [10, 11, 12, 71] (fun s n c i => ∃ k : Nat, k ≤ 3 ∧ i = .int .i64 k ∧ s = .int .i64 (sumK m a0x0 a0x1 a0x2 k) ∧ n = .int .i64 (nearK a1 m a0x0 a0x1 a0x2 k) ∧ c = .bool (closeK a1 a0x0 a0x1 a0x2 k)) (fun _ _ _ i => 3 - (intOf i).toNat)
    case atStart => exact ⟨0, by omega, rfl, rfl, rfl, rfl⟩
    case round =>
      obtain ⟨k, hk, rfl, rfl, rfl, rfl⟩ := hrel
      have sb := sumK_bd m a0x0 a0x1 a0x2 k
      have nb := nearK_bd a1 m a0x0 a0x1 a0x2 k
      have key : k = 3 ∨ ∃ x, ((k = 0 ∧ x = a0x0) ∨ (k = 1 ∧ x = a0x1) ∨ (k = 2 ∧ x = a0x2)) := by
        rcases (show k = 0 ∨ k = 1 ∨ k = 2 ∨ k = 3 by omega) with h | h | h | h
        · exact .inr ⟨_, .inl ⟨h, rfl⟩⟩
        · exact .inr ⟨_, .inr (.inl ⟨h, rfl⟩)⟩
        · exact .inr ⟨_, .inr (.inr ⟨h, rfl⟩)⟩
        · exact .inl h
      rcases key with rfl | ⟨x, hx⟩
      · obtain ⟨q1, q2⟩ := hd.out
        clear hd
        rw [q1]
        by_cases hc : closeK a1 a0x0 a0x1 a0x2 3 = true
        · have q3 := q2 hc
          rw [hc]
          clear q2
          go_wp2_with (fail)
          go_returns
          exact ⟨rfl, (((Bel.refl w).alloc _).drewN _)⟩
        · have hc' : closeK a1 a0x0 a0x1 a0x2 3 = false := by simpa using hc
          rw [hc']
          clear q2 hc
          go_wp2_with (fail)
          go_returns
          exact ⟨rfl, (((Bel.refl w).alloc _).drewN _)⟩
      · obtain ⟨s1, s2, s3⟩ := btw_step a1 m a0x0 a0x1 a0x2 x k hx
        have dx := dst_bd m x
        have hlt : k < 3 := by omega
        have hs := hide (And.intro s1 (And.intro s2 s3))
        clear s1 s2 s3
        obtain ⟨C, hC⟩ : ∃ C, closeK a1 a0x0 a0x1 a0x2 k = C := ⟨_, rfl⟩
        obtain ⟨S, hS⟩ : ∃ C, sumK m a0x0 a0x1 a0x2 k = C := ⟨_, rfl⟩
        obtain ⟨N, hN⟩ : ∃ C, nearK a1 m a0x0 a0x1 a0x2 k = C := ⟨_, rfl⟩
        rw [hC]
        rw [hS] at sb ⊢
        rw [hN] at nb ⊢
        have hh := hide (And.intro hC (And.intro hS hN))
        clear hC hS hN
        rcases hx with ⟨rfl, rfl⟩ | ⟨rfl, rfl⟩ | ⟨rfl, rfl⟩
        · by_cases hl : dst a1 m ≤ dst a1 x
          · cases C
            · go_wp2_with (first | (go_at_call 19; (with_reducible refine (dist_any _ _ _).mono ?_); rintro e w' ⟨rfl, rfl⟩))
              go_round
              case rel => 
                obtain ⟨s1, s2, s3⟩ := hs.out
                obtain ⟨g1, g2, g3⟩ := hh.out
                rw [if_pos hl] at s2
                exact ⟨1, by omega, by go_num, by rw [s1, g2], by rw [s2, g3], by rw [s3, g1]; rfl⟩
              case measure => first | (simp [intOf]; done) | (simp [intOf]; omega)
            · go_wp2_with (first | (go_at_call 19; (with_reducible refine (dist_any _ _ _).mono ?_); rintro e w' ⟨rfl, rfl⟩))
              go_round
              case rel => 
                obtain ⟨s1, s2, s3⟩ := hs.out
                obtain ⟨g1, g2, g3⟩ := hh.out
                rw [if_pos hl] at s2
                exact ⟨1, by omega, by go_num, by rw [s1, g2], by rw [s2, g3], by rw [s3, g1]; rfl⟩
              case measure => first | (simp [intOf]; done) | (simp [intOf]; omega)
          · cases C
            · go_wp2_with (first | (go_at_call 19; (with_reducible refine (dist_any _ _ _).mono ?_); rintro e w' ⟨rfl, rfl⟩))
              go_round
              case rel => 
                obtain ⟨s1, s2, s3⟩ := hs.out
                obtain ⟨g1, g2, g3⟩ := hh.out
                rw [if_neg (by omega)] at s2
                exact ⟨1, by omega, by go_num, by rw [s1, g2], by rw [s2, g3]; simp, by rw [s3, g1]; rfl⟩
              case measure => first | (simp [intOf]; done) | (simp [intOf]; omega)
            · go_wp2_with (first | (go_at_call 19; (with_reducible refine (dist_any _ _ _).mono ?_); rintro e w' ⟨rfl, rfl⟩))
              go_round
              case rel => 
                obtain ⟨s1, s2, s3⟩ := hs.out
                obtain ⟨g1, g2, g3⟩ := hh.out
                rw [if_neg (by omega)] at s2
                exact ⟨1, by omega, by go_num, by rw [s1, g2], by rw [s2, g3]; simp, by rw [s3, g1]; rfl⟩
              case measure => first | (simp [intOf]; done) | (simp [intOf]; omega)
        · by_cases hl : dst a1 m ≤ dst a1 x
          · cases C
            · go_wp2_with (first | (go_at_call 19; (with_reducible refine (dist_any _ _ _).mono ?_); rintro e w' ⟨rfl, rfl⟩))
              go_round
              case rel => 
                obtain ⟨s1, s2, s3⟩ := hs.out
                obtain ⟨g1, g2, g3⟩ := hh.out
                rw [if_pos hl] at s2
                exact ⟨2, by omega, by go_num, by rw [s1, g2], by rw [s2, g3], by rw [s3, g1]; rfl⟩
              case measure => first | (simp [intOf]; done) | (simp [intOf]; omega)
            · go_wp2_with (first | (go_at_call 19; (with_reducible refine (dist_any _ _ _).mono ?_); rintro e w' ⟨rfl, rfl⟩))
              go_round
              case rel => 
                obtain ⟨s1, s2, s3⟩ := hs.out
                obtain ⟨g1, g2, g3⟩ := hh.out
                rw [if_pos hl] at s2
                exact ⟨2, by omega, by go_num, by rw [s1, g2], by rw [s2, g3], by rw [s3, g1]; rfl⟩
              case measure => first | (simp [intOf]; done) | (simp [intOf]; omega)
          · cases C
            · go_wp2_with (first | (go_at_call 19; (with_reducible refine (dist_any _ _ _).mono ?_); rintro e w' ⟨rfl, rfl⟩))
              go_round
              case rel => 
                obtain ⟨s1, s2, s3⟩ := hs.out
                obtain ⟨g1, g2, g3⟩ := hh.out
                rw [if_neg (by omega)] at s2
                exact ⟨2, by omega, by go_num, by rw [s1, g2], by rw [s2, g3]; simp, by rw [s3, g1]; rfl⟩
              case measure => first | (simp [intOf]; done) | (simp [intOf]; omega)
            · go_wp2_with (first | (go_at_call 19; (with_reducible refine (dist_any _ _ _).mono ?_); rintro e w' ⟨rfl, rfl⟩))
              go_round
              case rel => 
                obtain ⟨s1, s2, s3⟩ := hs.out
                obtain ⟨g1, g2, g3⟩ := hh.out
                rw [if_neg (by omega)] at s2
                exact ⟨2, by omega, by go_num, by rw [s1, g2], by rw [s2, g3]; simp, by rw [s3, g1]; rfl⟩
              case measure => first | (simp [intOf]; done) | (simp [intOf]; omega)
        · by_cases hl : dst a1 m ≤ dst a1 x
          · cases C
            · go_wp2_with (first | (go_at_call 19; (with_reducible refine (dist_any _ _ _).mono ?_); rintro e w' ⟨rfl, rfl⟩))
              go_round
              case rel => 
                obtain ⟨s1, s2, s3⟩ := hs.out
                obtain ⟨g1, g2, g3⟩ := hh.out
                rw [if_pos hl] at s2
                exact ⟨3, by omega, by go_num, by rw [s1, g2], by rw [s2, g3], by rw [s3, g1]; rfl⟩
              case measure => first | (simp [intOf]; done) | (simp [intOf]; omega)
            · go_wp2_with (first | (go_at_call 19; (with_reducible refine (dist_any _ _ _).mono ?_); rintro e w' ⟨rfl, rfl⟩))
              go_round
              case rel => 
                obtain ⟨s1, s2, s3⟩ := hs.out
                obtain ⟨g1, g2, g3⟩ := hh.out
                rw [if_pos hl] at s2
                exact ⟨3, by omega, by go_num, by rw [s1, g2], by rw [s2, g3], by rw [s3, g1]; rfl⟩
              case measure => first | (simp [intOf]; done) | (simp [intOf]; omega)
          · cases C
            · go_wp2_with (first | (go_at_call 19; (with_reducible refine (dist_any _ _ _).mono ?_); rintro e w' ⟨rfl, rfl⟩))
              go_round
              case rel => 
                obtain ⟨s1, s2, s3⟩ := hs.out
                obtain ⟨g1, g2, g3⟩ := hh.out
                rw [if_neg (by omega)] at s2
                exact ⟨3, by omega, by go_num, by rw [s1, g2], by rw [s2, g3]; simp, by rw [s3, g1]; rfl⟩
              case measure => first | (simp [intOf]; done) | (simp [intOf]; omega)
            · go_wp2_with (first | (go_at_call 19; (with_reducible refine (dist_any _ _ _).mono ?_); rintro e w' ⟨rfl, rfl⟩))
              go_round
              case rel => 
                obtain ⟨s1, s2, s3⟩ := hs.out
                obtain ⟨g1, g2, g3⟩ := hh.out
                rw [if_neg (by omega)] at s2
                exact ⟨3, by omega, by go_num, by rw [s1, g2], by rw [s2, g3]; simp, by rw [s3, g1]; rfl⟩
              case measure => first | (simp [intOf]; done) | (simp [intOf]; omega)
  · have hB' : midB a0x0 a0x1 a0x2 = false := by simpa using hB
    have hR' : midB a0x2 a0x0 a0x1 = false := by rw [eR]; exact hB'
    have hF : ¬ F < 16384 := by rw [hB'] at eB; simpa using eB.symm
    rw [hB', mid_out hB'] at c1
    rw [hB', mid_out hR'] at c2
    clear eB eR hB h1 h2 h3 h4 hR'
    go_enter Try.func6, Try.ntmps6
    go_wp2_with (first | (go_at_call 13; (with_reducible refine (awake_true _).mono ?_); rintro e w' ⟨rfl, rfl⟩) | (go_at_call 14; (first | (with_reducible refine (c1 _).mono ?_) | (with_reducible refine (c2 _).mono ?_)); rintro e w' ⟨rfl, rfl⟩))
    go_quiet ((go_at_call 19; exact quiet_eq (dist_any _ _ _)))
    go_wp2_with (fail)
    go_returns
    exact ⟨rfl, (((Bel.refl w).alloc _).drewN _)⟩
end Go.Proofs.Ytpcniocjedbbjaa
