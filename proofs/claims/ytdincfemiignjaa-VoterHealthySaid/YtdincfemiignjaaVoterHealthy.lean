/-
  The law VoterHealthy: for every input the Go function 'commutatorlaw40.VoterHealthy' returns true and leaves its arguments as they were. Conditions: none.
  This text is the row's step (written by a program of mine after the guide's template); the walk is YtdincfemiignjaaVoterHealthyW.
-/
import Derived.Test.YtdincfemiignjaaRows
import Derived.WalkKit
import Derived.ProofKit
import Derived.OpenShut
import Derived.ShutString
import Derived.ChangeOld
import Derived.Below
import Derived.Test.YtdincfemiignjaaFlat
import Derived.Test.YtdincfemiignjaaVoterHealthyW
namespace Go.Proofs.Ytdincfemiignjaa.voterHealthy
open Go.ChangeShapes Go.WideShapes Go.ChangeAt Go.RowKit
set_option linter.unusedVariables false

theorem own : ownKnob Try.prog.godebug = none := by kernel_rfl
theorem laidOut : laidOutB Try.prog = true := by kernel_rfl

set_option maxRecDepth 100000 in
theorem lifted (os : Os) (started : os.Started) (H : Type) (enc : TypeId × Value → H) :
    ReturnsInHanded {} Try.checked os 6 .any (Rows.voterHealthySpec.pre6 enc Try.prog Try.f6 Rows.voterHealthyRow.domain false) (Rows.voterHealthySpec.post enc Try.prog Try.f6 false true false false) := by
  refine returnsInHanded_of_change (C := Try.checked) own started (by kernel_rfl) Try.func6
    (ChangeSpec.witness6 (enc := enc) (C := Try.checked) false ⟨#[], #[.agg #[.int .i64 0, .int .i64 0, .int .i64 0, .int .i64 0, .int .i64 0, .int .i64 0, .int .i64 0], .int .u8 0, .slice none 0 0], []⟩ 8 (by kernel_rfl) (by kernel_rfl) (by kernel_rfl) (by kernel_rfl)) ?_
  intro W base args ds gs before hval0 hW hcnd _
  have hval : ∀ (j : Nat) t v, Try.f6.params[j]? = some t → args[j]? = some v → Value.okWide Try.prog W .any base t v := hval0
  have hW' := hW
  obtain ⟨p, q, hA0, hV, rfl, hfz, hnd⟩ := hW
  have hA : DataW.TrodAll enc Try.prog W 0 (fun _ => true) true Try.f6.params.toList args.toList ds p := hA0
  rw [Try.params6] at hA hval
  obtain ⟨v0, vs0, d0, ds0, p0, q0, hargs, rfl, rfl, h0, r_0⟩ := trodAll_cons hA
  obtain ⟨v1, vs1, d1, ds1, p1, q1, rfl, rfl, rfl, h1, r_1⟩ := trodAll_cons r_0
  obtain ⟨v2, vs2, d2, ds2, p2, q2, rfl, rfl, rfl, h2, r_2⟩ := trodAll_cons r_1
  obtain ⟨rfl, rfl, rfl⟩ := trodAll_nil r_2
  obtain rfl : args = #[v0, v1, v2] := by cases args; simp_all
  obtain ⟨rfl, rfl⟩ := trodVars_none hV
  have k0 := h0
  have lt0 : ∀ x ∈ p0, x.block < W.heap.size := by obtain ⟨m, hm⟩ := k0; exact DataW.trod_lt m _ _ _ hm
  obtain ⟨cs0i0, rfl, f0i0⟩ := open_flat (n := 6) (ks := [some .i64, some .i64, some .i64, some .i64, some .i64, some .i64, some .i64]) (by kernel_rfl) (.inl ⟨_, Try.underlying24⟩) (hval 0 24 v0 rfl rfl) h0
  obtain ⟨a0x0, cs0i1, rfl, w0x0, f0i1⟩ := flat_int f0i0
  obtain ⟨a0x1, cs0i2, rfl, w0x1, f0i2⟩ := flat_int f0i1
  obtain ⟨a0x2, cs0i3, rfl, w0x2, f0i3⟩ := flat_int f0i2
  obtain ⟨a0x3, cs0i4, rfl, w0x3, f0i4⟩ := flat_int f0i3
  obtain ⟨a0x4, cs0i5, rfl, w0x4, f0i5⟩ := flat_int f0i4
  obtain ⟨a0x5, cs0i6, rfl, w0x5, f0i6⟩ := flat_int f0i5
  obtain ⟨a0x6, cs0i7, rfl, w0x6, f0i7⟩ := flat_int f0i6
  obtain rfl := flat_nil f0i7
  obtain ⟨a1, rfl, rfl, rfl, w1⟩ := open_int Try.underlying5 (hval 1 5 v1 rfl rfl) h1
  have k2 := h2
  have lt2 : ∀ x ∈ p2, x.block < W.heap.size := by obtain ⟨m, hm⟩ := k2; exact DataW.trod_lt m _ _ _ hm
  obtain ⟨a2, len2, cap2, D2, rfl, r2⟩ := open_rows (n := 6) (ks := [some .i64, some .i64, some .i64, some .i64, none, none, none]) (by kernel_rfl) (by kernel_rfl) Try.underlying48 (hval 2 48 v2 rfl rfl) h2
  clear hA0 hval0
  refine (voterHealthy_walk a0x0 a0x1 a0x2 a0x3 a0x4 a0x5 a0x6 a1 a2 len2 cap2 D2 W w0x0 w0x1 w0x2 w0x3 w0x4 w0x5 w0x6 w1 r2).mono fun e W' ⟨he, bel⟩ => ?_
  subst he
  exact ⟨_, rfl, _, _, _, [], _, [], hW', trodAll_mk1 (shut_bool Try.underlying4 _), (trodAll_cons_mk (Below.trod laidOut (by kernel_rfl) (of_decide_eq_true (by kernel_rfl)) k0 bel lt0) (trodAll_cons_mk (shut_int Try.underlying5 w1) (trodAll_cons_mk (Below.trod laidOut (by kernel_rfl) (of_decide_eq_true (by kernel_rfl)) k2 bel lt2) trodAll_mk0))), rfl, bel.frame _, fun h => by cases h⟩

theorem over : Rows.voterHealthyRow.holds Try.pinned (OpenSpec.ofChange Rows.voterHealthySpec) :=
  OpenClaim.holds_of_wide 6 Try.f6 rfl rfl rfl rfl rfl rfl rfl ⟨rfl, rfl, rfl, rfl, rfl⟩ rfl rfl rfl rfl rfl (by kernel_rfl) Try.func6 (by kernel_rfl)
    (of_decide_eq_true (by kernel_rfl)) (by unfold Func.isWrapper; first | (rw [if_pos (by decide +kernel)]; kernel_rfl) | (rw [if_neg (by decide +kernel)]; exact ⟨rfl, rfl⟩))
    (fun os started H enc _ => lifted os started H enc)

/-- THE STATEMENT. -/
theorem proved : Rows.VoterHealthySaid := over
#print axioms proved
end Go.Proofs.Ytdincfemiignjaa.voterHealthy
