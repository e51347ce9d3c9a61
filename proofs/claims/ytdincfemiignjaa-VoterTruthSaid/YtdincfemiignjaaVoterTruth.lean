/-
  The law VoterTruth: for every input the Go function 'commutatorlaw40.VoterTruth' returns true and leaves its arguments as they were. Conditions: none.
  This text is the row's step (written by a program of mine after the guide's template); the walk is YtdincfemiignjaaVoterTruthW.
-/
import Derived.Test.YtdincfemiignjaaRows
import Derived.WalkKit
import Derived.ProofKit
import Derived.OpenShut
import Derived.ShutString
import Derived.ChangeOld
import Derived.Below
import Derived.Test.YtdincfemiignjaaFlat
import Derived.Test.YtdincfemiignjaaVoterTruthW
namespace Go.Proofs.Ytdincfemiignjaa.voterTruth
open Go.ChangeShapes Go.WideShapes Go.ChangeAt Go.RowKit
set_option linter.unusedVariables false

theorem own : ownKnob Try.prog.godebug = none := by kernel_rfl
theorem laidOut : laidOutB Try.prog = true := by kernel_rfl

set_option maxRecDepth 100000 in
theorem lifted (os : Os) (started : os.Started) (H : Type) (enc : TypeId × Value → H) :
    ReturnsInHanded {} Try.checked os 5 .any (Rows.voterTruthSpec.pre6 enc Try.prog Try.f5 Rows.voterTruthRow.domain false) (Rows.voterTruthSpec.post enc Try.prog Try.f5 false true false false) := by
  refine returnsInHanded_of_change (C := Try.checked) own started (by kernel_rfl) Try.func5
    (ChangeSpec.witness6 (enc := enc) (C := Try.checked) false ⟨#[], #[.agg #[.int .i64 0, .int .i64 0, .int .i64 0, .int .i64 0, .int .i64 0, .int .i64 0, .int .i64 0], .agg #[.int .i64 0, .int .i64 0, .int .i64 0, .bool false, .bool false, .bool false, .int .i64 0], .agg #[.int .i64 0, .int .i64 0, .int .i64 0, .int .i64 0, .bool false, .bool false, .bool false, .int .i64 0, .int .i64 0, .int .i64 0, .int .i64 0, .bool false, .bool false, .bool false]], []⟩ 8 (by kernel_rfl) (by kernel_rfl) (by kernel_rfl) (by kernel_rfl)) ?_
  intro W base args ds gs before hval0 hW hcnd _
  have hval : ∀ (j : Nat) t v, Try.f5.params[j]? = some t → args[j]? = some v → Value.okWide Try.prog W .any base t v := hval0
  have hW' := hW
  obtain ⟨p, q, hA0, hV, rfl, hfz, hnd⟩ := hW
  have hA : DataW.TrodAll enc Try.prog W 0 (fun _ => true) true Try.f5.params.toList args.toList ds p := hA0
  rw [Try.params5] at hA hval
  obtain ⟨v0, vs0, d0, ds0, p0, q0, hargs, rfl, rfl, h0, r_0⟩ := trodAll_cons hA
  obtain ⟨v1, vs1, d1, ds1, p1, q1, rfl, rfl, rfl, h1, r_1⟩ := trodAll_cons r_0
  obtain ⟨v2, vs2, d2, ds2, p2, q2, rfl, rfl, rfl, h2, r_2⟩ := trodAll_cons r_1
  obtain ⟨rfl, rfl, rfl⟩ := trodAll_nil r_2
  obtain rfl : args = #[v0, v1, v2] := by cases args; simp_all
  obtain ⟨rfl, rfl⟩ := trodVars_none hV
  have k0 := h0
  have lt0 : ∀ x ∈ p0, x.block < W.heap.size := by obtain ⟨m, hm⟩ := k0; exact DataW.trod_lt m _ _ _ hm
  obtain ⟨cs0i0, rfl, f0i0⟩ := open_flat (n := 6) (ks := [some .i64, some .i64, some .i64, some .i64, some .i64, some .i64, some .i64]) (by kernel_rfl) (.inl ⟨_, Try.underlying24⟩) (hval 0 24 v0 rfl rfl) h0
  obtain ⟨a0x0, cs0i1, rfl, w0x0, f0i1⟩ := flat_int f0i0
  obtain ⟨a0x1, cs0i2, rfl, w0x1, f0i2⟩ := flat_int f0i1
  obtain ⟨a0x2, cs0i3, rfl, w0x2, f0i3⟩ := flat_int f0i2
  obtain ⟨a0x3, cs0i4, rfl, w0x3, f0i4⟩ := flat_int f0i3
  obtain ⟨a0x4, cs0i5, rfl, w0x4, f0i5⟩ := flat_int f0i4
  obtain ⟨a0x5, cs0i6, rfl, w0x5, f0i6⟩ := flat_int f0i5
  obtain ⟨a0x6, cs0i7, rfl, w0x6, f0i7⟩ := flat_int f0i6
  obtain rfl := flat_nil f0i7
  have k1 := h1
  have lt1 : ∀ x ∈ p1, x.block < W.heap.size := by obtain ⟨m, hm⟩ := k1; exact DataW.trod_lt m _ _ _ hm
  obtain ⟨cs1i0, rfl, f1i0⟩ := open_flat (n := 6) (ks := [some .i64, some .i64, some .i64, none, none, none, some .i64]) (by kernel_rfl) (.inl ⟨_, Try.underlying27⟩) (hval 1 27 v1 rfl rfl) h1
  obtain ⟨a1x0, cs1i1, rfl, w1x0, f1i1⟩ := flat_int f1i0
  obtain ⟨a1x1, cs1i2, rfl, w1x1, f1i2⟩ := flat_int f1i1
  obtain ⟨a1x2, cs1i3, rfl, w1x2, f1i3⟩ := flat_int f1i2
  obtain ⟨a1x3, cs1i4, rfl, f1i4⟩ := flat_bool f1i3
  obtain ⟨a1x4, cs1i5, rfl, f1i5⟩ := flat_bool f1i4
  obtain ⟨a1x5, cs1i6, rfl, f1i6⟩ := flat_bool f1i5
  obtain ⟨a1x6, cs1i7, rfl, w1x6, f1i7⟩ := flat_int f1i6
  obtain rfl := flat_nil f1i7
  have k2 := h2
  have lt2 : ∀ x ∈ p2, x.block < W.heap.size := by obtain ⟨m, hm⟩ := k2; exact DataW.trod_lt m _ _ _ hm
  obtain ⟨cs2i0, rfl, f2i0⟩ := open_flat (n := 6) (ks := [some .i64, some .i64, some .i64, some .i64, none, none, none, some .i64, some .i64, some .i64, some .i64, none, none, none]) (by kernel_rfl) (.inr ⟨_, _, Try.underlying54⟩) (hval 2 54 v2 rfl rfl) h2
  obtain ⟨a2x0, cs2i1, rfl, w2x0, f2i1⟩ := flat_int f2i0
  obtain ⟨a2x1, cs2i2, rfl, w2x1, f2i2⟩ := flat_int f2i1
  obtain ⟨a2x2, cs2i3, rfl, w2x2, f2i3⟩ := flat_int f2i2
  obtain ⟨a2x3, cs2i4, rfl, w2x3, f2i4⟩ := flat_int f2i3
  obtain ⟨a2x4, cs2i5, rfl, f2i5⟩ := flat_bool f2i4
  obtain ⟨a2x5, cs2i6, rfl, f2i6⟩ := flat_bool f2i5
  obtain ⟨a2x6, cs2i7, rfl, f2i7⟩ := flat_bool f2i6
  obtain ⟨a2x7, cs2i8, rfl, w2x7, f2i8⟩ := flat_int f2i7
  obtain ⟨a2x8, cs2i9, rfl, w2x8, f2i9⟩ := flat_int f2i8
  obtain ⟨a2x9, cs2i10, rfl, w2x9, f2i10⟩ := flat_int f2i9
  obtain ⟨a2x10, cs2i11, rfl, w2x10, f2i11⟩ := flat_int f2i10
  obtain ⟨a2x11, cs2i12, rfl, f2i12⟩ := flat_bool f2i11
  obtain ⟨a2x12, cs2i13, rfl, f2i13⟩ := flat_bool f2i12
  obtain ⟨a2x13, cs2i14, rfl, f2i14⟩ := flat_bool f2i13
  obtain rfl := flat_nil f2i14
  clear hA0 hval0
  refine (voterTruth_walk a0x0 a0x1 a0x2 a0x3 a0x4 a0x5 a0x6 a1x0 a1x1 a1x2 a1x3 a1x4 a1x5 a1x6 a2x0 a2x1 a2x2 a2x3 a2x4 a2x5 a2x6 a2x7 a2x8 a2x9 a2x10 a2x11 a2x12 a2x13 W w0x0 w0x1 w0x2 w0x3 w0x4 w0x5 w0x6 w1x0 w1x1 w1x2 w1x6 w2x0 w2x1 w2x2 w2x3 w2x7 w2x8 w2x9 w2x10).mono fun e W' ⟨he, bel⟩ => ?_
  subst he
  exact ⟨_, rfl, _, _, _, [], _, [], hW', trodAll_mk1 (shut_bool Try.underlying4 _), (trodAll_cons_mk (Below.trod laidOut (by kernel_rfl) (of_decide_eq_true (by kernel_rfl)) k0 bel lt0) (trodAll_cons_mk (Below.trod laidOut (by kernel_rfl) (of_decide_eq_true (by kernel_rfl)) k1 bel lt1) (trodAll_cons_mk (Below.trod laidOut (by kernel_rfl) (of_decide_eq_true (by kernel_rfl)) k2 bel lt2) trodAll_mk0))), rfl, bel.frame _, fun h => by cases h⟩

theorem over : Rows.voterTruthRow.holds Try.pinned (OpenSpec.ofChange Rows.voterTruthSpec) :=
  OpenClaim.holds_of_wide 5 Try.f5 rfl rfl rfl rfl rfl rfl rfl ⟨rfl, rfl, rfl, rfl, rfl⟩ rfl rfl rfl rfl rfl (by kernel_rfl) Try.func5 (by kernel_rfl)
    (of_decide_eq_true (by kernel_rfl)) (by unfold Func.isWrapper; first | (rw [if_pos (by decide +kernel)]; kernel_rfl) | (rw [if_neg (by decide +kernel)]; exact ⟨rfl, rfl⟩))
    (fun os started H enc _ => lifted os started H enc)

/-- THE STATEMENT. -/
theorem proved : Rows.VoterTruthSaid := over
#print axioms proved
end Go.Proofs.Ytdincfemiignjaa.voterTruth
