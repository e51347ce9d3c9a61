/- Step of the encoder and of the reference, whole. -/
import Derived.Test.YtfigdflhegdjfaaEncT0
import Derived.Test.YtfigdflhegdjfaaEncT1
import Derived.Test.YtfigdflhegdjfaaEncT2
import Derived.Test.YtfigdflhegdjfaaEncT3
import Derived.Test.YtfigdflhegdjfaaEncI0
import Derived.Test.YtfigdflhegdjfaaEncI1
import Derived.Test.YtfigdflhegdjfaaEncI2
import Derived.Test.YtfigdflhegdjfaaEncI3
import Derived.Test.YtfigdflhegdjfaaEncR0
import Derived.Test.YtfigdflhegdjfaaEncR1
import Derived.Test.YtfigdflhegdjfaaEncR2
import Derived.Test.YtfigdflhegdjfaaEncR3
import Derived.Test.YtfigdflhegdjfaaEncJ0
import Derived.Test.YtfigdflhegdjfaaEncJ1
import Derived.Test.YtfigdflhegdjfaaEncJ2
import Derived.Test.YtfigdflhegdjfaaEncJ3
namespace Go.Proofs.Ytfigdflhegdjfaa
open Go.RowKit
set_option linter.unusedVariables false

theorem step_ok (c p ph ct er sl : Int) (kn hi st a b z : Bool) (h : chkB c p = true) (wph : (Lit.int .i64 ph).wf = true) (w0 w : World) (hb : Gar w0 w) :
    Calls Try.prog 15 #[.agg #[.int .i64 c, .int .i64 p], .agg #[.int .i64 ph, .int .i64 ct, .int .i64 er, .int .i64 sl, .bool kn, .bool hi, .bool st], .agg #[.bool a, .bool b, .bool z]] w fun e w' =>
      e = .returned (.tuple #[.agg #[.int .i64 (phs a b), .int .i64 (stC (c * p) ph ct kn hi st a b z), .int .i64 (stE ph er st a b), .int .i64 (stS (c * p) ph ct sl kn hi st a b z), .bool (stK kn hi st z), .bool z, .bool true], .nilIface]) ∧ Gar w0 w' := by
  cases st
  · have e1 : stC (c * p) ph ct kn hi false a b z = 0 := by unfold stC; simp
    have e2 : stE ph er false a b = 0 := by unfold stE; simp
    have e3 : stS (c * p) ph ct sl kn hi false a b z = 0 := by unfold stS; simp
    have e4 : stK kn hi false z = false := by unfold stK; simp
    rw [e1, e2, e3, e4]
    exact step_new c p ph ct er sl kn hi a b z h w0 w hb
  · rcases (show stD ph a b = 0 ∨ stD ph a b = 1 ∨ stD ph a b = 2 ∨ stD ph a b = 3 by unfold stD; omega) with d | d | d | d
    · cases z
      · exact step_low0 c p ph ct er sl kn hi a b false h d wph w0 w hb
      · cases hi
        · cases kn
          · exact step_new0 c p ph ct er sl false false a b true h d wph w0 w hb
          · exact step_idx0 c p ph ct er sl true false a b true h d wph w0 w hb
        · exact step_held0 c p ph ct er sl kn true a b true h d wph w0 w hb
    · cases z
      · exact step_low1 c p ph ct er sl kn hi a b false h d wph w0 w hb
      · cases hi
        · cases kn
          · exact step_new1 c p ph ct er sl false false a b true h d wph w0 w hb
          · exact step_idx1 c p ph ct er sl true false a b true h d wph w0 w hb
        · exact step_held1 c p ph ct er sl kn true a b true h d wph w0 w hb
    · cases z
      · exact step_low2 c p ph ct er sl kn hi a b false h d wph w0 w hb
      · cases hi
        · cases kn
          · exact step_new2 c p ph ct er sl false false a b true h d wph w0 w hb
          · exact step_idx2 c p ph ct er sl true false a b true h d wph w0 w hb
        · exact step_held2 c p ph ct er sl kn true a b true h d wph w0 w hb
    · cases z
      · exact step_low3 c p ph ct er sl kn hi a b false h d wph w0 w hb
      · cases hi
        · cases kn
          · exact step_new3 c p ph ct er sl false false a b true h d wph w0 w hb
          · exact step_idx3 c p ph ct er sl true false a b true h d wph w0 w hb
        · exact step_held3 c p ph ct er sl kn true a b true h d wph w0 w hb

theorem rstep_ok (c p ph ct er sl : Int) (kn hi st a b z : Bool) (h : chkB c p = true) (wph : (Lit.int .i64 ph).wf = true) (w0 w : World) (hb : Gar w0 w) :
    Calls Try.prog 21 #[.agg #[.int .i64 c, .int .i64 p], .agg #[.int .i64 ph, .int .i64 ct, .int .i64 er, .int .i64 sl, .bool kn, .bool hi, .bool st], .agg #[.bool a, .bool b, .bool z]] w fun e w' =>
      e = .returned (.agg #[.int .i64 (phs a b), .int .i64 (stC (c * p) ph ct kn hi st a b z), .int .i64 (stE ph er st a b), .int .i64 (stS (c * p) ph ct sl kn hi st a b z), .bool (stK kn hi st z), .bool z, .bool true]) ∧ Gar w0 w' := by
  cases st
  · have e1 : stC (c * p) ph ct kn hi false a b z = 0 := by unfold stC; simp
    have e2 : stE ph er false a b = 0 := by unfold stE; simp
    have e3 : stS (c * p) ph ct sl kn hi false a b z = 0 := by unfold stS; simp
    have e4 : stK kn hi false z = false := by unfold stK; simp
    rw [e1, e2, e3, e4]
    exact rstep_new c p ph ct er sl kn hi a b z w0 w hb
  · rcases (show stD ph a b = 0 ∨ stD ph a b = 1 ∨ stD ph a b = 2 ∨ stD ph a b = 3 by unfold stD; omega) with d | d | d | d
    · cases z
      · exact rstep_low0 c p ph ct er sl kn hi a b false h d wph w0 w hb
      · cases hi
        · cases kn
          · exact rstep_new0 c p ph ct er sl false false a b true h d wph w0 w hb
          · exact rstep_idx0 c p ph ct er sl true false a b true h d wph w0 w hb
        · exact rstep_held0 c p ph ct er sl kn true a b true h d wph w0 w hb
    · cases z
      · exact rstep_low1 c p ph ct er sl kn hi a b false h d wph w0 w hb
      · cases hi
        · cases kn
          · exact rstep_new1 c p ph ct er sl false false a b true h d wph w0 w hb
          · exact rstep_idx1 c p ph ct er sl true false a b true h d wph w0 w hb
        · exact rstep_held1 c p ph ct er sl kn true a b true h d wph w0 w hb
    · cases z
      · exact rstep_low2 c p ph ct er sl kn hi a b false h d wph w0 w hb
      · cases hi
        · cases kn
          · exact rstep_new2 c p ph ct er sl false false a b true h d wph w0 w hb
          · exact rstep_idx2 c p ph ct er sl true false a b true h d wph w0 w hb
        · exact rstep_held2 c p ph ct er sl kn true a b true h d wph w0 w hb
    · cases z
      · exact rstep_low3 c p ph ct er sl kn hi a b false h d wph w0 w hb
      · cases hi
        · cases kn
          · exact rstep_new3 c p ph ct er sl false false a b true h d wph w0 w hb
          · exact rstep_idx3 c p ph ct er sl true false a b true h d wph w0 w hb
        · exact rstep_held3 c p ph ct er sl kn true a b true h d wph w0 w hb
end Go.Proofs.Ytfigdflhegdjfaa
