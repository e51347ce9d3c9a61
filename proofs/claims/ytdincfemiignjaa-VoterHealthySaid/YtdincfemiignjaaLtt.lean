/- A block lies below what stands behind it: the numbers of blocks, added up. No program in sight. -/
import Derived.Test.YtdincfemiignjaaGar
namespace Go.Proofs.Ytdincfemiignjaa
open Go.RowKit
@[go_sem, simp] theorem lt_sum1 (n a : Nat) : (n < n + 1 + a) = True := eq_true (by omega)
@[go_sem, simp] theorem lt_sum2 (n a b : Nat) : (n < n + 1 + a + b) = True := eq_true (by omega)
@[go_sem, simp] theorem lt_sum3 (n a b c : Nat) : (n < n + 1 + a + b + c) = True := eq_true (by omega)
@[go_sem, simp] theorem lt_sum4 (n a b c d : Nat) : (n < n + 1 + a + b + c + d) = True := eq_true (by omega)
@[go_sem, simp] theorem lt_sum5 (n a b c d e : Nat) : (n < n + 1 + a + b + c + d + e) = True := eq_true (by omega)
@[go_sem, simp] theorem lt_sum6 (n a b c d e f : Nat) : (n < n + 1 + a + b + c + d + e + f) = True := eq_true (by omega)
@[go_sem, simp] theorem lt_sum7 (n a b c d e f g : Nat) : (n < n + 1 + a + b + c + d + e + f + g) = True := eq_true (by omega)
@[go_sem, simp] theorem lt_sum8 (n a b c d e f g h : Nat) : (n < n + 1 + a + b + c + d + e + f + g + h) = True := eq_true (by omega)
@[go_sem, simp] theorem lt_sum9 (n a b c d e f g h i : Nat) : (n < n + 1 + a + b + c + d + e + f + g + h + i) = True := eq_true (by omega)
@[go_sem, simp] theorem lt_sum10 (n a b c d e f g h i j : Nat) : (n < n + 1 + a + b + c + d + e + f + g + h + i + j) = True := eq_true (by omega)
@[go_sem, simp] theorem lt_sum11 (n a b c d e f g h i j k : Nat) : (n < n + 1 + a + b + c + d + e + f + g + h + i + j + k) = True := eq_true (by omega)
@[go_sem, simp] theorem lt_sum12 (n a b c d e f g h i j k l : Nat) : (n < n + 1 + a + b + c + d + e + f + g + h + i + j + k + l) = True := eq_true (by omega)
@[go_sem, simp] theorem lt_sum13 (n a b c d e f g h i j k l m : Nat) : (n < n + 1 + a + b + c + d + e + f + g + h + i + j + k + l + m) = True := eq_true (by omega)
@[go_sem, simp] theorem lt_sum14 (n a b c d e f g h i j k l m o : Nat) : (n < n + 1 + a + b + c + d + e + f + g + h + i + j + k + l + m + o) = True := eq_true (by omega)
end Go.Proofs.Ytdincfemiignjaa
