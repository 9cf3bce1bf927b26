/- By hand over printed lines: rel.both at any function value that computes; rel.Or, rel.And, rel.Seq. -/
import Derived.Test.YtbamkkdikeedoaaGRel
import Derived.Test.YtbamkkdikeedoaaPlainRel
import Derived.Test.YtbamkkdikeedoaaHandCz
namespace Go.Proofs.Ytbamkkdikeedoaa.G
open Go.RowKit Go.Proofs.YtbamkkdikeedoaaW.PrintWords Go.Proofs.YtbamkkdikeedoaaW.PrintLast Go.Proofs.YtbamkkdikeedoaaW.PrintMore
attribute [local go_sem] max2_int min2_int max_two min_two max_three min_three max_four min_four   -- for this text's walks alone
set_option linter.unusedVariables false
set_option linter.unusedSimpArgs false

section
variable {P : Program} {ops : Array Oper} {Q : Exit → Act → World → Prop}
end

/-! ### rel_both: function 121 -/
def rel_both.T7 : Bool × List (List Nat × List Nat) := (true, [([], []), ([], []), ([], []), ([], []), ([], []), ([3, 4], [3, 4]), ([5], [5]), ([], []), ([], []), ([7, 8], [7, 8]), ([9], [9]), ([2, 6, 10], [2, 6, 10]), ([0, 1, 0, 1, 2, 3, 4, 5, 6, 7, 8, 9, 10, 11], [0, 1]), ([12, 11, 11, 0, 1, 2, 3, 4, 5, 6, 7, 8, 9, 10, 11], [11, 12])])
def rel_both.B7 : List Nat := [0, 0, 0, 0, 0, 24, 56, 0, 0, 384, 896, 2044, 4095, 8191]
theorem rel_both.tab7 : rtab .any (opsOf Try.f121 7) = rel_both.T7 := by kernel_rfl
theorem rel_both.bits7 : waitsOk rel_both.T7.2 rel_both.B7 = true := by kernel_rfl
/-! ### rel_Seq_1: function 124 -/
/-! ### rel_Or_1: function 122 -/
/-! ### rel_And_1: function 123 -/
/-! ### what both comes to -/
/-! ### Or, And -/
/-! ### Seq -/
end Go.Proofs.Ytbamkkdikeedoaa.G
