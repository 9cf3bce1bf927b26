-- Written by drive.py, a program of this seat's session, out of the translation.
import Derived.Test.YtbamkkdikeedoaaG0
import Derived.Test.YtbamkkdikeedoaaHandCz
namespace Go.Proofs.Ytbamkkdikeedoaa.G
open Go.RowKit Go.Proofs.YtbamkkdikeedoaaW.PrintWords Go.Proofs.YtbamkkdikeedoaaW.PrintLast Go.Proofs.YtbamkkdikeedoaaW.PrintMore
set_option linter.unusedVariables false
set_option linter.unusedSimpArgs false
def rel_Inv.T6 : Bool × List (List Nat × List Nat) := (true, [([], []), ([], []), ([1], [1]), ([0, 2], [0, 2]), ([3], [3]), ([], []), ([5], [5]), ([6], [6]), ([7], [7]), ([4, 8], [4, 8]), ([0, 2, 0, 1, 2, 3, 4, 5, 6, 7, 8, 9], [0, 2]), ([10, 9, 0, 1, 2, 3, 4, 5, 6, 7, 8, 9], [9, 10])])
def rel_Inv.B6 : List Nat := [0, 0, 2, 7, 15, 0, 32, 96, 224, 511, 1023, 2047]
theorem rel_Inv.tab6 : rtab .any (opsOf Try.f50 6) = rel_Inv.T6 := by kernel_rfl
theorem rel_Inv.bits6 : waitsOk rel_Inv.T6.2 rel_Inv.B6 = true := by kernel_rfl
end Go.Proofs.Ytbamkkdikeedoaa.G
