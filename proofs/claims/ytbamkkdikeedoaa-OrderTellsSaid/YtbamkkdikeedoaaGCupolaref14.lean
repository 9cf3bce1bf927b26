-- Written by drive.py, a program of this seat's session, out of the translation.
import Derived.Test.YtbamkkdikeedoaaG0
import Derived.Test.YtbamkkdikeedoaaGCupolaref05
import Derived.Test.YtbamkkdikeedoaaHandCz
namespace Go.Proofs.Ytbamkkdikeedoaa.G
open Go.RowKit Go.Proofs.YtbamkkdikeedoaaW.PrintWords Go.Proofs.YtbamkkdikeedoaaW.PrintLast Go.Proofs.YtbamkkdikeedoaaW.PrintMore
attribute [local go_sem] max2_int min2_int max_two min_two max_three min_three max_four min_four   -- for this text's walks alone
set_option linter.unusedVariables false
set_option linter.unusedSimpArgs false

/-! ### cupolaref14_Sized: function 71 -/
/-! ### cupolaref14_Mem: function 134 -/
/-! ### cupolaref14_static: function 135 -/
/-! ### cupolaref14_Static: function 83 -/
/-! ### cupolaref14_Memory: function 85 -/
def cupolaref14_Memory.T9 : Bool × List (List Nat × List Nat) := (true, [([], []), ([], []), ([], []), ([1, 2], [1, 2]), ([3], [3]), ([4], [4]), ([0, 5], [0, 5]), ([6, 6], [6]), ([7], [7]), ([7], [7]), ([7], [7]), ([9, 10, 7], [7, 9, 10]), ([11, 7], [7, 11]), ([12, 7], [7, 12]), ([8, 13, 7, 7], [7, 8, 13]), ([7, 14], [7, 14])])
def cupolaref14_Memory.B9 : List Nat := [0, 0, 0, 6, 14, 30, 63, 127, 255, 255, 255, 1791, 3839, 7935, 16383, 32767]
theorem cupolaref14_Memory.tab9 : rtab .any (opsOf Try.f85 9) = cupolaref14_Memory.T9 := by kernel_rfl
theorem cupolaref14_Memory.bits9 : waitsOk cupolaref14_Memory.T9.2 cupolaref14_Memory.B9 = true := by kernel_rfl
/-! ### cupolaref14_Coi: function 87 -/
/-! ### cupolaref14_Rfi: function 89 -/
/-! ### cupolaref14_Dob: function 81 -/
def cupolaref14_Dob.B1 : List Nat := [0, 1, 0, 4, 15, 0, 0, 127, 255, 511]
def cupolaref14_Dob.B2 : List Nat := [0, 1, 0, 4, 15, 0, 0, 127, 255, 511]
def cupolaref14_Dob.B3 : List Nat := [0, 1, 0, 0, 0, 27, 63, 127, 255]
end Go.Proofs.Ytbamkkdikeedoaa.G
