-- Written by drive.py, a program of this seat's session, out of the translation.
import Derived.Test.YtbamkkdikeedoaaG0
import Derived.Test.YtbamkkdikeedoaaHandCz
namespace Go.Proofs.Ytbamkkdikeedoaa.G
open Go.RowKit Go.Proofs.YtbamkkdikeedoaaW.PrintWords Go.Proofs.YtbamkkdikeedoaaW.PrintLast Go.Proofs.YtbamkkdikeedoaaW.PrintMore
attribute [local go_sem] max2_int min2_int max_two min_two max_three min_three max_four min_four   -- for this text's walks alone
set_option linter.unusedVariables false
set_option linter.unusedSimpArgs false

/-! ### cupolaref14_Sized: function 71 -/
/-! ### cupolaref14_Mem: function 134 -/
/-! ### cupolaref14_static: function 135 -/
/-! ### cupolaref14_Static: function 83 -/
/-! ### cupolaref14_Memory: function 85 -/
/-! ### cupolaref14_Coi: function 87 -/
/-! ### cupolaref14_Rfi: function 89 -/
/-! ### cupolaref14_Dob: function 81 -/
def cupolaref14_Dob.B1 : List Nat := [0, 1, 0, 4, 15, 0, 0, 127, 255, 511]
def cupolaref14_Dob.B2 : List Nat := [0, 1, 0, 4, 15, 0, 0, 127, 255, 511]
def cupolaref14_Dob.B3 : List Nat := [0, 1, 0, 0, 0, 27, 63, 127, 255]
end Go.Proofs.Ytbamkkdikeedoaa.G
