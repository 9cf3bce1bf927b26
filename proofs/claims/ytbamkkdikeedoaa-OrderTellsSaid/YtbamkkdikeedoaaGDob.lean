-- Written by drive.py, a program of this seat's session, out of the translation.
import Derived.Test.YtbamkkdikeedoaaG0
import Derived.Test.YtbamkkdikeedoaaGRel
import Derived.Test.YtbamkkdikeedoaaHandCz
import Derived.Test.YtbamkkdikeedoaaPlainRel
import Derived.Test.YtbamkkdikeedoaaHandRel
import Derived.Test.YtbamkkdikeedoaaGSource
import Derived.Test.YtbamkkdikeedoaaHandTell
namespace Go.Proofs.Ytbamkkdikeedoaa.G
open Go.RowKit Go.Proofs.YtbamkkdikeedoaaW.PrintWords Go.Proofs.YtbamkkdikeedoaaW.PrintLast Go.Proofs.YtbamkkdikeedoaaW.PrintMore
attribute [local go_sem] max2_int min2_int max_two min_two max_three min_three max_four min_four   -- for this text's walks alone
set_option linter.unusedVariables false
set_option linter.unusedSimpArgs false

/-! ### dob_Memory: function 84 -/
/-! ### dob_all: function 132 -/
/-! ### dob_to: function 133 -/
/-! ### dob_Static: function 82 -/
def dob_Static.B2 : List Nat := [0, 0, 2, 0, 14, 31, 0, 64, 255, 511]
def dob_Static.B3 : List Nat := [0, 0, 2, 0, 8, 0, 0, 64, 224, 0, 0, 2016, 0, 0, 16352, 32766, 65535, 131071]
/-! ### dob_Coi: function 86 -/
/-! ### dob_Rfi: function 88 -/
/-! ### dob_Dob: function 80 -/
def dob_Dob.B1 : List Nat := [0, 1, 0, 4, 15, 0, 0, 127, 255, 511]
def dob_Dob.B2 : List Nat := [0, 1, 0, 4, 15, 0, 0, 127, 255, 511]
def dob_Dob.B3 : List Nat := [0, 0, 2, 0, 0, 30, 63, 127]
end Go.Proofs.Ytbamkkdikeedoaa.G
