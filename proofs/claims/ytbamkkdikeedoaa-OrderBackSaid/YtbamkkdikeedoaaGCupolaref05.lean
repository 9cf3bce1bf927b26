-- Written by drive.py, a program of this seat's session, out of the translation.
import Derived.Test.YtbamkkdikeedoaaG0
import Derived.Test.YtbamkkdikeedoaaHandCz
namespace Go.Proofs.Ytbamkkdikeedoaa.G
open Go.RowKit Go.Proofs.YtbamkkdikeedoaaW.PrintWords Go.Proofs.YtbamkkdikeedoaaW.PrintLast Go.Proofs.YtbamkkdikeedoaaW.PrintMore
attribute [local go_sem] max2_int min2_int max_two min_two max_three min_three max_four min_four   -- for this text's walks alone
set_option linter.unusedVariables false
set_option linter.unusedSimpArgs false

/-! ### cupolaref05_Size: function 116 -/
/-! ### cupolaref05_bit: function 117 -/
/-! ### cupolaref05_Has: function 43 -/
/-! ### cupolaref05_Pairs: function 47 -/
/-! ### cupolaref05_power: function 152 -/
/-! ### cupolaref05_Made: function 119 -/
def cupolaref05_Made.T6 : Bool × List (List Nat × List Nat) := (true, [([], []), ([], []), ([], []), ([1, 2], [1, 2]), ([3], [3]), ([4], [4]), ([], []), ([], []), ([], []), ([7, 8], [7, 8]), ([9], [9]), ([10], [10]), ([6, 11], [6, 11]), ([12], [12]), ([], []), ([], []), ([14, 15], [14, 15]), ([16], [16]), ([17], [17]), ([18], [18]), ([13, 19], [13, 19]), ([0, 5, 0, 1, 2, 3, 4, 5, 6, 7, 8, 9, 10, 11, 12, 13, 14, 15, 16, 17, 18, 19, 20], [0, 5]), ([21, 20, 19, 0, 1, 2, 3, 4, 5, 6, 7, 8, 9, 10, 11, 12, 13, 14, 15, 16, 17, 18, 19, 20], [20, 21])])
def cupolaref05_Made.B6 : List Nat := [0, 0, 0, 6, 14, 30, 0, 0, 0, 384, 896, 1920, 4032, 8128, 0, 0, 49152, 114688, 245760, 507904, 1048512, 2097151, 4194303]
theorem cupolaref05_Made.tab6 : rtab .any (opsOf Try.f119 6) = cupolaref05_Made.T6 := by kernel_rfl
theorem cupolaref05_Made.bits6 : waitsOk cupolaref05_Made.T6.2 cupolaref05_Made.B6 = true := by kernel_rfl
/-! ### cupolaref05_Or: function 59 -/
/-! ### cupolaref05_Seq: function 63 -/
/-! ### cupolaref05_Clean: function 118 -/
/-! ### cupolaref05_Plus: function 53 -/
/-! ### cupolaref05_Acyclic: function 45 -/
/-! ### cupolaref05_Same: function 48 -/
/-! ### cupolaref05_Put: function 49 -/
/-! ### cupolaref05_Inv: function 51 -/
def cupolaref05_Inv.T6 : Bool × List (List Nat × List Nat) := (true, [([], []), ([], []), ([], []), ([1, 2], [1, 2]), ([3], [3]), ([4], [4]), ([], []), ([], []), ([6, 7], [6, 7]), ([8], [8]), ([9], [9]), ([5, 10], [5, 10]), ([11], [11]), ([0, 12], [0, 12]), ([13, 13, 0, 1, 2, 3, 4, 5, 6, 7, 8, 9, 10, 11, 12, 13], [0, 13])])
def cupolaref05_Inv.B6 : List Nat := [0, 0, 0, 6, 14, 30, 0, 0, 192, 448, 960, 2046, 4094, 8191, 16383]
theorem cupolaref05_Inv.tab6 : rtab .any (opsOf Try.f51 6) = cupolaref05_Inv.T6 := by kernel_rfl
theorem cupolaref05_Inv.bits6 : waitsOk cupolaref05_Inv.T6.2 cupolaref05_Inv.B6 = true := by kernel_rfl
/-! ### cupolaref05_Only: function 55 -/
/-! ### cupolaref05_Cross: function 57 -/
/-! ### cupolaref05_And: function 61 -/
end Go.Proofs.Ytbamkkdikeedoaa.G
