-- Written by drive.py, a program of this seat's session, out of the translation.
import Derived.Test.YtbamkkdikeedoaaG0
import Derived.Test.YtbamkkdikeedoaaGCupolaref05
import Derived.Test.YtbamkkdikeedoaaHandCz
namespace Go.Proofs.Ytbamkkdikeedoaa.G
open Go.RowKit Go.Proofs.YtbamkkdikeedoaaW.PrintWords Go.Proofs.YtbamkkdikeedoaaW.PrintLast Go.Proofs.YtbamkkdikeedoaaW.PrintMore
set_option linter.unusedVariables false
set_option linter.unusedSimpArgs false
def cupolaref14_Memory.T9 : Bool × List (List Nat × List Nat) := (true, [([], []), ([], []), ([], []), ([1, 2], [1, 2]), ([3], [3]), ([4], [4]), ([0, 5], [0, 5]), ([6, 6], [6]), ([7], [7]), ([7], [7]), ([7], [7]), ([9, 10, 7], [7, 9, 10]), ([11, 7], [7, 11]), ([12, 7], [7, 12]), ([8, 13, 7, 7], [7, 8, 13]), ([7, 14], [7, 14])])
def cupolaref14_Memory.B9 : List Nat := [0, 0, 0, 6, 14, 30, 63, 127, 255, 255, 255, 1791, 3839, 7935, 16383, 32767]
theorem cupolaref14_Memory.tab9 : rtab .any (opsOf Try.f85 9) = cupolaref14_Memory.T9 := by kernel_rfl
theorem cupolaref14_Memory.bits9 : waitsOk cupolaref14_Memory.T9.2 cupolaref14_Memory.B9 = true := by kernel_rfl
def cupolaref14_Dob.T1 : Bool × List (List Nat × List Nat) := (true, [([], []), ([0], [0]), ([], []), ([2], [2]), ([1, 3], [1, 3]), ([], []), ([], []), ([5, 6, 4], [5, 6]), ([4, 7, 7], [4, 7]), ([8, 8, 0, 1, 2, 3, 4, 5, 6, 7, 8], [8])])
def cupolaref14_Dob.B1 : List Nat := [0, 1, 0, 4, 15, 0, 0, 127, 255, 511]
theorem cupolaref14_Dob.tab1 : rtab .any (opsOf Try.f81 1) = cupolaref14_Dob.T1 := by kernel_rfl
theorem cupolaref14_Dob.bits1 : waitsOk cupolaref14_Dob.T1.2 cupolaref14_Dob.B1 = true := by kernel_rfl
def cupolaref14_Dob.T2 : Bool × List (List Nat × List Nat) := (true, [([], []), ([0], [0]), ([], []), ([2], [2]), ([1, 3], [1, 3]), ([], []), ([], []), ([5, 6, 4], [5, 6]), ([4, 7, 7], [4, 7]), ([8, 8, 0, 1, 2, 3, 4, 5, 6, 7, 8], [8])])
def cupolaref14_Dob.B2 : List Nat := [0, 1, 0, 4, 15, 0, 0, 127, 255, 511]
theorem cupolaref14_Dob.tab2 : rtab .any (opsOf Try.f81 2) = cupolaref14_Dob.T2 := by kernel_rfl
theorem cupolaref14_Dob.bits2 : waitsOk cupolaref14_Dob.T2.2 cupolaref14_Dob.B2 = true := by kernel_rfl
def cupolaref14_Dob.T3 : Bool × List (List Nat × List Nat) := (true, [([], []), ([0], [0]), ([], []), ([], []), ([], []), ([3, 4, 1], [3, 4]), ([2, 5, 5], [2, 5]), ([1, 6, 6], [1, 6]), ([7, 7, 0, 1, 2, 3, 4, 5, 6, 7], [7])])
def cupolaref14_Dob.B3 : List Nat := [0, 1, 0, 0, 0, 27, 63, 127, 255]
theorem cupolaref14_Dob.tab3 : rtab .any (opsOf Try.f81 3) = cupolaref14_Dob.T3 := by kernel_rfl
theorem cupolaref14_Dob.bits3 : waitsOk cupolaref14_Dob.T3.2 cupolaref14_Dob.B3 = true := by kernel_rfl
end Go.Proofs.Ytbamkkdikeedoaa.G
