-- Written by drive.py, a program of this seat's session, out of the translation.
import Derived.Test.YtbamkkdikeedoaaG0
import Derived.Test.YtbamkkdikeedoaaGRel
import Derived.Test.YtbamkkdikeedoaaHandCz
namespace Go.Proofs.Ytbamkkdikeedoaa.G
open Go.RowKit Go.Proofs.YtbamkkdikeedoaaW.PrintWords Go.Proofs.YtbamkkdikeedoaaW.PrintLast Go.Proofs.YtbamkkdikeedoaaW.PrintMore
attribute [local go_sem] max2_int min2_int max_two min_two max_three min_three max_four min_four   -- for this text's walks alone
set_option linter.unusedVariables false
set_option linter.unusedSimpArgs false

/-! ### source_May: function 32 -/
mutual
def source_May.j0 : Nat → List Int → Int → Bool → List (S26) → List Int → List Int → List Int → List Int → List Int → List (List Int) → Option (List Int)
 | 0, _, _, _, _, _, _, _, _, _, _ => none
 | k + 1, x1, x2, x28, x102000, x102001, x102002, x102003, x102004, x102005, x102006 => if x28 = true then (some ([] : List Int)) else (if 0 ≤ x2 then (if x2 < (x102000.length : Int) then (if ((rd_T26 x102000 x2).f2) ≥ 0 then (if ((rd_T26 x102000 x2).f2) < (x1.length : Int) then (if 0 ≤ ((rd_T26 x102000 x2).f2) then (source_May.j1 k ([] : List Int) ((rd x1 ((rd_T26 x102000 x2).f2)) == ((rd_T26 x102000 x2).f3)) x102000 x102001 x102002 x102003 x102004 x102005 x102006 ((rd_T26 x102000 x2).f0) ((rd_T26 x102000 x2).f1) ((rd_T26 x102000 x2).f2) ((rd_T26 x102000 x2).f3) ((rd_T26 x102000 x2).f4) ((rd_T26 x102000 x2).f5) ((rd_T26 x102000 x2).f6)) else (none)) else (source_May.j1 k ([] : List Int) false x102000 x102001 x102002 x102003 x102004 x102005 x102006 ((rd_T26 x102000 x2).f0) ((rd_T26 x102000 x2).f1) ((rd_T26 x102000 x2).f2) ((rd_T26 x102000 x2).f3) ((rd_T26 x102000 x2).f4) ((rd_T26 x102000 x2).f5) ((rd_T26 x102000 x2).f6))) else (source_May.j1 k ([] : List Int) false x102000 x102001 x102002 x102003 x102004 x102005 x102006 ((rd_T26 x102000 x2).f0) ((rd_T26 x102000 x2).f1) ((rd_T26 x102000 x2).f2) ((rd_T26 x102000 x2).f3) ((rd_T26 x102000 x2).f4) ((rd_T26 x102000 x2).f5) ((rd_T26 x102000 x2).f6))) else (none)) else (none))
def source_May.j1 : Nat → List Int → Bool → List (S26) → List Int → List Int → List Int → List Int → List Int → List (List Int) → Int → Int → Int → Int → Bool → Bool → Bool → Option (List Int)
 | 0, _, _, _, _, _, _, _, _, _, _, _, _, _, _, _, _ => none
 | k + 1, x8, x53, x102000, x102001, x102002, x102003, x102004, x102005, x102006, x105000, x105001, x105002, x105003, x105004, x105005, x105006 => if x53 = true then (if x8.length < 17592186044416 then (source_May.j2 k (x8 ++ [(-1)]) x102000 x102001 x102002 x102003 x102004 x102005 x102006 x105000 x105001 x105002 x105003 x105004 x105005 x105006) else (none)) else (source_May.j2 k x8 x102000 x102001 x102002 x102003 x102004 x102005 x102006 x105000 x105001 x105002 x105003 x105004 x105005 x105006)
def source_May.j2 : Nat → List Int → List (S26) → List Int → List Int → List Int → List Int → List Int → List (List Int) → Int → Int → Int → Int → Bool → Bool → Bool → Option (List Int)
 | 0, _, _, _, _, _, _, _, _, _, _, _, _, _, _, _ => none
 | k + 1, x8, x102000, x102001, x102002, x102003, x102004, x102005, x102006, x105000, x105001, x105002, x105003, x105004, x105005, x105006 => source_May.l0 k x8 x102000 (x102000.length : Int) 0 x105000 x105001 x105002 x105003 x105004 x105005 x105006
def source_May.l0 : Nat → List Int → List (S26) → Int → Int → Int → Int → Int → Int → Bool → Bool → Bool → Option (List Int)
 | 0, _, _, _, _, _, _, _, _, _, _, _ => none
 | k + 1, x8, x58, x59, x60, x105000, x105001, x105002, x105003, x105004, x105005, x105006 => if x60 < x59 then (if 0 ≤ x60 then (if x60 < (x58.length : Int) then (if ((rd_T26 x58 x60).f1) = 2 then (if ((rd_T26 x58 x60).f2) = x105002 then (if ((rd_T26 x58 x60).f3) = x105003 then (if x8.length < 17592186044416 then (source_May.l0 k (x8 ++ [x60]) x58 x59 (wrap64 (x60 + 1)) x105000 x105001 x105002 x105003 x105004 x105005 x105006) else (none)) else (source_May.l0 k x8 x58 x59 (wrap64 (x60 + 1)) x105000 x105001 x105002 x105003 x105004 x105005 x105006)) else (source_May.l0 k x8 x58 x59 (wrap64 (x60 + 1)) x105000 x105001 x105002 x105003 x105004 x105005 x105006)) else (source_May.l0 k x8 x58 x59 (wrap64 (x60 + 1)) x105000 x105001 x105002 x105003 x105004 x105005 x105006)) else (none)) else (none)) else (some x8)
end
def source_May.f (k : Nat) (l0_0 : List (S26)) (l0_1 : List Int) (l0_2 : List Int) (l0_3 : List Int) (l0_4 : List Int) (l0_5 : List Int) (l0_6 : List (List Int)) (l1 : List Int) (a2 : Int) : Option (List Int) := if a2 < 0 then (source_May.j0 k l1 a2 true l0_0 l0_1 l0_2 l0_3 l0_4 l0_5 l0_6) else (if a2 ≥ (l0_0.length : Int) then (source_May.j0 k l1 a2 true l0_0 l0_1 l0_2 l0_3 l0_4 l0_5 l0_6) else (if 0 ≤ a2 then (if a2 < (l0_0.length : Int) then (source_May.j0 k l1 a2 (((rd_T26 l0_0 a2).f1) != 1) l0_0 l0_1 l0_2 l0_3 l0_4 l0_5 l0_6) else (none)) else (none)))
/-! ### source_choices: function 110 -/
def source_choices.l0 : Nat → List Int → List (List Int) → List (S26) → Int → Int → List (S26) → List Int → List Int → List Int → List Int → List Int → List (List Int) → Option ((List (List Int)))
 | 0, _, _, _, _, _, _, _, _, _, _, _, _ => none
 | k + 1, x1, x5, x10, x11, x12, x102000, x102001, x102002, x102003, x102004, x102005, x102006 => if x12 < x11 then (if 0 ≤ x12 then (if x12 < (x10.length : Int) then (if ((rd_T26 x10 x12).f1) = 1 then ((source_May.f k x102000 x102001 x102002 x102003 x102004 x102005 x102006 x1 x12).bind fun t107 => (if x5.length < 5864062014805 then (source_choices.l0 k x1 (x5 ++ [t107]) x10 x11 (wrap64 (x12 + 1)) x102000 x102001 x102002 x102003 x102004 x102005 x102006) else (none))) else (if x5.length < 5864062014805 then (source_choices.l0 k x1 (x5 ++ [(([(-2)] : List Int))]) x10 x11 (wrap64 (x12 + 1)) x102000 x102001 x102002 x102003 x102004 x102005 x102006) else (none))) else (none)) else (none)) else (some x5)
def source_choices.f (k : Nat) (l0_0 : List (S26)) (l0_1 : List Int) (l0_2 : List Int) (l0_3 : List Int) (l0_4 : List Int) (l0_5 : List Int) (l0_6 : List (List Int)) (l1 : List Int) : Option ((List (List Int))) := source_choices.l0 k l1 ([] : List (List Int)) l0_0 (l0_0.length : Int) 0 l0_0 l0_1 l0_2 l0_3 l0_4 l0_5 l0_6
/-! ### source_Fits: function 42 -/
/-! ### source_Rf: function 64 -/
end Go.Proofs.Ytbamkkdikeedoaa.G
