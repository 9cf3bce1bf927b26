-- Written by drive.py, a program of this seat's session, out of the translation.
import Derived.Test.YtbamkkdikeedoaaG0
import Derived.Test.YtbamkkdikeedoaaGCupolaref10j
import Derived.Test.YtbamkkdikeedoaaHandCz
namespace Go.Proofs.Ytbamkkdikeedoaa.G
open Go.RowKit Go.Proofs.YtbamkkdikeedoaaW.PrintWords Go.Proofs.YtbamkkdikeedoaaW.PrintLast Go.Proofs.YtbamkkdikeedoaaW.PrintMore
set_option linter.unusedVariables false
set_option linter.unusedSimpArgs false
def cupolalaw15_joined.l0 : Nat → List (S117) → Int → Option ((List (S26)) × List Int × List Int × List Int × List Int × List Int × (List (List Int)) × Bool)
 | 0, _, _ => none
 | k + 1, x0, x4 => if x4 < (x0.length : Int) then (if 0 ≤ x4 then (if (((rd_T117 x0 x4).f0).length : Int) > 8 then (some (([] : List (S26)), ([] : List Int), ([] : List Int), ([] : List Int), ([] : List Int), ([] : List Int), ([] : List (List Int)), false)) else (cupolalaw15_joined.l0 k x0 (wrap64 (x4 + 1)))) else (none)) else ((cupolaref10_Join.f k x0).bind fun bt103 => (some (bt103.1, bt103.2.1, bt103.2.2.1, bt103.2.2.2.1, bt103.2.2.2.2.1, bt103.2.2.2.2.2.1, bt103.2.2.2.2.2.2.1, (bt103.2.2.2.2.2.2.2 == 0))))
def cupolalaw15_joined.f (k : Nat) (l0 : List (S117)) : Option ((List (S26)) × List Int × List Int × List Int × List Int × List Int × (List (List Int)) × Bool) := if (l0.length : Int) > 3 then (some (([] : List (S26)), ([] : List Int), ([] : List Int), ([] : List Int), ([] : List Int), ([] : List Int), ([] : List (List Int)), false)) else (cupolalaw15_joined.l0 k l0 0)
end Go.Proofs.Ytbamkkdikeedoaa.G
