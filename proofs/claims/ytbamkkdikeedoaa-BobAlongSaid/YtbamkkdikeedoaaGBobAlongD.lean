-- Written by drive.py, a program of this seat's session, out of the translation.
import Derived.Test.YtbamkkdikeedoaaG0
import Derived.Test.YtbamkkdikeedoaaGBob
import Derived.Test.YtbamkkdikeedoaaGCupolalaw15
import Derived.Test.YtbamkkdikeedoaaGCupolalaw15D
import Derived.Test.YtbamkkdikeedoaaGDob
import Derived.Test.YtbamkkdikeedoaaGRel
import Derived.Test.YtbamkkdikeedoaaHandMade
import Derived.Test.YtbamkkdikeedoaaHandRel
import Derived.Test.YtbamkkdikeedoaaHandCz
namespace Go.Proofs.Ytbamkkdikeedoaa.G
open Go.RowKit Go.Proofs.YtbamkkdikeedoaaW.PrintWords Go.Proofs.YtbamkkdikeedoaaW.PrintLast Go.Proofs.YtbamkkdikeedoaaW.PrintMore
set_option linter.unusedVariables false
set_option linter.unusedSimpArgs false
mutual
def cupolalaw15_BobAlong.j0 : Nat → List Int → Bool → Bool → List (S26) → List Int → List Int → List Int → List Int → List Int → List (List Int) → Option (Bool)
 | 0, _, _, _, _, _, _, _, _, _, _ => none
 | k + 1, x1, x5, x27, x125000, x125001, x125002, x125003, x125004, x125005, x125006 => if x27 = true then (some x5) else ((cupolalaw15_made.f x125000 x125001 x125002 x125003 x125004 x125005 x125006).bind fun _ => ((bob_Fences.f k x125000 x125001 x125002 x125003 x125004 x125005 x125006).bind fun t126 => ((bob_Orders.f k x125000 x125001 x125002 x125003 x125004 x125005 x125006).bind fun t129 => ((rel_Or.f t126 t129).bind fun t132 => ((dob_Coi.f x125000 x125001 x125002 x125003 x125004 x125005 x125006 x1).bind fun t135 => ((bob_Bob.f k x125000 x125001 x125002 x125003 x125004 x125005 x125006 x1).bind fun t138 => ((rel_And.f t132 x125001).bind fun t141 => ((rel_Same.f k t141 t132).bind fun t144 => (if t144 = true then ((rel_Acyclic.f k t132).bind fun t145 => (if t145 = true then ((rel_And.f t132 t138).bind fun t146 => ((rel_Same.f k t146 t132).bind fun t149 => (cupolalaw15_BobAlong.j1 k x5 t135 t138 (!t149) x125000 x125001 x125002 x125003 x125004 x125005 x125006))) else (cupolalaw15_BobAlong.j1 k x5 t135 t138 true x125000 x125001 x125002 x125003 x125004 x125005 x125006))) else (cupolalaw15_BobAlong.j1 k x5 t135 t138 true x125000 x125001 x125002 x125003 x125004 x125005 x125006))))))))))
def cupolalaw15_BobAlong.j1 : Nat → Bool → List Int → List Int → Bool → List (S26) → List Int → List Int → List Int → List Int → List Int → List (List Int) → Option (Bool)
 | 0, _, _, _, _, _, _, _, _, _, _, _ => none
 | k + 1, x5, x10, x11, x61, x126000, x126001, x126002, x126003, x126004, x126005, x126006 => if x61 = true then (some false) else (if x5 = true then ((rel_And.f x10 x126001).bind fun t150 => ((rel_Same.f k t150 x10).bind fun t153 => (if t153 = true then ((rel_And.f x11 x126001).bind fun t154 => ((rel_Same.f k t154 x11).bind fun t157 => (if t157 = true then ((rel_Acyclic.f k x11).bind fun t158 => (some t158)) else (some false)))) else (some true)))) else (some false))
end
def cupolalaw15_BobAlong.f (k : Nat) (l0 : List (S117)) (l1 : List Int) : Option (Bool) := (cupolalaw15_shown.f k).bind fun t101 => ((cupolalaw15_joined.f k l0).bind fun bt102 => (if bt102.2.2.2.2.2.2.2 = true then (cupolalaw15_BobAlong.j0 k l1 t101 ((l1.length : Int) != (bt102.1.length : Int)) bt102.1 bt102.2.1 bt102.2.2.1 bt102.2.2.2.1 bt102.2.2.2.2.1 bt102.2.2.2.2.2.1 bt102.2.2.2.2.2.2.1) else (cupolalaw15_BobAlong.j0 k l1 t101 true bt102.1 bt102.2.1 bt102.2.2.1 bt102.2.2.2.1 bt102.2.2.2.2.1 bt102.2.2.2.2.2.1 bt102.2.2.2.2.2.2.1)))
end Go.Proofs.Ytbamkkdikeedoaa.G
