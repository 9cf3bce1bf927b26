-- Written by drive.py, a program of this seat's session, out of the translation.
import Derived.Test.YtbamkkdikeedoaaG0
import Derived.Test.YtbamkkdikeedoaaGCupolalaw14
import Derived.Test.YtbamkkdikeedoaaGCupolaref10j
import Derived.Test.YtbamkkdikeedoaaGDob
import Derived.Test.YtbamkkdikeedoaaGRel
import Derived.Test.YtbamkkdikeedoaaHandMade
import Derived.Test.YtbamkkdikeedoaaHandRel
import Derived.Test.YtbamkkdikeedoaaHandCz
namespace Go.Proofs.Ytbamkkdikeedoaa.G
open Go.RowKit Go.Proofs.YtbamkkdikeedoaaW.PrintWords Go.Proofs.YtbamkkdikeedoaaW.PrintLast Go.Proofs.YtbamkkdikeedoaaW.PrintMore
set_option linter.unusedVariables false
set_option linter.unusedSimpArgs false
mutual
def cupolalaw14_DobAlong.l0 : Nat → List (S117) → List Int → List Int → Bool → Int → Option (Bool)
 | 0, _, _, _, _, _ => none
 | k + 1, x0, x1, x2, x7, x8 => if x8 < (x0.length : Int) then (if 0 ≤ x8 then (if (((rd_T117 x0 x8).f0).length : Int) > 8 then (some x7) else (cupolalaw14_DobAlong.l0 k x0 x1 x2 x7 (wrap64 (x8 + 1)))) else (none)) else ((cupolaref10_Join.f k x0).bind fun bt103 => (if bt103.2.2.2.2.2.2.2 = 0 then (if (x2.length : Int) = (bt103.1.length : Int) then (cupolalaw14_DobAlong.j1 k x1 x2 x7 (decide ((x1.length : Int) > 40)) bt103.1 bt103.2.1 bt103.2.2.1 bt103.2.2.2.1 bt103.2.2.2.2.1 bt103.2.2.2.2.2.1 bt103.2.2.2.2.2.2.1) else (cupolalaw14_DobAlong.j1 k x1 x2 x7 true bt103.1 bt103.2.1 bt103.2.2.1 bt103.2.2.2.1 bt103.2.2.2.2.1 bt103.2.2.2.2.2.1 bt103.2.2.2.2.2.2.1)) else (cupolalaw14_DobAlong.j1 k x1 x2 x7 true bt103.1 bt103.2.1 bt103.2.2.1 bt103.2.2.2.1 bt103.2.2.2.2.1 bt103.2.2.2.2.2.1 bt103.2.2.2.2.2.2.1)))
def cupolalaw14_DobAlong.j1 : Nat → List Int → List Int → Bool → Bool → List (S26) → List Int → List Int → List Int → List Int → List Int → List (List Int) → Option (Bool)
 | 0, _, _, _, _, _, _, _, _, _, _, _ => none
 | k + 1, x1, x2, x7, x57, x126000, x126001, x126002, x126003, x126004, x126005, x126006 => if x57 = true then (some x7) else ((cupolalaw14_made.f x126000 x126001 x126002 x126003 x126004 x126005 x126006).bind fun _ => ((dob_Static.f k x126000 x126001 x126002 x126003 x126004 x126005 x126006).bind fun t127 => ((rel_Or.f x126003 x126004).bind fun t130 => ((rel_Or.f x126002 t130).bind fun t133 => ((rel_Pairs.f k t133).bind fun t136 => (cupolalaw14_DobAlong.l1 k x1 x2 x7 t127 0 t136 0 x126000 x126001 x126002 x126003 x126004 x126005 x126006))))))
def cupolalaw14_DobAlong.l1 : Nat → List Int → List Int → Bool → List Int → Int → List (S46) → Int → List (S26) → List Int → List Int → List Int → List Int → List Int → List (List Int) → Option (Bool)
 | 0, _, _, _, _, _, _, _, _, _, _, _, _, _, _ => none
 | k + 1, x1, x2, x7, x12, x14, x15, x16, x127000, x127001, x127002, x127003, x127004, x127005, x127006 => if x16 < (x15.length : Int) then (if 0 ≤ x16 then (if 0 ≤ (IntKind.u64.wrap ((rd_T46 x15 x16).f0)) then (cupolalaw14_DobAlong.l1 k x1 x2 x7 x12 (Go.bits .or .u32 x14 (shl .u32 1 (IntKind.u64.wrap ((rd_T46 x15 x16).f0)))) x15 (wrap64 (x16 + 1)) x127000 x127001 x127002 x127003 x127004 x127005 x127006) else (none)) else (none)) else ((rel_And.f x12 x127001).bind fun t140 => ((rel_Same.f k t140 x12).bind fun t143 => (if t143 = true then ((rel_Only.f k x12 x14 4294967295).bind fun t144 => ((rel_Same.f k t144 x12).bind fun t147 => (if t147 = true then ((rel_Acyclic.f k x12).bind fun t148 => (cupolalaw14_DobAlong.j3 k x1 x2 x7 x12 x14 (!t148) x127000 x127001 x127002 x127003 x127004 x127005 x127006)) else (cupolalaw14_DobAlong.j3 k x1 x2 x7 x12 x14 true x127000 x127001 x127002 x127003 x127004 x127005 x127006)))) else (cupolalaw14_DobAlong.j3 k x1 x2 x7 x12 x14 true x127000 x127001 x127002 x127003 x127004 x127005 x127006))))
def cupolalaw14_DobAlong.j3 : Nat → List Int → List Int → Bool → List Int → Int → Bool → List (S26) → List Int → List Int → List Int → List Int → List Int → List (List Int) → Option (Bool)
 | 0, _, _, _, _, _, _, _, _, _, _, _, _, _ => none
 | k + 1, x1, x2, x7, x12, x14, x107, x127000, x127001, x127002, x127003, x127004, x127005, x127006 => if x107 = true then (some false) else ((dob_Coi.f x127000 x127001 x127002 x127003 x127004 x127005 x127006 x2).bind fun t149 => ((dob_Rfi.f k x127000 x127001 x127002 x127003 x127004 x127005 x127006 x1).bind fun t152 => ((rel_Or.f t149 t152).bind fun t155 => ((rel_And.f t155 x127001).bind fun t158 => ((rel_Same.f k t158 t155).bind fun t161 => (if t161 = true then ((dob_Dob.f k x127000 x127001 x127002 x127003 x127004 x127005 x127006 x1 x2).bind fun t162 => (if x7 = true then ((rel_And.f t162 x127001).bind fun t165 => ((rel_Same.f k t165 t162).bind fun t168 => (if t168 = true then ((rel_Only.f k t162 x14 4294967295).bind fun t169 => ((rel_Same.f k t169 t162).bind fun t172 => (if t172 = true then ((rel_Acyclic.f k t162).bind fun t173 => (if t173 = true then ((rel_And.f x12 t162).bind fun t174 => ((rel_Same.f k t174 x12).bind fun t177 => (some t177))) else (some false))) else (some false)))) else (some false)))) else (some false))) else (some x7)))))))
end
def cupolalaw14_DobAlong.f (k : Nat) (l0 : List (S117)) (l1 : List Int) (l2 : List Int) : Option (Bool) := (cupolalaw14_shown.f k).bind fun t101 => (if (l0.length : Int) > 3 then (some t101) else (cupolalaw14_DobAlong.l0 k l0 l1 l2 t101 0))
end Go.Proofs.Ytbamkkdikeedoaa.G
