/- Plain: lists that are the same, and lists of these. -/
import Derived.Test.YtbamkkdikeedoaaG0
import Derived.Test.YtbamkkdikeedoaaGCupolaref01
import Derived.Test.YtbamkkdikeedoaaHandCz
import Derived.Test.YtbamkkdikeedoaaPlainSource
namespace Go.Proofs.Ytbamkkdikeedoaa.Src
open Go.RowKit Go.Proofs.Ytbamkkdikeedoaa.G Go.Proofs.YtbamkkdikeedoaaW.PrintWords Go.Proofs.YtbamkkdikeedoaaW.PrintLast Go.Proofs.YtbamkkdikeedoaaW.PrintMore
theorem ints_loop (a : List Int) (ha : a.length < 9223372036854775807) : ∀ d i : Nat, i + d = a.length → Ev (fun k => cupolaref01_Ints.l0 k a a (i : Int)) true := by
 intro d
 induction d with
 | zero =>
  intro i hi
  refine Ev.step (fun k => by rw [cupolaref01_Ints.l0]) ?_
  exact neg (by omega) (Ev.now _)
 | succ d ih =>
  intro i hi
  have hw : wrap64 ((i : Int) + 1) = ((i + 1 : Nat) : Int) := by rw [IntWalk.wrap64_in _ (by omega)]; omega
  have h := ih (i + 1) (by omega)
  rw [← hw] at h
  clear hw
  refine Ev.step (fun k => by rw [cupolaref01_Ints.l0]) ?_
  exact pos (by omega) (pos (by omega) (pos (by omega) (pos rfl h)))
theorem ints_same (a : List Int) (ha : a.length < 9223372036854775807) : Ev (fun k => cupolaref01_Ints.f k a a) true := by
 unfold cupolaref01_Ints.f
 exact pos rfl (ints_loop a ha a.length 0 (by omega))
end Go.Proofs.Ytbamkkdikeedoaa.Src
