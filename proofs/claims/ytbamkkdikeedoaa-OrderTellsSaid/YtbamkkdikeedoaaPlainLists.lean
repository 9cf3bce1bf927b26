/- Plain: lists that are the same, and lists of these. -/
import Derived.Test.YtbamkkdikeedoaaGCupolaref06l
import Derived.Test.YtbamkkdikeedoaaPlainSource
namespace Go.Proofs.Ytbamkkdikeedoaa.Src
open Go.RowKit Go.Proofs.Ytbamkkdikeedoaa.G Go.Proofs.YtbamkkdikeedoaaW.PrintWords Go.Proofs.YtbamkkdikeedoaaW.PrintLast Go.Proofs.YtbamkkdikeedoaaW.PrintMore
theorem ints_loop (a : List Int) (ha : a.length < 9223372036854775807) : ∀ d i : Nat, i + d = a.length → Ev (fun k => cupolaref01_Ints.l0 k a a (i : Int)) true := by
  intro d
  induction d with
  | zero =>
    intro i hi
    refine Ev.step (fun k => by rw [cupolaref01_Ints.l0]) ?_
    exact neg (by omega) (Ev.now _)
  | succ d ih =>
    intro i hi
    have hw : wrap64 ((i : Int) + 1) = ((i + 1 : Nat) : Int) := by rw [IntWalk.wrap64_in _ (by omega)]; omega
    have h := ih (i + 1) (by omega)
    rw [← hw] at h
    clear hw
    refine Ev.step (fun k => by rw [cupolaref01_Ints.l0]) ?_
    exact pos (by omega) (pos (by omega) (pos (by omega) (pos rfl h)))
theorem ints_same (a : List Int) (ha : a.length < 9223372036854775807) : Ev (fun k => cupolaref01_Ints.f k a a) true := by
  unfold cupolaref01_Ints.f
  exact pos rfl (ints_loop a ha a.length 0 (by omega))
theorem lists_loop (a : List (List Int)) (ha : a.length < 9223372036854775807) (hr : ∀ r ∈ a, r.length < 9223372036854775807) : ∀ d i : Nat, i + d = a.length → Ev (fun k => cupolaref06_Lists.l0 k a a (i : Int)) true := by
  intro d
  induction d with
  | zero =>
    intro i hi
    refine Ev.step (fun k => by rw [cupolaref06_Lists.l0]) ?_
    exact neg (by omega) (Ev.now _)
  | succ d ih =>
    intro i hi
    have hlt : i < a.length := by omega
    have e : rd_L5 a (i : Int) = a[i] := by simp [rd_L5, List.getD_eq_getElem?_getD, List.getElem?_eq_getElem hlt]
    have hs := ints_same a[i] (hr _ (List.getElem_mem hlt))
    have hw : wrap64 ((i : Int) + 1) = ((i + 1 : Nat) : Int) := by rw [IntWalk.wrap64_in _ (by omega)]; omega
    have h := ih (i + 1) (by omega)
    rw [← hw] at h
    clear hw
    refine Ev.step (fun k => by rw [cupolaref06_Lists.l0]) ?_
    rw [e]
    exact pos (by omega) (pos (by omega) (pos (by omega) (Ev.bind hs (pos rfl h))))
theorem lists_same (a : List (List Int)) (ha : a.length < 9223372036854775807) (hr : ∀ r ∈ a, r.length < 9223372036854775807) : Ev (fun k => cupolaref06_Lists.f k a a) true := by
  unfold cupolaref06_Lists.f
  exact pos rfl (lists_loop a ha hr a.length 0 (by omega))
end Go.Proofs.Ytbamkkdikeedoaa.Src
