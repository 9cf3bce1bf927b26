/- It is proved that whence any event may read, all ways to read, whether any way may be, and from which writes it reads so, are the document's: the law SourceTells of layer 11 answers true for every input, by its plain form. -/
import Derived.Test.YtbamkkdikeedoaaGSourceTells
import Derived.Test.YtbamkkdikeedoaaPlainRef11
import Derived.Test.YtbamkkdikeedoaaPlainRef14
import Derived.Test.YtbamkkdikeedoaaShown11
import Derived.Test.YtbamkkdikeedoaaOpensAt
namespace Go.Proofs.Ytbamkkdikeedoaa.Pure
open Go.RowKit Go.Proofs.Ytbamkkdikeedoaa.G Go.Proofs.Ytbamkkdikeedoaa.Src Go.Proofs.Ytbamkkdikeedoaa.Opens Go.Proofs.YtbamkkdikeedoaaW.PrintWords Go.Proofs.YtbamkkdikeedoaaW.PrintLast Go.Proofs.YtbamkkdikeedoaaW.PrintMore
set_option linter.unusedVariables false
theorem SourceTells (l : List S26) (wl : ∀ y ∈ l, wf26 y) (_ : l.length ≤ 9223372036854775807) (init : List Int) (wi : ∀ y ∈ init, wfI .i64 y) (hi9 : init.length ≤ 9223372036854775807) (r : Int) (wr : (Lit.int .i64 r).wf = true) (f : List Int) (wf : ∀ y ∈ f, wfI .i64 y) (hf9 : f.length ≤ 9223372036854775807) :
    ∃ k, cupolalaw11_SourceTells.f k l init r f = some true := by
  refine Ev.rounds (g := fun k => cupolalaw11_SourceTells.f k l init r f) ?_
  unfold cupolalaw11_SourceTells.f
  refine Ev.bind shown11_ev ?_
  have out : Ev (fun k => cupolalaw11_SourceTells.j0 k l init r f true true) true := Ev.step (fun k => by rw [cupolalaw11_SourceTells.j0]) (pos rfl (Ev.now _))
  by_cases h24 : (l.length : Int) > 24
  · exact pos h24 out
  refine neg h24 ?_
  by_cases h100 : (f.length : Int) > 100
  · rw [decide_eq_true h100]; exact out
  rw [decide_eq_false h100]
  have hml := mayT_length l init r
  have hs := all_small (chsT l init)
  have hcl : (chsT l init).length = l.length := by unfold chsT; rw [List.length_map]
  refine Ev.step (fun k => by rw [cupolalaw11_SourceTells.j0]) ?_
  refine neg (by decide) (bindv rfl (bindv rfl (pos rfl ?_)))
  refine Ev.bind (may_ev l (by omega) [] [] [] [] [] [] init r) (Ev.bind (rmay_ev l (by omega) [] [] [] [] [] [] init r) (Ev.bind (ints_same _ (by omega)) (pos rfl ?_)))
  refine Ev.bind (all_ev l (by omega) [] [] [] [] [] [] init) (Ev.bind (rall_ev l (by omega) [] [] [] [] [] [] init) (Ev.bind (lists_same _ (by omega) (fun r hr => by have := hs.2 r hr; omega)) (pos rfl ?_)))
  refine Ev.bind (fits_eq l (by omega) [] [] [] [] [] [] init f) (Ev.bind (rfits_eq l (by omega) [] [] [] [] [] [] init f) (pos (by simp) ?_))
  refine Ev.bind (rf_ev (show l.length ≤ 32 by omega) l [] [] [] [] [] [] rfl f hf9) (Ev.bind (rrf_ev l (by omega) [] [] [] [] [] [] f hf9) (Ev.bind (rsame_ev (ofM_u32 _ _) (ofM_u32 _ _)) ?_))
  exact Ev.ofEq (congrArg some (by simp [sameM]))
end Go.Proofs.Ytbamkkdikeedoaa.Pure
