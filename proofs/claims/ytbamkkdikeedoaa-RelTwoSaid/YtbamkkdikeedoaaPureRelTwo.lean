/- It is proved that what two relations are together, and whether they are the same, are the document's: the law RelTwo of layer 5 answers true for every input, by its plain form. Conditions: none beyond the row's own. -/
import Derived.Test.YtbamkkdikeedoaaGRelTwo
import Derived.Test.YtbamkkdikeedoaaPlainRef05
import Derived.Test.YtbamkkdikeedoaaShown05
import Derived.Test.YtbamkkdikeedoaaAlg
namespace Go.Proofs.Ytbamkkdikeedoaa.Pure
open Go.RowKit Go.Proofs.Ytbamkkdikeedoaa.G Go.Proofs.YtbamkkdikeedoaaW.PrintWords Go.Proofs.YtbamkkdikeedoaaW.PrintLast Go.Proofs.YtbamkkdikeedoaaW.PrintMore
theorem if_u32 {c : Prop} [Decidable c] (n : Nat) (M : Nat → Nat → Bool) : ∀ x ∈ (if c then ofM n M else []), U32 x := by
  split
  · exact ofM_u32 _ _
  · intro x hx; cases hx
theorem RelTwo : cupolalaw05_RelTwo.Pure := by
  intro a b _ _ hwa _ _ hwb
  have ha := wf_u32s hwa
  have hb := wf_u32s hwb
  refine Ev.rounds (g := fun k => cupolalaw05_RelTwo.f k a b) ?_
  unfold cupolalaw05_RelTwo.f
  refine Ev.bind shown05_ev ?_
  have out : Ev (fun k => cupolalaw05_RelTwo.j0 k a b true true) true := Ev.step (fun k => by rw [cupolalaw05_RelTwo.j0]) (Ev.pos rfl (Ev.now _))
  by_cases h : (a.length : Int) > 100
  · exact Ev.pos h out
  · refine Ev.neg h ?_
    by_cases h2 : (b.length : Int) > 100
    · rw [decide_eq_true h2]; exact out
    · rw [decide_eq_false h2]
      refine Ev.step (fun k => by rw [cupolalaw05_RelTwo.j0]) (Ev.neg (by decide) (Ev.pos rfl ?_))
      refine Ev.bindv rfl (Ev.bind (ror_ev ha hb) (Ev.bind (rsame_ev (if_u32 _ _) (if_u32 _ _)) ?_))
      rw [same_self]
      refine Ev.pos rfl (Ev.bindv rfl (Ev.bind (rand_ev ha hb) (Ev.bind (rsame_ev (if_u32 _ _) (if_u32 _ _)) ?_)))
      rw [same_self]
      refine Ev.pos rfl (Ev.bindv rfl (Ev.bind (rseq_ev ha hb) (Ev.bind (rsame_ev (if_u32 _ _) (if_u32 _ _)) ?_)))
      rw [same_self]
      refine Ev.pos rfl (Ev.bind (same_ev a b) (Ev.bind (rsame_ev ha hb) ?_))
      rw [show (sameM a b == sameM a b) = true from by simp]
      exact Ev.now _
end Go.Proofs.Ytbamkkdikeedoaa.Pure
