/- It is proved that what one relation is with a pair, turned, closed and in part, its pairs, and whether it is acyclic, are the document's: the law RelOne of layer 5 answers true for every input, by its plain form. Conditions: none beyond the row's own. -/
import Derived.Test.YtbamkkdikeedoaaGRelOne
import Derived.Test.YtbamkkdikeedoaaPlainRef05
import Derived.Test.YtbamkkdikeedoaaShown05
import Derived.Test.YtbamkkdikeedoaaWf
namespace Go.Proofs.Ytbamkkdikeedoaa.Pure
open Go.RowKit Go.Proofs.Ytbamkkdikeedoaa.G Go.Proofs.YtbamkkdikeedoaaW.PrintWords Go.Proofs.YtbamkkdikeedoaaW.PrintLast Go.Proofs.YtbamkkdikeedoaaW.PrintMore

theorem pairs_l0 (l : List S46) (hl : l.length < 9223372036854775807) : ∀ d i, i + d = l.length → Ev (fun k => cupolalaw05_pairs.l0 k l l (i : Int)) true := by
  intro d
  induction d with
  | zero =>
    intro i hi
    refine Ev.step (fun k => by rw [cupolalaw05_pairs.l0]) ?_
    exact Ev.neg (by omega) (Ev.now _)
  | succ d ih =>
    intro i hi
    refine Ev.step (fun k => by rw [cupolalaw05_pairs.l0]) ?_
    refine Ev.pos (by omega) (Ev.pos (by omega) (Ev.pos (by omega) (Ev.neg (by simp) ?_)))
    rw [wrap64_succ i (by omega)]
    exact ih (i + 1) (by omega)
theorem pairs_same (l : List S46) (hl : l.length < 9223372036854775807) : Ev (fun k => cupolalaw05_pairs.f k l l) true := by
  unfold cupolalaw05_pairs.f
  exact Ev.pos rfl (pairs_l0 l hl l.length 0 (by omega))
theorem same_self (l : List Int) : sameM l l = true := by simp [sameM]
theorem j2_ev (l : List Int) (hl : l.length ≤ 100) : Ev (fun k => cupolalaw05_RelOne.j2 k l true l true true true) true := by
  have loop : ∀ d i, i + d = l.length → Ev (fun k => cupolalaw05_RelOne.l0 k l true l true true true (i : Int)) true := by
    intro d
    induction d with
    | zero =>
      intro i hi
      refine Ev.step (fun k => by rw [cupolalaw05_RelOne.l0]) ?_
      exact Ev.neg (by omega) (Ev.pos rfl (Ev.pos rfl (Ev.pos rfl (Ev.now _))))
    | succ d ih =>
      intro i hi
      refine Ev.step (fun k => by rw [cupolalaw05_RelOne.l0]) ?_
      refine Ev.pos (by omega) (Ev.pos (by omega) (Ev.pos (by omega) (Ev.pos rfl ?_)))
      rw [wrap64_succ i (by omega)]
      exact ih (i + 1) (by omega)
  exact Ev.step (fun k => by rw [cupolalaw05_RelOne.j2]; rfl) (loop l.length 0 (by omega))

theorem cross_u32 (a f t : Int) : ∀ x ∈ (if 0 ≤ a ∧ a ≤ 32 then ofM a.toNat (fun i k => tb f i && tb t k) else []), U32 x := by
  split
  · exact ofM_u32 _ _
  · intro x hx; cases hx
theorem RelOne : cupolalaw05_RelOne.Pure := by
  intro l a1 a2 a3 a4 _ _ hwl _ _ hw3 hw4
  have hl := wf_u32s hwl
  have h3 := wf_u32 hw3
  have h4 := wf_u32 hw4
  have hsm := prs_small (sz_le l) (mat l)
  refine Ev.rounds (g := fun k => cupolalaw05_RelOne.f k l a1 a2 a3 a4) ?_
  unfold cupolalaw05_RelOne.f
  refine Ev.bind shown05_ev ?_
  by_cases h : (l.length : Int) > 100
  · exact Ev.pos h (Ev.now _)
  · refine Ev.neg h (Ev.bindv rfl (Ev.pos (by simp; omega) (Ev.bindv rfl ?_)))
    rw [List.nil_append]
    refine Ev.bindv (has_eq l hl a1 a2) (Ev.bind (rhas_ev hl a1 a2) (Ev.pos (by simp) (Ev.bind (acyclic_ev l) (Ev.bind (racyclic_ev hl) (Ev.pos (by simp) (Ev.bind (pairs_ev l) (Ev.bind (rpairs_ev hl) (Ev.bind (pairs_same _ (by omega)) ?_))))))))
    refine Ev.step (fun k => by rw [cupolalaw05_RelOne.j0]) ?_
    refine Ev.bind (put_ev l a1 a2) (Ev.bind (rput_ev hl a1 a2) (Ev.bind (rsame_ev (ofM_u32 _ _) (ofM_u32 _ _)) ?_))
    rw [same_self]
    refine Ev.pos rfl (Ev.bind (inv_ev l) (Ev.bind (rinv_ev hl) (Ev.bind (rsame_ev (ofM_u32 _ _) (ofM_u32 _ _)) ?_)))
    rw [same_self]
    refine Ev.pos rfl (Ev.bind (plus_ev l) (Ev.bind (rplus_ev hl) (Ev.bind (rsame_ev (ofM_u32 _ _) (ofM_u32 _ _)) ?_)))
    rw [same_self]
    refine Ev.step (fun k => by rw [cupolalaw05_RelOne.j1]) ?_
    refine Ev.bind (only_ev l a3 a4 h3) (Ev.bind (ronly_ev hl a3 a4 h3 h4) (Ev.bind (rsame_ev (ofM_u32 _ _) (ofM_u32 _ _)) ?_))
    rw [same_self]
    refine Ev.pos rfl (Ev.bind (cross_ev a1 a3 a4 h3) (Ev.bind (rcross_ev a1 a3 a4 h3 h4) (Ev.bind (rsame_ev (cross_u32 _ _ _) (cross_u32 _ _ _)) ?_)))
    rw [same_self]
    exact j2_ev l (by omega)
end Go.Proofs.Ytbamkkdikeedoaa.Pure
