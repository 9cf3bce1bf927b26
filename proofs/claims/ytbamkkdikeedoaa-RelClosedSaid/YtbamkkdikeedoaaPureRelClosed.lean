/- It is proved that closed twice is closed once, and what is acyclic: the law RelClosed of layer 5 answers true for every input, by its plain form. Conditions: none beyond the row's own. -/
import Derived.Test.YtbamkkdikeedoaaGRelClosed
import Derived.Test.YtbamkkdikeedoaaShown05
import Derived.Test.YtbamkkdikeedoaaAlg
namespace Go.Proofs.Ytbamkkdikeedoaa.Pure
open Go.RowKit Go.Proofs.Ytbamkkdikeedoaa.G Go.Proofs.YtbamkkdikeedoaaW.PrintWords Go.Proofs.YtbamkkdikeedoaaW.PrintLast Go.Proofs.YtbamkkdikeedoaaW.PrintMore
theorem RelClosed : cupolalaw05_RelClosed.Pure := by
  intro a f _ _ hwa hwf
  have hf := wf_u32 hwf
  refine Ev.rounds (g := fun k => cupolalaw05_RelClosed.f k a f) ?_
  unfold cupolalaw05_RelClosed.f
  refine Ev.bind shown05_ev ?_
  by_cases h : (a.length : Int) > 32
  · exact Ev.pos h (Ev.now _)
  · have hn : a.length ≤ 32 := by omega
    have hs := sz_full hn
    generalize a.length = n at *
    have so : ∀ M, sz (ofM n M) = n := sz_ofM hn
    have hp : ∀ i k, i < n → k < n → mat (ofM n (plus n (mat a))) i k = plus n (mat a) i k := fun i k hi hk => mat_in hn hi hk
    have hpp : plus n (mat (ofM n (plus n (mat a)))) = plus n (mat a) := by rw [plus_congr hp, plus_plus]
    refine Ev.neg h (Ev.bind (plus_at hs) (Ev.bind (only_at hs f hf) (Ev.pos rfl (Ev.bind (plus_at (so _)) (Ev.bind (same_ev _ _) ?_)))))
    rw [hpp, same_self]
    refine Ev.pos rfl (Ev.bindv (or_at (so _) hs) (Ev.bind (same_ev _ _) ?_))
    rw [same_of (so _) (so _) (fun i k hi hk => by
      rw [mat_in hn hi hk, hp i k hi hk]
      by_cases hm : mat a i k = true
      · rw [plus_has hi hk hm]; simp
      · simp [hm])]
    refine Ev.pos rfl (Ev.bindv (seq_at (so _) (so _)) (Ev.bindv (or_at (so _) (so _)) (Ev.bind (same_ev _ _) ?_)))
    rw [same_of (so _) (so _) (fun i k hi hk => by
      rw [mat_in hn hi hk, mat_in hn hi hk, mat_in hn hi hk]
      by_cases hm : seqM n (mat (ofM n (plus n (mat a)))) (mat (ofM n (plus n (mat a)))) i k = true
      · obtain ⟨j, hj, h1, h2⟩ := seqM_iff.1 hm
        rw [hp i j hi hj] at h1
        rw [hp j k hj hk] at h2
        rw [plus_trans h1 h2]; rfl
      · simp [hm])]
    have tail : Ev (fun m => (rel_Inv.f m a).bind fun t => (rel_Acyclic.f m t).bind fun x => (rel_Acyclic.f m a).bind fun y => if (x == y) = true then (rel_Acyclic.f m (ofM n (plus n (mat a)))).bind fun x => (rel_Acyclic.f m a).bind fun y => some (x == y) else some false) true := by
      refine Ev.bind (inv_at hs) (Ev.bind (acyclic_at (so _)) (Ev.bind (acyclic_at hs) ?_))
      rw [acy_congr (M := mat (ofM n fun i k => mat a k i)) (M' := fun i k => mat a k i) (fun i k hi hk => mat_in hn hi hk), acy_turn]
      refine Ev.pos (by simp) (Ev.bind (acyclic_at (so _)) (Ev.bind (acyclic_at hs) ?_))
      rw [acy_congr hp, acy_plus, show (acy n (mat a) == acy n (mat a)) = true from by simp]
      exact Ev.now _
    refine Ev.pos rfl (Ev.bind (acyclic_at hs) ?_)
    by_cases hc : acy n (mat a) = true
    · refine Ev.pos hc (Ev.bind (acyclic_at (so _)) ?_)
      rw [acy_mono (M := mat a) (fun i k hi hk hm => by rw [mat_in hn hi hk] at hm; simp only [Bool.and_eq_true] at hm; exact hm.1) hc]
      exact Ev.pos rfl tail
    · exact Ev.neg hc tail
end Go.Proofs.Ytbamkkdikeedoaa.Pure
