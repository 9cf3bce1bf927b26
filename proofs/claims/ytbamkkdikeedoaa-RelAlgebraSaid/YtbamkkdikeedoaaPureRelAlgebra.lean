/- It is proved that turned twice is as it was, and how one behind the other is turned and put together: the law RelAlgebra of layer 5 answers true for every input, by its plain form. Conditions: none beyond the row's own. -/
import Derived.Test.YtbamkkdikeedoaaGRelAlgebra
import Derived.Test.YtbamkkdikeedoaaShown05
import Derived.Test.YtbamkkdikeedoaaAlg
namespace Go.Proofs.Ytbamkkdikeedoaa.Pure
open Go.RowKit Go.Proofs.Ytbamkkdikeedoaa.G Go.Proofs.YtbamkkdikeedoaaW.PrintWords Go.Proofs.YtbamkkdikeedoaaW.PrintLast Go.Proofs.YtbamkkdikeedoaaW.PrintMore
theorem main (a b c : List Int) (n : Nat) (hn : n ≤ 32) (ha : sz a = n) (hb : sz b = n) (hc : sz c = n) (hal : a.length = n) : Ev (fun k => cupolalaw05_RelAlgebra.j0 k a b c true false) true := by
  have so : ∀ M, sz (ofM n M) = n := sz_ofM hn
  refine Ev.step (fun k => by rw [cupolalaw05_RelAlgebra.j0]) (Ev.neg (by decide) ?_)
  refine Ev.bindv (or_at ha hb) (Ev.bindv (seq_at ha hb) (Ev.bindv (seq_at (so _) hc) (Ev.pos rfl ?_)))
  refine Ev.bind (inv_at ha) (Ev.bind (inv_at (so _)) (Ev.bind (same_ev _ _) ?_))
  rw [same_of (so _) ha (fun i k hi hk => by rw [mat_in hn hi hk, mat_in hn hk hi])]
  refine Ev.pos rfl (Ev.bindv (seq_at ha hb) (Ev.bind (inv_at (so _)) (Ev.bind (inv_at hb) (Ev.bind (inv_at ha) (Ev.bindv (seq_at (so _) (so _)) (Ev.bind (same_ev _ _) ?_))))))
  rw [same_of (so _) (so _) (fun i k hi hk => by
    rw [mat_in hn hi hk, mat_in hn hk hi, mat_in hn hi hk, Bool.eq_iff_iff, seqM_iff, seqM_iff]
    constructor
    · rintro ⟨j, hj, h1, h2⟩; exact ⟨j, hj, by rw [mat_in hn hi hj]; exact h2, by rw [mat_in hn hj hk]; exact h1⟩
    · rintro ⟨j, hj, h1, h2⟩; rw [mat_in hn hi hj] at h1; rw [mat_in hn hj hk] at h2; exact ⟨j, hj, h2, h1⟩)]
  refine Ev.pos rfl (Ev.bindv (seq_at hb hc) (Ev.bindv (seq_at ha (so _)) (Ev.bind (same_ev _ _) ?_)))
  rw [same_of (so _) (so _) (fun i k hi hk => by
    rw [mat_in hn hi hk, mat_in hn hi hk, Bool.eq_iff_iff, seqM_iff, seqM_iff]
    constructor
    · rintro ⟨j, hj, h1, h2⟩
      rw [mat_in hn hi hj] at h1
      obtain ⟨m, hm, h3, h4⟩ := seqM_iff.1 h1
      exact ⟨m, hm, h3, by rw [mat_in hn hm hk]; exact seqM_iff.2 ⟨j, hj, h4, h2⟩⟩
    · rintro ⟨m, hm, h3, h1⟩
      rw [mat_in hn hm hk] at h1
      obtain ⟨j, hj, h4, h2⟩ := seqM_iff.1 h1
      exact ⟨j, hj, by rw [mat_in hn hi hj]; exact seqM_iff.2 ⟨m, hm, h3, h4⟩, h2⟩)]
  refine Ev.pos rfl (Ev.bindv (seq_at (so _) hc) (Ev.bindv (seq_at ha hc) (Ev.bindv (seq_at hb hc) (Ev.bindv (or_at (so _) (so _)) (Ev.bind (same_ev _ _) ?_)))))
  rw [same_of (so _) (so _) (fun i k hi hk => by
    rw [mat_in hn hi hk, mat_in hn hi hk, mat_in hn hi hk, mat_in hn hi hk, Bool.eq_iff_iff, seqM_iff, Bool.or_eq_true, seqM_iff, seqM_iff]
    constructor
    · rintro ⟨j, hj, h1, h2⟩
      rw [mat_in hn hi hj, Bool.or_eq_true] at h1
      rcases h1 with h1 | h1
      · exact .inl ⟨j, hj, h1, h2⟩
      · exact .inr ⟨j, hj, h1, h2⟩
    · rintro (⟨j, hj, h1, h2⟩ | ⟨j, hj, h1, h2⟩)
      · exact ⟨j, hj, by rw [mat_in hn hi hj, h1]; rfl, h2⟩
      · exact ⟨j, hj, by rw [mat_in hn hi hj, h1]; simp, h2⟩)]
  refine Ev.pos rfl (Ev.bindv (and_at (so _) ha) (Ev.bind (same_ev _ _) ?_))
  rw [same_of (so _) ha (fun i k hi hk => by rw [mat_in hn hi hk, mat_in hn hi hk]; cases mat a i k <;> simp)]
  refine Ev.pos rfl (Ev.pos (by rw [ofM_length, hal]) (Ev.bindv (or_at ha ha) (Ev.bind (same_ev _ _) ?_)))
  rw [same_of (so _) ha (fun i k hi hk => by rw [mat_in hn hi hk]; simp)]
  exact Ev.now _
theorem RelAlgebra : cupolalaw05_RelAlgebra.Pure := by
  intro a b c _ _ _ _ _ _ _ _ _
  refine Ev.rounds (g := fun k => cupolalaw05_RelAlgebra.f k a b c) ?_
  unfold cupolalaw05_RelAlgebra.f
  refine Ev.bind shown05_ev ?_
  have out : Ev (fun k => cupolalaw05_RelAlgebra.j0 k a b c true true) true := Ev.step (fun k => by rw [cupolalaw05_RelAlgebra.j0]) (Ev.pos rfl (Ev.now _))
  by_cases h : (a.length : Int) > 32
  · exact Ev.pos h out
  · refine Ev.neg h ?_
    by_cases h2 : b.length = a.length
    · refine Ev.pos (by omega) ?_
      by_cases h3 : c.length = a.length
      · rw [show ((c.length : Int) != (a.length : Int)) = false from by simp [h3]]
        exact main a b c a.length (by omega) (sz_full (by omega)) (by rw [sz_full (by omega)]; exact h2) (by rw [sz_full (by omega)]; exact h3) rfl
      · rw [show ((c.length : Int) != (a.length : Int)) = true from by simp; omega]
        exact out
    · exact Ev.neg (by omega) out
end Go.Proofs.Ytbamkkdikeedoaa.Pure
