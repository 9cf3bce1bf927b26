/- It is proved that a relation in part, and then in another part, is in both parts: the law RelOnly of layer 5 answers true for every input, by its plain form. Conditions: none beyond the row's own. -/
import Derived.Test.YtbamkkdikeedoaaGRelOnly
import Derived.Test.YtbamkkdikeedoaaShown05
import Derived.Test.YtbamkkdikeedoaaAlg
namespace Go.Proofs.Ytbamkkdikeedoaa.Pure
open Go.RowKit Go.Proofs.Ytbamkkdikeedoaa.G Go.Proofs.YtbamkkdikeedoaaW.PrintWords Go.Proofs.YtbamkkdikeedoaaW.PrintLast Go.Proofs.YtbamkkdikeedoaaW.PrintMore
theorem tb_every (k : Nat) (h : k < 32) : tb 4294967295 k = true := by
  rw [show (4294967295 : Int) = mask 32 from rfl, tb_mask (Nat.le_refl _)]; simp [h]
theorem RelOnly : cupolalaw05_RelOnly.Pure := by
  intro a f t g u _ _ hwa hwf hwt hwg hwu
  have hf := wf_u32 hwf
  have ht := wf_u32 hwt
  have hg := wf_u32 hwg
  have he : U32 4294967295 := ⟨by decide, by decide⟩
  refine Ev.rounds (g := fun k => cupolalaw05_RelOnly.f k a f t g u) ?_
  unfold cupolalaw05_RelOnly.f
  refine Ev.bind shown05_ev ?_
  by_cases h : (a.length : Int) > 32
  · exact Ev.pos h (Ev.now _)
  · have hn : a.length ≤ 32 := by omega
    have hs := sz_full hn
    generalize a.length = n at *
    have so : ∀ M, sz (ofM n M) = n := sz_ofM hn
    refine Ev.neg h (Ev.bind (only_at hs t hf) (Ev.pos rfl (Ev.bind (only_at (so _) u hg) (Ev.bind (only_at hs _ (bits_u32 _ _ _)) (Ev.bind (same_ev _ _) ?_)))))
    rw [same_of (so _) (so _) (fun i k hi hk => by
      rw [mat_in hn hi hk, mat_in hn hi hk, mat_in hn hi hk, tb_and, tb_and]
      cases mat a i k <;> cases tb f i <;> cases tb t k <;> cases tb g i <;> cases tb u k <;> rfl)]
    refine Ev.pos rfl (Ev.bind (only_at hs _ he) (Ev.bind (same_ev _ _) ?_))
    rw [same_of (so _) hs (fun i k hi hk => by rw [mat_in hn hi hk, tb_every i (by omega), tb_every k (by omega)]; simp)]
    have hc := cross_ev (n : Int) f t hf
    rw [if_pos (by omega), Int.toNat_natCast] at hc
    refine Ev.pos rfl (Ev.bind hc (Ev.bindv (and_at hs (so _)) (Ev.bind (same_ev _ _) ?_)))
    rw [same_of (so _) (so _) (fun i k hi hk => by rw [mat_in hn hi hk, mat_in hn hi hk, mat_in hn hi hk])]
    refine Ev.pos rfl (Ev.bind (inv_at (so _)) (Ev.bind (inv_at hs) (Ev.bind (only_at (so _) f ht) (Ev.bind (same_ev _ _) ?_))))
    rw [same_of (so _) (so _) (fun i k hi hk => by
      rw [mat_in hn hi hk, mat_in hn hi hk, mat_in hn hk hi, mat_in hn hi hk]
      cases mat a k i <;> cases tb f k <;> cases tb t i <;> rfl)]
    exact Ev.now _
end Go.Proofs.Ytbamkkdikeedoaa.Pure
