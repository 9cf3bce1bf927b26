/- It is proved that the package order tells what the document's package cupolaref06 tells: the law OrderTells of layer 6 answers true for every input, by its plain form. -/
import Derived.Test.YtbamkkdikeedoaaGOrderTells
import Derived.Test.YtbamkkdikeedoaaPlainRef06
import Derived.Test.YtbamkkdikeedoaaPlainLists
import Derived.Test.YtbamkkdikeedoaaWf
import Derived.Test.YtbamkkdikeedoaaShown06
namespace Go.Proofs.Ytbamkkdikeedoaa.Pure
open Go.RowKit Go.Proofs.Ytbamkkdikeedoaa.G Go.Proofs.Ytbamkkdikeedoaa.Src Go.Proofs.Ytbamkkdikeedoaa.Ord Go.Proofs.YtbamkkdikeedoaaW.PrintWords Go.Proofs.YtbamkkdikeedoaaW.PrintLast Go.Proofs.YtbamkkdikeedoaaW.PrintMore
set_option linter.unusedVariables false
theorem alls (l : List Int) : ∃ L : List (List Int), (L.length ≤ 720 ∧ ∀ p ∈ L, p.length ≤ 6) ∧ Ev (fun k => order_All.f k l) L ∧ Ev (fun k => cupolaref06_All.f k l) L := by
  by_cases h : l.length ≤ 6
  · refine ⟨_, ⟨?_, fun p hp => ?_⟩, all_ev _ h l rfl, rallq_ev _ h l rfl⟩
    · rw [perms_len _ _ rfl]; exact fac_small h
    · rw [(perms_perm _ _ rfl p hp).length_eq]; exact h
  · exact ⟨[], ⟨by simp, by simp⟩, all_big (by omega), rallq_big (by omega)⟩
theorem lins_len (r : List Int) : (lins r).length ≤ 720 ∧ ∀ p ∈ lins r, p.length ≤ 6 := by
  constructor
  · unfold lins
    split
    · simp
    · exact Nat.le_trans (List.length_filter_le _ _) (by rw [perms_len _ _ (R_length _)]; exact fac_small (by omega))
  · intro p hp
    obtain ⟨h, hp, _⟩ := lins_mem hp
    rw [hp.length_eq, R_length]; exact h
theorem first_len (n : Nat) (M : Nat → Nat → Bool) : ∀ (m : Nat) (l : List Int) (d : Int), (firstF n M m l d).1.length ≤ l.length + m
  | 0, l, d => by rw [firstF]; exact Nat.le_refl _
  | m + 1, l, d => by
    rw [firstF]
    cases freeF n M d with
    | nil => simp
    | cons x xs =>
      have := first_len n M m (l ++ [x]) (addD d x)
      rw [List.length_append, List.length_singleton] at this
      simp only
      omega
theorem OrderTells : cupolalaw06_OrderTells.Pure := by
  intro l r a _ _ _ _ _ hr _
  have hr := wf_u32s hr
  refine Ev.rounds (g := fun k => cupolalaw06_OrderTells.f k l r a) ?_
  unfold cupolalaw06_OrderTells.f
  refine Ev.bind shown06_ev ?_
  have out : ∀ b, b = true → Ev (fun k => cupolalaw06_OrderTells.j0 k l r a true b) true := by
    intro b hb
    subst hb
    refine Ev.step (fun k => by rw [cupolalaw06_OrderTells.j0]) ?_
    exact pos rfl (Ev.now _)
  by_cases h1 : (l.length : Int) > 50
  · exact pos h1 (out _ rfl)
  refine neg h1 ?_
  by_cases h2 : (r.length : Int) > 50
  · exact out _ (decide_eq_true h2)
  rw [decide_eq_false h2]
  have h32 := sz_le r
  have hfl := first_len (sz r) (mat r) (sz r) [] 0
  rw [List.length_nil] at hfl
  obtain ⟨L, ⟨hL1, hL2⟩, hA, hB⟩ := alls l
  obtain ⟨hl1, hl2⟩ := lins_len r
  refine Ev.step (fun k => by rw [cupolalaw06_OrderTells.j0]) (neg (by decide) ?_)
  refine Ev.bind (first_ev r) (Ev.bind (rfirst_ev hr) (pos rfl (Ev.bind hA (Ev.bind hB (Ev.bind (lists_same L (by omega) (fun p hp => by have := hL2 p hp; omega)) (pos rfl ?_))))))
  refine Ev.bind (ints_same _ (by omega)) (pos rfl (pos (beq_self_eq_true _) ?_))
  refine Ev.bind (linear_ev r) (Ev.bind (rlinear_ev hr) (Ev.bind (lists_same _ (by omega) (fun p hp => by have := hl2 p hp; omega)) (pos rfl ?_)))
  refine Ev.bind (fits_ev l r) (Ev.bind (rfitsq_ev l hr) (pos (beq_self_eq_true _) ?_))
  refine Ev.bind (of_ev a l (by omega)) (Ev.bind (rof_ev a l (by omega)) ?_)
  have := rsame_ev (ofM_u32 (ofN a) (memP (prsL l))) (ofM_u32 (ofN a) (memP (prsL l)))
  rw [same_self] at this
  exact Ev.bind this (Ev.now _)
end Go.Proofs.Ytbamkkdikeedoaa.Pure
