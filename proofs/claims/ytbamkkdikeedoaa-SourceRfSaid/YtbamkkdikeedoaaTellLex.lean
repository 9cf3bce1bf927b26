/- Plain: the ways that are told rise, are as long as there are places, and take each place's from its own. -/
import Derived.Test.YtbamkkdikeedoaaPlainSource
namespace Go.Proofs.Ytbamkkdikeedoaa.Src
open Go.Proofs.Ytbamkkdikeedoaa.G
theorem tell_pre (cs : List (List Int)) : ∀ (a f : List Int), f ∈ tellT cs a → ∃ t, f = a ++ t ∧ t.length = cs.length ∧ ∀ (j : Nat) (c : List Int) (x : Int), cs[j]? = some c → t[j]? = some x → x ∈ c := by
  induction cs with
  | nil =>
    intro a f h
    simp only [tellT, List.mem_singleton] at h
    exact ⟨[], by rw [h, List.append_nil], rfl, fun j c x hj _ => by simp at hj⟩
  | cons l cs ih =>
    intro a f h
    simp only [tellT, List.mem_flatMap] at h
    obtain ⟨n, hn, hf⟩ := h
    obtain ⟨t, h1, h2, h3⟩ := ih _ _ hf
    refine ⟨n :: t, by rw [h1]; simp, by simp [h2], ?_⟩
    intro j c x hj hx
    cases j with
    | zero => simp at hj hx; subst hj; subst hx; exact hn
    | succ j => simp at hj hx; exact h3 j c x hj hx
end Go.Proofs.Ytbamkkdikeedoaa.Src
