/- Plain: the ways that are told rise, are as long as there are places, and take each place's from its own. -/
import Derived.Test.YtbamkkdikeedoaaPlainSource
namespace Go.Proofs.Ytbamkkdikeedoaa.Src
open Go.Proofs.Ytbamkkdikeedoaa.G
/-- Alike up to k, and less there. -/
def LexLt (a b : List Int) : Prop := ∃ k, k < a.length ∧ k < b.length ∧ (∀ j, j < k → a[j]? = b[j]?) ∧ ∃ x y, a[k]? = some x ∧ b[k]? = some y ∧ x < y
theorem tell_pre (cs : List (List Int)) : ∀ (a f : List Int), f ∈ tellT cs a → ∃ t, f = a ++ t ∧ t.length = cs.length ∧ ∀ (j : Nat) (c : List Int) (x : Int), cs[j]? = some c → t[j]? = some x → x ∈ c := by
  induction cs with
  | nil =>
    intro a f h
    simp only [tellT, List.mem_singleton] at h
    exact ⟨[], by rw [h, List.append_nil], rfl, fun j c x hj _ => by simp at hj⟩
  | cons l cs ih =>
    intro a f h
    simp only [tellT, List.mem_flatMap] at h
    obtain ⟨n, hn, hf⟩ := h
    obtain ⟨t, h1, h2, h3⟩ := ih _ _ hf
    refine ⟨n :: t, by rw [h1]; simp, by simp [h2], ?_⟩
    intro j c x hj hx
    cases j with
    | zero => simp at hj hx; subst hj; subst hx; exact hn
    | succ j => simp at hj hx; exact h3 j c x hj hx
theorem tell_lex (cs : List (List Int)) (hs : ∀ c ∈ cs, c.Pairwise (· < ·)) : ∀ a : List Int, (tellT cs a).Pairwise LexLt := by
  induction cs with
  | nil => intro a; simp [tellT]
  | cons l cs ih =>
    intro a
    have ih' := ih (fun c hc => hs c (List.mem_cons_of_mem _ hc))
    have hl := hs l (List.mem_cons_self ..)
    simp only [tellT]
    induction l with
    | nil => simp
    | cons n l ihl =>
      rw [List.flatMap_cons, List.pairwise_append]
      rw [List.pairwise_cons] at hl
      refine ⟨ih' _, ihl (fun c hc => by rcases List.mem_cons.1 hc with h | h; · subst h; exact hl.2
                                         · exact hs c (List.mem_cons_of_mem _ h)) hl.2, ?_⟩
      intro f hf g hg
      obtain ⟨t, h1, _, _⟩ := tell_pre cs _ _ hf
      obtain ⟨n', hn', hg'⟩ := List.mem_flatMap.1 hg
      obtain ⟨u, h2, _, _⟩ := tell_pre cs _ _ hg'
      subst h1; subst h2
      refine ⟨a.length, by simp, by simp, ?_, n, n', by simp, by simp, hl.1 _ hn'⟩
      intro j hj
      simp [List.getElem?_append_left, hj]
end Go.Proofs.Ytbamkkdikeedoaa.Src
