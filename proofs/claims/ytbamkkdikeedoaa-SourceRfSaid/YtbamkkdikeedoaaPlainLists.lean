/- Plain: lists that are the same, and lists of these. -/
import Derived.Test.YtbamkkdikeedoaaG0
import Derived.Test.YtbamkkdikeedoaaGCupolaref01
import Derived.Test.YtbamkkdikeedoaaHandCz
import Derived.Test.YtbamkkdikeedoaaPlainSource
namespace Go.Proofs.Ytbamkkdikeedoaa.Src
open Go.RowKit Go.Proofs.Ytbamkkdikeedoaa.G Go.Proofs.YtbamkkdikeedoaaW.PrintWords Go.Proofs.YtbamkkdikeedoaaW.PrintLast Go.Proofs.YtbamkkdikeedoaaW.PrintMore
theorem all_small (c : List (List Int)) : (allT c).length ≤ 20000 ∧ ∀ r ∈ allT c, r.length ≤ c.length := by
  unfold allT
  cases hm : manyT c 1 with
  | none => simp
  | some m =>
    simp only
    split
    · simp
    · obtain ⟨h1, h2⟩ := manyT_tell _ _ _ hm []
      have h3 := h2 (by omega) (by omega)
      refine ⟨by omega, ?_⟩
      have : ∀ (c : List (List Int)) (a : List Int), ∀ r ∈ tellT c a, r.length = a.length + c.length := by
        intro c
        induction c with
        | nil => intro a r hr; simp only [tellT, List.mem_singleton] at hr; subst hr; simp
        | cons l ls ih =>
          intro a r hr
          simp only [tellT, List.mem_flatMap] at hr
          obtain ⟨n, _, hr⟩ := hr
          have := ih _ r hr
          rw [this, List.length_append, List.length_singleton, List.length_cons]; omega
      intro r hr
      have := this c [] r hr
      simp at this
      omega
end Go.Proofs.Ytbamkkdikeedoaa.Src
