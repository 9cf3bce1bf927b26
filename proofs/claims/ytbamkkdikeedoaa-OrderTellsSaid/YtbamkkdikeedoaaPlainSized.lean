/- Plain: relations of as many things as there are events. -/
import Derived.Test.YtbamkkdikeedoaaGDob
import Derived.Test.YtbamkkdikeedoaaAlg
import Derived.Test.YtbamkkdikeedoaaGCupolaref14
namespace Go.Proofs.Ytbamkkdikeedoaa.G
open Go.RowKit Go.Proofs.YtbamkkdikeedoaaW.PrintWords Go.Proofs.YtbamkkdikeedoaaW.PrintLast Go.Proofs.YtbamkkdikeedoaaW.PrintMore
theorem prs_nil {n : Nat} {M : Nat → Nat → Bool} (h : ∀ i k, i < n → k < n → M i k = false) : prs n M = [] := by
  rw [prs_congr (M' := fun _ _ => false) h]
  unfold prs rowp
  simp
end Go.Proofs.Ytbamkkdikeedoaa.G
