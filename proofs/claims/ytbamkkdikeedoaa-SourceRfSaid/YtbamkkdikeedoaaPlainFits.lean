/- Plain: what fits, and that whence an event may read rises. -/
import Derived.Test.YtbamkkdikeedoaaTellLex
namespace Go.Proofs.Ytbamkkdikeedoaa.Src
open Go.RowKit Go.Proofs.Ytbamkkdikeedoaa.G Go.Proofs.YtbamkkdikeedoaaW.PrintWords Go.Proofs.YtbamkkdikeedoaaW.PrintLast Go.Proofs.YtbamkkdikeedoaaW.PrintMore
theorem all_sub (c : List (List Int)) : ∀ f ∈ allT c, f ∈ tellT c [] := by
  intro f hf
  unfold allT at hf
  cases hm : manyT c 1 with
  | none => rw [hm] at hf; simp at hf
  | some m => rw [hm] at hf; simp only at hf; split at hf <;> first | exact hf | simp at hf
end Go.Proofs.Ytbamkkdikeedoaa.Src
