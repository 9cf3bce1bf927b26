/- Plain: relations of as many things as there are events. -/
import Derived.Test.YtbamkkdikeedoaaPlainDob
import Derived.Test.YtbamkkdikeedoaaGCupolaref14
namespace Go.Proofs.Ytbamkkdikeedoaa.G
open Go.RowKit Go.Proofs.YtbamkkdikeedoaaW.PrintWords Go.Proofs.YtbamkkdikeedoaaW.PrintLast Go.Proofs.YtbamkkdikeedoaaW.PrintMore
theorem memM_true {l : List S26} {M : Nat → Nat → Bool} {i k : Nat} : memM l M i k = true ↔ (evp (isK [1, 2]) l i = true ∧ evp (isK [1, 2]) l k = true) ∧ M i k = true := by unfold memM; simp
end Go.Proofs.Ytbamkkdikeedoaa.G
