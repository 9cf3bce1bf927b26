/- Plain: small laws of relations as matrices. -/
import Derived.Test.YtbamkkdikeedoaaHandRel
import Derived.Test.YtbamkkdikeedoaaBits
namespace Go.Proofs.Ytbamkkdikeedoaa.G
open Go.RowKit Go.Proofs.YtbamkkdikeedoaaW.PrintWords Go.Proofs.YtbamkkdikeedoaaW.PrintLast Go.Proofs.YtbamkkdikeedoaaW.PrintMore

theorem mat_in {n : Nat} (hn : n ≤ 32) {M : Nat → Nat → Bool} {i k : Nat} (hi : i < n) (hk : k < n) : mat (ofM n M) i k = M i k := by rw [mat_ofM hn]; simp [hi, hk]
end Go.Proofs.Ytbamkkdikeedoaa.G
