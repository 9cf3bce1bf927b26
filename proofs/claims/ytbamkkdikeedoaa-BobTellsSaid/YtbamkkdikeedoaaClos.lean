/- Plain: closures of relations as matrices: by Warshall's way, and by longer and longer ways. -/
import Derived.Test.YtbamkkdikeedoaaBits
namespace Go.Proofs.Ytbamkkdikeedoaa.G

def seqM (n : Nat) (A B : Nat → Nat → Bool) : Nat → Nat → Bool := fun i k => (List.range n).any fun j => A i j && B j k
theorem seqM_iff {n : Nat} {A B : Nat → Nat → Bool} {i k : Nat} : seqM n A B i k = true ↔ ∃ j, j < n ∧ A i j = true ∧ B j k = true := by
 simp [seqM]
end Go.Proofs.Ytbamkkdikeedoaa.G
