/- Plain: closures of relations as matrices: by Warshall's way, and by longer and longer ways. -/
import Derived.Test.YtbamkkdikeedoaaBits
namespace Go.Proofs.Ytbamkkdikeedoaa.G

def wst (M : Nat → Nat → Bool) (j : Nat) : Nat → Nat → Bool := fun i k => M i k || (M i j && M j k)
def war (M : Nat → Nat → Bool) : Nat → Nat → Nat → Bool
 | 0 => M
 | j + 1 => wst (war M j) j
theorem war_least {M R : Nat → Nat → Bool} (h : ∀ i k, M i k = true → R i k = true) (ht : ∀ i j k, R i j = true → R j k = true → R i k = true) : ∀ n i k, war M n i k = true → R i k = true
 | 0, i, k, hm => h i k hm
 | n + 1, i, k, hm => by
  simp only [war, wst, Bool.or_eq_true, Bool.and_eq_true] at hm
  rcases hm with hm | ⟨h1, h2⟩
  ·exact war_least h ht n i k hm
  ·exact ht i n k (war_least h ht n i n h1) (war_least h ht n n k h2)
def plus (n : Nat) (M : Nat → Nat → Bool) : Nat → Nat → Bool := war (fun i k => decide (i < n) && decide (k < n) && M i k) n
theorem plus_least {n : Nat} {M R : Nat → Nat → Bool} (h : ∀ i k, i < n → k < n → M i k = true → R i k = true) (ht : ∀ i j k, R i j = true → R j k = true → R i k = true) {i k : Nat} (hp : plus n M i k = true) : R i k = true :=
 war_least (fun i k hm => by simp only [Bool.and_eq_true, decide_eq_true_eq] at hm; exact h i k hm.1.1 hm.1.2 hm.2) ht n i k hp
def seqM (n : Nat) (A B : Nat → Nat → Bool) : Nat → Nat → Bool := fun i k => (List.range n).any fun j => A i j && B j k
theorem seqM_iff {n : Nat} {A B : Nat → Nat → Bool} {i k : Nat} : seqM n A B i k = true ↔ ∃ j, j < n ∧ A i j = true ∧ B j k = true := by
 simp [seqM]
end Go.Proofs.Ytbamkkdikeedoaa.G
