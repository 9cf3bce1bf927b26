/- Plain: relations that lead along another. -/
import Derived.Test.YtbamkkdikeedoaaPlainJoin
import Derived.Test.YtbamkkdikeedoaaPlainSized
namespace Go.Proofs.Ytbamkkdikeedoaa.Joi
open Go.RowKit Go.Proofs.Ytbamkkdikeedoaa.G Go.Proofs.Ytbamkkdikeedoaa.Src Go.Proofs.YtbamkkdikeedoaaW.PrintWords Go.Proofs.YtbamkkdikeedoaaW.PrintLast Go.Proofs.YtbamkkdikeedoaaW.PrintMore
set_option linter.unusedVariables false
def along (n : Nat) (A B : Nat → Nat → Bool) : Prop := ∀ i k, i < n → k < n → A i k = true → B i k = true
theorem same_and {n : Nat} (hn : n ≤ 32) {s : List Int} (hs : sz s = n) {B : Nat → Nat → Bool} (h : along n (mat s) B) : sameM (ofM n fun i k => mat s i k && B i k) s = true :=
 same_of (n := n) (sz_ofM hn _) hs fun i k hi hk => by
  rw [mat_in hn hi hk]
  cases hm : mat s i k with
  | true => rw [h i k hi hk hm]; rfl
  | false => rfl
theorem and_same {n : Nat} (hn : n ≤ 32) {s : List Int} {B : Nat → Nat → Bool} (h : sameM (ofM n fun i k => mat s i k && B i k) s = true) : along n (mat s) B := by
 intro i k hi hk hm
 have := (sameM_iff _ _).1 h
 rw [sz_ofM hn] at this
 have := this.2 i k hi hk
 rw [mat_in hn hi hk, hm] at this
 simpa using this
theorem acy_up {n : Nat} {M : Nat → Nat → Bool} (h : ∀ i k, i < n → k < n → M i k = true → i < k) : acy n M = true := by
 rw [acy_iff]
 intro i hi
 cases hp : plus n M i i with
 | false => rfl
 | true =>
  have := plus_least (R := fun i k => decide (i < k)) (fun i k hi hk hm => decide_eq_true (h i k hi hk hm)) (fun i j k h1 h2 => by
   have := of_decide_eq_true h1
   have := of_decide_eq_true h2
   exact decide_eq_true (by omega)) hp
  have := of_decide_eq_true this
  omega
theorem seq_along {n : Nat} {A B P : Nat → Nat → Bool} (hT : ∀ i j k, i < n → j < n → k < n → P i j = true → P j k = true → P i k = true) (hA : along n A P) (hB : along n B P) : along n (seqM n A B) P := by
 intro i k hi hk h
 obtain ⟨j, hj, h1, h2⟩ := seqM_iff.1 h
 exact hT i j k hi hj hk (hA i j hi hj h1) (hB j k hj hk h2)
end Go.Proofs.Ytbamkkdikeedoaa.Joi
