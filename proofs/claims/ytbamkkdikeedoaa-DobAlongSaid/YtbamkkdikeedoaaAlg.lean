/- Plain: small laws of relations as matrices. -/
import Derived.Test.YtbamkkdikeedoaaHandRel
import Derived.Test.YtbamkkdikeedoaaBits
namespace Go.Proofs.Ytbamkkdikeedoaa.G
open Go.RowKit Go.Proofs.YtbamkkdikeedoaaW.PrintWords Go.Proofs.YtbamkkdikeedoaaW.PrintLast Go.Proofs.YtbamkkdikeedoaaW.PrintMore

theorem same_of {n : Nat} {a b : List Int} (ha : sz a = n) (hb : sz b = n) (h : ∀ i k, i < n → k < n → mat a i k = mat b i k) : sameM a b = true :=
 (sameM_iff a b).2 ⟨by rw [ha, hb], by rw [ha]; exact h⟩
theorem mat_in {n : Nat} (hn : n ≤ 32) {M : Nat → Nat → Bool} {i k : Nat} (hi : i < n) (hk : k < n) : mat (ofM n M) i k = M i k := by rw [mat_ofM hn]; simp [hi, hk]
theorem or_at {a b : List Int} {n : Nat} (ha : sz a = n) (hb : sz b = n) : rel_Or.f a b = some (ofM n fun i k => mat a i k || mat b i k) := by unfold rel_Or.f; rw [ha, hb, if_pos rfl]
theorem and_at {a b : List Int} {n : Nat} (ha : sz a = n) (hb : sz b = n) : rel_And.f a b = some (ofM n fun i k => mat a i k && mat b i k) := by unfold rel_And.f; rw [ha, hb, if_pos rfl]
theorem seq_at {a b : List Int} {n : Nat} (ha : sz a = n) (hb : sz b = n) : rel_Seq.f a b = some (ofM n (seqM n (mat a) (mat b))) := by unfold rel_Seq.f; rw [ha, hb, if_pos rfl]
theorem only_at {a : List Int} {n : Nat} (ha : sz a = n) {f : Int} (t : Int) (hf : U32 f) : Ev (fun k => rel_Only.f k a f t) (ofM n fun i k => mat a i k && (tb f i && tb t k)) := by have := only_ev a f t hf; rwa [ha] at this
theorem acyclic_at {a : List Int} {n : Nat} (ha : sz a = n) : Ev (fun k => rel_Acyclic.f k a) (acy n (mat a)) := by have := acyclic_ev a; rwa [ha] at this
theorem sz_full {l : List Int} (h : l.length ≤ 32) : sz l = l.length := by unfold sz; rw [if_pos h]
theorem seqM_congr {n : Nat} {A A' B B' : Nat → Nat → Bool} {i k : Nat} (h1 : ∀ j, j < n → A i j = A' i j) (h2 : ∀ j, j < n → B j k = B' j k) : seqM n A B i k = seqM n A' B' i k := by
 rw [Bool.eq_iff_iff, seqM_iff, seqM_iff]
 constructor
 ·rintro ⟨j, hj, a, b⟩; exact ⟨j, hj, by rw [← h1 j hj]; exact a, by rw [← h2 j hj]; exact b⟩
 ·rintro ⟨j, hj, a, b⟩; exact ⟨j, hj, by rw [h1 j hj]; exact a, by rw [h2 j hj]; exact b⟩
theorem acy_iff {n : Nat} {M : Nat → Nat → Bool} : acy n M = true ↔ ∀ i, i < n → plus n M i i = false := by simp [acy]
end Go.Proofs.Ytbamkkdikeedoaa.G
