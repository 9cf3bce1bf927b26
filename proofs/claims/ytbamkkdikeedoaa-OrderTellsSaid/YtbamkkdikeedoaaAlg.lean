/- Plain: small laws of relations as matrices. -/
import Derived.Test.YtbamkkdikeedoaaHandRel
import Derived.Test.YtbamkkdikeedoaaWf
namespace Go.Proofs.Ytbamkkdikeedoaa.G
open Go.RowKit Go.Proofs.YtbamkkdikeedoaaW.PrintWords Go.Proofs.YtbamkkdikeedoaaW.PrintLast Go.Proofs.YtbamkkdikeedoaaW.PrintMore

theorem same_self (l : List Int) : sameM l l = true := by simp [sameM]
theorem mat_in {n : Nat} (hn : n ≤ 32) {M : Nat → Nat → Bool} {i k : Nat} (hi : i < n) (hk : k < n) : mat (ofM n M) i k = M i k := by rw [mat_ofM hn]; simp [hi, hk]
theorem or_at {a b : List Int} {n : Nat} (ha : sz a = n) (hb : sz b = n) : rel_Or.f a b = some (ofM n fun i k => mat a i k || mat b i k) := by unfold rel_Or.f; rw [ha, hb, if_pos rfl]
theorem only_at {a : List Int} {n : Nat} (ha : sz a = n) {f : Int} (t : Int) (hf : U32 f) : Ev (fun k => rel_Only.f k a f t) (ofM n fun i k => mat a i k && (tb f i && tb t k)) := by have := only_ev a f t hf; rwa [ha] at this
theorem sz_full {l : List Int} (h : l.length ≤ 32) : sz l = l.length := by unfold sz; rw [if_pos h]
end Go.Proofs.Ytbamkkdikeedoaa.G
