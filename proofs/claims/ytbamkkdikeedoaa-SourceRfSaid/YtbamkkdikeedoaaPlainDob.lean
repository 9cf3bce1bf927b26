/- Plain: what the program's package dob computes, as matrices. -/
import Derived.Test.YtbamkkdikeedoaaGDob
import Derived.Test.YtbamkkdikeedoaaAlg
namespace Go.Proofs.Ytbamkkdikeedoaa.G
open Go.RowKit Go.Proofs.YtbamkkdikeedoaaW.PrintWords Go.Proofs.YtbamkkdikeedoaaW.PrintLast Go.Proofs.YtbamkkdikeedoaaW.PrintMore

theorem new_at {n : Nat} (hn : n ≤ 32) : rel_New.f (n : Int) = some (ofM n fun _ _ => false) := by rw [new_eq, if_pos (by omega), Int.toNat_natCast]
section
variable {n : Nat} (hn : n ≤ 32) (l : List S26) (n1 n2 n3 n4 n5 : List Int) (n6 : List (List Int))
include hn
omit hn in
/-! ### within threads -/
/-- From which write each event reads. -/
def rfM (from_ : List Int) (i k : Nat) : Bool := decide (from_[k]? = some (i : Int))
theorem rf_loop (from_ : List Int) (hf : from_.length ≤ 9223372036854775807) : ∀ d j : Nat, j + d = from_.length →
    Ev (fun k => source_Rf.l0 k (ofM n fun a b => decide (b < j) && rfM from_ a b) from_ (from_.length : Int) (j : Int)) (ofM n (rfM from_)) := by
  intro d
  induction d with
  | zero =>
    intro j hj
    obtain rfl : j = from_.length := by omega
    refine Ev.step (fun k => by rw [source_Rf.l0]) ?_
    refine Ev.neg (by omega) ?_
    have e : (ofM n fun a b => decide (b < from_.length) && rfM from_ a b) = ofM n (rfM from_) := by
      refine ofM_congr fun a b ha hb => ?_
      by_cases h : b < from_.length
      · simp [h]
      · unfold rfM; rw [List.getElem?_eq_none (by omega)]; simp
    rw [e]
    exact Ev.now _
  | succ d ih =>
    intro j hj
    have hlt : j < from_.length := by omega
    have e1 : rd from_ (j : Int) = from_[j] := by simp [rd, List.getD_eq_getElem?_getD, List.getElem?_eq_getElem hlt]
    refine Ev.step (fun k => by rw [source_Rf.l0]) ?_
    refine Ev.pos (by omega) (Ev.pos (by omega) (Ev.pos (by omega) ?_))
    rw [e1, wrap64_succ j (by omega)]
    have h := put_ev (ofM n fun a b => decide (b < j) && rfM from_ a b) from_[j] (j : Int)
    rw [sz_ofM hn] at h
    have e : (ofM n fun a b => mat (ofM n fun a b => decide (b < j) && rfM from_ a b) a b || (decide ((a : Int) = from_[j]) && decide ((b : Int) = (j : Int)))) = ofM n fun a b => decide (b < j + 1) && rfM from_ a b := by
      refine ofM_congr fun a b ha hb => ?_
      rw [mat_in hn ha hb]
      by_cases h1 : b = j
      · subst h1
        unfold rfM
        rw [List.getElem?_eq_getElem hlt]
        simp only [Nat.lt_irrefl, decide_false, Bool.false_and, Bool.false_or, decide_true, Bool.and_true, Nat.lt_succ_self, Bool.true_and, Option.some.injEq]
        rw [decide_eq_decide]
        exact ⟨fun h => h.symm, fun h => h.symm⟩
      · have h2 : ¬ (b : Int) = (j : Int) := by omega
        rw [show decide (b < j + 1) = decide (b < j) from by rw [decide_eq_decide]; omega]
        simp [h2]
    rw [e] at h
    exact Ev.bind h (ih (j + 1) (by omega))
theorem rf_ev (hl : l.length = n) (from_ : List Int) (hf : from_.length ≤ 9223372036854775807) : Ev (fun k => source_Rf.f k l n1 n2 n3 n4 n5 n6 from_) (ofM n (rfM from_)) := by
  unfold source_Rf.f
  rw [hl]
  refine Ev.bindv (new_at hn) ?_
  have h := rf_loop hn from_ hf from_.length 0 (by omega)
  have e : (ofM n fun a b => decide (b < 0) && rfM from_ a b) = ofM n fun _ _ => false := ofM_congr fun a b _ _ => by simp
  rw [e] at h
  exact h
end
end Go.Proofs.Ytbamkkdikeedoaa.G
