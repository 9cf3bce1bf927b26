/- Plain: what the document's packages cupolaref11 (Rf), cupolaref13 (Within) and cupolaref14 compute, as matrices. -/
import Derived.Test.YtbamkkdikeedoaaGCupolaref14
import Derived.Test.YtbamkkdikeedoaaPlainDob
import Derived.Test.YtbamkkdikeedoaaPlainRef05
namespace Go.Proofs.Ytbamkkdikeedoaa.G
open Go.RowKit Go.Proofs.YtbamkkdikeedoaaW.PrintWords Go.Proofs.YtbamkkdikeedoaaW.PrintLast Go.Proofs.YtbamkkdikeedoaaW.PrintMore
section
variable (l : List S26) (hl : l.length ≤ 32) (n1 n2 n3 n4 n5 : List Int) (n6 : List (List Int))
/-! ### what is kept of the pairs -/
include hl
/-- The pairs of who reads, so far. -/
def rfP (n : Nat) (from_ : List Int) (i : Nat) : List S46 := (List.range i).filterMap fun (j : Nat) => match from_[j]? with | some w => if 0 ≤ w ∧ w < (n : Int) then some (⟨w, (j : Int)⟩ : S46) else none | none => none
omit hl in
theorem rfP_succ (n : Nat) (from_ : List Int) {i : Nat} (h : i < from_.length) : rfP n from_ (i + 1) = rfP n from_ i ++ if 0 ≤ from_[i] ∧ from_[i] < (n : Int) then [(⟨from_[i], (i : Int)⟩ : S46)] else [] := by
  unfold rfP
  rw [List.range_succ, List.filterMap_append]
  congr 1
  simp only [List.filterMap_cons, List.filterMap_nil, List.getElem?_eq_getElem h]
  by_cases hw : 0 ≤ from_[i] ∧ from_[i] < (n : Int)
  · rw [if_pos hw, if_pos hw]
  · rw [if_neg hw, if_neg hw]
omit hl in
theorem rfP_len (n : Nat) (from_ : List Int) (i : Nat) : (rfP n from_ i).length ≤ i := by
  unfold rfP
  exact Nat.le_trans (List.length_filterMap_le _ _) (by simp)
omit hl in
theorem rfP_in (n : Nat) (from_ : List Int) {m : Nat} (hm : m ≤ n) : inR n (rfP n from_ m) := by
  intro p hp
  unfold rfP at hp
  rw [List.mem_filterMap] at hp
  obtain ⟨j, hj, h⟩ := hp
  rw [List.mem_range] at hj
  cases hw : from_[j]? with
  | none => rw [hw] at h; simp at h
  | some w =>
    rw [hw] at h
    simp only at h
    by_cases hc : 0 ≤ w ∧ w < (n : Int)
    · rw [if_pos hc] at h
      obtain ⟨i, rfl⟩ := Int.eq_ofNat_of_zero_le hc.1
      exact ⟨i, j, by omega, by omega, (Option.some.inj h).symm⟩
    · rw [if_neg hc] at h; cases h
omit hl in
theorem rfP_mem (n : Nat) (from_ : List Int) {m a b : Nat} (ha : a < n) (hb : b < m) : memP (rfP n from_ m) a b = rfM from_ a b := by
  rw [Bool.eq_iff_iff]
  unfold memP rfP rfM
  simp only [List.any_eq_true, List.mem_filterMap, List.mem_range, Bool.and_eq_true, decide_eq_true_eq]
  constructor
  · rintro ⟨p, ⟨j, hj, h⟩, h1, h2⟩
    cases hw : from_[j]? with
    | none => rw [hw] at h; simp at h
    | some w =>
      rw [hw] at h
      simp only at h
      by_cases hc : 0 ≤ w ∧ w < (n : Int)
      · rw [if_pos hc] at h
        obtain rfl := Option.some.inj h
        obtain rfl : j = b := by have h3 : (j : Int) = (b : Int) := h2; omega
        rw [hw]
        exact congrArg some h1
      · rw [if_neg hc] at h; cases h
  · intro h
    refine ⟨⟨(a : Int), (b : Int)⟩, ⟨b, hb, ?_⟩, rfl, rfl⟩
    rw [h]
    simp only
    rw [if_pos (by omega)]
theorem rrf_loop (from_ : List Int) (hf : from_.length ≤ 9223372036854775807) : ∀ d i : Nat, i + d = min from_.length l.length →
    Ev (fun k => cupolaref11_Rf.l0 k from_ (rfP l.length from_ i) (l.length : Int) (i : Int)) (ofM l.length (rfM from_)) := by
  have hend : Ev (fun k => (cupolaref05_Made.f k (l.length : Int) (rfP l.length from_ (min from_.length l.length))).bind fun t => some t) (ofM l.length (rfM from_)) := by
    have hb := rfP_len l.length from_ (min from_.length l.length)
    have h := rmade_ev l.length hl (rfP l.length from_ (min from_.length l.length)) (by omega) (rfP_in _ _ (by omega))
    have e : ofM l.length (memP (rfP l.length from_ (min from_.length l.length))) = ofM l.length (rfM from_) := by
      refine ofM_congr fun a b ha hb => ?_
      by_cases hlt : b < from_.length
      · exact rfP_mem _ _ ha (by omega)
      · unfold rfM
        rw [List.getElem?_eq_none (by omega), Bool.eq_iff_iff]
        simp only [reduceCtorEq, decide_false, Bool.false_eq_true, iff_false]
        unfold memP
        rw [List.any_eq_true]
        rintro ⟨p, hp, h2⟩
        simp only [Bool.and_eq_true, decide_eq_true_eq] at h2
        unfold rfP at hp
        rw [List.mem_filterMap] at hp
        obtain ⟨j, hj, h3⟩ := hp
        rw [List.mem_range] at hj
        cases hw : from_[j]? with
        | none => rw [hw] at h3; simp at h3
        | some w =>
          rw [hw] at h3
          simp only at h3
          by_cases hc : 0 ≤ w ∧ w < (l.length : Int)
          · rw [if_pos hc] at h3
            obtain rfl := Option.some.inj h3
            have := h2.2
            simp only at this
            omega
          · rw [if_neg hc] at h3; cases h3
    rw [e] at h
    exact Ev.bind h (Ev.now _)
  intro d
  induction d with
  | zero =>
    intro i hi
    obtain rfl : i = min from_.length l.length := by omega
    refine Ev.step (fun k => by rw [cupolaref11_Rf.l0]) ?_
    by_cases h1 : ((min from_.length l.length : Nat) : Int) < (from_.length : Int)
    · refine Ev.pos h1 ?_
      rw [decide_eq_false (show ¬ ((min from_.length l.length : Nat) : Int) < (l.length : Int) by omega)]
      refine Ev.step (fun k => by rw [cupolaref11_Rf.j1]) ?_
      exact Ev.neg (by decide) hend
    · refine Ev.neg h1 (Ev.step (fun k => by rw [cupolaref11_Rf.j1]) ?_)
      exact Ev.neg (by decide) hend
  | succ d ih =>
    intro i hi
    have h1 : i < from_.length := by omega
    have h2 : i < l.length := by omega
    have e1 : rd from_ (i : Int) = from_[i] := by simp [rd, List.getD_eq_getElem?_getD, List.getElem?_eq_getElem h1]
    have hlen := rfP_len l.length from_ i
    have h := ih (i + 1) (by omega)
    rw [rfP_succ _ _ h1] at h
    refine Ev.step (fun k => by rw [cupolaref11_Rf.l0]) ?_
    refine Ev.pos (by omega) ?_
    rw [decide_eq_true (show (i : Int) < (l.length : Int) by omega)]
    refine Ev.step (fun k => by rw [cupolaref11_Rf.j1]) ?_
    rw [e1, wrap64_succ i (by omega)]
    refine Ev.pos rfl (Ev.pos (by omega) (Ev.pos (by omega) ?_))
    by_cases c1 : from_[i] ≥ 0
    · refine Ev.pos c1 ?_
      by_cases c2 : from_[i] < (l.length : Int)
      · refine Ev.pos c2 (Ev.pos (by omega) ?_)
        rw [if_pos ⟨c1, c2⟩] at h
        exact h
      · refine Ev.neg c2 ?_
        rw [if_neg (fun h9 => c2 h9.2), List.append_nil] at h
        exact h
    · refine Ev.neg c1 ?_
      rw [if_neg (fun h9 => c1 h9.1), List.append_nil] at h
      exact h
theorem rrf_ev (from_ : List Int) (hf : from_.length ≤ 9223372036854775807) : Ev (fun k => cupolaref11_Rf.f k l n1 n2 n3 n4 n5 n6 from_) (ofM l.length (rfM from_)) := by
  unfold cupolaref11_Rf.f
  exact rrf_loop l hl from_ hf (min from_.length l.length) 0 (by omega)
/-! ### what hangs on what, whatever is read -/
omit hl in
omit hl in
end
end Go.Proofs.Ytbamkkdikeedoaa.G
