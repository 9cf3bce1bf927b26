/- Plain: what the document's packages cupolaref11 (Rf), cupolaref13 (Within) and cupolaref14 compute, as matrices. -/
import Derived.Test.YtbamkkdikeedoaaGCupolaref14
import Derived.Test.YtbamkkdikeedoaaPlainSized
import Derived.Test.YtbamkkdikeedoaaPlainRef05
namespace Go.Proofs.Ytbamkkdikeedoaa.G
open Go.RowKit Go.Proofs.YtbamkkdikeedoaaW.PrintWords Go.Proofs.YtbamkkdikeedoaaW.PrintLast Go.Proofs.YtbamkkdikeedoaaW.PrintMore
theorem rd26n (l : List S26) {i : Nat} (h : i < l.length) : rd_T26 l (i : Int) = l[i] := by simp [rd_T26, List.getD_eq_getElem?_getD, List.getElem?_eq_getElem h]
theorem evp_at (p : S26 → Bool) {l : List S26} {i : Nat} (h : i < l.length) : evp p l i = p l[i] := by unfold evp; rw [List.getElem?_eq_getElem h]; rfl
theorem ror_at {a b : List Int} {n : Nat} (ua : ∀ x ∈ a, U32 x) (ub : ∀ x ∈ b, U32 x) (ha : sz a = n) (hb : sz b = n) : Ev (fun k => cupolaref05_Or.f k a b) (ofM n fun i k => mat a i k || mat b i k) := by
 have h := ror_ev ua ub
 rwa [ha, hb, if_pos rfl] at h
section
variable (l : List S26) (hl : l.length ≤ 32) (n1 n2 n3 n4 n5 : List Int) (n6 : List (List Int))
theorem mem_at {i : Nat} (hi : i < l.length) : cupolaref14_Mem.f l n1 n2 n3 n4 n5 n6 (i : Int) = some (evp (isK [1, 2]) l i) := by
 unfold cupolaref14_Mem.f
 rw [if_pos (by omega), if_pos (by omega), rd26n l hi, evp_at _ hi]
 unfold isK
 by_cases h : l[i].f1 = 1
 ·rw [if_pos h, h]; rfl
 ·rw [if_neg h]
  congr 1
  rw [Bool.eq_iff_iff, beq_iff_eq, decide_eq_true_eq]
  simp [h]

include hl
theorem rmemory_l0 (ps : List S46) (hlen : ps.length ≤ 1024) (hin : inR l.length ps) : ∀ suf pre, pre ++ suf = ps →
  Ev (fun k => cupolaref14_Memory.l0 k (l.length : Int) (pre.filter fun p => evp (isK [1, 2]) l p.f0.toNat && evp (isK [1, 2]) l p.f1.toNat) ps (pre.length : Int) l n1 n2 n3 n4 n5 n6) (ofM l.length (memP (ps.filter fun p => evp (isK [1, 2]) l p.f0.toNat && evp (isK [1, 2]) l p.f1.toNat))) := by
 intro suf
 induction suf with
 | nil =>
  intro pre h
  obtain rfl : pre = ps := by simpa using h
  refine Ev.step (fun k => by rw [cupolaref14_Memory.l0]) ?_
  refine Ev.neg (by omega) ?_
  have hf := List.length_filter_le (fun p : S46 => evp (isK [1, 2]) l p.f0.toNat && evp (isK [1, 2]) l p.f1.toNat) pre
  exact Ev.bind (rmade_ev l.length hl _ (by omega) (fun p hp => hin p (List.mem_filter.1 hp).1)) (Ev.now _)
 | cons p suf ih =>
  intro pre h
  have hlt : pre.length < ps.length := by rw [← h]; simp
  have hr : rd_T46 ps (pre.length : Int) = p := by rw [← h]; exact rd_mid _ _ _
  obtain ⟨i, j, hi, hj, rfl⟩ := hin p (by rw [← h]; simp)
  have hnext := ih (pre ++ [⟨(i : Int), (j : Int)⟩]) (by simpa using h)
  rw [List.length_append, List.length_singleton, List.filter_append] at hnext
  have hfl := List.length_filter_le (fun p : S46 => evp (isK [1, 2]) l p.f0.toNat && evp (isK [1, 2]) l p.f1.toNat) pre
  refine Ev.step (fun k => by rw [cupolaref14_Memory.l0]) ?_
  refine Ev.pos (by omega) (Ev.pos (by omega) ?_)
  rw [hr, wrap64_succ _ (by omega)]
  dsimp only
  refine Ev.bindv (mem_at l n1 n2 n3 n4 n5 n6 hi) ?_
  by_cases h1 : evp (isK [1, 2]) l i = true
  ·refine Ev.pos h1 (Ev.bindv (mem_at l n1 n2 n3 n4 n5 n6 hj) ?_)
   by_cases h2 : evp (isK [1, 2]) l j = true
   ·refine Ev.pos h2 (Ev.pos (by omega) ?_)
    simpa [h1, h2] using hnext
   ·refine Ev.neg h2 ?_
    simpa [h1, h2] using hnext
  ·refine Ev.neg h1 ?_
   simpa [h1] using hnext
theorem rmemory_ev {r : List Int} (ur : ∀ x ∈ r, U32 x) (hr : sz r = l.length) : Ev (fun k => cupolaref14_Memory.f k l n1 n2 n3 n4 n5 n6 r) (ofM l.length (memM l (mat r))) := by
 unfold cupolaref14_Memory.f
 have hp := rpairs_ev ur
 rw [hr] at hp
 refine Ev.bindv (rsize_eq r) (Ev.pos (by rw [hr]) (Ev.bind hp ?_))
 have h := rmemory_l0 l hl n1 n2 n3 n4 n5 n6 (prs l.length (mat r)) (prs_small hl _) (prs_inR _ _) (prs l.length (mat r)) [] rfl
 have e : ofM l.length (memP ((prs l.length (mat r)).filter fun p => evp (isK [1, 2]) l p.f0.toNat && evp (isK [1, 2]) l p.f1.toNat)) = ofM l.length (memM l (mat r)) := by
  refine ofM_congr fun i k hi hk => ?_
  rw [memP_filter, memP_prs]
  unfold memM
  simp only [hi, hk, decide_true, Bool.true_and, Int.toNat_natCast]
  rw [Bool.and_comm]
 rw [e] at h
 exact h
theorem rpart_l0 (ps : List S46) (hlen : ps.length ≤ 1024) (hin : inR l.length ps) : ∀ suf pre, pre ++ suf = ps →
  Ev (fun k => cupolaref13_part.l0 k true (l.length : Int) (pre.filter fun p => innM l p.f0.toNat p.f1.toNat) ps (pre.length : Int) l n1 n2 n3 n4 n5 n6) (ofM l.length (memP (ps.filter fun p => innM l p.f0.toNat p.f1.toNat))) := by
 intro suf
 induction suf with
 | nil =>
  intro pre h
  obtain rfl : pre = ps := by simpa using h
  refine Ev.step (fun k => by rw [cupolaref13_part.l0]) ?_
  refine Ev.neg (by omega) ?_
  have hf := List.length_filter_le (fun p : S46 => innM l p.f0.toNat p.f1.toNat) pre
  exact Ev.bind (rmade_ev l.length hl _ (by omega) (fun p hp => hin p (List.mem_filter.1 hp).1)) (Ev.now _)
 | cons p suf ih =>
  intro pre h
  have hlt : pre.length < ps.length := by rw [← h]; simp
  have hr : rd_T46 ps (pre.length : Int) = p := by rw [← h]; exact rd_mid _ _ _
  obtain ⟨i, j, hi, hj, rfl⟩ := hin p (by rw [← h]; simp)
  have hnext := ih (pre ++ [⟨(i : Int), (j : Int)⟩]) (by simpa using h)
  rw [List.length_append, List.length_singleton, List.filter_append] at hnext
  have hfl := List.length_filter_le (fun p : S46 => innM l p.f0.toNat p.f1.toNat) pre
  refine Ev.step (fun k => by rw [cupolaref13_part.l0]) ?_
  refine Ev.pos (by omega) (Ev.pos (by omega) ?_)
  rw [hr, wrap64_succ _ (by omega)]
  dsimp only
  rw [rd26n l hi, rd26n l hj]
  have t1 : thrT l i = some l[i].f0 := by unfold thrT; rw [List.getElem?_eq_getElem hi]; rfl
  have t2 : thrT l j = some l[j].f0 := by unfold thrT; rw [List.getElem?_eq_getElem hj]; rfl
  by_cases hij : i = j
  ·refine Ev.pos (by omega) ?_
   have : innM l i j = false := by unfold innM; simp [hij]
   simpa [this] using hnext
  ·refine Ev.neg (by omega) (Ev.pos (by omega) (Ev.pos (by omega) (Ev.pos (by omega) (Ev.pos (by omega) ?_))))
   by_cases ht : l[i].f0 = l[j].f0
   ·have hm : innM l i j = true := by unfold innM; rw [t1, t2, ht]; simp [hij]
    refine Ev.pos (by simp [ht]) (Ev.pos (by omega) ?_)
    simpa [hm] using hnext
   ·have hm : innM l i j = false := by unfold innM; rw [t1, t2]; simp [ht]
    refine Ev.neg (by simp [ht]) ?_
    simpa [hm] using hnext
theorem rwithin_ev {r : List Int} (ur : ∀ x ∈ r, U32 x) (hr : sz r = l.length) : Ev (fun k => cupolaref13_Within.f k l n1 n2 n3 n4 n5 n6 r) (ofM l.length fun i k => mat r i k && innM l i k) := by
 unfold cupolaref13_Within.f cupolaref13_part.f
 have hp := rpairs_ev ur
 rw [hr] at hp
 have h := rpart_l0 l hl n1 n2 n3 n4 n5 n6 (prs l.length (mat r)) (prs_small hl _) (prs_inR _ _) (prs l.length (mat r)) [] rfl
 have e : ofM l.length (memP ((prs l.length (mat r)).filter fun p => innM l p.f0.toNat p.f1.toNat)) = ofM l.length fun i k => mat r i k && innM l i k := by
  refine ofM_congr fun i k hi hk => ?_
  rw [memP_filter, memP_prs]
  simp only [hi, hk, decide_true, Bool.true_and, Int.toNat_natCast]
 rw [e] at h
 exact Ev.bind (Ev.bindv (rsize_eq r) (Ev.pos (by rw [hr]) (Ev.bind hp h))) (Ev.now _)
theorem rcoi_ev {r : List Int} (ur : ∀ x ∈ r, U32 x) (hr : sz r = l.length) : Ev (fun k => cupolaref14_Coi.f k l n1 n2 n3 n4 n5 n6 r) (ofM l.length fun i k => mat r i k && innM l i k) := by
 unfold cupolaref14_Coi.f
 exact Ev.bind (rwithin_ev l hl n1 n2 n3 n4 n5 n6 ur hr) (Ev.now _)
def rfP (n : Nat) (from_ : List Int) (i : Nat) : List S46 := (List.range i).filterMap fun (j : Nat) => match from_[j]? with | some w => if 0 ≤ w ∧ w < (n : Int) then some (⟨w, (j : Int)⟩ : S46) else none | none => none
omit hl in
theorem rfP_succ (n : Nat) (from_ : List Int) {i : Nat} (h : i < from_.length) : rfP n from_ (i + 1) = rfP n from_ i ++ if 0 ≤ from_[i] ∧ from_[i] < (n : Int) then [(⟨from_[i], (i : Int)⟩ : S46)] else [] := by
 unfold rfP
 rw [List.range_succ, List.filterMap_append]
 congr 1
 simp only [List.filterMap_cons, List.filterMap_nil, List.getElem?_eq_getElem h]
 by_cases hw : 0 ≤ from_[i] ∧ from_[i] < (n : Int)
 ·rw [if_pos hw, if_pos hw]
 ·rw [if_neg hw, if_neg hw]
omit hl in
theorem rfP_len (n : Nat) (from_ : List Int) (i : Nat) : (rfP n from_ i).length ≤ i := by
 unfold rfP
 exact Nat.le_trans (List.length_filterMap_le _ _) (by simp)
omit hl in
theorem rfP_in (n : Nat) (from_ : List Int) {m : Nat} (hm : m ≤ n) : inR n (rfP n from_ m) := by
 intro p hp
 unfold rfP at hp
 rw [List.mem_filterMap] at hp
 obtain ⟨j, hj, h⟩ := hp
 rw [List.mem_range] at hj
 cases hw : from_[j]? with
 | none => rw [hw] at h; simp at h
 | some w =>
  rw [hw] at h
  simp only at h
  by_cases hc : 0 ≤ w ∧ w < (n : Int)
  ·rw [if_pos hc] at h
   obtain ⟨i, rfl⟩ := Int.eq_ofNat_of_zero_le hc.1
   exact ⟨i, j, by omega, by omega, (Option.some.inj h).symm⟩
  ·rw [if_neg hc] at h; cases h
omit hl in
theorem rfP_mem (n : Nat) (from_ : List Int) {m a b : Nat} (ha : a < n) (hb : b < m) : memP (rfP n from_ m) a b = rfM from_ a b := by
 rw [Bool.eq_iff_iff]
 unfold memP rfP rfM
 simp only [List.any_eq_true, List.mem_filterMap, List.mem_range, Bool.and_eq_true, decide_eq_true_eq]
 constructor
 ·rintro ⟨p, ⟨j, hj, h⟩, h1, h2⟩
  cases hw : from_[j]? with
  | none => rw [hw] at h; simp at h
  | some w =>
   rw [hw] at h
   simp only at h
   by_cases hc : 0 ≤ w ∧ w < (n : Int)
   ·rw [if_pos hc] at h
    obtain rfl := Option.some.inj h
    obtain rfl : j = b := by have h3 : (j : Int) = (b : Int) := h2; omega
    rw [hw]
    exact congrArg some h1
   ·rw [if_neg hc] at h; cases h
 ·intro h
  refine ⟨⟨(a : Int), (b : Int)⟩, ⟨b, hb, ?_⟩, rfl, rfl⟩
  rw [h]
  simp only
  rw [if_pos (by omega)]
theorem rrf_loop (from_ : List Int) (hf : from_.length ≤ 9223372036854775807) : ∀ d i : Nat, i + d = min from_.length l.length →
  Ev (fun k => cupolaref11_Rf.l0 k from_ (rfP l.length from_ i) (l.length : Int) (i : Int)) (ofM l.length (rfM from_)) := by
 have hend : Ev (fun k => (cupolaref05_Made.f k (l.length : Int) (rfP l.length from_ (min from_.length l.length))).bind fun t => some t) (ofM l.length (rfM from_)) := by
  have hb := rfP_len l.length from_ (min from_.length l.length)
  have h := rmade_ev l.length hl (rfP l.length from_ (min from_.length l.length)) (by omega) (rfP_in _ _ (by omega))
  have e : ofM l.length (memP (rfP l.length from_ (min from_.length l.length))) = ofM l.length (rfM from_) := by
   refine ofM_congr fun a b ha hb => ?_
   by_cases hlt : b < from_.length
   ·exact rfP_mem _ _ ha (by omega)
   ·unfold rfM
    rw [List.getElem?_eq_none (by omega), Bool.eq_iff_iff]
    simp only [reduceCtorEq, decide_false, Bool.false_eq_true, iff_false]
    unfold memP
    rw [List.any_eq_true]
    rintro ⟨p, hp, h2⟩
    simp only [Bool.and_eq_true, decide_eq_true_eq] at h2
    unfold rfP at hp
    rw [List.mem_filterMap] at hp
    obtain ⟨j, hj, h3⟩ := hp
    rw [List.mem_range] at hj
    cases hw : from_[j]? with
    | none => rw [hw] at h3; simp at h3
    | some w =>
     rw [hw] at h3
     simp only at h3
     by_cases hc : 0 ≤ w ∧ w < (l.length : Int)
     ·rw [if_pos hc] at h3
      obtain rfl := Option.some.inj h3
      have := h2.2
      simp only at this
      omega
     ·rw [if_neg hc] at h3; cases h3
  rw [e] at h
  exact Ev.bind h (Ev.now _)
 intro d
 induction d with
 | zero =>
  intro i hi
  obtain rfl : i = min from_.length l.length := by omega
  refine Ev.step (fun k => by rw [cupolaref11_Rf.l0]) ?_
  by_cases h1 : ((min from_.length l.length : Nat) : Int) < (from_.length : Int)
  ·refine Ev.pos h1 ?_
   rw [decide_eq_false (show ¬ ((min from_.length l.length : Nat) : Int) < (l.length : Int) by omega)]
   refine Ev.step (fun k => by rw [cupolaref11_Rf.j1]) ?_
   exact Ev.neg (by decide) hend
  ·refine Ev.neg h1 (Ev.step (fun k => by rw [cupolaref11_Rf.j1]) ?_)
   exact Ev.neg (by decide) hend
 | succ d ih =>
  intro i hi
  have h1 : i < from_.length := by omega
  have h2 : i < l.length := by omega
  have e1 : rd from_ (i : Int) = from_[i] := by simp [rd, List.getD_eq_getElem?_getD, List.getElem?_eq_getElem h1]
  have hlen := rfP_len l.length from_ i
  have h := ih (i + 1) (by omega)
  rw [rfP_succ _ _ h1] at h
  refine Ev.step (fun k => by rw [cupolaref11_Rf.l0]) ?_
  refine Ev.pos (by omega) ?_
  rw [decide_eq_true (show (i : Int) < (l.length : Int) by omega)]
  refine Ev.step (fun k => by rw [cupolaref11_Rf.j1]) ?_
  rw [e1, wrap64_succ i (by omega)]
  refine Ev.pos rfl (Ev.pos (by omega) (Ev.pos (by omega) ?_))
  by_cases c1 : from_[i] ≥ 0
  ·refine Ev.pos c1 ?_
   by_cases c2 : from_[i] < (l.length : Int)
   ·refine Ev.pos c2 (Ev.pos (by omega) ?_)
    rw [if_pos ⟨c1, c2⟩] at h
    exact h
   ·refine Ev.neg c2 ?_
    rw [if_neg (fun h9 => c2 h9.2), List.append_nil] at h
    exact h
  ·refine Ev.neg c1 ?_
   rw [if_neg (fun h9 => c1 h9.1), List.append_nil] at h
   exact h
theorem rrf_ev (from_ : List Int) (hf : from_.length ≤ 9223372036854775807) : Ev (fun k => cupolaref11_Rf.f k l n1 n2 n3 n4 n5 n6 from_) (ofM l.length (rfM from_)) := by
 unfold cupolaref11_Rf.f
 exact rrf_loop l hl from_ hf (min from_.length l.length) 0 (by omega)
theorem rrfi_ev (from_ : List Int) (hf : from_.length ≤ 9223372036854775807) : Ev (fun k => cupolaref14_Rfi.f k l n1 n2 n3 n4 n5 n6 from_) (ofM l.length fun i k => rfM from_ i k && innM l i k) := by
 unfold cupolaref14_Rfi.f
 refine Ev.bind (rrf_ev l hl n1 n2 n3 n4 n5 n6 from_ hf) (Ev.bind (rwithin_ev l hl n1 n2 n3 n4 n5 n6 (ofM_u32 _ _) (sz_ofM hl _)) (Ev.ofEq (congrArg some (ofM_congr fun i k hi hk => ?_))))
 rw [mat_in hl hi hk]

omit hl in
theorem isK_one (c : Int) (y : S26) : isK [c] y = (y.f1 == c) := by
 unfold isK
 rw [Bool.eq_iff_iff, beq_iff_eq, decide_eq_true_eq]
 simp
omit hl in
end
end Go.Proofs.Ytbamkkdikeedoaa.G
