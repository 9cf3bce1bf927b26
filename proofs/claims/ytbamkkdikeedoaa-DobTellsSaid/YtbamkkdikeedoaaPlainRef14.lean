/- Plain: what the document's packages cupolaref11 (Rf), cupolaref13 (Within) and cupolaref14 compute, as matrices. -/
import Derived.Test.YtbamkkdikeedoaaGCupolaref14
import Derived.Test.YtbamkkdikeedoaaPlainSized
import Derived.Test.YtbamkkdikeedoaaPlainRef05
namespace Go.Proofs.Ytbamkkdikeedoaa.G
open Go.RowKit Go.Proofs.YtbamkkdikeedoaaW.PrintWords Go.Proofs.YtbamkkdikeedoaaW.PrintLast Go.Proofs.YtbamkkdikeedoaaW.PrintMore
theorem rd26n (l : List S26) {i : Nat} (h : i < l.length) : rd_T26 l (i : Int) = l[i] := by simp [rd_T26, List.getD_eq_getElem?_getD, List.getElem?_eq_getElem h]
theorem evp_at (p : S26 → Bool) {l : List S26} {i : Nat} (h : i < l.length) : evp p l i = p l[i] := by unfold evp; rw [List.getElem?_eq_getElem h]; rfl
theorem ror_at {a b : List Int} {n : Nat} (ua : ∀ x ∈ a, U32 x) (ub : ∀ x ∈ b, U32 x) (ha : sz a = n) (hb : sz b = n) : Ev (fun k => cupolaref05_Or.f k a b) (ofM n fun i k => mat a i k || mat b i k) := by
  have h := ror_ev ua ub
  rwa [ha, hb, if_pos rfl] at h
theorem rseq_at {a b : List Int} {n : Nat} (ua : ∀ x ∈ a, U32 x) (ub : ∀ x ∈ b, U32 x) (ha : sz a = n) (hb : sz b = n) : Ev (fun k => cupolaref05_Seq.f k a b) (ofM n (seqM n (mat a) (mat b))) := by
  have h := rseq_ev ua ub
  rwa [ha, hb, if_pos rfl] at h
section
variable (l : List S26) (hl : l.length ≤ 32) (n1 n2 n3 n4 n5 : List Int) (n6 : List (List Int))
theorem mem_at {i : Nat} (hi : i < l.length) : cupolaref14_Mem.f l n1 n2 n3 n4 n5 n6 (i : Int) = some (evp (isK [1, 2]) l i) := by
  unfold cupolaref14_Mem.f
  rw [if_pos (by omega), if_pos (by omega), rd26n l hi, evp_at _ hi]
  unfold isK
  by_cases h : l[i].f1 = 1
  · rw [if_pos h, h]; rfl
  · rw [if_neg h]
    congr 1
    rw [Bool.eq_iff_iff, beq_iff_eq, decide_eq_true_eq]
    simp [h]

/-! ### what is kept of the pairs -/
include hl
theorem rmemory_l0 (ps : List S46) (hlen : ps.length ≤ 1024) (hin : inR l.length ps) : ∀ suf pre, pre ++ suf = ps →
    Ev (fun k => cupolaref14_Memory.l0 k (l.length : Int) (pre.filter fun p => evp (isK [1, 2]) l p.f0.toNat && evp (isK [1, 2]) l p.f1.toNat) ps (pre.length : Int) l n1 n2 n3 n4 n5 n6) (ofM l.length (memP (ps.filter fun p => evp (isK [1, 2]) l p.f0.toNat && evp (isK [1, 2]) l p.f1.toNat))) := by
  intro suf
  induction suf with
  | nil =>
    intro pre h
    obtain rfl : pre = ps := by simpa using h
    refine Ev.step (fun k => by rw [cupolaref14_Memory.l0]) ?_
    refine Ev.neg (by omega) ?_
    have hf := List.length_filter_le (fun p : S46 => evp (isK [1, 2]) l p.f0.toNat && evp (isK [1, 2]) l p.f1.toNat) pre
    exact Ev.bind (rmade_ev l.length hl _ (by omega) (fun p hp => hin p (List.mem_filter.1 hp).1)) (Ev.now _)
  | cons p suf ih =>
    intro pre h
    have hlt : pre.length < ps.length := by rw [← h]; simp
    have hr : rd_T46 ps (pre.length : Int) = p := by rw [← h]; exact rd_mid _ _ _
    obtain ⟨i, j, hi, hj, rfl⟩ := hin p (by rw [← h]; simp)
    have hnext := ih (pre ++ [⟨(i : Int), (j : Int)⟩]) (by simpa using h)
    rw [List.length_append, List.length_singleton, List.filter_append] at hnext
    have hfl := List.length_filter_le (fun p : S46 => evp (isK [1, 2]) l p.f0.toNat && evp (isK [1, 2]) l p.f1.toNat) pre
    refine Ev.step (fun k => by rw [cupolaref14_Memory.l0]) ?_
    refine Ev.pos (by omega) (Ev.pos (by omega) ?_)
    rw [hr, wrap64_succ _ (by omega)]
    dsimp only
    refine Ev.bindv (mem_at l n1 n2 n3 n4 n5 n6 hi) ?_
    by_cases h1 : evp (isK [1, 2]) l i = true
    · refine Ev.pos h1 (Ev.bindv (mem_at l n1 n2 n3 n4 n5 n6 hj) ?_)
      by_cases h2 : evp (isK [1, 2]) l j = true
      · refine Ev.pos h2 (Ev.pos (by omega) ?_)
        simpa [h1, h2] using hnext
      · refine Ev.neg h2 ?_
        simpa [h1, h2] using hnext
    · refine Ev.neg h1 ?_
      simpa [h1] using hnext
theorem rmemory_ev {r : List Int} (ur : ∀ x ∈ r, U32 x) (hr : sz r = l.length) : Ev (fun k => cupolaref14_Memory.f k l n1 n2 n3 n4 n5 n6 r) (ofM l.length (memM l (mat r))) := by
  unfold cupolaref14_Memory.f
  have hp := rpairs_ev ur
  rw [hr] at hp
  refine Ev.bindv (rsize_eq r) (Ev.pos (by rw [hr]) (Ev.bind hp ?_))
  have h := rmemory_l0 l hl n1 n2 n3 n4 n5 n6 (prs l.length (mat r)) (prs_small hl _) (prs_inR _ _) (prs l.length (mat r)) [] rfl
  have e : ofM l.length (memP ((prs l.length (mat r)).filter fun p => evp (isK [1, 2]) l p.f0.toNat && evp (isK [1, 2]) l p.f1.toNat)) = ofM l.length (memM l (mat r)) := by
    refine ofM_congr fun i k hi hk => ?_
    rw [memP_filter, memP_prs]
    unfold memM
    simp only [hi, hk, decide_true, Bool.true_and, Int.toNat_natCast]
    rw [Bool.and_comm]
  rw [e] at h
  exact h
theorem rpart_l0 (ps : List S46) (hlen : ps.length ≤ 1024) (hin : inR l.length ps) : ∀ suf pre, pre ++ suf = ps →
    Ev (fun k => cupolaref13_part.l0 k true (l.length : Int) (pre.filter fun p => innM l p.f0.toNat p.f1.toNat) ps (pre.length : Int) l n1 n2 n3 n4 n5 n6) (ofM l.length (memP (ps.filter fun p => innM l p.f0.toNat p.f1.toNat))) := by
  intro suf
  induction suf with
  | nil =>
    intro pre h
    obtain rfl : pre = ps := by simpa using h
    refine Ev.step (fun k => by rw [cupolaref13_part.l0]) ?_
    refine Ev.neg (by omega) ?_
    have hf := List.length_filter_le (fun p : S46 => innM l p.f0.toNat p.f1.toNat) pre
    exact Ev.bind (rmade_ev l.length hl _ (by omega) (fun p hp => hin p (List.mem_filter.1 hp).1)) (Ev.now _)
  | cons p suf ih =>
    intro pre h
    have hlt : pre.length < ps.length := by rw [← h]; simp
    have hr : rd_T46 ps (pre.length : Int) = p := by rw [← h]; exact rd_mid _ _ _
    obtain ⟨i, j, hi, hj, rfl⟩ := hin p (by rw [← h]; simp)
    have hnext := ih (pre ++ [⟨(i : Int), (j : Int)⟩]) (by simpa using h)
    rw [List.length_append, List.length_singleton, List.filter_append] at hnext
    have hfl := List.length_filter_le (fun p : S46 => innM l p.f0.toNat p.f1.toNat) pre
    refine Ev.step (fun k => by rw [cupolaref13_part.l0]) ?_
    refine Ev.pos (by omega) (Ev.pos (by omega) ?_)
    rw [hr, wrap64_succ _ (by omega)]
    dsimp only
    rw [rd26n l hi, rd26n l hj]
    have t1 : thrT l i = some l[i].f0 := by unfold thrT; rw [List.getElem?_eq_getElem hi]; rfl
    have t2 : thrT l j = some l[j].f0 := by unfold thrT; rw [List.getElem?_eq_getElem hj]; rfl
    by_cases hij : i = j
    · refine Ev.pos (by omega) ?_
      have : innM l i j = false := by unfold innM; simp [hij]
      simpa [this] using hnext
    · refine Ev.neg (by omega) (Ev.pos (by omega) (Ev.pos (by omega) (Ev.pos (by omega) (Ev.pos (by omega) ?_))))
      by_cases ht : l[i].f0 = l[j].f0
      · have hm : innM l i j = true := by unfold innM; rw [t1, t2, ht]; simp [hij]
        refine Ev.pos (by simp [ht]) (Ev.pos (by omega) ?_)
        simpa [hm] using hnext
      · have hm : innM l i j = false := by unfold innM; rw [t1, t2]; simp [ht]
        refine Ev.neg (by simp [ht]) ?_
        simpa [hm] using hnext
theorem rwithin_ev {r : List Int} (ur : ∀ x ∈ r, U32 x) (hr : sz r = l.length) : Ev (fun k => cupolaref13_Within.f k l n1 n2 n3 n4 n5 n6 r) (ofM l.length fun i k => mat r i k && innM l i k) := by
  unfold cupolaref13_Within.f cupolaref13_part.f
  have hp := rpairs_ev ur
  rw [hr] at hp
  have h := rpart_l0 l hl n1 n2 n3 n4 n5 n6 (prs l.length (mat r)) (prs_small hl _) (prs_inR _ _) (prs l.length (mat r)) [] rfl
  have e : ofM l.length (memP ((prs l.length (mat r)).filter fun p => innM l p.f0.toNat p.f1.toNat)) = ofM l.length fun i k => mat r i k && innM l i k := by
    refine ofM_congr fun i k hi hk => ?_
    rw [memP_filter, memP_prs]
    simp only [hi, hk, decide_true, Bool.true_and, Int.toNat_natCast]
  rw [e] at h
  exact Ev.bind (Ev.bindv (rsize_eq r) (Ev.pos (by rw [hr]) (Ev.bind hp h))) (Ev.now _)
theorem rcoi_ev {r : List Int} (ur : ∀ x ∈ r, U32 x) (hr : sz r = l.length) : Ev (fun k => cupolaref14_Coi.f k l n1 n2 n3 n4 n5 n6 r) (ofM l.length fun i k => mat r i k && innM l i k) := by
  unfold cupolaref14_Coi.f
  exact Ev.bind (rwithin_ev l hl n1 n2 n3 n4 n5 n6 ur hr) (Ev.now _)
/-- The pairs of who reads, so far. -/
def rfP (n : Nat) (from_ : List Int) (i : Nat) : List S46 := (List.range i).filterMap fun (j : Nat) => match from_[j]? with | some w => if 0 ≤ w ∧ w < (n : Int) then some (⟨w, (j : Int)⟩ : S46) else none | none => none
omit hl in
theorem rfP_succ (n : Nat) (from_ : List Int) {i : Nat} (h : i < from_.length) : rfP n from_ (i + 1) = rfP n from_ i ++ if 0 ≤ from_[i] ∧ from_[i] < (n : Int) then [(⟨from_[i], (i : Int)⟩ : S46)] else [] := by
  unfold rfP
  rw [List.range_succ, List.filterMap_append]
  congr 1
  simp only [List.filterMap_cons, List.filterMap_nil, List.getElem?_eq_getElem h]
  by_cases hw : 0 ≤ from_[i] ∧ from_[i] < (n : Int)
  · rw [if_pos hw, if_pos hw]
  · rw [if_neg hw, if_neg hw]
omit hl in
theorem rfP_len (n : Nat) (from_ : List Int) (i : Nat) : (rfP n from_ i).length ≤ i := by
  unfold rfP
  exact Nat.le_trans (List.length_filterMap_le _ _) (by simp)
omit hl in
theorem rfP_in (n : Nat) (from_ : List Int) {m : Nat} (hm : m ≤ n) : inR n (rfP n from_ m) := by
  intro p hp
  unfold rfP at hp
  rw [List.mem_filterMap] at hp
  obtain ⟨j, hj, h⟩ := hp
  rw [List.mem_range] at hj
  cases hw : from_[j]? with
  | none => rw [hw] at h; simp at h
  | some w =>
    rw [hw] at h
    simp only at h
    by_cases hc : 0 ≤ w ∧ w < (n : Int)
    · rw [if_pos hc] at h
      obtain ⟨i, rfl⟩ := Int.eq_ofNat_of_zero_le hc.1
      exact ⟨i, j, by omega, by omega, (Option.some.inj h).symm⟩
    · rw [if_neg hc] at h; cases h
omit hl in
theorem rfP_mem (n : Nat) (from_ : List Int) {m a b : Nat} (ha : a < n) (hb : b < m) : memP (rfP n from_ m) a b = rfM from_ a b := by
  rw [Bool.eq_iff_iff]
  unfold memP rfP rfM
  simp only [List.any_eq_true, List.mem_filterMap, List.mem_range, Bool.and_eq_true, decide_eq_true_eq]
  constructor
  · rintro ⟨p, ⟨j, hj, h⟩, h1, h2⟩
    cases hw : from_[j]? with
    | none => rw [hw] at h; simp at h
    | some w =>
      rw [hw] at h
      simp only at h
      by_cases hc : 0 ≤ w ∧ w < (n : Int)
      · rw [if_pos hc] at h
        obtain rfl := Option.some.inj h
        obtain rfl : j = b := by have h3 : (j : Int) = (b : Int) := h2; omega
        rw [hw]
        exact congrArg some h1
      · rw [if_neg hc] at h; cases h
  · intro h
    refine ⟨⟨(a : Int), (b : Int)⟩, ⟨b, hb, ?_⟩, rfl, rfl⟩
    rw [h]
    simp only
    rw [if_pos (by omega)]
theorem rrf_loop (from_ : List Int) (hf : from_.length ≤ 9223372036854775807) : ∀ d i : Nat, i + d = min from_.length l.length →
    Ev (fun k => cupolaref11_Rf.l0 k from_ (rfP l.length from_ i) (l.length : Int) (i : Int)) (ofM l.length (rfM from_)) := by
  have hend : Ev (fun k => (cupolaref05_Made.f k (l.length : Int) (rfP l.length from_ (min from_.length l.length))).bind fun t => some t) (ofM l.length (rfM from_)) := by
    have hb := rfP_len l.length from_ (min from_.length l.length)
    have h := rmade_ev l.length hl (rfP l.length from_ (min from_.length l.length)) (by omega) (rfP_in _ _ (by omega))
    have e : ofM l.length (memP (rfP l.length from_ (min from_.length l.length))) = ofM l.length (rfM from_) := by
      refine ofM_congr fun a b ha hb => ?_
      by_cases hlt : b < from_.length
      · exact rfP_mem _ _ ha (by omega)
      · unfold rfM
        rw [List.getElem?_eq_none (by omega), Bool.eq_iff_iff]
        simp only [reduceCtorEq, decide_false, Bool.false_eq_true, iff_false]
        unfold memP
        rw [List.any_eq_true]
        rintro ⟨p, hp, h2⟩
        simp only [Bool.and_eq_true, decide_eq_true_eq] at h2
        unfold rfP at hp
        rw [List.mem_filterMap] at hp
        obtain ⟨j, hj, h3⟩ := hp
        rw [List.mem_range] at hj
        cases hw : from_[j]? with
        | none => rw [hw] at h3; simp at h3
        | some w =>
          rw [hw] at h3
          simp only at h3
          by_cases hc : 0 ≤ w ∧ w < (l.length : Int)
          · rw [if_pos hc] at h3
            obtain rfl := Option.some.inj h3
            have := h2.2
            simp only at this
            omega
          · rw [if_neg hc] at h3; cases h3
    rw [e] at h
    exact Ev.bind h (Ev.now _)
  intro d
  induction d with
  | zero =>
    intro i hi
    obtain rfl : i = min from_.length l.length := by omega
    refine Ev.step (fun k => by rw [cupolaref11_Rf.l0]) ?_
    by_cases h1 : ((min from_.length l.length : Nat) : Int) < (from_.length : Int)
    · refine Ev.pos h1 ?_
      rw [decide_eq_false (show ¬ ((min from_.length l.length : Nat) : Int) < (l.length : Int) by omega)]
      refine Ev.step (fun k => by rw [cupolaref11_Rf.j1]) ?_
      exact Ev.neg (by decide) hend
    · refine Ev.neg h1 (Ev.step (fun k => by rw [cupolaref11_Rf.j1]) ?_)
      exact Ev.neg (by decide) hend
  | succ d ih =>
    intro i hi
    have h1 : i < from_.length := by omega
    have h2 : i < l.length := by omega
    have e1 : rd from_ (i : Int) = from_[i] := by simp [rd, List.getD_eq_getElem?_getD, List.getElem?_eq_getElem h1]
    have hlen := rfP_len l.length from_ i
    have h := ih (i + 1) (by omega)
    rw [rfP_succ _ _ h1] at h
    refine Ev.step (fun k => by rw [cupolaref11_Rf.l0]) ?_
    refine Ev.pos (by omega) ?_
    rw [decide_eq_true (show (i : Int) < (l.length : Int) by omega)]
    refine Ev.step (fun k => by rw [cupolaref11_Rf.j1]) ?_
    rw [e1, wrap64_succ i (by omega)]
    refine Ev.pos rfl (Ev.pos (by omega) (Ev.pos (by omega) ?_))
    by_cases c1 : from_[i] ≥ 0
    · refine Ev.pos c1 ?_
      by_cases c2 : from_[i] < (l.length : Int)
      · refine Ev.pos c2 (Ev.pos (by omega) ?_)
        rw [if_pos ⟨c1, c2⟩] at h
        exact h
      · refine Ev.neg c2 ?_
        rw [if_neg (fun h9 => c2 h9.2), List.append_nil] at h
        exact h
    · refine Ev.neg c1 ?_
      rw [if_neg (fun h9 => c1 h9.1), List.append_nil] at h
      exact h
theorem rrf_ev (from_ : List Int) (hf : from_.length ≤ 9223372036854775807) : Ev (fun k => cupolaref11_Rf.f k l n1 n2 n3 n4 n5 n6 from_) (ofM l.length (rfM from_)) := by
  unfold cupolaref11_Rf.f
  exact rrf_loop l hl from_ hf (min from_.length l.length) 0 (by omega)
theorem rrfi_ev (from_ : List Int) (hf : from_.length ≤ 9223372036854775807) : Ev (fun k => cupolaref14_Rfi.f k l n1 n2 n3 n4 n5 n6 from_) (ofM l.length fun i k => rfM from_ i k && innM l i k) := by
  unfold cupolaref14_Rfi.f
  refine Ev.bind (rrf_ev l hl n1 n2 n3 n4 n5 n6 from_ hf) (Ev.bind (rwithin_ev l hl n1 n2 n3 n4 n5 n6 (ofM_u32 _ _) (sz_ofM hl _)) (Ev.ofEq (congrArg some (ofM_congr fun i k hi hk => ?_))))
  rw [mat_in hl hi hk]

/-! ### what hangs on what, whatever is read -/
/-- Over events of any thread, an address hangs on that one, and what comes later. -/
def innerB (l : List S26) (po addr : List Int) (i j : Nat) : Bool := (List.range' 0 l.length).any fun m => mat addr i m && mat po m j
theorem st_l1 {po addr : List Int} (data ctrl rmw : List Int) (up : ∀ x ∈ po, U32 x) (ua : ∀ x ∈ addr, U32 x) (i k j : Nat) (hj : j < l.length) (x9 : Bool) (r : Bool)
    (hr : Ev (fun q => cupolaref14_static.l0 q (i : Int) (k : Int) ((j + 1 : Nat) : Int) l po addr data ctrl rmw n6) r) : ∀ d m : Nat, m + d = l.length →
    Ev (fun q => cupolaref14_static.l1 q (i : Int) (k : Int) (j : Int) x9 (m : Int) l po addr data ctrl rmw n6) ((x9 && (List.range' m d).any fun m => mat addr i m && mat po m j) || r) := by
  intro d
  induction d with
  | zero =>
    intro m hm
    refine Ev.step (fun k => by rw [cupolaref14_static.l1]) ?_
    refine Ev.neg (by omega) (Ev.step (fun k => by rw [cupolaref14_static.j7]) ?_)
    rw [show (x9 && (List.range' m 0).any fun m => mat addr i m && mat po m j) = false by simp, Bool.false_or, wrap64_succ j (by omega)]
    exact Ev.neg (by decide) hr
  | succ d ih =>
    intro m hm
    have h := ih (m + 1) (by omega)
    refine Ev.step (fun k => by rw [cupolaref14_static.l1]) ?_
    refine Ev.pos (by omega) (Ev.step (fun k => by rw [cupolaref14_static.j7]) ?_)
    rw [wrap64_succ j (by omega), wrap64_succ m (by omega)]
    rw [List.range'_succ, List.any_cons]
    cases x9 with
    | false =>
      rw [Bool.false_and, Bool.false_or]
      exact Ev.neg (by decide) hr
    | true =>
      rw [Bool.true_and] at h ⊢
      refine Ev.pos rfl (Ev.bind (rhas_ev ua _ _) ?_)
      rw [hasM_nat]
      by_cases h1 : mat addr i m = true
      · refine Ev.pos h1 (Ev.bind (rhas_ev up _ _) ?_)
        rw [hasM_nat]
        by_cases h2 : mat po m j = true
        · rw [h1, h2]
          exact Ev.pos rfl (Ev.now _)
        · rw [Bool.eq_false_iff.2 h2, Bool.and_false, Bool.false_or]
          exact Ev.neg (by decide) h
      · rw [Bool.eq_false_iff.2 h1, Bool.false_and, Bool.false_or]
        exact Ev.neg (by decide) h
omit hl in
theorem isK_one (c : Int) (y : S26) : isK [c] y = (y.f1 == c) := by
  unfold isK
  rw [Bool.eq_iff_iff, beq_iff_eq, decide_eq_true_eq]
  simp
/-- By way of an event. -/
def viaB (l : List S26) (po addr ctrl : List Int) (i k j : Nat) : Bool :=
  ((mat addr i j && mat po j k) && evp (isK [2]) l k) || (((evp (isK [6]) l j && mat po j k) && evp (isK [1]) l k) && (mat ctrl i j || innerB l po addr i j))
theorem st_l0 {po addr data ctrl rmw : List Int} (up : ∀ x ∈ po, U32 x) (ua : ∀ x ∈ addr, U32 x) (uc : ∀ x ∈ ctrl, U32 x) (i k : Nat) (hk : k < l.length) : ∀ d j : Nat, j + d = l.length →
    Ev (fun q => cupolaref14_static.l0 q (i : Int) (k : Int) (j : Int) l po addr data ctrl rmw n6) ((List.range' j d).any (viaB l po addr ctrl i k)) := by
  intro d
  induction d with
  | zero =>
    intro j hj
    refine Ev.step (fun k => by rw [cupolaref14_static.l0]) ?_
    exact Ev.neg (by omega) (Ev.now _)
  | succ d ih =>
    intro j hj
    have hjl : j < l.length := by omega
    have h := ih (j + 1) (by omega)
    rw [List.range'_succ, List.any_cons]
    generalize (List.range' (j + 1) d).any (viaB l po addr ctrl i k) = tl at h ⊢
    have w2 : (l[k].f1 == 2) = evp (isK [2]) l k := by rw [evp_at _ hk, isK_one]
    have w1 : (l[k].f1 == 1) = evp (isK [1]) l k := by rw [evp_at _ hk, isK_one]
    have w6 : (l[j].f1 == 6) = evp (isK [6]) l j := by rw [evp_at _ hjl, isK_one]
    have J5 : ∀ x9 x98 : Bool, Ev (fun q => cupolaref14_static.j5 q (i : Int) (k : Int) (j : Int) x9 x98 l po addr data ctrl rmw n6) (x98 || ((x9 && innerB l po addr i j) || tl)) := by
      intro x9 x98
      refine Ev.step (fun k => by rw [cupolaref14_static.j5]) ?_
      cases x98 with
      | true => exact Ev.pos rfl (Ev.now _)
      | false =>
        rw [Bool.false_or]
        exact Ev.neg (by decide) (st_l1 l hl n6 data ctrl rmw up ua i k j hjl x9 tl h l.length 0 (by omega))
    have J4 : ∀ x9 : Bool, Ev (fun q => cupolaref14_static.j4 q (i : Int) (k : Int) (j : Int) x9 l po addr data ctrl rmw n6) ((x9 && (mat ctrl i j || innerB l po addr i j)) || tl) := by
      intro x9
      refine Ev.step (fun k => by rw [cupolaref14_static.j4]) ?_
      cases x9 with
      | true =>
        refine Ev.pos rfl (Ev.bind (rhas_ev uc _ _) ?_)
        rw [hasM_nat]
        have := J5 true (mat ctrl i j)
        rw [Bool.true_and] at this ⊢
        rw [Bool.or_assoc]
        exact this
      | false =>
        have := J5 false false
        rw [Bool.false_or, Bool.false_and] at this
        rw [Bool.false_and]
        exact Ev.neg (by decide) this
    have J3 : ∀ x67 : Bool, Ev (fun q => cupolaref14_static.j3 q (i : Int) (k : Int) (j : Int) x67 l po addr data ctrl rmw n6) (x67 || ((((evp (isK [6]) l j && mat po j k) && evp (isK [1]) l k) && (mat ctrl i j || innerB l po addr i j)) || tl)) := by
      intro x67
      refine Ev.step (fun k => by rw [cupolaref14_static.j3]) ?_
      cases x67 with
      | true => exact Ev.pos rfl (Ev.now _)
      | false =>
        rw [Bool.false_or]
        refine Ev.neg (by decide) (Ev.pos (by omega) (Ev.pos (by omega) ?_))
        rw [rd26n l hjl, rd26n l hk]
        by_cases h6 : l[j].f1 = 6
        · rw [← w6, beq_iff_eq.mpr h6, Bool.true_and]
          refine Ev.pos h6 (Ev.bind (rhas_ev up _ _) ?_)
          rw [hasM_nat]
          by_cases hp : mat po j k = true
          · rw [hp, Bool.true_and]
            refine Ev.pos rfl (Ev.pos (by omega) (Ev.pos (by omega) ?_))
            rw [w1]
            exact J4 _
          · rw [Bool.eq_false_iff.2 hp, Bool.false_and]
            exact Ev.neg (by decide) (J4 false)
        · rw [← w6, beq_eq_false_iff_ne.mpr h6, Bool.false_and, Bool.false_and]
          exact Ev.neg h6 (J4 false)
    have J2 : ∀ x8 : Bool, Ev (fun q => cupolaref14_static.j2 q (i : Int) (k : Int) (j : Int) x8 l po addr data ctrl rmw n6) ((x8 && evp (isK [2]) l k) || ((((evp (isK [6]) l j && mat po j k) && evp (isK [1]) l k) && (mat ctrl i j || innerB l po addr i j)) || tl)) := by
      intro x8
      refine Ev.step (fun k => by rw [cupolaref14_static.j2]) ?_
      cases x8 with
      | true =>
        refine Ev.pos rfl (Ev.pos (by omega) (Ev.pos (by omega) ?_))
        rw [rd26n l hk, w2, Bool.true_and]
        exact J3 _
      | false =>
        rw [Bool.false_and]
        exact Ev.neg (by decide) (J3 false)
    unfold viaB
    rw [Bool.or_assoc]
    refine Ev.step (fun k => by rw [cupolaref14_static.l0]) ?_
    refine Ev.pos (by omega) (Ev.bind (rhas_ev ua _ _) ?_)
    rw [hasM_nat]
    by_cases ha : mat addr i j = true
    · rw [ha, Bool.true_and]
      refine Ev.pos rfl (Ev.bind (rhas_ev up _ _) ?_)
      rw [hasM_nat]
      exact J2 _
    · rw [Bool.eq_false_iff.2 ha, Bool.false_and]
      exact Ev.neg (by decide) (J2 false)
omit hl in
theorem via_eq {po addr data ctrl : List Int} (i k : Nat) : (mat addr i k || (mat data i k || ((mat ctrl i k && evp (isK [2]) l k) || (List.range' 0 l.length).any (viaB l po addr ctrl i k)))) = G.stM l.length l po addr data ctrl i k := by
  unfold G.stM
  congr 1
  congr 1
  congr 1
  rw [Bool.eq_iff_iff, ← List.range_eq_range']
  simp only [Bool.or_eq_true, Bool.and_eq_true, List.any_eq_true, List.mem_range, seqM_iff, viaB, innerB, ← List.range_eq_range']
  constructor
  · rintro ⟨j, hj, ⟨⟨h1, h2⟩, h3⟩ | ⟨⟨⟨h1, h2⟩, h3⟩, h4 | ⟨m, hm, h5, h6⟩⟩⟩
    · exact .inr ⟨⟨j, hj, h1, h2⟩, h3⟩
    · exact .inl ⟨⟨j, hj, ⟨.inl h4, h1⟩, h2⟩, h3⟩
    · exact .inl ⟨⟨j, hj, ⟨.inr ⟨m, hm, h5, h6⟩, h1⟩, h2⟩, h3⟩
  · rintro (⟨⟨j, hj, ⟨h4 | ⟨m, hm, h5, h6⟩, h1⟩, h2⟩, h3⟩ | ⟨⟨j, hj, h1, h2⟩, h3⟩)
    · exact ⟨j, hj, .inr ⟨⟨⟨h1, h2⟩, h3⟩, .inl h4⟩⟩
    · exact ⟨j, hj, .inr ⟨⟨⟨h1, h2⟩, h3⟩, .inr ⟨m, hm, h5, h6⟩⟩⟩
    · exact ⟨j, hj, .inl ⟨⟨h1, h2⟩, h3⟩⟩
theorem st_ev {po addr data ctrl rmw : List Int} (up : ∀ x ∈ po, U32 x) (ua : ∀ x ∈ addr, U32 x) (ud : ∀ x ∈ data, U32 x) (uc : ∀ x ∈ ctrl, U32 x) {i k : Nat} (hk : k < l.length) :
    Ev (fun q => cupolaref14_static.f q l po addr data ctrl rmw n6 (i : Int) (k : Int)) (G.stM l.length l po addr data ctrl i k) := by
  rw [← via_eq l i k]
  have w2 : (l[k].f1 == 2) = evp (isK [2]) l k := by rw [evp_at _ hk, isK_one]
  have J0 : ∀ b : Bool, Ev (fun q => cupolaref14_static.j0 q (i : Int) (k : Int) b l po addr data ctrl rmw n6) (b || (List.range' 0 l.length).any (viaB l po addr ctrl i k)) := by
    intro b
    refine Ev.step (fun k => by rw [cupolaref14_static.j0]) ?_
    cases b with
    | true => exact Ev.pos rfl (Ev.now _)
    | false =>
      rw [Bool.false_or]
      exact Ev.neg (by decide) (st_l0 l hl n6 up ua uc i k hk l.length 0 (by omega))
  unfold cupolaref14_static.f
  refine Ev.bind (rhas_ev ua _ _) ?_
  rw [hasM_nat]
  by_cases h1 : mat addr i k = true
  · rw [h1]; exact Ev.pos rfl (J0 true)
  · rw [Bool.eq_false_iff.2 h1, Bool.false_or]
    refine Ev.neg (by decide) (Ev.bind (rhas_ev ud _ _) ?_)
    rw [hasM_nat]
    by_cases h2 : mat data i k = true
    · rw [h2]; exact Ev.pos rfl (J0 true)
    · rw [Bool.eq_false_iff.2 h2, Bool.false_or]
      refine Ev.neg (by decide) (Ev.bind (rhas_ev uc _ _) ?_)
      rw [hasM_nat]
      by_cases h3 : mat ctrl i k = true
      · rw [h3, Bool.true_and]
        refine Ev.pos rfl (Ev.pos (by omega) (Ev.pos (by omega) ?_))
        rw [rd26n l hk, w2]
        exact J0 _
      · rw [Bool.eq_false_iff.2 h3, Bool.false_and]
        exact Ev.neg (by decide) (J0 false)
theorem rstatic_l1 {po addr data ctrl rmw : List Int} (up : ∀ x ∈ po, U32 x) (ua : ∀ x ∈ addr, U32 x) (ud : ∀ x ∈ data, U32 x) (uc : ∀ x ∈ ctrl, U32 x) (i : Nat) (hi : i < l.length) (acc : List S46) (hacc : acc.length ≤ 1024) (r : List Int)
    (hr : Ev (fun q => cupolaref14_Static.l0 q (acc ++ rowp (memM l (G.stM l.length l po addr data ctrl)) i l.length) (l.length : Int) ((i + 1 : Nat) : Int) l po addr data ctrl rmw n6) r) : ∀ d j : Nat, j + d = l.length →
    Ev (fun q => cupolaref14_Static.l1 q (acc ++ rowp (memM l (G.stM l.length l po addr data ctrl)) i j) (l.length : Int) (i : Int) (j : Int) l po addr data ctrl rmw n6) r := by
  intro d
  induction d with
  | zero =>
    intro j hj
    obtain rfl : j = l.length := by omega
    refine Ev.step (fun k => by rw [cupolaref14_Static.l1]) ?_
    refine Ev.neg (by omega) ?_
    rw [wrap64_succ i (by omega)]
    exact hr
  | succ d ih =>
    intro j hj
    have hjl : j < l.length := by omega
    have hrl := rowp_length (memM l (G.stM l.length l po addr data ctrl)) i j
    have h := ih (j + 1) (by omega)
    rw [rowp_succ] at h
    refine Ev.step (fun k => by rw [cupolaref14_Static.l1]) ?_
    rw [wrap64_succ j (by omega)]
    refine Ev.pos (by omega) (Ev.bindv (mem_at l po addr data ctrl rmw n6 hi) ?_)
    by_cases h1 : evp (isK [1, 2]) l i = true
    · refine Ev.pos h1 (Ev.bindv (mem_at l po addr data ctrl rmw n6 hjl) ?_)
      by_cases h2 : evp (isK [1, 2]) l j = true
      · refine Ev.pos h2 (Ev.bind (st_ev l hl n6 up ua ud uc (i := i) hjl) ?_)
        by_cases h3 : G.stM l.length l po addr data ctrl i j = true
        · refine Ev.pos h3 (Ev.pos (by rw [List.length_append]; omega) ?_)
          rw [if_pos (memM_true.2 ⟨⟨h1, h2⟩, h3⟩), ← List.append_assoc] at h
          exact h
        · refine Ev.neg h3 ?_
          rw [if_neg (fun h9 => h3 (memM_true.1 h9).2), List.append_nil] at h
          exact h
      · refine Ev.neg h2 ?_
        rw [if_neg (fun h9 => h2 (memM_true.1 h9).1.2), List.append_nil] at h
        exact h
    · refine Ev.neg h1 ?_
      rw [if_neg (fun h9 => h1 (memM_true.1 h9).1.1), List.append_nil] at h
      exact h
theorem rstatic_ev {po addr data ctrl rmw : List Int} (up : ∀ x ∈ po, U32 x) (ua : ∀ x ∈ addr, U32 x) (ud : ∀ x ∈ data, U32 x) (uc : ∀ x ∈ ctrl, U32 x) :
    Ev (fun q => cupolaref14_Static.f q l po addr data ctrl rmw n6) (ofM l.length (memM l (G.stM l.length l po addr data ctrl))) := by
  have loop : ∀ d i : Nat, i + d = l.length → Ev (fun q => cupolaref14_Static.l0 q ((List.range i).flatMap fun i => rowp (memM l (G.stM l.length l po addr data ctrl)) i l.length) (l.length : Int) (i : Int) l po addr data ctrl rmw n6) (ofM l.length (memM l (G.stM l.length l po addr data ctrl))) := by
    intro d
    induction d with
    | zero =>
      intro i hi
      obtain rfl : i = l.length := by omega
      refine Ev.step (fun k => by rw [cupolaref14_Static.l0]) ?_
      refine Ev.neg (by omega) ?_
      have hs := prs_small hl (memM l (G.stM l.length l po addr data ctrl))
      have := rmade_ev l.length hl (prs l.length (memM l (G.stM l.length l po addr data ctrl))) (by omega) (prs_inR _ _)
      rw [ofM_memP_prs] at this
      exact Ev.bind this (Ev.now _)
    | succ d ih =>
      intro i hi
      refine Ev.step (fun k => by rw [cupolaref14_Static.l0]) ?_
      refine Ev.pos (by omega) ?_
      have hfl := flat_length (memM l (G.stM l.length l po addr data ctrl)) l.length i
      have hb : i * l.length ≤ 1024 := Nat.le_trans (Nat.mul_le_mul (show i ≤ 32 by omega) hl) (by decide)
      have h := ih (i + 1) (by omega)
      rw [List.range_succ, List.flatMap_append] at h
      simp only [List.flatMap_cons, List.flatMap_nil, List.append_nil] at h
      have := rstatic_l1 l hl n6 up ua ud uc i (by omega) ((List.range i).flatMap fun i => rowp (memM l (G.stM l.length l po addr data ctrl)) i l.length) (by omega) _ h l.length 0 (by omega)
      simpa [rowp] using this
  unfold cupolaref14_Static.f
  exact loop l.length 0 (by omega)
theorem rdob_ev {po addr data ctrl rmw co : List Int} (up : ∀ x ∈ po, U32 x) (ua : ∀ x ∈ addr, U32 x) (ud : ∀ x ∈ data, U32 x) (uc : ∀ x ∈ ctrl, U32 x) (uo : ∀ x ∈ co, U32 x) (ha : sz addr = l.length) (hd : sz data = l.length) (hc : sz ctrl = l.length) (hco : sz co = l.length) (from_ : List Int) (hf : from_.length ≤ 9223372036854775807) :
    Ev (fun q => cupolaref14_Dob.f q l po addr data ctrl rmw n6 from_ co) (ofM l.length (memM l (dobM l.length l po addr data ctrl from_ co))) := by
  unfold cupolaref14_Dob.f
  refine Ev.bind (ror_at uc ud hc hd) (Ev.bind (rcoi_ev l hl po addr data ctrl rmw n6 uo hco) (Ev.bind (rseq_at (ofM_u32 _ _) (ofM_u32 _ _) (sz_ofM hl _) (sz_ofM hl _)) ?_))
  refine Ev.bind (ror_at ua ud ha hd) (Ev.bind (rrfi_ev l hl po addr data ctrl rmw n6 from_ hf) (Ev.bind (rseq_at (ofM_u32 _ _) (ofM_u32 _ _) (sz_ofM hl _) (sz_ofM hl _)) ?_))
  refine Ev.bind (rstatic_ev l hl n6 up ua ud uc) (Ev.bind (ror_at (ofM_u32 _ _) (ofM_u32 _ _) (sz_ofM hl _) (sz_ofM hl _)) (Ev.bind (rmemory_ev l hl po addr data ctrl rmw n6 (ofM_u32 _ _) (sz_ofM hl _)) (Ev.bind (ror_at (ofM_u32 _ _) (ofM_u32 _ _) (sz_ofM hl _) (sz_ofM hl _)) ?_)))
  refine Ev.ofEq (congrArg some (ofM_congr fun i k hi hk => ?_))
  rw [mat_in hl hi hk, mat_in hl hi hk]
  unfold memM dobM
  rw [mat_in hl hi hk, mat_in hl hi hk, mat_in hl hi hk]
  rw [seqM_congr (A := mat (ofM l.length fun i k => mat ctrl i k || mat data i k)) (A' := fun i j => mat ctrl i j || mat data i j) (B := mat (ofM l.length fun i k => mat co i k && innM l i k)) (B' := fun j k => mat co j k && innM l j k) (fun j hj => by rw [mat_in hl hi hj]) (fun j hj => by rw [mat_in hl hj hk])]
  rw [seqM_congr (A := mat (ofM l.length fun i k => mat addr i k || mat data i k)) (A' := fun i j => mat addr i j || mat data i j) (B := mat (ofM l.length fun i k => rfM from_ i k && innM l i k)) (B' := fun j k => rfM from_ j k && innM l j k) (fun j hj => by rw [mat_in hl hi hj]) (fun j hj => by rw [mat_in hl hj hk])]
  unfold memM
  cases evp (isK [1, 2]) l i <;> cases evp (isK [1, 2]) l k <;> simp
end
end Go.Proofs.Ytbamkkdikeedoaa.G
