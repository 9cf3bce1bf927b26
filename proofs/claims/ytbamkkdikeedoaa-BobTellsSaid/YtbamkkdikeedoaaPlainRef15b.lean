/- Plain: what the document's Bob and Aob compute, as matrices. -/
import Derived.Test.YtbamkkdikeedoaaPlainRef15
namespace Go.Proofs.Ytbamkkdikeedoaa.G
open Go.RowKit Go.Proofs.YtbamkkdikeedoaaW.PrintWords Go.Proofs.YtbamkkdikeedoaaW.PrintLast Go.Proofs.YtbamkkdikeedoaaW.PrintMore
def rowJ (c : Nat → Nat → Nat → Bool) (i k m : Nat) : List S46 := ((List.range m).filter (c i k)).map fun _ => (⟨(i : Int), (k : Int)⟩ : S46)
def rowK (n : Nat) (c : Nat → Nat → Nat → Bool) (i m : Nat) : List S46 := (List.range m).flatMap fun k => rowJ c i k n
def rowI (n : Nat) (c : Nat → Nat → Nat → Bool) (m : Nat) : List S46 := (List.range m).flatMap fun i => rowK n c i n
theorem rowJ_len (c : Nat → Nat → Nat → Bool) (i k m : Nat) : (rowJ c i k m).length ≤ m := by
 unfold rowJ
 rw [List.length_map]
 exact Nat.le_trans (List.length_filter_le _ _) (by simp)
theorem rowJ_succ (c : Nat → Nat → Nat → Bool) (i k m : Nat) : rowJ c i k (m + 1) = rowJ c i k m ++ if c i k m then [(⟨(i : Int), (k : Int)⟩ : S46)] else [] := by
 unfold rowJ
 rw [List.range_succ, List.filter_append, List.map_append]
 congr 1
 by_cases h : c i k m <;> simp [h]
theorem rowK_succ (n : Nat) (c : Nat → Nat → Nat → Bool) (i m : Nat) : rowK n c i (m + 1) = rowK n c i m ++ rowJ c i m n := by
 unfold rowK
 rw [List.range_succ, List.flatMap_append]
 simp
theorem rowI_succ (n : Nat) (c : Nat → Nat → Nat → Bool) (m : Nat) : rowI n c (m + 1) = rowI n c m ++ rowK n c m n := by
 unfold rowI
 rw [List.range_succ, List.flatMap_append]
 simp
theorem rowK_len (n : Nat) (c : Nat → Nat → Nat → Bool) (i : Nat) : ∀ m, (rowK n c i m).length ≤ m * n
 | 0 => by simp [rowK]
 | m + 1 => by
  rw [rowK_succ, List.length_append, Nat.succ_mul]
  have := rowK_len n c i m
  have := rowJ_len c i m n
  omega
theorem rowI_len (n : Nat) (c : Nat → Nat → Nat → Bool) : ∀ m, (rowI n c m).length ≤ m * (n * n)
 | 0 => by simp [rowI]
 | m + 1 => by
  rw [rowI_succ, List.length_append, Nat.succ_mul]
  have := rowI_len n c m
  have := rowK_len n c m n
  omega
theorem rowI_mem {n : Nat} {c : Nat → Nat → Nat → Bool} {p : S46} : p ∈ rowI n c n ↔ ∃ i k j : Nat, i < n ∧ k < n ∧ j < n ∧ c i k j = true ∧ p = ⟨(i : Int), (k : Int)⟩ := by
 unfold rowI rowK rowJ
 simp only [List.mem_flatMap, List.mem_range, List.mem_map, List.mem_filter]
 constructor
 ·rintro ⟨i, hi, k, hk, j, ⟨hj, hc⟩, rfl⟩; exact ⟨i, k, j, hi, hk, hj, hc, rfl⟩
 ·rintro ⟨i, k, j, hi, hk, hj, hc, rfl⟩; exact ⟨i, hi, k, hk, j, ⟨hj, hc⟩, rfl⟩
theorem memP_iff (ps : List S46) (a b : Nat) : memP ps a b = true ↔ (⟨(a : Int), (b : Int)⟩ : S46) ∈ ps := by
 unfold memP
 simp only [List.any_eq_true, Bool.and_eq_true, decide_eq_true_eq]
 constructor
 ·rintro ⟨p, hp, h1, h2⟩
  obtain rfl : p = ⟨(a : Int), (b : Int)⟩ := by cases p; simp_all
  exact hp
 ·intro h; exact ⟨_, h, rfl, rfl⟩
theorem rowI_memP {n : Nat} {c : Nat → Nat → Nat → Bool} {a b : Nat} (ha : a < n) (hb : b < n) : memP (rowI n c n) a b = (List.range n).any fun j => c a b j := by
 rw [Bool.eq_iff_iff, memP_iff, rowI_mem]
 simp only [List.any_eq_true, List.mem_range]
 constructor
 ·rintro ⟨i, k, j, _, _, hj, hc, h⟩
  injection h with h1 h2
  obtain rfl : a = i := by omega
  obtain rfl : b = k := by omega
  exact ⟨j, hj, hc⟩
 ·rintro ⟨j, hj, hc⟩; exact ⟨a, b, j, ha, hb, hj, hc, rfl⟩
section
variable (l : List S26) (hl : l.length ≤ 32) (n2 n3 n4 n5 : List Int) (n6 : List (List Int))
include hl
def latB (l : List S26) (po co : List Int) (i k j : Nat) : Bool := evp isRel l j && (mat po i j && mat co j k)
theorem rbob_l2 {po co : List Int} (up : ∀ x ∈ po, U32 x) (uo : ∀ x ∈ co, U32 x) (i k : Nat) (hk : k < l.length) (acc : List S46) (hacc : acc.length ≤ 100000) (r : List Int)
  (hr : Ev (fun q => cupolaref15_Bob.l1 q co (acc ++ rowJ (latB l po co) i k l.length) (l.length : Int) (i : Int) ((k + 1 : Nat) : Int) l po n2 n3 n4 n5 n6) r) : ∀ d j : Nat, j + d = l.length →
  Ev (fun q => cupolaref15_Bob.l2 q co (acc ++ rowJ (latB l po co) i k j) (l.length : Int) (i : Int) (k : Int) (j : Int) l po n2 n3 n4 n5 n6) r := by
 intro d
 induction d with
 | zero =>
  intro j hj
  obtain rfl : j = l.length := by omega
  refine Ev.step (fun k => by rw [cupolaref15_Bob.l2]) ?_
  refine Ev.neg (by omega) ?_
  rw [wrap64_succ k (by omega)]
  exact hr
 | succ d ih =>
  intro j hj
  have hjl : j < l.length := by omega
  have hrl := rowJ_len (latB l po co) i k j
  have h := ih (j + 1) (by omega)
  rw [rowJ_succ] at h
  have skip : latB l po co i k j = false → Ev (fun q => cupolaref15_Bob.l2 q co (acc ++ rowJ (latB l po co) i k j) (l.length : Int) (i : Int) (k : Int) ((j + 1 : Nat) : Int) l po n2 n3 n4 n5 n6) r := by
   intro h9
   rw [h9] at h
   simpa using h
  refine Ev.step (fun k => by rw [cupolaref15_Bob.l2]) ?_
  rw [rd26n l hjl, wrap64_succ j (by omega)]
  refine Ev.pos (by omega) (Ev.pos (by omega) (Ev.pos (by omega) (Ev.bindv (rrel_eq _) ?_)))
  have er : isRel l[j] = evp isRel l j := (evp_at isRel hjl).symm
  rw [er]
  by_cases h1 : evp isRel l j = true
  ·refine Ev.pos h1 (Ev.bind (rhas_ev up _ _) ?_)
   rw [hasM_nat]
   by_cases h2 : mat po i j = true
   ·refine Ev.pos h2 (Ev.bind (rhas_ev uo _ _) ?_)
    rw [hasM_nat]
    by_cases h3 : mat co j k = true
    ·refine Ev.pos h3 (Ev.pos (by rw [List.length_append]; omega) ?_)
     rw [if_pos (by unfold latB; rw [h1, h2, h3]; rfl), ← List.append_assoc] at h
     exact h
    ·exact Ev.neg h3 (skip (by unfold latB; rw [Bool.eq_false_iff.2 h3]; simp))
   ·exact Ev.neg h2 (skip (by unfold latB; rw [Bool.eq_false_iff.2 h2]; simp))
  ·exact Ev.neg h1 (skip (by unfold latB; rw [Bool.eq_false_iff.2 h1]; rfl))
theorem rbob_l1 {po co : List Int} (up : ∀ x ∈ po, U32 x) (uo : ∀ x ∈ co, U32 x) (i : Nat) (hi : i < l.length) (acc : List S46) (hacc : acc.length ≤ 50000) (r : List Int)
  (hr : Ev (fun q => cupolaref15_Bob.l0 q co (acc ++ rowK l.length (latB l po co) i l.length) (l.length : Int) ((i + 1 : Nat) : Int) l po n2 n3 n4 n5 n6) r) : ∀ d k : Nat, k + d = l.length →
  Ev (fun q => cupolaref15_Bob.l1 q co (acc ++ rowK l.length (latB l po co) i k) (l.length : Int) (i : Int) (k : Int) l po n2 n3 n4 n5 n6) r := by
 intro d
 induction d with
 | zero =>
  intro k hk
  obtain rfl : k = l.length := by omega
  refine Ev.step (fun k => by rw [cupolaref15_Bob.l1]) ?_
  refine Ev.neg (by omega) ?_
  rw [wrap64_succ i (by omega)]
  exact hr
 | succ d ih =>
  intro k hk
  have hkl : k < l.length := by omega
  have hrl := rowK_len l.length (latB l po co) i k
  have hb : k * l.length ≤ 1024 := Nat.le_trans (Nat.mul_le_mul (show k ≤ 32 by omega) hl) (by decide)
  have h := ih (k + 1) (by omega)
  rw [rowK_succ, ← List.append_assoc] at h
  refine Ev.step (fun k => by rw [cupolaref15_Bob.l1]) ?_
  refine Ev.pos (by omega) ?_
  have := rbob_l2 l hl n2 n3 n4 n5 n6 up uo i k hkl (acc ++ rowK l.length (latB l po co) i k) (by rw [List.length_append]; omega) r h l.length 0 (by omega)
  simpa [rowJ] using this
theorem rbob_ev {po co : List Int} (up : ∀ x ∈ po, U32 x) (uo : ∀ x ∈ co, U32 x) (hco : sz co = l.length) : Ev (fun q => cupolaref15_Bob.f q l po n2 n3 n4 n5 n6 co) (ofM l.length (memM l (bobM l.length l po co))) := by
 unfold cupolaref15_Bob.f
 refine Ev.bind (rcoi_ev l hl po n2 n3 n4 n5 n6 uo hco) ?_
 have uC := ofM_u32 l.length fun i k => mat co i k && innM l i k
 have mC : ∀ i k, i < l.length → k < l.length → mat (ofM l.length fun i k => mat co i k && innM l i k) i k = (mat co i k && innM l i k) := fun i k hi hk => mat_in hl hi hk
 generalize (ofM l.length fun i k => mat co i k && innM l i k) = C at uC mC ⊢
 have hsq : l.length * l.length ≤ 1024 := Nat.le_trans (Nat.mul_le_mul hl hl) (by decide)
 have loop : ∀ d i : Nat, i + d = l.length → Ev (fun q => cupolaref15_Bob.l0 q C (rowI l.length (latB l po C) i) (l.length : Int) (i : Int) l po n2 n3 n4 n5 n6) (ofM l.length (memM l (bobM l.length l po co))) := by
  intro d
  induction d with
  | zero =>
   intro i hi
   obtain rfl : i = l.length := by omega
   refine Ev.step (fun k => by rw [cupolaref15_Bob.l0]) ?_
   refine Ev.neg (by omega) ?_
   have hlen := rowI_len l.length (latB l po C) l.length
   have hb : l.length * (l.length * l.length) ≤ 32768 := Nat.le_trans (Nat.mul_le_mul hl hsq) (by decide)
   have hm := rmade_ev l.length hl (rowI l.length (latB l po C) l.length) (by omega) (fun p hp => by
    obtain ⟨i, k, _, hi, hk, _, _, e⟩ := rowI_mem.1 hp
    exact ⟨i, k, hi, hk, e⟩)
   refine Ev.bind (rfences_ev l hl n2 n3 n4 n5 n6 up) (Ev.bind (rorders_ev l hl n2 n3 n4 n5 n6 up) (Ev.bind (ror_at (ofM_u32 _ _) (ofM_u32 _ _) (sz_ofM hl _) (sz_ofM hl _)) (Ev.bind hm (Ev.bind (rmemory_ev l hl po n2 n3 n4 n5 n6 (ofM_u32 _ _) (sz_ofM hl _)) (Ev.bind (ror_at (ofM_u32 _ _) (ofM_u32 _ _) (sz_ofM hl _) (sz_ofM hl _)) ?_)))))
   refine Ev.ofEq (congrArg some (ofM_congr fun i k hi hk => ?_))
   rw [mat_in hl hi hk, mat_in hl hi hk, mat_in hl hi hk, mat_in hl hi hk]
   unfold memM bobM
   rw [mat_in hl hi hk, rowI_memP hi hk]
   have e : ((List.range l.length).any fun j => latB l po C i k j) = seqM l.length (fun i j => mat po i j && evp isRel l j) (fun j k => mat co j k && innM l j k) i k := by
    rw [Bool.eq_iff_iff, seqM_iff]
    simp only [List.any_eq_true, List.mem_range, latB, Bool.and_eq_true]
    constructor
    ·rintro ⟨j, hj, h1, h2, h3⟩
     rw [mC j k hj hk] at h3
     exact ⟨j, hj, ⟨h2, h1⟩, by simpa using h3⟩
    ·rintro ⟨j, hj, ⟨h2, h1⟩, h3⟩
     exact ⟨j, hj, h1, h2, by rw [mC j k hj hk]; simpa using h3⟩
   rw [e]
   unfold memM
   cases evp (isK [1, 2]) l i <;> cases evp (isK [1, 2]) l k <;> simp [Bool.or_assoc]
  | succ d ih =>
   intro i hi
   have hil : i < l.length := by omega
   have hlen := rowI_len l.length (latB l po C) i
   have hb : i * (l.length * l.length) ≤ 32768 := Nat.le_trans (Nat.mul_le_mul (show i ≤ 32 by omega) hsq) (by decide)
   have h := ih (i + 1) (by omega)
   rw [rowI_succ] at h
   refine Ev.step (fun k => by rw [cupolaref15_Bob.l0]) ?_
   refine Ev.pos (by omega) ?_
   have := rbob_l1 l hl n2 n3 n4 n5 n6 up uC i hil (rowI l.length (latB l po C) i) (by omega) _ h l.length 0 (by omega)
   simpa [rowK] using this
 exact loop l.length 0 (by omega)
def exB (l : List S26) (p s : S46) : Bool := decide (s.f1 = p.f0) && evp isAcq l p.f1.toNat
omit hl in
theorem raob_l1 {po : List Int} (ps ss : List S46) (hss : ss.length ≤ 1024) (hps : ps.length ≤ 1024) (hin : inR l.length ps) (a : Nat) (ha : a < ps.length) (acc : List S46) (hacc : acc.length ≤ 2000000) (r : List Int)
  (hr : Ev (fun q => cupolaref15_Aob.l0 q (acc ++ ((ss.filter (exB l ps[a])).map fun _ => ps[a])) ps ss ((a + 1 : Nat) : Int) l po n2 n3 n4 n5 n6) r) : ∀ d j : Nat, j + d = ss.length →
  Ev (fun q => cupolaref15_Aob.l1 q (acc ++ (((ss.take j).filter (exB l ps[a])).map fun _ => ps[a])) ps ss (a : Int) (j : Int) l po n2 n3 n4 n5 n6) r := by
 intro d
 induction d with
 | zero =>
  intro j hj
  obtain rfl : j = ss.length := by omega
  refine Ev.step (fun k => by rw [cupolaref15_Aob.l1]) ?_
  rw [List.take_length, wrap64_succ a (by omega)]
  exact Ev.neg (by omega) hr
 | succ d ih =>
  intro j hj
  have hjl : j < ss.length := by omega
  have h := ih (j + 1) (by omega)
  have hlen : (((ss.take j).filter (exB l ps[a])).map fun _ => ps[a]).length ≤ j := by
   rw [List.length_map]
   refine Nat.le_trans (List.length_filter_le _ _) ?_
   rw [List.length_take]; omega
  rw [List.take_add_one, List.getElem?_eq_getElem hjl, List.filter_append, List.map_append] at h
  obtain ⟨x, y, hx, hy, hp⟩ := hin _ (List.getElem_mem ha)
  have e1 : rd_T46 ss (j : Int) = ss[j] := by simp [rd_T46, List.getD_eq_getElem?_getD, List.getElem?_eq_getElem hjl]
  have e2 : rd_T46 ps (a : Int) = ps[a] := by simp [rd_T46, List.getD_eq_getElem?_getD, List.getElem?_eq_getElem ha]
  have skip : exB l ps[a] ss[j] = false → Ev (fun q => cupolaref15_Aob.l1 q (acc ++ (((ss.take j).filter (exB l ps[a])).map fun _ => ps[a])) ps ss (a : Int) ((j + 1 : Nat) : Int) l po n2 n3 n4 n5 n6) r := by
   intro h9
   simpa [h9] using h
  refine Ev.step (fun k => by rw [cupolaref15_Aob.l1]) ?_
  rw [e1, e2, wrap64_succ j (by omega)]
  refine Ev.pos (by omega) (Ev.pos (by omega) (Ev.pos (by omega) (Ev.pos (by omega) ?_)))
  by_cases h1 : ss[j].f1 = ps[a].f0
  ·have hf1 : ps[a].f1 = (y : Int) := by rw [hp]
   refine Ev.pos h1 (Ev.pos (by omega) (Ev.pos (by omega) ?_))
   rw [hf1, rd26n l hy]
   refine Ev.bindv (racq_eq _) ?_
   have ea : isAcq l[y] = evp isAcq l y := (evp_at isAcq hy).symm
   rw [ea]
   by_cases h2 : evp isAcq l y = true
   ·refine Ev.pos h2 (Ev.pos (by rw [List.length_append]; omega) ?_)
    have hx2 : exB l ps[a] ss[j] = true := by unfold exB; rw [hf1, Int.toNat_natCast, h2]; simp [h1]
    have hs : (⟨ps[a].f0, (y : Int)⟩ : S46) = ps[a] := by rw [← hf1]
    rw [hs]
    simpa [hx2] using h
   ·refine Ev.neg h2 (skip ?_)
    unfold exB; rw [hf1, Int.toNat_natCast, Bool.eq_false_iff.2 h2, Bool.and_false]
  ·refine Ev.neg h1 (skip ?_)
   unfold exB; simp [h1]
theorem raob_ev {po addr data ctrl rmw : List Int} (ur : ∀ x ∈ rmw, U32 x) (hr : sz rmw = l.length) (from_ : List Int) (hf : from_.length ≤ 9223372036854775807) : Ev (fun q => cupolaref15_Aob.f q l po addr data ctrl rmw n6 from_) (ofM l.length (memM l (aobM l.length l rmw from_))) := by
 unfold cupolaref15_Aob.f
 have hp1 := rpairs_ev ur
 rw [hr] at hp1
 have hp2 := rpairs_ev (ofM_u32 l.length fun i k => rfM from_ i k && innM l i k)
 rw [sz_ofM hl] at hp2
 refine Ev.bind (rrfi_ev l hl po addr data ctrl rmw n6 from_ hf) (Ev.bind hp1 (Ev.bind hp2 (Ev.bind hp1 ?_)))
 have hmp : ∀ a b, a < l.length → b < l.length → memP (prs l.length (mat (ofM l.length fun i k => rfM from_ i k && innM l i k))) a b = (rfM from_ a b && innM l a b) := by
  intro a b ha hb
  rw [memP_prs, mat_in hl ha hb]; simp [ha, hb]
 have hps := prs_small hl (mat (ofM l.length fun i k => rfM from_ i k && innM l i k))
 have hinp := prs_inR l.length (mat (ofM l.length fun i k => rfM from_ i k && innM l i k))
 generalize prs l.length (mat (ofM l.length fun i k => rfM from_ i k && innM l i k)) = ps at hmp hps hinp ⊢
 have hss := prs_small hl (mat rmw)
 have grow : ∀ a, ((ps.take a).flatMap fun p => ((prs l.length (mat rmw)).filter (exB l p)).map fun _ => p).length ≤ a * 1024 := by
  intro a
  induction a with
  | zero => simp
  | succ a iha =>
   rw [Nat.succ_mul]
   cases h9 : ps[a]? with
   | none => rw [List.take_add_one, h9]; simp only [Option.toList, List.append_nil]; exact Nat.le_trans iha (Nat.le_add_right _ _)
   | some p =>
    rw [List.take_add_one, h9, List.flatMap_append, List.length_append]
    simp only [Option.toList, List.flatMap_cons, List.flatMap_nil, List.append_nil, List.length_map]
    exact Nat.add_le_add iha (Nat.le_trans (List.length_filter_le (exB l p) (prs l.length (mat rmw))) hss)
 have loop : ∀ d a : Nat, a + d = ps.length → Ev (fun q => cupolaref15_Aob.l0 q (prs l.length (mat rmw) ++ (ps.take a).flatMap fun p => ((prs l.length (mat rmw)).filter (exB l p)).map fun _ => p) ps (prs l.length (mat rmw)) (a : Int) l po addr data ctrl rmw n6) (ofM l.length (memM l (aobM l.length l rmw from_))) := by
  intro d
  induction d with
  | zero =>
   intro a ha
   obtain rfl : a = ps.length := by omega
   refine Ev.step (fun k => by rw [cupolaref15_Aob.l0]) ?_
   refine Ev.neg (by omega) ?_
   rw [List.take_length]
   have hg := grow ps.length
   rw [List.take_length] at hg
   have hinr : inR l.length (prs l.length (mat rmw) ++ ps.flatMap fun p => ((prs l.length (mat rmw)).filter (exB l p)).map fun _ => p) := by
    intro p hp
    rcases List.mem_append.1 hp with hp | hp
    ·exact prs_inR _ _ p hp
    ·obtain ⟨q, hq, hq2⟩ := List.mem_flatMap.1 hp
     obtain ⟨s, hs, rfl⟩ := List.mem_map.1 hq2
     exact hinp q hq
   refine Ev.bind (rmade_ev l.length hl _ (by rw [List.length_append]; omega) hinr) (Ev.bind (rmemory_ev l hl po addr data ctrl rmw n6 (ofM_u32 _ _) (sz_ofM hl _)) (Ev.ofEq (congrArg some (ofM_congr fun i k hi hk => ?_))))
   unfold memM aobM
   rw [mat_in hl hi hk, memP_append, memP_prs]
   simp only [hi, hk, decide_true, Bool.true_and]
   congr 1
   congr 1
   rw [Bool.eq_iff_iff, memP_iff, List.mem_flatMap]
   simp only [Bool.and_eq_true, List.mem_map, List.mem_filter]
   constructor
   ·rintro ⟨p, hp, s, ⟨hs, hx⟩, rfl⟩
    have h1 : memP ps i k = true := (memP_iff _ _ _).2 hp
    rw [hmp i k hi hk] at h1
    unfold exB at hx
    simp only [Bool.and_eq_true, decide_eq_true_eq, Int.toNat_natCast] at hx h1
    refine ⟨h1, ?_, hx.2⟩
    unfold toM
    rw [List.any_eq_true]
    exact ⟨s, hs, decide_eq_true hx.1⟩
   ·rintro ⟨h1, h2, h3⟩
    have hp : memP ps i k = true := by rw [hmp i k hi hk]; simpa using h1
    unfold toM at h2
    rw [List.any_eq_true] at h2
    obtain ⟨s, hs, hx⟩ := h2
    refine ⟨_, (memP_iff _ _ _).1 hp, s, ⟨hs, ?_⟩, rfl⟩
    unfold exB
    simp only [Int.toNat_natCast]
    rw [h3, hx]; rfl
  | succ d ih =>
   intro a ha
   have hal : a < ps.length := by omega
   have hg := grow a
   have h := ih (a + 1) (by omega)
   rw [List.take_add_one, List.getElem?_eq_getElem hal, List.flatMap_append, ← List.append_assoc] at h
   simp only [Option.toList, List.flatMap_cons, List.flatMap_nil, List.append_nil] at h
   refine Ev.step (fun k => by rw [cupolaref15_Aob.l0]) ?_
   refine Ev.pos (by omega) ?_
   have hb : a * 1024 ≤ 1048576 := Nat.le_trans (Nat.mul_le_mul_right 1024 (show a ≤ 1024 by omega)) (by decide)
   have hlen : (prs l.length (mat rmw) ++ (ps.take a).flatMap fun p => ((prs l.length (mat rmw)).filter (exB l p)).map fun _ => p).length ≤ 2000000 := by
    rw [List.length_append]
    generalize ((ps.take a).flatMap fun p => ((prs l.length (mat rmw)).filter (exB l p)).map fun _ => p).length = X at hg ⊢
    generalize (prs l.length (mat rmw)).length = Y at hss ⊢
    omega
   have := raob_l1 l addr data ctrl rmw n6 ps (prs l.length (mat rmw)) hss hps hinp a hal _ hlen _ h (prs l.length (mat rmw)).length 0 (by omega)
   simpa using this
 have := loop ps.length 0 (by omega)
 simpa using this
end
end Go.Proofs.Ytbamkkdikeedoaa.G
