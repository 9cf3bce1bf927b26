/- Plain: what the program's relations (package rel) compute, as matrices. -/
import Derived.Test.YtbamkkdikeedoaaBits
import Derived.Test.YtbamkkdikeedoaaClos
import Derived.Test.YtbamkkdikeedoaaGRel
import Derived.Test.YtbamkkdikeedoaaGSlices
namespace Go.Proofs.Ytbamkkdikeedoaa.G
open Go.RowKit Go.Proofs.YtbamkkdikeedoaaW.PrintWords Go.Proofs.YtbamkkdikeedoaaW.PrintLast Go.Proofs.YtbamkkdikeedoaaW.PrintMore

set_option linter.unusedVariables false
theorem Ev.pos {α : Type} {c : Prop} [Decidable c] {g f : Nat → Option α} {r : α} (hc : c) (h : Ev g r) : Ev (fun k => if c then g k else f k) r := Ev.congr (fun k => if_pos hc) h
theorem Ev.neg {α : Type} {c : Prop} [Decidable c] {g f : Nat → Option α} {r : α} (hc : ¬ c) (h : Ev f r) : Ev (fun k => if c then g k else f k) r := Ev.congr (fun k => if_neg hc) h
theorem Ev.bindv {α β : Type} {g : Option α} {f : Nat → α → Option β} {a : α} {r : β} (h : g = some a) (k : Ev (fun n => f n a) r) : Ev (fun n => g.bind (f n)) r := Ev.congr (fun n => by rw [h]; rfl) k
theorem Ev.ofEq {α : Type} {g : Option α} {r : α} (h : g = some r) : Ev (fun _ => g) r := ⟨0, fun _ _ => h⟩

def mask (n : Nat) : Int := ((2 ^ n - 1 : Nat) : Int)
theorem tb_mask {n : Nat} (h : n ≤ 32) (k : Nat) : tb (mask n) k = decide (k < n) := by
 unfold mask
 have : 2 ^ n ≤ 2 ^ 32 := Nat.pow_le_pow_right (by decide) h
 rw [tb_nat _ _ (by have := Nat.two_pow_pos n; omega), Nat.testBit_two_pow_sub_one]
theorem all_eq {n : Nat} (h : n ≤ 32) : rel_all.f (n : Int) = some (mask n) := by
 have hp : 2 ^ n ≤ 2 ^ 32 := Nat.pow_le_pow_right (by decide) h
 have h0 := Nat.two_pow_pos n
 unfold rel_all.f
 rw [wrap_u64_nat n (by omega), if_pos (by omega)]
 unfold shl mask
 rw [wrap_u64, Int.one_mul, Int.toNat_natCast, show IntKind.u64.bits = 64 from rfl, show min n 64 = n by omega]
 have e : ((2 : Int) ^ n) = ((2 ^ n : Nat) : Int) := by simp
 rw [e, wrap_u64]
 congr 1
 omega
theorem new_eq (a : Int) : rel_New.f a = some (if 0 ≤ a ∧ a ≤ 32 then ofM a.toNat (fun _ _ => false) else []) := by
 unfold rel_New.f
 by_cases h0 : a < 0
 ·rw [if_pos h0, if_neg (by omega)]
 ·rw [if_neg h0]
  by_cases h1 : a > 32
  ·rw [if_pos h1, if_neg (by omega)]
  ·rw [if_neg h1, if_pos (by omega), if_pos (by omega), if_pos (by omega), replicate_tab]
   refine congrArg some ?_
   unfold ofM
   refine tab_congr fun i _ => ?_
   apply u32_ext ⟨by decide, by decide⟩ (word_u32 _)
   intro k hk
   rw [tb_word, tb_zero]; simp
theorem clean_l0 (l : List Int) (hl : l.length ≤ 32) : ∀ d i, i + d = l.length →
  Ev (fun k => rel_clean.l0 k l (tab l.length fun j => if j < i then word (fun k => decide (k < l.length) && mat l j k) else 0) (l.length : Int) (i : Int)) (ofM l.length (mat l)) := by
 intro d
 induction d with
 | zero =>
  intro i hi
  refine Ev.step (fun k => by rw [rel_clean.l0]) ?_
  refine Ev.neg (by omega) ?_
  obtain rfl : i = l.length := by omega
  rw [tab_congr (g := fun j => word (fun k => decide (k < l.length) && mat l j k)) (fun j hj => if_pos hj)]
  exact Ev.now _
 | succ d ih =>
  intro i hi
  have hlt : i < l.length := by omega
  refine Ev.step (fun k => by rw [rel_clean.l0]) ?_
  refine Ev.pos (by omega) (Ev.pos (by omega) (Ev.pos (by omega) (Ev.bindv (all_eq hl) (Ev.pos (by rw [tab_length]; omega) ?_))))
  rw [Int.toNat_natCast, tab_set, wrap64_succ i (by omega)]
  have e : (tab l.length fun j => if j = i then Go.bits .and .u32 (rd l (i : Int)) (mask l.length) else if j < i then word (fun k => decide (k < l.length) && mat l j k) else 0) = tab l.length fun j => if j < i + 1 then word (fun k => decide (k < l.length) && mat l j k) else 0 := by
   refine tab_congr fun j hj => ?_
   by_cases hji : j = i
   ·subst hji
    rw [if_pos rfl, if_pos (by omega)]
    apply u32_ext (bits_u32 _ _ _) (word_u32 _)
    intro k hk
    rw [tb_and, tb_mask hl, tb_word]
    simp only [mat, sz, hl, if_true, rd, Int.toNat_natCast, hj, hk, decide_true, Bool.true_and]
    cases decide (k < l.length) <;> simp
   ·rw [if_neg hji]
    by_cases hlt' : j < i
    ·rw [if_pos hlt', if_pos (by omega)]
    ·rw [if_neg hlt', if_neg (by omega)]
  rw [e]
  exact ih (i + 1) (by omega)
theorem clean_ev (l : List Int) : Ev (fun k => rel_clean.f k l) (ofM (sz l) (mat l)) := by
 unfold rel_clean.f
 by_cases h : (l.length : Int) > 32
 ·refine Ev.pos h ?_
  have : sz l = 0 := by unfold sz; rw [if_neg (by omega)]
  rw [this]
  exact Ev.now _
 ·have hl : l.length ≤ 32 := by omega
  have : sz l = l.length := by unfold sz; rw [if_pos hl]
  refine Ev.neg h (Ev.pos (by omega) (Ev.pos (by omega) ?_))
  rw [this, replicate_tab, Int.toNat_natCast]
  have := clean_l0 l hl l.length 0 (by omega)
  rw [tab_congr (g := fun _ => (0 : Int)) (fun j _ => if_neg (by omega))] at this
  exact this

theorem in_eq (l : List Int) (a b : Int) : rel_in.f l a b = some (decide (0 ≤ a ∧ a < l.length ∧ 0 ≤ b ∧ b < l.length)) := by
 unfold rel_in.f
 by_cases h1 : a ≥ 0
 ·rw [if_pos h1]
  by_cases h2 : a < (l.length : Int)
  ·rw [if_pos h2]
   by_cases h3 : b ≥ 0
   ·rw [if_pos h3]; congr 1; simp only [decide_eq_decide]; omega
   ·rw [if_neg h3]; congr 1; symm; simp only [decide_eq_false_iff_not]; omega
  ·rw [if_neg h2]; congr 1; symm; simp only [decide_eq_false_iff_not]; omega
 ·rw [if_neg h1]; congr 1; symm; simp only [decide_eq_false_iff_not]; omega
def hasM (l : List Int) (a b : Int) : Bool := decide (0 ≤ a) && decide (0 ≤ b) && mat l a.toNat b.toNat
theorem mem_u32 {l : List Int} (hl : ∀ x ∈ l, U32 x) (i : Nat) : U32 (l.getD i 0) := by
 rw [List.getD_eq_getElem?_getD]
 by_cases h : i < l.length
 ·rw [List.getElem?_eq_getElem h]; exact hl _ (List.getElem_mem h)
 ·rw [List.getElem?_eq_none (by omega)]; exact ⟨by decide, by decide⟩
theorem ofM_set {n : Nat} (M : Nat → Nat → Bool) {i j : Nat} (hn : n ≤ 32) (hi : i < n) (hj : j < n) :
  (ofM n M).set i (Go.bits .or .u32 (rd (ofM n M) (i : Int)) (shl .u32 1 (j : Int))) = ofM n (fun a b => M a b || (decide (a = i) && decide (b = j))) := by
 rw [show rd (ofM n M) (i : Int) = word fun k => decide (k < n) && M i k from rd_tab _ _ _ hi]
 unfold ofM
 rw [tab_set]
 refine tab_congr fun a ha => ?_
 by_cases h : a = i
 ·subst h
  rw [if_pos rfl]
  apply u32_ext (bits_u32 _ _ _) (word_u32 _)
  intro k hk
  rw [tb_or, tb_word, tb_word, tb_shl_one]
  by_cases hkj : k = j
  ·subst hkj; simp [hk, hj]
  ·simp [hk, hkj]
 ·rw [if_neg h]
  congr 1
  funext k
  simp [h]
theorem put_ev (l : List Int) (a b : Int) : Ev (fun k => rel_Put.f k l a b) (ofM (sz l) (fun i k => mat l i k || (decide ((i : Int) = a) && decide ((k : Int) = b)))) := by
 unfold rel_Put.f
 have hle := sz_le l
 refine Ev.bind (clean_ev l) (Ev.bindv (in_eq _ _ _) ?_)
 rw [ofM_length]
 by_cases hin : 0 ≤ a ∧ a < sz l ∧ 0 ≤ b ∧ b < sz l
 ·obtain ⟨h1, h2, h3, h4⟩ := hin
  obtain ⟨i, rfl⟩ := Int.eq_ofNat_of_zero_le h1
  obtain ⟨j, rfl⟩ := Int.eq_ofNat_of_zero_le h3
  refine Ev.pos (by simpa using ⟨by omega, by omega⟩) (Ev.pos h1 (Ev.pos h2 ?_))
  rw [wrap_u64_nat j (by omega)]
  refine Ev.pos (by omega) ?_
  rw [Int.toNat_natCast, ofM_set _ hle (by omega) (by omega)]
  have e : (ofM (sz l) fun a b => mat l a b || (decide (a = i) && decide (b = j))) = ofM (sz l) (fun a b => mat l a b || (decide ((a : Int) = (i : Int)) && decide ((b : Int) = (j : Int)))) := by
   refine ofM_congr fun p q _ _ => ?_
   congr 2
   ·rw [decide_eq_decide]; omega
   ·rw [decide_eq_decide]; omega
  rw [e]
  exact Ev.now _
 ·refine Ev.neg (by simpa using hin) ?_
  have e : ofM (sz l) (mat l) = ofM (sz l) (fun i k => mat l i k || (decide ((i : Int) = a) && decide ((k : Int) = b))) := by
   refine ofM_congr fun p q hp hq => ?_
   have : (decide ((p : Int) = a) && decide ((q : Int) = b)) = false := by
    rw [Bool.and_eq_false_iff]
    simp only [decide_eq_false_iff_not]
    omega
   rw [this, Bool.or_false]
  rw [e]
  exact Ev.now _

def rowp (M : Nat → Nat → Bool) (i j : Nat) : List S46 := ((List.range j).filter (M i)).map fun k : Nat => (⟨(i : Int), (k : Int)⟩ : S46)
def prs (n : Nat) (M : Nat → Nat → Bool) : List S46 := (List.range n).flatMap fun i => rowp M i n
theorem rowp_length (M : Nat → Nat → Bool) (i j : Nat) : (rowp M i j).length ≤ j := by
 unfold rowp
 rw [List.length_map]
 exact Nat.le_trans (List.length_filter_le _ _) (by simp)
theorem rowp_succ (M : Nat → Nat → Bool) (i j : Nat) : rowp M i (j + 1) = rowp M i j ++ if M i j then [(⟨(i : Int), (j : Int)⟩ : S46)] else [] := by
 unfold rowp
 rw [List.range_succ, List.filter_append, List.map_append]
 congr 1
 by_cases h : M i j <;> simp [h]
theorem flat_length (M : Nat → Nat → Bool) (n : Nat) : ∀ i, ((List.range i).flatMap fun i => rowp M i n).length ≤ i * n
 | 0 => by simp
 | i + 1 => by
  rw [List.range_succ, List.flatMap_append, List.length_append, Nat.succ_mul]
  have := flat_length M n i
  have := rowp_length M i n
  simp only [List.flatMap_cons, List.flatMap_nil, List.append_nil]
  omega
theorem prs_length (M : Nat → Nat → Bool) (n : Nat) : (prs n M).length ≤ n * n := flat_length M n n
theorem mem_prs {n : Nat} {M : Nat → Nat → Bool} {p : S46} : p ∈ prs n M ↔ ∃ i k : Nat, i < n ∧ k < n ∧ M i k = true ∧ p = ⟨(i : Int), (k : Int)⟩ := by
 unfold prs rowp
 simp only [List.mem_flatMap, List.mem_range, List.mem_map, List.mem_filter]
 constructor
 ·rintro ⟨i, hi, k, ⟨hk, hm⟩, rfl⟩; exact ⟨i, k, hi, hk, hm, rfl⟩
 ·rintro ⟨i, k, hi, hk, hm, rfl⟩; exact ⟨i, hi, k, ⟨hk, hm⟩, rfl⟩
theorem pairs_l1 (l0 : List Int) (n : Nat) (hn : n ≤ 32) (hl0 : l0.length = n) (M : Nat → Nat → Bool) (x8 : List Int) (i : Nat) (hi : i < n) (acc : List S46) (hacc : acc.length ≤ 1024) (r : List S46)
  (hr : Ev (fun k => rel_Pairs.l0 k l0 (acc ++ rowp M i n) x8 (n : Int) ((i + 1 : Nat) : Int)) r) : ∀ d j, j + d = n →
  Ev (fun k => rel_Pairs.l1 k l0 (acc ++ rowp M i j) (i : Int) (word fun k => decide (k < n) && M i k) x8 (n : Int) (i : Int) (l0.length : Int) (j : Int)) r := by
 intro d
 induction d with
 | zero =>
  intro j hj
  obtain rfl : j = n := by omega
  refine Ev.step (fun k => by rw [rel_Pairs.l1]) ?_
  refine Ev.neg (by omega) ?_
  rw [wrap64_succ i (by omega)]
  exact hr
 | succ d ih =>
  intro j hj
  have hjn : j < n := by omega
  have hrl := rowp_length M i j
  refine Ev.step (fun k => by rw [rel_Pairs.l1]) ?_
  refine Ev.pos (by omega) ?_
  rw [wrap_u64_nat j (by omega), shr_and_one (word_u32 _), tb_word, wrap64_succ j (by omega)]
  refine Ev.pos (by omega) ?_
  have h := ih (j + 1) (by omega)
  rw [rowp_succ] at h
  have h32 : j < 32 := by omega
  by_cases hm : M i j = true
  ·refine Ev.pos (by simp [hm, hjn, h32]) (Ev.pos (by rw [List.length_append]; omega) ?_)
   rw [if_pos hm, ← List.append_assoc] at h
   exact h
  ·refine Ev.neg (by simp [hm]) ?_
   rw [if_neg hm, List.append_nil] at h
   exact h
theorem pairs_l0 (l0 : List Int) (n : Nat) (hn : n ≤ 32) (hl0 : l0.length = n) (M : Nat → Nat → Bool) : ∀ d i, i + d = n →
  Ev (fun k => rel_Pairs.l0 k l0 ((List.range i).flatMap fun i => rowp M i n) (ofM n M) (n : Int) (i : Int)) (prs n M) := by
 intro d
 induction d with
 | zero =>
  intro i hi
  obtain rfl : i = n := by omega
  refine Ev.step (fun k => by rw [rel_Pairs.l0]) ?_
  exact Ev.neg (by omega) (Ev.now _)
 | succ d ih =>
  intro i hi
  have hin : i < n := by omega
  refine Ev.step (fun k => by rw [rel_Pairs.l0]) ?_
  refine Ev.pos (by omega) (Ev.pos (by omega) (Ev.pos (by rw [ofM_length]; omega) ?_))
  rw [show rd (ofM n M) (i : Int) = word fun k => decide (k < n) && M i k from rd_tab _ _ _ hin]
  have hf := flat_length M n i
  have hb : i * n ≤ 1024 := Nat.le_trans (Nat.mul_le_mul (show i ≤ 32 by omega) hn) (by decide)
  have h := ih (i + 1) (by omega)
  rw [List.range_succ, List.flatMap_append] at h
  simp only [List.flatMap_cons, List.flatMap_nil, List.append_nil] at h
  have := pairs_l1 l0 n hn hl0 M (ofM n M) i hin ((List.range i).flatMap fun i => rowp M i n) (by omega) (prs n M) h n 0 (by omega)
  simpa [rowp] using this
theorem pairs_ev (l : List Int) : Ev (fun k => rel_Pairs.f k l) (prs (sz l) (mat l)) := by
 unfold rel_Pairs.f
 refine Ev.bind (clean_ev l) ?_
 rw [ofM_length]
 by_cases h : l.length ≤ 32
 ·have hs : sz l = l.length := by unfold sz; rw [if_pos h]
  rw [hs]
  exact pairs_l0 l l.length h rfl (mat l) l.length 0 (by omega)
 ·have hs : sz l = 0 := by unfold sz; rw [if_neg h]
  rw [hs]
  refine Ev.step (fun k => by rw [rel_Pairs.l0]) ?_
  exact Ev.neg (by decide) (Ev.now _)

def memP (ps : List S46) (a b : Nat) : Bool := ps.any fun p => decide (p.f0 = (a : Int)) && decide (p.f1 = (b : Int))
theorem memP_append (ps qs : List S46) (a b : Nat) : memP (ps ++ qs) a b = (memP ps a b || memP qs a b) := by simp [memP]
theorem rd_mid (pre : List S46) (p : S46) (suf : List S46) : rd_T46 (pre ++ p :: suf) (pre.length : Int) = p := by
 simp [rd_T46, List.getD_eq_getElem?_getD]
theorem ofM_false (n : Nat) : List.replicate n (0 : Int) = ofM n fun _ _ => false := by
 rw [replicate_tab]
 unfold ofM
 refine tab_congr fun i _ => ?_
 apply u32_ext ⟨by decide, by decide⟩ (word_u32 _)
 intro k hk
 rw [tb_word, tb_zero]; simp
theorem only_row (n : Nat) (M : Nat → Nat → Bool) (t : Int) (i : Nat) : Go.bits .and .u32 (word fun k => decide (k < n) && M i k) t = word fun k => decide (k < n) && (M i k && tb t k) := by
 apply u32_ext (bits_u32 _ _ _) (word_u32 _)
 intro k hk
 rw [tb_and, tb_word, tb_word]
 simp [hk, Bool.and_assoc]
theorem only_l0 (n : Nat) (hn : n ≤ 32) (M : Nat → Nat → Bool) (f t : Int) (hf : U32 f) : ∀ d i, i + d = n →
  Ev (fun k => rel_Only.l0 k f t (tab n fun j => word fun k => decide (k < n) && if j < i then M j k && (tb f j && tb t k) else M j k) (n : Int) (i : Int)) (ofM n fun i k => M i k && (tb f i && tb t k)) := by
 intro d
 induction d with
 | zero =>
  intro i hi
  obtain rfl : i = n := by omega
  refine Ev.step (fun k => by rw [rel_Only.l0]) ?_
  refine Ev.neg (by omega) ?_
  have e : (tab i fun j => word fun k => decide (k < i) && if j < i then M j k && (tb f j && tb t k) else M j k) = ofM i fun i k => M i k && (tb f i && tb t k) := by
   unfold ofM
   refine tab_congr fun j hj => ?_
   simp [hj]
  rw [e]
  exact Ev.now _
 | succ d ih =>
  intro i hi
  have hin : i < n := by omega
  refine Ev.step (fun k => by rw [rel_Only.l0]) ?_
  refine Ev.pos (by omega) ?_
  rw [wrap_u64_nat i (by omega), shr_and_one hf, wrap64_succ i (by omega), Int.toNat_natCast]
  refine Ev.pos (by omega) ?_
  have h := ih (i + 1) (by omega)
  by_cases hb : tb f i = true
  ·refine Ev.neg (by simp [hb]) (Ev.pos (by omega) (Ev.pos (by rw [tab_length]; omega) ?_))
   rw [rd_tab _ _ _ hin, tab_set]
   have e : (tab n fun j => if j = i then Go.bits .and .u32 (word fun k => decide (k < n) && if i < i then M i k && (tb f i && tb t k) else M i k) t else word fun k => decide (k < n) && if j < i then M j k && (tb f j && tb t k) else M j k) = tab n fun j => word fun k => decide (k < n) && if j < i + 1 then M j k && (tb f j && tb t k) else M j k := by
    refine tab_congr fun j hj => ?_
    by_cases hji : j = i
    ·subst hji
     rw [if_pos rfl]
     simp only [Nat.lt_irrefl, if_false, Nat.lt_succ_self, if_true, hb, Bool.true_and]
     exact only_row n M t j
    ·rw [if_neg hji]
     congr 1
     funext k
     by_cases hlt : j < i
     ·rw [if_pos hlt, if_pos (by omega)]
     ·rw [if_neg hlt, if_neg (by omega)]
   rw [e]
   exact h
  ·refine Ev.pos (by simp [hb]) (Ev.pos (by omega) (Ev.pos (by rw [tab_length]; omega) (Ev.bindv rfl ?_)))
   rw [tab_set, rd_tab _ _ _ hin, if_pos rfl, tab_set]
   have e : (tab n fun j => if j = i then Go.bits .and .u32 0 t else if j = i then 0 else word fun k => decide (k < n) && if j < i then M j k && (tb f j && tb t k) else M j k) = tab n fun j => word fun k => decide (k < n) && if j < i + 1 then M j k && (tb f j && tb t k) else M j k := by
    refine tab_congr fun j hj => ?_
    by_cases hji : j = i
    ·subst hji
     rw [if_pos rfl]
     apply u32_ext (bits_u32 _ _ _) (word_u32 _)
     intro k hk
     rw [tb_and, tb_zero, tb_word]
     simp [hb]
    ·rw [if_neg hji, if_neg hji]
     congr 1
     funext k
     by_cases hlt : j < i
     ·rw [if_pos hlt, if_pos (by omega)]
     ·rw [if_neg hlt, if_neg (by omega)]
   rw [e]
   exact h
theorem only_ev (l : List Int) (f t : Int) (hf : U32 f) : Ev (fun k => rel_Only.f k l f t) (ofM (sz l) fun i k => mat l i k && (tb f i && tb t k)) := by
 unfold rel_Only.f
 refine Ev.bind (clean_ev l) ?_
 rw [ofM_length]
 have := only_l0 (sz l) (sz_le l) (mat l) f t hf (sz l) 0 (by omega)
 simpa [ofM] using this
theorem plus_l1 (n : Nat) (hn : n ≤ 32) (M : Nat → Nat → Bool) (j : Nat) (hj : j < n) (r : List Int)
  (hr : Ev (fun k => rel_Plus.l0 k (ofM n (wst M j)) (n : Int) ((j + 1 : Nat) : Int)) r) : ∀ d i, i + d = n →
  Ev (fun k => rel_Plus.l1 k (ofM n fun a b => if a < i then wst M j a b else M a b) (j : Int) (n : Int) (j : Int) (n : Int) (i : Int)) r := by
 intro d
 induction d with
 | zero =>
  intro i hi
  obtain rfl : i = n := by omega
  refine Ev.step (fun k => by rw [rel_Plus.l1]) ?_
  refine Ev.neg (by omega) ?_
  rw [wrap64_succ j (by omega), ofM_congr (M' := wst M j) (fun a b ha _ => if_pos ha)]
  exact hr
 | succ d ih =>
  intro i hi
  have hin : i < n := by omega
  have h := ih (i + 1) (by omega)
  have hrow : ∀ a, a < n → rd (ofM n fun a b => if a < i then wst M j a b else M a b) (a : Int) = word fun k => decide (k < n) && if a < i then wst M j a k else M a k := fun a ha => rd_tab _ _ _ ha
  refine Ev.step (fun k => by rw [rel_Plus.l1]) ?_
  refine Ev.pos (by omega) (Ev.pos (by omega) (Ev.pos (by rw [ofM_length]; omega) ?_))
  rw [wrap_u64_nat j (by omega), hrow i hin, shr_and_one (word_u32 _), wrap64_succ i (by omega), tb_word]
  refine Ev.pos (by omega) ?_
  simp only [Nat.lt_irrefl, if_false]
  have hj32 : j < 32 := by omega
  by_cases hb : M i j = true
  ·refine Ev.pos (by simp [hj, hj32, hb]) (Ev.pos (by omega) (Ev.pos (by rw [ofM_length]; omega) ?_))
   rw [Int.toNat_natCast, hrow j hj]
   have e : (ofM n fun a b => if a < i then wst M j a b else M a b).set i (Go.bits .or .u32 (word fun k => decide (k < n) && M i k) (word fun k => decide (k < n) && if j < i then wst M j j k else M j k)) = ofM n fun a b => if a < i + 1 then wst M j a b else M a b := by
    unfold ofM
    rw [tab_set]
    refine tab_congr fun a ha => ?_
    by_cases hai : a = i
    ·subst hai
     rw [if_pos rfl]
     apply u32_ext (bits_u32 _ _ _) (word_u32 _)
     intro k hk
     rw [tb_or, tb_word, tb_word, tb_word]
     by_cases hkn : k < n
     ·by_cases hja : j < a
      ·cases h1 : M a k <;> cases h2 : M j k <;> cases h3 : M j j <;> simp [hk, hkn, hja, wst, hb, h1, h2, h3]
      ·cases h1 : M a k <;> cases h2 : M j k <;> simp [hk, hkn, hja, wst, hb, h1, h2]
     ·simp [hkn]
    ·rw [if_neg hai]
     congr 1
     funext k
     dsimp only
     by_cases hlt : a < i
     ·rw [if_pos hlt, if_pos (by omega)]
     ·rw [if_neg hlt, if_neg (by omega)]
   rw [e]
   exact h
  ·refine Ev.neg (by simp [hb]) ?_
   have e : (ofM n fun a b => if a < i then wst M j a b else M a b) = ofM n fun a b => if a < i + 1 then wst M j a b else M a b := by
    refine ofM_congr fun a b _ _ => ?_
    by_cases hai : a = i
    ·subst hai
     rw [if_neg (by omega), if_pos (by omega)]
     simp [wst, hb]
    ·by_cases hlt : a < i
     ·rw [if_pos hlt, if_pos (by omega)]
     ·rw [if_neg hlt, if_neg (by omega)]
   rw [e] at *
   exact h
theorem plus_l0 (n : Nat) (hn : n ≤ 32) (M : Nat → Nat → Bool) : ∀ d j, j + d = n →
  Ev (fun k => rel_Plus.l0 k (ofM n (war M j)) (n : Int) (j : Int)) (ofM n (war M n)) := by
 intro d
 induction d with
 | zero =>
  intro j hj
  obtain rfl : j = n := by omega
  refine Ev.step (fun k => by rw [rel_Plus.l0]) ?_
  exact Ev.neg (by omega) (Ev.now _)
 | succ d ih =>
  intro j hj
  refine Ev.step (fun k => by rw [rel_Plus.l0]) ?_
  refine Ev.pos (by omega) ?_
  rw [ofM_length]
  have := plus_l1 n hn (war M j) j (by omega) (ofM n (war M n)) (ih (j + 1) (by omega)) n 0 (by omega)
  simpa using this
theorem plus_ev (l : List Int) : Ev (fun k => rel_Plus.f k l) (ofM (sz l) (plus (sz l) (mat l))) := by
 unfold rel_Plus.f
 refine Ev.bind (clean_ev l) ?_
 rw [ofM_length]
 have := plus_l0 (sz l) (sz_le l) (fun i k => decide (i < sz l) && decide (k < sz l) && mat l i k) (sz l) 0 (by omega)
 have e : ofM (sz l) (mat l) = ofM (sz l) (war (fun i k => decide (i < sz l) && decide (k < sz l) && mat l i k) 0) := ofM_congr fun i k hi hk => by simp [war, hi, hk]
 rw [e]
 exact this

def acy (n : Nat) (M : Nat → Nat → Bool) : Bool := (List.range n).all fun i => !plus n M i i
theorem acy_l0 (n : Nat) (hn : n ≤ 32) (M : Nat → Nat → Bool) : ∀ d i, i + d = n →
  Ev (fun k => rel_Acyclic.l0 k (ofM n M) (n : Int) (i : Int)) ((List.range' i d).all fun i => !M i i) := by
 intro d
 induction d with
 | zero =>
  intro i hi
  refine Ev.step (fun k => by rw [rel_Acyclic.l0]) ?_
  exact Ev.neg (by omega) (Ev.now _)
 | succ d ih =>
  intro i hi
  have hin : i < n := by omega
  have h32 : i < 32 := by omega
  refine Ev.step (fun k => by rw [rel_Acyclic.l0]) ?_
  refine Ev.pos (by omega) (Ev.pos (by omega) (Ev.pos (by rw [ofM_length]; omega) ?_))
  rw [wrap_u64_nat i (by omega), show rd (ofM n M) (i : Int) = word fun k => decide (k < n) && M i k from rd_tab _ _ _ hin, shr_and_one (word_u32 _), tb_word, wrap64_succ i (by omega)]
  refine Ev.pos (by omega) ?_
  rw [List.range'_succ, List.all_cons]
  by_cases hb : M i i = true
  ·rw [hb]
   exact Ev.pos (by simp [hin, h32]) (Ev.now _)
  ·rw [Bool.eq_false_iff.2 hb]
   exact Ev.neg (by simp) (by simpa using ih (i + 1) (by omega))
theorem acyclic_ev (l : List Int) : Ev (fun k => rel_Acyclic.f k l) (acy (sz l) (mat l)) := by
 unfold rel_Acyclic.f
 refine Ev.bind (plus_ev l) ?_
 rw [ofM_length]
 have := acy_l0 (sz l) (sz_le l) (plus (sz l) (mat l)) (sz l) 0 (by omega)
 rw [← List.range_eq_range'] at this
 exact this
theorem eq_l0 (a b : List Int) (hlen : a.length = b.length) (ha : a.length < 9223372036854775807) : ∀ d i, i + d = a.length →
  Ev (fun k => rel_Rel_uint32.l0 k a b (a.length : Int) (i : Int)) ((List.range' i d).all fun i => decide (a.getD i 0 = b.getD i 0)) := by
 intro d
 induction d with
 | zero =>
  intro i hi
  refine Ev.step (fun k => by rw [rel_Rel_uint32.l0]) ?_
  exact Ev.neg (by omega) (Ev.now _)
 | succ d ih =>
  intro i hi
  refine Ev.step (fun k => by rw [rel_Rel_uint32.l0]) ?_
  refine Ev.pos (by omega) (Ev.pos (by omega) (Ev.pos (by omega) (Ev.pos (by omega) ?_)))
  rw [wrap64_succ i (by omega), List.range'_succ, List.all_cons]
  by_cases h : a.getD i 0 = b.getD i 0
  ·refine Ev.pos (by simpa [rd] using h) ?_
   rw [decide_eq_true h, Bool.true_and]
   exact ih (i + 1) (by omega)
  ·refine Ev.neg (by simpa [rd] using h) ?_
   rw [decide_eq_false h, Bool.false_and]
   exact Ev.now _
theorem getD_ext {a b : List Int} (hlen : a.length = b.length) (h : ∀ i, i < a.length → a.getD i 0 = b.getD i 0) : a = b := by
 rw [list_tab a, list_tab b, ← hlen]
 exact tab_congr h
theorem equal_ev (a b : List Int) (ha : a.length < 9223372036854775807) : Ev (fun k => rel_Rel_uint32.f k a b) (decide (a = b)) := by
 unfold rel_Rel_uint32.f
 by_cases h : a.length = b.length
 ·refine Ev.pos (by omega) ?_
  have := eq_l0 a b h ha a.length 0 (by omega)
  have e : ((List.range' 0 a.length).all fun i => decide (a.getD i 0 = b.getD i 0)) = decide (a = b) := by
   rw [Bool.eq_iff_iff, decide_eq_true_eq, ← List.range_eq_range']
   simp only [List.all_eq_true, List.mem_range, decide_eq_true_eq]
   exact ⟨getD_ext h, fun e i _ => by rw [e]⟩
  rw [e] at this
  exact this
 ·refine Ev.neg (by omega) ?_
  rw [decide_eq_false (fun e => h (by rw [e]))]
  exact Ev.now _
def sameM (a b : List Int) : Bool := decide (ofM (sz a) (mat a) = ofM (sz b) (mat b))
theorem same_ev (a b : List Int) : Ev (fun k => rel_Same.f k a b) (sameM a b) := by
 unfold rel_Same.f
 have := sz_le a
 refine Ev.bind (clean_ev a) (Ev.bind (clean_ev b) (Ev.bind (equal_ev _ _ (by rw [ofM_length]; omega)) (Ev.now _)))
theorem sameM_iff (a b : List Int) : sameM a b = true ↔ sz a = sz b ∧ ∀ i k, i < sz a → k < sz a → mat a i k = mat b i k := by
 unfold sameM
 rw [decide_eq_true_eq]
 constructor
 ·intro h
  have hs : sz a = sz b := by have := congrArg List.length h; rwa [ofM_length, ofM_length] at this
  refine ⟨hs, ?_⟩
  rw [← hs] at h
  exact ofM_inj (sz_le a) h
 ·rintro ⟨hs, h⟩
  rw [← hs]
  exact ofM_congr h
end Go.Proofs.Ytbamkkdikeedoaa.G
