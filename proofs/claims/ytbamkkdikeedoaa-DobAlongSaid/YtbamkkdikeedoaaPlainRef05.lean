/- Plain: what the document's relations (package cupolaref05) compute, as matrices. -/
import Derived.Test.YtbamkkdikeedoaaPlainRel
import Derived.Test.YtbamkkdikeedoaaGCupolaref05
namespace Go.Proofs.Ytbamkkdikeedoaa.G
open Go.RowKit Go.Proofs.YtbamkkdikeedoaaW.PrintWords Go.Proofs.YtbamkkdikeedoaaW.PrintLast Go.Proofs.YtbamkkdikeedoaaW.PrintMore

theorem rsize_eq (l : List Int) : cupolaref05_Size.f l = some (sz l : Int) := by
 unfold cupolaref05_Size.f sz
 by_cases h : (l.length : Int) > 32
 ·rw [if_pos h, if_neg (by omega)]; rfl
 ·rw [if_neg h, if_pos (by omega)]
theorem rbit_l0 (m : Nat) (hm : m < 4294967296) (n : Nat) (hn : n < 9223372036854775807) : ∀ d i, i + d = n →
  Ev (fun k => cupolaref05_bit.l0 k ((m / 2 ^ i : Nat) : Int) (n : Int) (i : Int)) (decide (m / 2 ^ n % 2 = 1)) := by
 intro d
 induction d with
 | zero =>
  intro i hi
  obtain rfl : i = n := by omega
  refine Ev.step (fun k => by rw [cupolaref05_bit.l0]) ?_
  refine Ev.neg (by omega) ?_
  have e : (Int.tmod ((m / 2 ^ i : Nat) : Int) 2 == 1) = decide (m / 2 ^ i % 2 = 1) := by
   generalize m / 2 ^ i = q
   rw [Int.tmod_eq_emod_of_nonneg (by omega), Bool.eq_iff_iff, beq_iff_eq, decide_eq_true_eq]
   omega
  rw [e]
  exact Ev.now _
 | succ d ih =>
  intro i hi
  refine Ev.step (fun k => by rw [cupolaref05_bit.l0]) ?_
  refine Ev.pos (by omega) ?_
  rw [wrap64_succ i (by omega)]
  have hle : m / 2 ^ i ≤ m := Nat.div_le_self _ _
  have e : Int.tdiv ((m / 2 ^ i : Nat) : Int) 2 % 4294967296 = ((m / 2 ^ (i + 1) : Nat) : Int) := by
   rw [Nat.pow_succ, ← Nat.div_div_eq_div_mul]
   generalize m / 2 ^ i = q at *
   rw [Int.tdiv_eq_ediv_of_nonneg (by omega)]
   omega
  rw [e]
  exact ih (i + 1) (by omega)
theorem rbit_ev {x : Int} (hx : U32 x) (n : Nat) (hn : n < 9223372036854775807) : Ev (fun k => cupolaref05_bit.f k x (n : Int)) (tb x n) := by
 obtain ⟨m, rfl⟩ := Int.eq_ofNat_of_zero_le hx.1
 have hm : m < 4294967296 := by have := hx.2; omega
 unfold cupolaref05_bit.f
 have h := rbit_l0 m hm n hn n 0 (by omega)
 rw [Nat.pow_zero, Nat.div_one] at h
 rw [tb_nat m n hm, Nat.testBit_eq_decide_div_mod_eq]
 exact h
theorem rhas_ev {l : List Int} (hl : ∀ x ∈ l, U32 x) (a b : Int) : Ev (fun k => cupolaref05_Has.f k l a b) (hasM l a b) := by
 have hle := sz_le l
 have hsl : sz l ≤ l.length := by unfold sz; split <;> omega
 unfold cupolaref05_Has.f
 refine Ev.bindv (rsize_eq l) ?_
 by_cases h1 : a ≥ 0
 ·refine Ev.pos h1 ?_
  obtain ⟨i, rfl⟩ := Int.eq_ofNat_of_zero_le h1
  by_cases h2 : i < sz l
  ·refine Ev.pos (by omega) ?_
   by_cases h3 : b ≥ 0
   ·refine Ev.pos h3 ?_
    obtain ⟨j, rfl⟩ := Int.eq_ofNat_of_zero_le h3
    by_cases h4 : j < sz l
    ·refine Ev.pos (by omega) (Ev.pos h1 (Ev.pos (by omega) ?_))
     have e : hasM l (i : Int) (j : Int) = tb (rd l (i : Int)) j := by
      unfold hasM mat; simp [h2, h4, rd]
     rw [e]
     exact Ev.bind (rbit_ev (mem_u32 hl i) j (by omega)) (Ev.now _)
    ·refine Ev.neg (by omega) ?_
     have e : hasM l (i : Int) (j : Int) = false := by unfold hasM mat; simp [h4]
     rw [e]; exact Ev.now _
   ·refine Ev.neg h3 ?_
    have e : hasM l (i : Int) b = false := by unfold hasM; simp [show ¬ 0 ≤ b from h3]
    rw [e]; exact Ev.now _
  ·refine Ev.neg (by omega) ?_
   have e : hasM l (i : Int) b = false := by unfold hasM mat; simp [h2]
   rw [e]; exact Ev.now _
 ·refine Ev.neg h1 ?_
  have e : hasM l a b = false := by unfold hasM; simp [show ¬ 0 ≤ a from h1]
  rw [e]; exact Ev.now _
theorem hasM_nat (l : List Int) (i k : Nat) : hasM l (i : Int) (k : Int) = mat l i k := by unfold hasM; simp
theorem rpower_l0 (n : Nat) (hn : n < 32) : ∀ d i, i + d = n → Ev (fun k => cupolaref05_power.l0 k (n : Int) ((2 ^ i : Nat) : Int) (i : Int)) ((2 ^ n : Nat) : Int) := by
 intro d
 induction d with
 | zero =>
  intro i hi
  obtain rfl : i = n := by omega
  refine Ev.step (fun k => by rw [cupolaref05_power.l0]) ?_
  exact Ev.neg (by omega) (Ev.now _)
 | succ d ih =>
  intro i hi
  refine Ev.step (fun k => by rw [cupolaref05_power.l0]) ?_
  refine Ev.pos (by omega) ?_
  rw [wrap64_succ i (by omega)]
  have h31 : 2 ^ i ≤ 2 ^ 30 := Nat.pow_le_pow_right (by decide) (by omega)
  have e : 2 * ((2 ^ i : Nat) : Int) % 4294967296 = ((2 ^ (i + 1) : Nat) : Int) := by
   rw [Nat.pow_succ]
   generalize 2 ^ i = q at *
   omega
  rw [e]
  exact ih (i + 1) (by omega)
theorem rpower_ev (n : Nat) (hn : n < 32) : Ev (fun k => cupolaref05_power.f k (n : Int)) ((2 ^ n : Nat) : Int) := by
 unfold cupolaref05_power.f
 exact rpower_l0 n hn n 0 (by omega)

def inR (n : Nat) (l : List S46) : Prop := ∀ p ∈ l, ∃ i k : Nat, i < n ∧ k < n ∧ p = ⟨(i : Int), (k : Int)⟩
theorem natWord_add (p : Nat → Bool) (b : Nat) (hb : p b = false) : ∀ n, b < n → natWord (fun k => p k || decide (k = b)) n = natWord p n + 2 ^ b
 | 0, h => by omega
 | n + 1, h => by
  rw [natWord, natWord]
  by_cases e : b = n
  ·subst e
   have : natWord (fun k => p k || decide (k = b)) b = natWord p b := by
    have : ∀ m, m ≤ b → natWord (fun k => p k || decide (k = b)) m = natWord p m := by
     intro m
     induction m with
     | zero => intro _; rfl
     | succ m ih =>
      intro hm
      rw [natWord, natWord, ih (by omega)]
      have hne : ¬ m = b := by omega
      simp [hne]
    exact this b (Nat.le_refl _)
   rw [this]
   simp [hb]; omega
  ·have hne : ¬ n = b := fun e' => e e'.symm
   rw [natWord_add p b hb n (by omega)]
   simp only [hne, decide_false, Bool.or_false]
   omega
theorem word_add (p : Nat → Bool) (b : Nat) (h : b < 32) (hb : p b = false) : (word p + ((2 ^ b : Nat) : Int)) % 4294967296 = word fun k => p k || decide (k = b) := by
 unfold word
 have h1 := natWord_add p b hb 32 h
 have h2 := natWord_lt (fun k => p k || decide (k = b)) 32
 rw [h1] at h2 ⊢
 generalize 2 ^ b = q at *
 omega
theorem rmade_l0 (n : Nat) (hn : n ≤ 32) (ps : List S46) (hlen : ps.length < 9223372036854775807) (hb : inR n ps) : ∀ suf pre, pre ++ suf = ps →
  Ev (fun k => cupolaref05_Made.l0 k ps (ofM n (memP pre)) (pre.length : Int)) (ofM n (memP ps)) := by
 intro suf
 induction suf with
 | nil =>
  intro pre h
  obtain rfl : pre = ps := by simpa using h
  refine Ev.step (fun k => by rw [cupolaref05_Made.l0]) ?_
  exact Ev.neg (by omega) (Ev.now _)
 | cons p suf ih =>
  intro pre h
  have hlt : pre.length < ps.length := by rw [← h]; simp
  obtain ⟨i, j, hi, hj, rfl⟩ := hb p (by rw [← h]; simp)
  have hr : rd_T46 ps (pre.length : Int) = ⟨(i : Int), (j : Int)⟩ := by rw [← h]; exact rd_mid _ _ _
  have hnext := ih (pre ++ [⟨(i : Int), (j : Int)⟩]) (by simpa using h)
  rw [List.length_append, List.length_singleton] at hnext
  refine Ev.step (fun k => by rw [cupolaref05_Made.l0]) ?_
  refine Ev.pos (by omega) (Ev.pos (by omega) ?_)
  rw [hr]
  dsimp only
  refine Ev.bind (rhas_ev (ofM_u32 _ _) _ _) ?_
  rw [hasM_nat, mat_ofM hn, wrap64_succ _ (by omega)]
  have hone : ∀ a b : Nat, memP [(⟨(i : Int), (j : Int)⟩ : S46)] a b = (decide (a = i) && decide (b = j)) := by
   intro a b
   simp only [memP, List.any_cons, List.any_nil, Bool.or_false]
   congr 1
   ·rw [decide_eq_decide]; omega
   ·rw [decide_eq_decide]; omega
  by_cases hm : memP pre i j = true
  ·refine Ev.pos (by simp [hi, hj, hm]) ?_
   have e : ofM n (memP pre) = ofM n (memP (pre ++ [⟨(i : Int), (j : Int)⟩])) := by
    refine ofM_congr fun a b _ _ => ?_
    rw [memP_append, hone]
    by_cases ha : a = i
    ·by_cases hb : b = j
     ·subst ha; subst hb; simp [hm]
     ·simp [hb]
    ·simp [ha]
   rw [e]
   exact hnext
  ·refine Ev.neg (by simp [hm]) (Ev.pos (by omega) (Ev.pos (by rw [ofM_length]; omega) (Ev.bind (rpower_ev j (by omega)) ?_)))
   rw [show rd (ofM n (memP pre)) (i : Int) = word fun k => decide (k < n) && memP pre i k from rd_tab _ _ _ hi, word_add _ j (by omega) (by simp [hm]), Int.toNat_natCast]
   have e : (ofM n (memP pre)).set i (word fun k => (decide (k < n) && memP pre i k) || decide (k = j)) = ofM n (memP (pre ++ [⟨(i : Int), (j : Int)⟩])) := by
    unfold ofM
    rw [tab_set]
    refine tab_congr fun a ha => ?_
    by_cases hai : a = i
    ·subst hai
     rw [if_pos rfl]
     congr 1
     funext k
     rw [memP_append, hone]
     by_cases hk : k = j
     ·subst hk; simp [hj]
     ·simp [hk]
    ·rw [if_neg hai]
     congr 1
     funext k
     rw [memP_append, hone]
     simp [hai]
   rw [e]
   exact hnext
theorem rmade_ev (n : Nat) (hn : n ≤ 32) (ps : List S46) (hlen : ps.length < 9223372036854775807) (hb : inR n ps) : Ev (fun k => cupolaref05_Made.f k (n : Int) ps) (ofM n (memP ps)) := by
 unfold cupolaref05_Made.f
 refine Ev.pos (by omega) (Ev.pos (by omega) ?_)
 rw [Int.toNat_natCast, ofM_false]
 exact rmade_l0 n hn ps hlen hb ps [] rfl

theorem prs_inR (n : Nat) (M : Nat → Nat → Bool) : inR n (prs n M) := fun p hp => by
 obtain ⟨i, k, hi, hk, _, e⟩ := mem_prs.1 hp
 exact ⟨i, k, hi, hk, e⟩
theorem prs_small {n : Nat} (hn : n ≤ 32) (M : Nat → Nat → Bool) : (prs n M).length ≤ 1024 :=
 Nat.le_trans (prs_length M n) (Nat.le_trans (Nat.mul_le_mul hn hn) (by decide))
end Go.Proofs.Ytbamkkdikeedoaa.G
