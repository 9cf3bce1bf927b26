/- Plain: bits of numbers of 32 bits, lists by their places, relations as matrices. -/
import Derived.Test.YtbamkkdikeedoaaG0
namespace Go.Proofs.Ytbamkkdikeedoaa.G
open Go.RowKit Go.Proofs.YtbamkkdikeedoaaW.PrintWords Go.Proofs.YtbamkkdikeedoaaW.PrintLast Go.Proofs.YtbamkkdikeedoaaW.PrintMore

def U32 (x : Int) : Prop := 0 ≤ x ∧ x < 4294967296
def tb (x : Int) (k : Nat) : Bool := (BitVec.ofInt 32 x).getLsbD k
def natWord (p : Nat → Bool) : Nat → Nat
 | 0 => 0
 | n + 1 => (if p n then 2 ^ n else 0) + natWord p n
theorem natWord_lt (p : Nat → Bool) : ∀ n, natWord p n < 2 ^ n
 | 0 => by simp [natWord]
 | n + 1 => by
  have := natWord_lt p n
  rw [natWord, Nat.pow_succ]
  split <;> omega
theorem natWord_bit (p : Nat → Bool) : ∀ n k, (natWord p n).testBit k = (decide (k < n) && p k)
 | 0, k => by simp [natWord]
 | n + 1, k => by
  rw [natWord]
  have ih := natWord_bit p n
  by_cases h : k = n
  ·subst h
   have hz : (natWord p k).testBit k = false := Nat.testBit_lt_two_pow (natWord_lt p k)
   cases hp : p k
   ·simp [hz]
   ·rw [if_pos rfl, Nat.testBit_two_pow_add_eq, hz]; simp
  ·by_cases hlt : k < n
   ·have h1 : k < n + 1 := by omega
    split
    ·rw [Nat.testBit_two_pow_add_gt hlt, ih]; simp [hlt, h1]
    ·rw [Nat.zero_add, ih]; simp [hlt, h1]
   ·have h1 : ¬ k < n + 1 := by omega
    have hb : (if p n then 2 ^ n else 0) + natWord p n < 2 ^ (n + 1) := natWord_lt p (n + 1)
    rw [Nat.testBit_lt_two_pow (Nat.lt_of_lt_of_le hb (Nat.pow_le_pow_right (by decide) (by omega)))]
    simp [h1]
def word (p : Nat → Bool) : Int := (natWord p 32 : Int)

theorem ofInt_toNat (b : BitVec 32) : BitVec.ofInt 32 (b.toNat : Int) = b := by
 rw [BitVec.ofInt_natCast]; simp
theorem word_u32 (p : Nat → Bool) : U32 (word p) := ⟨by unfold word; omega, by unfold word; have := natWord_lt p 32; omega⟩
theorem tb_nat (n k : Nat) (h : n < 4294967296) : tb (n : Int) k = n.testBit k := by
 unfold tb
 rw [BitVec.ofInt_natCast, BitVec.getLsbD_ofNat]
 by_cases hk : k < 32
 ·simp [hk]
 ·simp only [hk, decide_false, Bool.false_and]
  rw [Nat.testBit_lt_two_pow (Nat.lt_of_lt_of_le (m := 2 ^ 32) h (Nat.pow_le_pow_right (by decide) (by omega)))]
theorem tb_word (p : Nat → Bool) (k : Nat) : tb (word p) k = (decide (k < 32) && p k) := by
 unfold word
 rw [tb_nat _ _ (natWord_lt p 32), natWord_bit]
theorem u32_bv {x : Int} (h : U32 x) : x = ((BitVec.ofInt 32 x).toNat : Int) := by
 obtain ⟨n, rfl⟩ := Int.eq_ofNat_of_zero_le h.1
 rw [BitVec.ofInt_natCast, BitVec.toNat_ofNat]
 have := h.2
 omega
theorem u32_ext {x y : Int} (hx : U32 x) (hy : U32 y) (h : ∀ k, k < 32 → tb x k = tb y k) : x = y := by
 rw [u32_bv hx, u32_bv hy]
 congr 2
 apply BitVec.eq_of_getLsbD_eq
 intro i hi
 exact h i hi
theorem bits_u32 (op : BinOp) (x y : Int) : U32 (Go.bits op .u32 x y) := by
 unfold Go.bits
 rw [IntKind.wrap_u32]
 constructor <;> omega
theorem wrap_bv (b : BitVec 32) : IntKind.u32.wrap (b.toNat : Int) = (b.toNat : Int) := by
 rw [IntKind.wrap_u32]; have := b.isLt; omega
theorem tb_and (x y : Int) (k : Nat) : tb (Go.bits .and .u32 x y) k = (tb x k && tb y k) := by
 unfold Go.bits tb
 show (BitVec.ofInt 32 (IntKind.u32.wrap ((BitVec.ofInt 32 x &&& BitVec.ofInt 32 y).toNat : Int))).getLsbD k = _
 rw [wrap_bv, ofInt_toNat, BitVec.getLsbD_and]
theorem tb_or (x y : Int) (k : Nat) : tb (Go.bits .or .u32 x y) k = (tb x k || tb y k) := by
 unfold Go.bits tb
 show (BitVec.ofInt 32 (IntKind.u32.wrap ((BitVec.ofInt 32 x ||| BitVec.ofInt 32 y).toNat : Int))).getLsbD k = _
 rw [wrap_bv, ofInt_toNat, BitVec.getLsbD_or]
theorem tb_zero (k : Nat) : tb 0 k = false := by simp [tb]
theorem wrap_u64 (n : Int) : IntKind.u64.wrap n = n % 18446744073709551616 := by simp [IntKind.wrap, IntKind.bits, IntKind.signed]
theorem wrap_u64_nat (n : Nat) (h : n < 18446744073709551616) : IntKind.u64.wrap (n : Int) = (n : Int) := by rw [wrap_u64]; omega
theorem tb_shl_one (j k : Nat) : tb (shl .u32 1 (j : Int)) k = (decide (k = j) && decide (k < 32)) := by
 unfold shl
 rw [IntKind.wrap_u32, Int.one_mul, Int.toNat_natCast]
 have e : ((2 : Int) ^ min j IntKind.u32.bits % 4294967296) = ((2 ^ min j 32 % 4294967296 : Nat) : Int) := by
  simp [IntKind.bits]
 rw [e, tb_nat _ _ (Nat.mod_lt _ (by decide)), show (4294967296 : Nat) = 2 ^ 32 from rfl, Nat.testBit_mod_two_pow, Nat.testBit_two_pow]
 by_cases h1 : k = j
 ·subst h1
  by_cases h2 : k < 32
  ·have : min k 32 = k := by omega
   simp [h2, this]
  ·simp [h2]
 ·by_cases h2 : k < 32
  ·have : ¬ min j 32 = k := by omega
   simp [h1, h2, this]
  ·simp [h1, h2]
theorem shr_and_one {x : Int} (hx : U32 x) (j : Nat) : Go.bits .and .u32 (shr .u32 x (j : Int)) 1 = if tb x j then 1 else 0 := by
 obtain ⟨n, rfl⟩ := Int.eq_ofNat_of_zero_le hx.1
 have hn : n < 4294967296 := by have := hx.2; omega
 have e : shr .u32 (n : Int) (j : Int) = ((n / 2 ^ min j 32 : Nat) : Int) := by unfold shr; simp [IntKind.bits]
 rw [e]
 have hq : n / 2 ^ min j 32 < 4294967296 := Nat.lt_of_le_of_lt (Nat.div_le_self _ _) hn
 apply u32_ext (bits_u32 _ _ _) (by split <;> exact ⟨by decide, by decide⟩)
 intro k hk
 rw [tb_and, tb_nat _ _ hq, show (1 : Int) = ((1 : Nat) : Int) from rfl, tb_nat 1 k (by decide), Nat.testBit_div_two_pow, tb_nat _ _ hn]
 by_cases h0 : k = 0
 ·subst h0
  by_cases hj : j < 32
  ·have : min j 32 = j := by omega
   rw [this]
   cases hb : n.testBit j
   ·simp [hb, tb_zero]
   ·simp [hb, tb]
  ·have h1 : min j 32 = 32 := by omega
   rw [h1]
   have z32 : n.testBit 32 = false := Nat.testBit_lt_two_pow (by omega)
   have zj : n.testBit j = false := Nat.testBit_lt_two_pow (Nat.lt_of_lt_of_le (m := 2 ^ 32) hn (Nat.pow_le_pow_right (by decide) (by omega)))
   simp [z32, zj, tb_zero]
 ·have h1 : (1 : Nat).testBit k = false := by
   rw [show (1 : Nat) = 2 ^ 0 from rfl, Nat.testBit_two_pow]; simp; omega
  rw [h1]
  simp only [Bool.and_false]
  split
  ·rw [show ((1 : Nat) : Int) = ((1 : Nat) : Int) from rfl, tb_nat 1 k (by decide), h1]
  ·exact (tb_zero k).symm

def tab {α : Type} (n : Nat) (f : Nat → α) : List α := (List.range n).map f
theorem tab_length {α : Type} (n : Nat) (f : Nat → α) : (tab n f).length = n := by simp [tab]
theorem rd_tab (n : Nat) (f : Nat → Int) (i : Nat) (h : i < n) : rd (tab n f) (i : Int) = f i := by
 simp [rd, tab, List.getD_eq_getElem?_getD, h]
theorem tab_set {α : Type} (n : Nat) (f : Nat → α) (i : Nat) (v : α) : (tab n f).set i v = tab n (fun j => if j = i then v else f j) := by
 apply List.ext_getElem
 ·simp [tab]
 ·intro j h1 h2
  simp only [tab, List.length_set, List.length_map, List.length_range] at h1
  by_cases h : j = i
  ·subst h; simp [tab]
  ·simp [tab, h, Ne.symm h]
theorem tab_congr {α : Type} {n : Nat} {f g : Nat → α} (h : ∀ j, j < n → f j = g j) : tab n f = tab n g := by
 unfold tab
 exact List.map_congr_left fun j hj => h j (List.mem_range.1 hj)
theorem list_tab (l : List Int) : l = tab l.length (fun j => l.getD j 0) := by
 apply List.ext_getElem
 ·simp [tab]
 ·intro j h1 h2
  simp [tab, List.getD_eq_getElem?_getD, h1]
theorem replicate_tab {α : Type} (n : Nat) (a : α) : List.replicate n a = tab n (fun _ => a) := by
 apply List.ext_getElem
 ·simp [tab]
 ·intro j h1 h2
  simp [tab]
theorem wrap64_succ (i : Nat) (h : i < 9223372036854775807) : wrap64 ((i : Int) + 1) = ((i + 1 : Nat) : Int) := by unfold wrap64; omega

def sz (l : List Int) : Nat := if l.length ≤ 32 then l.length else 0
def mat (l : List Int) (i k : Nat) : Bool := decide (i < sz l) && decide (k < sz l) && tb (l.getD i 0) k
def ofM (n : Nat) (M : Nat → Nat → Bool) : List Int := tab n fun i => word fun k => decide (k < n) && M i k
theorem sz_le (l : List Int) : sz l ≤ 32 := by unfold sz; split <;> omega
theorem ofM_length (n : Nat) (M : Nat → Nat → Bool) : (ofM n M).length = n := tab_length _ _
theorem sz_ofM {n : Nat} (h : n ≤ 32) (M : Nat → Nat → Bool) : sz (ofM n M) = n := by simp [sz, ofM_length, h]
theorem getD_tab (n : Nat) (f : Nat → Int) (i : Nat) (h : i < n) : (tab n f).getD i 0 = f i := by
 simp [tab, List.getD_eq_getElem?_getD, h]
theorem mat_ofM {n : Nat} (h : n ≤ 32) (M : Nat → Nat → Bool) (i k : Nat) : mat (ofM n M) i k = (decide (i < n) && decide (k < n) && M i k) := by
 unfold mat
 rw [sz_ofM h]
 by_cases hi : i < n
 ·by_cases hk : k < n
  ·rw [ofM, getD_tab _ _ _ hi, tb_word]
   have : k < 32 := by omega
   simp [hi, hk, this]
  ·simp [hk]
 ·simp [hi]
theorem ofM_congr {n : Nat} {M M' : Nat → Nat → Bool} (h : ∀ i k, i < n → k < n → M i k = M' i k) : ofM n M = ofM n M' := by
 unfold ofM
 refine tab_congr fun i hi => ?_
 congr 1
 funext k
 by_cases hk : k < n
 ·simp [hk, h i k hi hk]
 ·simp [hk]
theorem ofM_u32 (n : Nat) (M : Nat → Nat → Bool) : ∀ x ∈ ofM n M, U32 x := by
 intro x hx
 simp only [ofM, tab, List.mem_map] at hx
 obtain ⟨i, _, rfl⟩ := hx
 exact word_u32 _
theorem ofM_inj {n : Nat} (hn : n ≤ 32) {M M' : Nat → Nat → Bool} (h : ofM n M = ofM n M') : ∀ i k, i < n → k < n → M i k = M' i k := by
 intro i k hi hk
 have h1 := mat_ofM hn M i k
 have h2 := mat_ofM hn M' i k
 rw [h, h2] at h1
 simpa [hi, hk] using h1.symm
end Go.Proofs.Ytbamkkdikeedoaa.G
