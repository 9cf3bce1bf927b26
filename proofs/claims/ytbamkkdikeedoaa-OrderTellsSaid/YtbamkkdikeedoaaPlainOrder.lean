/- Plain: what the program's orders (package order) compute: what is free, all orders of things, the orders that fit a relation. -/
import Derived.Test.YtbamkkdikeedoaaAlg
import Derived.Test.YtbamkkdikeedoaaPlainSized
import Derived.Test.YtbamkkdikeedoaaPlainSource
import Derived.Test.YtbamkkdikeedoaaHandOrder
namespace Go.Proofs.Ytbamkkdikeedoaa.Ord
open Go.RowKit Go.Proofs.Ytbamkkdikeedoaa.G Go.Proofs.Ytbamkkdikeedoaa.Src Go.Proofs.YtbamkkdikeedoaaW.PrintWords Go.Proofs.YtbamkkdikeedoaaW.PrintLast Go.Proofs.YtbamkkdikeedoaaW.PrintMore
set_option linter.unusedVariables false
/-! ### size, free -/
theorem size_eq (l : List Int) : order_size.f l = some (sz l : Int) := by
  unfold order_size.f
  rw [or_at rfl rfl]
  show some _ = _
  rw [ofM_length]
theorem tb_not (d : Int) {k : Nat} (hk : k < 32) : tb (Go.bits .xor .u32 4294967295 d) k = !tb d k := by
  unfold Go.bits tb
  show (BitVec.ofInt 32 (IntKind.u32.wrap ((BitVec.ofInt 32 4294967295 ^^^ BitVec.ofInt 32 d).toNat : Int))).getLsbD k = _
  rw [wrap_bv, ofInt_toNat, BitVec.getLsbD_xor]
  have h : (BitVec.ofInt 32 4294967295).getLsbD k = true := by
    have : BitVec.ofInt 32 4294967295 = BitVec.allOnes 32 := by decide
    rw [this, BitVec.getLsbD_allOnes]; simp [hk]
  rw [h]; simp
/-- Does nothing that is not done yet come before this one? -/
def okX (n : Nat) (M : Nat → Nat → Bool) (d : Int) (k : Nat) : Bool := (List.range n).all fun i => tb d i || !M i k
theorem okX_iff {n : Nat} {M : Nat → Nat → Bool} {d : Int} {k : Nat} : okX n M d k = true ↔ ∀ i, i < n → tb d i = false → M i k = false := by
  unfold okX
  rw [List.all_eq_true]
  constructor
  · intro h i hi hd
    have := h i (List.mem_range.2 hi)
    rw [hd] at this
    simpa using this
  · intro h i hi
    cases hd : tb d i with
    | true => rfl
    | false => rw [h i (List.mem_range.1 hi) hd]; rfl
theorem only_none {n : Nat} (hn : n ≤ 32) (M : Nat → Nat → Bool) (d : Int) {i : Nat} (hi : i < n) (X : List Int) (hX : X = ofM n fun a b => M a b && (tb (Go.bits .xor .u32 4294967295 d) a && tb (shl .u32 1 (i : Int)) b)) :
    ((prs (sz X) (mat X)).length : Int) = 0 ↔ okX n M d i = true := by
  subst hX
  rw [sz_ofM hn, okX_iff]
  constructor
  · intro h a ha hd
    have h0 : prs n (mat (ofM n fun a b => M a b && (tb (Go.bits .xor .u32 4294967295 d) a && tb (shl .u32 1 (i : Int)) b))) = [] := List.length_eq_zero_iff.1 (by omega)
    cases hm : M a i with
    | false => rfl
    | true =>
      have : (⟨(a : Int), (i : Int)⟩ : S46) ∈ prs n (mat (ofM n fun a b => M a b && (tb (Go.bits .xor .u32 4294967295 d) a && tb (shl .u32 1 (i : Int)) b))) :=
        mem_prs.2 ⟨a, i, ha, hi, by rw [mat_in hn ha hi, hm, tb_not d (by omega), hd, tb_shl_one]; simp; omega, rfl⟩
      rw [h0] at this
      simp at this
  · intro h
    rw [prs_nil]
    · rfl
    · intro a b ha hb
      rw [mat_in hn ha hb, tb_not d (by omega), tb_shl_one]
      by_cases hbi : b = i
      · subst hbi
        cases hd : tb d a with
        | true => simp
        | false => rw [h a ha hd]; rfl
      · simp [hbi]
/-- The things that are not done. -/
def restD (n : Nat) (d : Int) : List Int := ((List.range n).filter fun k => !tb d k).map fun k : Nat => (k : Int)
/-- The things that may be done next. -/
def freeF (n : Nat) (M : Nat → Nat → Bool) (d : Int) : List Int := (restD n d).filter fun x => okX n M d x.toNat
theorem free_is (n : Nat) (M : Nat → Nat → Bool) (d : Int) : freeF n M d = ((List.range' 0 n).filter fun k => !tb d k && okX n M d k).map fun k : Nat => (k : Int) := by
  unfold freeF restD
  rw [List.filter_map, List.filter_filter, ← List.range_eq_range']
  congr 1
  refine List.filter_congr fun k _ => ?_
  simp [Bool.and_comm]
theorem free_loop (r : List Int) (d : Int) (hd : U32 d) : ∀ m i : Nat, i + m = sz r → ∀ acc : List Int, acc.length ≤ i →
    Ev (fun k => order_free.l0 k r d acc (sz r : Int) (i : Int)) (acc ++ ((List.range' i m).filter fun k => !tb d k && okX (sz r) (mat r) d k).map fun k : Nat => (k : Int)) := by
  intro m
  induction m with
  | zero =>
    intro i hi acc ha
    refine Ev.step (fun k => by rw [order_free.l0]) ?_
    refine neg (by omega) ?_
    rw [show List.range' i 0 = [] from rfl, List.filter_nil, List.map_nil, List.append_nil]
    exact Ev.now _
  | succ m ih =>
    intro i hi acc ha
    have h32 := sz_le r
    have hw : wrap64 ((i : Int) + 1) = ((i + 1 : Nat) : Int) := by rw [IntWalk.wrap64_in _ (by omega)]; omega
    refine Ev.step (fun k => by rw [order_free.l0]) ?_
    rw [wrap_u64_nat i (by omega), hw, shr_and_one hd, show List.range' i (m + 1) = i :: List.range' (i + 1) m from rfl]
    clear hw
    refine pos (by omega) (pos (by omega) (Ev.bind (only_at rfl _ (bits_u32 _ _ _)) (Ev.bind (pairs_ev _) ?_)))
    have e1 := only_none h32 (mat r) d (show i < sz r by omega) _ rfl
    cases hb : tb d i with
    | true =>
      rw [List.filter_cons_of_neg (by simp [hb])]
      exact neg (by simp) (ih (i + 1) (by omega) acc (by omega))
    | false =>
      refine pos (by simp) ?_
      by_cases ho : okX (sz r) (mat r) d i = true
      · rw [List.filter_cons_of_pos (by simp [hb, ho])]
        refine pos (e1.2 ho) (pos (by omega) ?_)
        have := ih (i + 1) (by omega) (acc ++ [(i : Int)]) (by rw [List.length_append, List.length_singleton]; omega)
        rw [List.append_assoc] at this
        exact this
      · rw [List.filter_cons_of_neg (by simp [ho])]
        exact neg (fun h => ho (e1.1 h)) (ih (i + 1) (by omega) acc (by omega))
theorem free_ev (r : List Int) (d : Int) (hd : U32 d) : Ev (fun k => order_free.f k r d) (freeF (sz r) (mat r) d) := by
  unfold order_free.f
  refine bindv (size_eq r) ?_
  have := free_loop r d hd (sz r) 0 (by omega) [] (by simp)
  rw [List.nil_append, ← free_is] at this
  exact this
/-! ### Linear -/
def addD (d x : Int) : Int := Go.bits .or .u32 d (shl .u32 1 (IntKind.u64.wrap x))
def linF (n : Nat) (M : Nat → Nat → Bool) : Nat → List Int → Int → List (List Int)
  | 0, l, _ => [l]
  | m + 1, l, d => (freeF n M d).flatMap fun x => linF n M m (l ++ [x]) (addD d x)
theorem linL_ev {g : Nat → Int → Option (List (List Int))} {h : Int → List (List Int)} : ∀ fs : List Int, (∀ x, Ev (fun k => g k x) (h x)) → Ev (fun k => linL (g k) fs) (fs.flatMap h)
  | [], _ => Ev.now _
  | x :: xs, hg => by
    refine Ev.congr (fun k => by rw [linL]) ?_
    rw [List.flatMap_cons]
    exact Ev.bind (hg x) (Ev.bind (linL_ev xs hg) (Ev.now _))
theorem linT_ev (r : List Int) : ∀ (m : Nat) (l : List Int) (d : Int), U32 d → Ev (fun k => linT k r m l d) (linF (sz r) (mat r) m l d)
  | 0, l, d, _ => by rw [linF]; exact Ev.congr (fun k => by rw [linT]) (Ev.now _)
  | m + 1, l, d, hd => by
    refine Ev.congr (fun k => by rw [linT]) ?_
    rw [linF]
    exact Ev.bind (free_ev r d hd) (linL_ev _ fun x => linT_ev r m _ _ (bits_u32 _ _ _))
/-! ### all orders of things -/
theorem flat_congr {α β : Type} {f g : α → List β} : ∀ {l : List α}, (∀ x ∈ l, f x = g x) → l.flatMap f = l.flatMap g
  | [], _ => rfl
  | x :: xs, h => by rw [List.flatMap_cons, List.flatMap_cons, h x (by simp), flat_congr fun y hy => h y (by simp [hy])]
theorem cons_erase_perm : ∀ (l : List Int) (i : Nat) (h : i < l.length), (l[i] :: l.eraseIdx i).Perm l
  | x :: xs, 0, _ => .refl _
  | x :: xs, i + 1, h => by
    rw [List.getElem_cons_succ, List.eraseIdx_cons_succ]
    exact (List.Perm.swap x _ _).trans (.cons _ (cons_erase_perm xs i (by simpa using h)))
def permsF : Nat → List Int → List (List Int)
  | 0, _ => [[]]
  | m + 1, l => (List.range l.length).flatMap fun i => (permsF m (l.eraseIdx i)).map (l.getD i 0 :: ·)
def fac : Nat → Nat
  | 0 => 1
  | n + 1 => fac n * (n + 1)
theorem fac_small {n : Nat} (h : n ≤ 6) : fac n ≤ 720 := by
  have : n = 0 ∨ n = 1 ∨ n = 2 ∨ n = 3 ∨ n = 4 ∨ n = 5 ∨ n = 6 := by omega
  rcases this with rfl | rfl | rfl | rfl | rfl | rfl | rfl <;> decide
theorem flat_len {α β : Type} {f : α → List β} {c : Nat} : ∀ l : List α, (∀ x ∈ l, (f x).length = c) → (l.flatMap f).length = l.length * c
  | [], _ => by simp
  | x :: xs, h => by
    rw [List.flatMap_cons, List.length_append, h x (by simp), flat_len xs (fun y hy => h y (by simp [hy])), List.length_cons, Nat.add_mul]
    omega
theorem perms_len : ∀ (m : Nat) (l : List Int), l.length = m → (permsF m l).length = fac m
  | 0, l, _ => rfl
  | m + 1, l, h => by
    rw [permsF, flat_len (c := fac m), List.length_range, h, fac, Nat.mul_comm]
    intro i hi
    rw [List.length_map]
    have := List.mem_range.1 hi
    exact perms_len m _ (by rw [List.length_eraseIdx_of_lt this]; omega)
theorem perms_perm : ∀ (m : Nat) (l : List Int), l.length = m → ∀ p ∈ permsF m l, p.Perm l
  | 0, l, h, p, hp => by
    rw [permsF, List.mem_singleton] at hp
    subst hp
    rw [List.length_eq_zero_iff.1 h]
  | m + 1, l, h, p, hp => by
    rw [permsF, List.mem_flatMap] at hp
    obtain ⟨i, hi, hp⟩ := hp
    have hi := List.mem_range.1 hi
    obtain ⟨q, hq, rfl⟩ := List.mem_map.1 hp
    have := perms_perm m _ (by rw [List.length_eraseIdx_of_lt hi]; omega) q hq
    rw [List.getD_eq_getElem?_getD, List.getElem?_eq_getElem hi, Option.getD_some]
    exact (List.Perm.cons _ this).trans (cons_erase_perm l i hi)
theorem erase_at : ∀ (l : List Int), l.Nodup → ∀ (i : Nat) (h : i < l.length), l.erase l[i] = l.eraseIdx i
  | x :: xs, hn, 0, _ => by simp
  | x :: xs, hn, i + 1, h => by
    rw [List.nodup_cons] at hn
    have hi : i < xs.length := by simpa using h
    rw [List.getElem_cons_succ, List.eraseIdx_cons_succ, List.erase_cons_tail, erase_at xs hn.2 i hi]
    have : x ≠ xs[i] := fun e => hn.1 (by rw [e]; exact List.getElem_mem hi)
    simpa using this
theorem perms_nodup {l : List Int} (hl : l.Nodup) (m : Nat) : permsF (m + 1) l = l.flatMap fun x => (permsF m (l.erase x)).map (x :: ·) := by
  have e : l = (List.range l.length).map fun i => l.getD i 0 := list_tab l
  rw [permsF]
  conv => rhs; arg 2; rw [e]
  rw [List.flatMap_map]
  refine flat_congr fun i hi => ?_
  have hi := List.mem_range.1 hi
  rw [List.getD_eq_getElem?_getD, List.getElem?_eq_getElem hi, Option.getD_some, erase_at l hl i hi]
def R (n : Nat) : List Int := (List.range n).map fun k : Nat => (k : Int)
theorem R_length (n : Nat) : (R n).length = n := by simp [R]
theorem R_mem {n : Nat} {x : Int} : x ∈ R n ↔ 0 ≤ x ∧ x < (n : Int) := by
  unfold R
  rw [List.mem_map]
  constructor
  · rintro ⟨k, hk, rfl⟩
    have := List.mem_range.1 hk
    omega
  · rintro ⟨h0, h1⟩
    exact ⟨x.toNat, List.mem_range.2 (by omega), by omega⟩
theorem nodup_map {l : List Nat} (h : l.Nodup) : (l.map fun k : Nat => (k : Int)).Nodup := by
  rw [List.Nodup, List.pairwise_map]
  refine h.imp ?_
  intro a b h e
  exact h (by omega)
theorem R_nodup (n : Nat) : (R n).Nodup := nodup_map List.nodup_range
theorem restD_zero (n : Nat) : restD n 0 = R n := by
  unfold restD R
  congr 1
  rw [List.filter_eq_self]
  intro k _
  rw [tb_zero]; rfl
theorem restD_nodup (n : Nat) (d : Int) : (restD n d).Nodup := nodup_map (List.nodup_range.filter _)
theorem restD_mem {n : Nat} {d x : Int} : x ∈ restD n d ↔ ∃ k : Nat, x = (k : Int) ∧ k < n ∧ tb d k = false := by
  unfold restD
  rw [List.mem_map]
  constructor
  · rintro ⟨k, hk, rfl⟩
    obtain ⟨h1, h2⟩ := List.mem_filter.1 hk
    exact ⟨k, rfl, List.mem_range.1 h1, by simpa using h2⟩
  · rintro ⟨k, rfl, h1, h2⟩
    exact ⟨k, List.mem_filter.2 ⟨List.mem_range.2 h1, by simp [h2]⟩, rfl⟩
theorem tb_add {n : Nat} (hn : n ≤ 32) (d : Int) {j k : Nat} (hj : j < n) (hk : k < n) : tb (addD d (j : Int)) k = (tb d k || decide (k = j)) := by
  unfold addD
  rw [wrap_u64_nat j (by omega), tb_or, tb_shl_one]
  simp [show k < 32 by omega]
theorem rest_erase {n : Nat} (hn : n ≤ 32) {d x : Int} (hx : x ∈ restD n d) : (restD n d).erase x = restD n (addD d x) := by
  obtain ⟨j, rfl, hj, hd⟩ := restD_mem.1 hx
  rw [(restD_nodup n d).erase_eq_filter]
  unfold restD
  rw [List.filter_map, List.filter_filter]
  congr 1
  refine List.filter_congr fun k hk => ?_
  have hk := List.mem_range.1 hk
  rw [tb_add hn d hj hk]
  by_cases h : k = j
  · subst h; simp
  · have : (k : Int) ≠ (j : Int) := by omega
    simp [h, this]
/-- May they be done in this order, when so much is done? -/
def okD (n : Nat) (M : Nat → Nat → Bool) : Int → List Int → Bool
  | _, [] => true
  | d, x :: xs => okX n M d x.toNat && okD n M (addD d x) xs
theorem flat_filter {α β : Type} (c : α → Bool) (f : α → List β) : ∀ l : List α, (l.filter c).flatMap f = l.flatMap fun x => if c x = true then f x else []
  | [] => rfl
  | x :: xs => by
    rw [List.flatMap_cons, ← flat_filter c f xs]
    cases h : c x with
    | true => rw [List.filter_cons_of_pos h, List.flatMap_cons, if_pos rfl]
    | false => rw [List.filter_cons_of_neg (by simp [h]), if_neg (by decide), List.nil_append]
theorem filter_flat {α β : Type} (c : β → Bool) (f : α → List β) : ∀ l : List α, (l.flatMap f).filter c = l.flatMap fun x => (f x).filter c
  | [] => rfl
  | x :: xs => by rw [List.flatMap_cons, List.filter_append, filter_flat c f xs, List.flatMap_cons]
theorem linF_perms (n : Nat) (hn : n ≤ 32) (M : Nat → Nat → Bool) : ∀ (m : Nat) (l : List Int) (d : Int), linF n M m l d = ((permsF m (restD n d)).filter (okD n M d)).map (l ++ ·)
  | 0, l, d => by rw [linF, permsF, List.filter_cons_of_pos (by rw [okD])]; simp
  | m + 1, l, d => by
    rw [linF, perms_nodup (restD_nodup n d), freeF, flat_filter, filter_flat, List.map_flatMap]
    refine flat_congr fun x hx => ?_
    rw [List.filter_map, rest_erase hn hx, linF_perms n hn M m]
    cases h : okX n M d x.toNat with
    | true =>
      rw [if_pos rfl, List.map_map]
      congr 1
      · funext p; simp
      · refine List.filter_congr fun p _ => ?_
        simp [okD, h]
    | false =>
      rw [if_neg (by decide), List.filter_eq_nil_iff.2, List.map_nil, List.map_nil]
      intro p _
      simp [okD, h]
theorem linF_zero (n : Nat) (hn : n ≤ 32) (M : Nat → Nat → Bool) : linF n M n [] 0 = (permsF n (R n)).filter (okD n M 0) := by
  rw [linF_perms n hn, restD_zero]
  simp
def lins (r : List Int) : List (List Int) := if r.length > 6 then [] else (permsF r.length (R r.length)).filter (okD r.length (mat r) 0)
theorem linear_ev (r : List Int) : Ev (fun k => order_Linear.f k r) (lins r) := by
  unfold order_Linear.f lins
  refine bindv (size_eq r) ?_
  by_cases h6 : r.length > 6
  · rw [if_pos h6]
    by_cases h : (sz r : Int) > 6
    · exact pos h (Ev.now _)
    · refine neg h (neg ?_ (Ev.now _))
      omega
  · have hs : sz r = r.length := sz_full (by omega)
    rw [if_neg h6, hs]
    refine neg (by omega) (pos rfl ?_)
    have h1 := linT_ev r r.length [] 0 (by unfold U32; omega)
    rw [hs, linF_zero _ (by omega)] at h1
    have h2 : ((permsF r.length (R r.length)).filter (okD r.length (mat r) 0)).length ≤ 720 :=
      Nat.le_trans (List.length_filter_le _ _) (by rw [perms_len _ _ (R_length _)]; exact fac_small (by omega))
    exact Ev.bind h1 (pos (by omega) (Ev.now _))
end Go.Proofs.Ytbamkkdikeedoaa.Ord
