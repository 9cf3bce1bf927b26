/- It is proved that a relation is that of its pairs: the law RelPairs of layer 5 answers true for every input, by its plain form. Conditions: none beyond the row's own. -/
import Derived.Test.YtbamkkdikeedoaaGRelPairs
import Derived.Test.YtbamkkdikeedoaaPlainRel
import Derived.Test.YtbamkkdikeedoaaShown05
namespace Go.Proofs.Ytbamkkdikeedoaa.Pure
open Go.RowKit Go.Proofs.Ytbamkkdikeedoaa.G Go.Proofs.YtbamkkdikeedoaaW.PrintWords Go.Proofs.YtbamkkdikeedoaaW.PrintLast Go.Proofs.YtbamkkdikeedoaaW.PrintMore

theorem wf_u32 {x : Int} (h : (Lit.int .u32 x).wf = true) : U32 x := by
  simp [Lit.wf, IntKind.min, IntKind.max, IntKind.bits, IntKind.signed] at h
  unfold U32; omega
theorem wf_u8 {x : Int} (h : (Lit.int .u8 x).wf = true) : 0 ≤ x ∧ x < 256 := by
  simp [Lit.wf, IntKind.min, IntKind.max, IntKind.bits, IntKind.signed] at h
  omega

theorem prs_apart (n : Nat) (M : Nat → Nat → Bool) : (prs n M).Pairwise fun p q => p ≠ q := by
  unfold prs
  rw [List.pairwise_flatMap]
  constructor
  · intro i _
    unfold rowp
    rw [List.pairwise_map]
    refine List.Pairwise.filter _ ?_
    refine (List.pairwise_lt_range (n := n)).imp ?_
    intro a b h e
    have := congrArg S46.f1 e
    dsimp at this; omega
  · refine (List.pairwise_lt_range (n := n)).imp ?_
    intro a b h x hx y hy e
    unfold rowp at hx hy
    simp only [List.mem_map, List.mem_filter] at hx hy
    obtain ⟨_, _, rfl⟩ := hx
    obtain ⟨_, _, rfl⟩ := hy
    have := congrArg S46.f0 e
    dsimp at this; omega
theorem memP_fresh {n : Nat} {M : Nat → Nat → Bool} {pre suf : List S46} {a b : Nat} (h : pre ++ (⟨(a : Int), (b : Int)⟩ : S46) :: suf = prs n M) : memP pre a b = false := by
  have hp := prs_apart n M
  rw [← h, List.pairwise_append] at hp
  rw [Bool.eq_false_iff]
  intro hm
  unfold memP at hm
  simp only [List.any_eq_true, Bool.and_eq_true, decide_eq_true_eq] at hm
  obtain ⟨p, hpm, h1, h2⟩ := hm
  exact hp.2.2 p hpm ⟨(a : Int), (b : Int)⟩ (by simp) (by cases p; simp_all)
theorem many_put (p : Nat → Bool) (y : Nat) : ∀ n, y < n → many n (fun k => p k || decide (k = y)) = many n p + if p y then 0 else 1
  | 0, h => by omega
  | n + 1, h => by
    have hstep : ∀ q : Nat → Bool, many (n + 1) q = many n q + if q n then 1 else 0 := by
      intro q
      unfold many
      rw [List.range_succ, List.filter_append, List.length_append]
      by_cases e : q n = true <;> simp [e]
    rw [hstep, hstep]
    by_cases e : y = n
    · subst e
      have : many y (fun k => p k || decide (k = y)) = many y p := by
        unfold many
        congr 1
        refine List.filter_congr fun k hk => ?_
        have := List.mem_range.1 hk
        have hne : ¬ k = y := by omega
        simp [hne]
      rw [this]
      by_cases e2 : p y = true <;> simp [e2]
    · rw [many_put p y n (by omega)]
      have hne : ¬ n = y := by omega
      simp only [hne, decide_false, Bool.or_false]
      omega
theorem sum_change (f g : Nat → Nat) (x c : Nat) (h : ∀ i, i ≠ x → f i = g i) (hx : f x = g x + c) : ∀ n, x < n → ((List.range n).map f).sum = ((List.range n).map g).sum + c
  | 0, h => by omega
  | n + 1, hn => by
    rw [List.range_succ, List.map_append, List.map_append, List.sum_append, List.sum_append]
    simp only [List.map_cons, List.map_nil, List.sum_cons, List.sum_nil, Nat.add_zero]
    by_cases e : x = n
    · subst e
      have : (List.range x).map f = (List.range x).map g := List.map_congr_left fun k hk => h k (by have := List.mem_range.1 hk; omega)
      rw [this, hx]; omega
    · rw [sum_change f g x c h hx n (by omega), h n (by omega)]; omega
theorem prs_sum (n : Nat) (M : Nat → Nat → Bool) : (prs n M).length = ((List.range n).map fun i => many n (M i)).sum := by
  unfold prs
  rw [List.length_flatMap]
  congr 1
  refine List.map_congr_left fun i _ => ?_
  simp [rowp, many]
theorem prs_put {n : Nat} (M : Nat → Nat → Bool) {x y : Nat} (hx : x < n) (hy : y < n) :
    (prs n fun i k => M i k || (decide (i = x) && decide (k = y))).length = (prs n M).length + if M x y then 0 else 1 := by
  rw [prs_sum, prs_sum]
  refine sum_change _ _ x _ (fun i hi => ?_) ?_ n hx
  · simp [hi]
  · simp only [decide_true, Bool.true_and]
    exact many_put (M x) y n hy

theorem loop (l : List Int) (hl : ∀ x ∈ l, U32 x) (h32 : l.length ≤ 32) (hpos : 0 < l.length) (a1 a2 : Int) (h1 : 0 ≤ a1 ∧ a1 < 256) (h2 : 0 ≤ a2 ∧ a2 < 256) :
    ∀ suf pre, pre ++ suf = prs l.length (mat l) → Ev (fun k => cupolalaw05_RelPairs.l0 k l a1 a2 true (ofM l.length fun a b => memP pre a b) (prs l.length (mat l)) (pre.length : Int)) true := by
  have hs : sz l = l.length := by unfold sz; rw [if_pos h32]
  have hlen := prs_length (mat l) l.length
  have hb : l.length * l.length ≤ 1024 := Nat.le_trans (Nat.mul_le_mul h32 h32) (by decide)
  intro suf
  induction suf with
  | cons p suf ih =>
    intro pre h
    have hlt : pre.length < (prs l.length (mat l)).length := by rw [← h]; simp
    obtain ⟨i, k, hi, hk, hm, rfl⟩ := mem_prs.1 (show p ∈ prs l.length (mat l) by rw [← h]; simp)
    have hr : rd_T46 (prs l.length (mat l)) (pre.length : Int) = ⟨(i : Int), (k : Int)⟩ := by rw [← h]; exact rd_mid _ _ _
    refine Ev.step (fun k => by rw [cupolalaw05_RelPairs.l0]) ?_
    refine Ev.pos (by omega) (Ev.pos (by omega) ?_)
    rw [hr]
    dsimp only
    refine Ev.bindv (has_eq _ (ofM_u32 _ _) _ _) ?_
    have hf : hasM (ofM l.length fun a b => memP pre a b) (i : Int) (k : Int) = false := by
      unfold hasM
      rw [Int.toNat_natCast, Int.toNat_natCast, mat_ofM h32, memP_fresh h]; simp
    rw [hf]
    refine Ev.neg (by decide) ?_
    have hput := put_ev (ofM l.length fun a b => memP pre a b) (i : Int) (k : Int)
    rw [sz_ofM h32] at hput
    refine Ev.bind hput ?_
    have e : (ofM l.length fun a b => mat (ofM l.length fun a b => memP pre a b) a b || (decide ((a : Int) = (i : Int)) && decide ((b : Int) = (k : Int)))) = ofM l.length fun a b => memP (pre ++ [⟨(i : Int), (k : Int)⟩]) a b := by
      refine ofM_congr fun a b ha hb => ?_
      rw [mat_ofM h32, memP_append]
      simp only [ha, hb, decide_true, Bool.true_and]
      congr 1
      simp only [memP, List.any_cons, List.any_nil, Bool.or_false]
      congr 1
      · rw [decide_eq_decide]; omega
      · rw [decide_eq_decide]; omega
    rw [e, wrap64_succ _ (by omega)]
    have := ih (pre ++ [⟨(i : Int), (k : Int)⟩]) (by simpa using h)
    rw [List.length_append, List.length_singleton] at this
    exact this
  | nil =>
    intro pre h
    obtain rfl : pre = prs l.length (mat l) := by simpa using h
    refine Ev.step (fun k => by rw [cupolalaw05_RelPairs.l0]) ?_
    refine Ev.neg (by omega) (Ev.neg (by omega) ?_)
    have w1 : wrap64 a1 = a1 := by unfold wrap64; omega
    have w2 : wrap64 a2 = a2 := by unfold wrap64; omega
    rw [w1, w2]
    obtain ⟨m1, rfl⟩ := Int.eq_ofNat_of_zero_le h1.1
    obtain ⟨m2, rfl⟩ := Int.eq_ofNat_of_zero_le h2.1
    have t1 : Int.tmod (m1 : Int) (l.length : Int) = ((m1 % l.length : Nat) : Int) := by rw [Int.tmod_eq_emod_of_nonneg (by omega)]; omega
    have t2 : Int.tmod (m2 : Int) (l.length : Int) = ((m2 % l.length : Nat) : Int) := by rw [Int.tmod_eq_emod_of_nonneg (by omega)]; omega
    rw [t1, t2]
    have hx : m1 % l.length < l.length := Nat.mod_lt _ hpos
    have hy : m2 % l.length < l.length := Nat.mod_lt _ hpos
    generalize m1 % l.length = x at hx
    generalize m2 % l.length = y at hy
    have hm : (ofM l.length fun a b => memP (prs l.length (mat l)) a b) = ofM l.length (mat l) := ofM_congr fun a b ha hb => by rw [memP_prs]; simp [ha, hb]
    rw [hm]
    have hasE : hasM l (x : Int) (y : Int) = mat l x y := by unfold hasM; simp
    refine Ev.bindv (has_eq l hl (x : Int) (y : Int)) ?_
    rw [hasE]
    have hput := put_ev l (x : Int) (y : Int)
    rw [hs] at hput
    have e : (ofM l.length fun i k => mat l i k || (decide ((i : Int) = (x : Int)) && decide ((k : Int) = (y : Int)))) = ofM l.length fun i k => mat l i k || (decide (i = x) && decide (k = y)) := by
      refine ofM_congr fun a b _ _ => ?_
      congr 2
      · rw [decide_eq_decide]; omega
      · rw [decide_eq_decide]; omega
    rw [e] at hput
    have hps := pairs_ev (ofM l.length fun i k => mat l i k || (decide (i = x) && decide (k = y)))
    rw [sz_ofM h32, prs_congr (M' := fun i k => mat l i k || (decide (i = x) && decide (k = y))) (fun a b ha hb => by rw [mat_ofM h32]; simp [ha, hb])] at hps
    have hcount := prs_put (mat l) hx hy
    have final : ∀ m : Int, m = (if mat l x y then 0 else 1) → Ev (fun k => cupolalaw05_RelPairs.j2 k l true (ofM l.length (mat l)) (prs l.length (mat l)) (x : Int) (y : Int) m) true := by
      intro m hmm
      refine Ev.step (fun k => by rw [cupolalaw05_RelPairs.j2]) ?_
      refine Ev.pos rfl (Ev.bind (same_ev _ _) ?_)
      have hsame : sameM (ofM l.length (mat l)) l = true := by
        rw [sameM_iff, sz_ofM h32, hs]
        exact ⟨rfl, fun i k hi hk => by rw [mat_ofM h32]; simp [hi, hk]⟩
      rw [hsame]
      refine Ev.pos rfl (Ev.bindv (new_eq _) ?_)
      rw [if_pos (by omega), Int.toNat_natCast]
      have hnone := pairs_ev (ofM l.length fun _ _ => false)
      rw [sz_ofM h32] at hnone
      refine Ev.bind hnone ?_
      have h0 : prs l.length (mat (ofM l.length fun _ _ => false)) = [] := by
        refine List.eq_nil_iff_forall_not_mem.2 fun p hp => ?_
        obtain ⟨i, k, _, _, hf, _⟩ := mem_prs.1 hp
        rw [mat_ofM h32] at hf; simp at hf
      rw [h0]
      refine Ev.pos rfl (Ev.bind hput (Ev.bind hps ?_))
      have hw : wrap64 (((prs l.length (mat l)).length : Int) + m) = (((prs l.length (mat l)).length + if mat l x y then 0 else 1 : Nat) : Int) := by
        rw [hmm]; unfold wrap64; split <;> omega
      rw [hw, hcount]
      refine Ev.pos rfl (Ev.bind hput (Ev.bindv (has_eq _ (ofM_u32 _ _) _ _) ?_))
      have hfin : hasM (ofM l.length fun i k => mat l i k || (decide (i = x) && decide (k = y))) (x : Int) (y : Int) = true := by
        unfold hasM; rw [Int.toNat_natCast, Int.toNat_natCast, mat_ofM h32]; simp [hx, hy]
      rw [hfin]
      exact Ev.now _
    by_cases hb2 : mat l x y = true
    · exact Ev.pos hb2 (final 0 (by rw [hb2]; rfl))
    · exact Ev.neg hb2 (final 1 (by rw [if_neg hb2]))

theorem RelPairs : cupolalaw05_RelPairs.Pure := by
  intro l a1 a2 _ _ hwl hw1 hw2
  have hl : ∀ x ∈ l, U32 x := fun x hx => wf_u32 (hwl x hx)
  refine Ev.rounds (g := fun k => cupolalaw05_RelPairs.f k l a1 a2) ?_
  unfold cupolalaw05_RelPairs.f
  refine Ev.bind shown05_ev ?_
  by_cases h : (l.length : Int) > 32
  · refine Ev.pos h (Ev.step (fun k => by rw [cupolalaw05_RelPairs.j0]) (Ev.pos rfl (Ev.now _)))
  · refine Ev.neg h (Ev.step (fun k => by rw [cupolalaw05_RelPairs.j0]) ?_)
    by_cases h0 : l.length = 0
    · refine Ev.pos (by simp [h0]) (Ev.now _)
    · have h32 : l.length ≤ 32 := by omega
      have hs : sz l = l.length := by unfold sz; rw [if_pos h32]
      refine Ev.neg (by simpa using (by omega : ¬ (l.length : Int) = 0)) (Ev.bindv (new_eq _) ?_)
      rw [if_pos (by omega), Int.toNat_natCast]
      have hp := pairs_ev l
      rw [hs] at hp
      refine Ev.bind hp ?_
      exact loop l hl h32 (by omega) a1 a2 (wf_u8 hw1) (wf_u8 hw2) (prs l.length (mat l)) [] rfl
end Go.Proofs.Ytbamkkdikeedoaa.Pure
