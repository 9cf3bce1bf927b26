/- Plain: closures of relations as matrices: by Warshall's way, and by longer and longer ways. -/
import Derived.Test.YtbamkkdikeedoaaBits
namespace Go.Proofs.Ytbamkkdikeedoaa.G

/-! ### Warshall -/
def wst (M : Nat → Nat → Bool) (j : Nat) : Nat → Nat → Bool := fun i k => M i k || (M i j && M j k)
def war (M : Nat → Nat → Bool) : Nat → Nat → Nat → Bool
  | 0 => M
  | j + 1 => wst (war M j) j
def via (M : Nat → Nat → Bool) (m : Nat) : Prop := ∀ i k, M i m = true → M m k = true → M i k = true
theorem wst_mono {M : Nat → Nat → Bool} {j i k : Nat} (h : M i k = true) : wst M j i k = true := by simp [wst, h]
theorem wst_via (M : Nat → Nat → Bool) (j : Nat) : via (wst M j) j := by
  intro i k h1 h2
  simp only [wst, Bool.or_eq_true, Bool.and_eq_true] at h1 h2 ⊢
  rcases h1 with h1 | ⟨h1, _⟩ <;> rcases h2 with h2 | ⟨_, h2⟩ <;> exact .inr ⟨h1, h2⟩
theorem wst_keeps {M : Nat → Nat → Bool} {m : Nat} (h : via M m) (j : Nat) : via (wst M j) m := by
  intro i k h1 h2
  simp only [wst, Bool.or_eq_true, Bool.and_eq_true] at h1 h2 ⊢
  rcases h1 with h1 | ⟨h1, h1'⟩ <;> rcases h2 with h2 | ⟨h2, h2'⟩
  · exact .inl (h i k h1 h2)
  · exact .inr ⟨h i j h1 h2, h2'⟩
  · exact .inr ⟨h1, h j k h1' h2⟩
  · exact .inr ⟨h1, h2'⟩
theorem war_mono {M : Nat → Nat → Bool} {i k : Nat} (h : M i k = true) : ∀ n, war M n i k = true
  | 0 => h
  | n + 1 => wst_mono (war_mono h n)
theorem war_via (M : Nat → Nat → Bool) : ∀ n j, j < n → via (war M n) j
  | 0, j, h => by omega
  | n + 1, j, h => by
    by_cases e : j = n
    · subst e; exact wst_via _ _
    · exact wst_keeps (war_via M n j (by omega)) n
/-- Whatever holds M and may be put together holds the closure. -/
theorem war_least {M R : Nat → Nat → Bool} (h : ∀ i k, M i k = true → R i k = true) (ht : ∀ i j k, R i j = true → R j k = true → R i k = true) : ∀ n i k, war M n i k = true → R i k = true
  | 0, i, k, hm => h i k hm
  | n + 1, i, k, hm => by
    simp only [war, wst, Bool.or_eq_true, Bool.and_eq_true] at hm
    rcases hm with hm | ⟨h1, h2⟩
    · exact war_least h ht n i k hm
    · exact ht i n k (war_least h ht n i n h1) (war_least h ht n n k h2)
/-- The closure, of n things. -/
def plus (n : Nat) (M : Nat → Nat → Bool) : Nat → Nat → Bool := war (fun i k => decide (i < n) && decide (k < n) && M i k) n
theorem war_in {M : Nat → Nat → Bool} {n : Nat} (h : ∀ i k, M i k = true → i < n ∧ k < n) : ∀ m i k, war M m i k = true → i < n ∧ k < n
  | 0, i, k, hm => h i k hm
  | m + 1, i, k, hm => by
    simp only [war, wst, Bool.or_eq_true, Bool.and_eq_true] at hm
    rcases hm with hm | ⟨h1, h2⟩
    · exact war_in h m i k hm
    · exact ⟨(war_in h m i m h1).1, (war_in h m m k h2).2⟩
theorem plus_in {n : Nat} {M : Nat → Nat → Bool} {i k : Nat} (h : plus n M i k = true) : i < n ∧ k < n :=
  war_in (fun i k h => by simp only [Bool.and_eq_true, decide_eq_true_eq] at h; exact h.1) n i k h
theorem plus_has {n : Nat} {M : Nat → Nat → Bool} {i k : Nat} (hi : i < n) (hk : k < n) (h : M i k = true) : plus n M i k = true :=
  war_mono (by simp [hi, hk, h]) n
theorem plus_trans {n : Nat} {M : Nat → Nat → Bool} {i j k : Nat} (h1 : plus n M i j = true) (h2 : plus n M j k = true) : plus n M i k = true :=
  war_via _ n j (plus_in h1).2 i k h1 h2
theorem plus_least {n : Nat} {M R : Nat → Nat → Bool} (h : ∀ i k, i < n → k < n → M i k = true → R i k = true) (ht : ∀ i j k, R i j = true → R j k = true → R i k = true) {i k : Nat} (hp : plus n M i k = true) : R i k = true :=
  war_least (fun i k hm => by simp only [Bool.and_eq_true, decide_eq_true_eq] at hm; exact h i k hm.1.1 hm.1.2 hm.2) ht n i k hp
theorem plus_congr {n : Nat} {M M' : Nat → Nat → Bool} (h : ∀ i k, i < n → k < n → M i k = M' i k) : plus n M = plus n M' := by
  unfold plus
  congr 1
  funext i k
  by_cases hi : i < n
  · by_cases hk : k < n
    · simp [hi, hk, h i k hi hk]
    · simp [hk]
  · simp [hi]
/-- The closure is the least that holds M and may be put together. -/
theorem plus_eq {n : Nat} {M R : Nat → Nat → Bool} (hM : ∀ i k, i < n → k < n → M i k = true → R i k = true) (ht : ∀ i j k, R i j = true → R j k = true → R i k = true) (hl : ∀ i k, R i k = true → plus n M i k = true) : plus n M = R := by
  funext i k
  rw [Bool.eq_iff_iff]
  exact ⟨fun h => plus_least hM ht h, hl i k⟩

/-! ### longer ways, till there are no more -/
def seqM (n : Nat) (A B : Nat → Nat → Bool) : Nat → Nat → Bool := fun i k => (List.range n).any fun j => A i j && B j k
theorem seqM_iff {n : Nat} {A B : Nat → Nat → Bool} {i k : Nat} : seqM n A B i k = true ↔ ∃ j, j < n ∧ A i j = true ∧ B j k = true := by
  simp [seqM]
/-- Ways of at most t + 1 steps. -/
def ways (n : Nat) (M : Nat → Nat → Bool) : Nat → Nat → Nat → Bool
  | 0 => fun i k => decide (i < n) && decide (k < n) && M i k
  | t + 1 => fun i k => decide (i < n) && decide (k < n) && (ways n M t i k || seqM n (ways n M t) M i k)
theorem ways_in {n : Nat} {M : Nat → Nat → Bool} : ∀ {t i k}, ways n M t i k = true → i < n ∧ k < n := by
  intro t i k h
  cases t with
  | zero => simp only [ways, Bool.and_eq_true, decide_eq_true_eq] at h; exact h.1
  | succ t => simp only [ways, Bool.and_eq_true, decide_eq_true_eq] at h; exact h.1
theorem ways_succ {n : Nat} {M : Nat → Nat → Bool} {t i k : Nat} : ways n M (t + 1) i k = true ↔ i < n ∧ k < n ∧ (ways n M t i k = true ∨ ∃ j, j < n ∧ ways n M t i j = true ∧ M j k = true) := by
  simp only [ways, Bool.and_eq_true, decide_eq_true_eq, Bool.or_eq_true, seqM_iff, and_assoc]
theorem ways_mono {n : Nat} {M : Nat → Nat → Bool} {t i k : Nat} (h : ways n M t i k = true) : ways n M (t + 1) i k = true :=
  ways_succ.2 ⟨(ways_in h).1, (ways_in h).2, .inl h⟩
theorem ways_plus {n : Nat} {M : Nat → Nat → Bool} : ∀ {t i k}, ways n M t i k = true → plus n M i k = true := by
  intro t
  induction t with
  | zero =>
    intro i k h
    simp only [ways, Bool.and_eq_true, decide_eq_true_eq] at h
    exact plus_has h.1.1 h.1.2 h.2
  | succ t ih =>
    intro i k h
    obtain ⟨hi, hk, h | ⟨j, hj, h1, h2⟩⟩ := ways_succ.1 h
    · exact ih h
    · exact plus_trans (ih h1) (plus_has hj hk h2)
/-- how many things one leads to -/
def many (n : Nat) (p : Nat → Bool) : Nat := ((List.range n).filter p).length
theorem many_le (n : Nat) (p : Nat → Bool) : many n p ≤ n := by
  unfold many
  exact Nat.le_trans (List.length_filter_le _ _) (by simp)
theorem filter_length_lt {l : List Nat} {p q : Nat → Bool} (h : ∀ x ∈ l, p x = true → q x = true) {y : Nat} (hy : y ∈ l) (hq : q y = true) (hp : p y = false) : (l.filter p).length < (l.filter q).length := by
  induction l with
  | nil => simp at hy
  | cons a l ih =>
    have hle : (l.filter p).length ≤ (l.filter q).length := by
      clear ih hy
      induction l with
      | nil => simp
      | cons b l ih2 =>
        have := ih2 (fun x hx => h x (by simp at hx ⊢; rcases hx with hx | hx <;> simp [hx]))
        have hb := h b (by simp)
        by_cases e : p b = true
        · simp [e, hb e]; exact this
        · by_cases e2 : q b = true
          · simp [e, e2]; omega
          · simp [e, e2]; exact this
    simp only [List.mem_cons] at hy
    rcases hy with rfl | hy
    · simp [hp, hq]; omega
    · have := ih (fun x hx => h x (by simp [hx])) hy
      have ha := h a (by simp)
      by_cases e : p a = true
      · simp [e, ha e]; exact this
      · by_cases e2 : q a = true
        · simp [e, e2]; omega
        · simp [e, e2]; exact this
/-- From one thing: nothing more is won at some length, or that many things have been won. -/
theorem ways_grow (n : Nat) (M : Nat → Nat → Bool) (i : Nat) : ∀ t, (∀ k, ways n M (t + 1) i k = ways n M t i k) ∨ t < many n (ways n M (t + 1) i) := by
  have stay : ∀ t, (∀ k, ways n M (t + 1) i k = ways n M t i k) → ∀ k, ways n M (t + 2) i k = ways n M (t + 1) i k := by
    intro t h k
    rw [Bool.eq_iff_iff, ways_succ (t := t + 1)]
    conv => rhs; rw [ways_succ]
    simp only [h]
  intro t
  induction t with
  | zero =>
    by_cases h : ∀ k, ways n M 1 i k = ways n M 0 i k
    · exact .inl h
    · refine .inr ?_
      obtain ⟨k, hk⟩ := Classical.not_forall.1 h
      have h1 : ways n M 1 i k = true := by
        by_cases e : ways n M 1 i k = true
        · exact e
        · have : ways n M 0 i k ≠ true := fun h0 => e (ways_mono h0)
          exact absurd (by rw [Bool.eq_false_iff.2 e, Bool.eq_false_iff.2 this]) hk
      unfold many
      exact List.length_pos_of_mem (a := k) (by simp [h1, (ways_in h1).2])
  | succ t ih =>
    rcases ih with h | h
    · exact .inl (stay t h)
    · by_cases h2 : ∀ k, ways n M (t + 2) i k = ways n M (t + 1) i k
      · exact .inl h2
      · refine .inr ?_
        obtain ⟨k, hk⟩ := Classical.not_forall.1 h2
        have h1 : ways n M (t + 2) i k = true := by
          by_cases e : ways n M (t + 2) i k = true
          · exact e
          · have : ways n M (t + 1) i k ≠ true := fun h0 => e (ways_mono h0)
            exact absurd (by rw [Bool.eq_false_iff.2 e, Bool.eq_false_iff.2 this]) hk
        have h0 : ways n M (t + 1) i k = false := by
          by_cases e : ways n M (t + 1) i k = true
          · exact absurd (by rw [h1, e]) hk
          · exact Bool.eq_false_iff.2 e
        have := filter_length_lt (l := List.range n) (p := ways n M (t + 1) i) (q := ways n M (t + 2) i) (fun x _ hx => ways_mono hx) (y := k) (by simp [(ways_in h1).2]) h1 h0
        unfold many at h
        show t + 1 < ((List.range n).filter (ways n M (t + 2) i)).length
        omega
theorem ways_stay (n : Nat) (M : Nat → Nat → Bool) (i k : Nat) : ways n M (n + 1) i k = ways n M n i k := by
  rcases ways_grow n M i n with h | h
  · exact h k
  · have := many_le n (ways n M (n + 1) i)
    omega
theorem ways_eq (n : Nat) (M : Nat → Nat → Bool) : ways n M n = plus n M := by
  symm
  refine plus_eq ?_ ?_ (fun i k h => ways_plus h)
  · intro i k hi hk hm
    have : ∀ t, ways n M t i k = true := by
      intro t
      induction t with
      | zero => simp [ways, hi, hk, hm]
      | succ t ih => exact ways_mono ih
    exact this n
  · have step : ∀ i j k, ways n M n i j = true → M j k = true → k < n → ways n M n i k = true := by
      intro i j k h1 h2 hk
      rw [← ways_stay]
      exact ways_succ.2 ⟨(ways_in h1).1, hk, .inr ⟨j, (ways_in h1).2, h1, h2⟩⟩
    have : ∀ t i j k, ways n M n i j = true → ways n M t j k = true → ways n M n i k = true := by
      intro t
      induction t with
      | zero =>
        intro i j k h1 h2
        simp only [ways, Bool.and_eq_true, decide_eq_true_eq] at h2
        exact step i j k h1 h2.2 h2.1.2
      | succ t ih =>
        intro i j k h1 h2
        obtain ⟨_, hk, h | ⟨m, hm, h3, h4⟩⟩ := ways_succ.1 h2
        · exact ih i j k h1 h
        · exact step i m k (ih i j m h1 h3) h4 hk
    exact this n
end Go.Proofs.Ytbamkkdikeedoaa.G
