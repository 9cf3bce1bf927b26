/- It is proved that each read reads from one write at most, of its place and value, and from none just if it reads what was there at first: the law SourceRf of layer 11 answers true for every input, by its plain form. -/
import Derived.Test.YtbamkkdikeedoaaGSourceRf
import Derived.Test.YtbamkkdikeedoaaPlainFits
import Derived.Test.YtbamkkdikeedoaaPlainLists
import Derived.Test.YtbamkkdikeedoaaPlainDob
import Derived.Test.YtbamkkdikeedoaaShown11
import Derived.Test.YtbamkkdikeedoaaOpensAt
namespace Go.Proofs.Ytbamkkdikeedoaa.Pure
open Go.RowKit Go.Proofs.Ytbamkkdikeedoaa.G Go.Proofs.Ytbamkkdikeedoaa.Src Go.Proofs.Ytbamkkdikeedoaa.Opens Go.Proofs.YtbamkkdikeedoaaW.PrintWords Go.Proofs.YtbamkkdikeedoaaW.PrintLast Go.Proofs.YtbamkkdikeedoaaW.PrintMore
set_option linter.unusedVariables false
theorem u16_in {x : Int} (h : (Lit.int .u16 x).wf = true) : 0 ≤ x ∧ x < 65536 := by
  simp [Lit.wf, IntKind.min, IntKind.max, IntKind.bits, IntKind.signed] at h
  omega
theorem tmod_at {a : Int} {n : Nat} (ha : 0 ≤ a) (hn : 0 < n) : ∃ q : Nat, Int.tmod a (n : Int) = (q : Int) ∧ q < n := by
  rw [Int.tmod_eq_emod_of_nonneg ha]
  have h1 := Int.emod_nonneg a (show (n : Int) ≠ 0 by omega)
  have h2 := Int.emod_lt_of_pos a (show (0 : Int) < (n : Int) by omega)
  obtain ⟨q, hq⟩ := Int.eq_ofNat_of_zero_le h1
  exact ⟨q, hq, by omega⟩
/-- How many pairs lead to number r. -/
def cntP (L : List S46) (r : Nat) : Nat := L.countP fun p => decide (p.f1 = (r : Int))
theorem cnt_le (L : List S46) (r : Nat) : cntP L r ≤ L.length := List.countP_le_length
theorem prs_nodup (n : Nat) (M : Nat → Nat → Bool) : (prs n M).Nodup := by
  unfold prs rowp
  rw [List.Nodup, List.pairwise_flatMap]
  refine ⟨fun i _ => ?_, ?_⟩
  · rw [List.pairwise_map]
    refine (List.Pairwise.filter _ List.nodup_range).imp ?_
    intro a b h e
    injection e with _ e
    exact h (by omega)
  · refine (List.nodup_range (n := n)).imp ?_
    intro a b h x hx y hy e
    obtain ⟨_, _, rfl⟩ := List.mem_map.1 hx
    obtain ⟨_, _, rfl⟩ := List.mem_map.1 hy
    injection e with e _
    exact h (by omega)
theorem all_alike {α : Type} : ∀ (l : List α), l.Nodup → (∀ x ∈ l, ∀ y ∈ l, x = y) → l.length ≤ 1
  | [], _, _ => by simp
  | [_], _, _ => by simp
  | x :: y :: r, h, ha => by
    rw [List.nodup_cons] at h
    exact absurd (ha x (by simp) y (by simp)) (fun e => h.1 (by rw [e]; simp))
/-- Of pairs of which each number is led to by one at most. -/
theorem cnt_rf (n : Nat) (f : List Int) (r : Nat) (hr : r < n) : cntP (prs n (rfM f)) r = if ∃ w : Nat, w < n ∧ f[r]? = some (w : Int) then 1 else 0 := by
  unfold cntP
  rw [List.countP_eq_length_filter]
  have hu : ((prs n (rfM f)).filter fun p => decide (p.f1 = (r : Int))).length ≤ 1 := by
    refine all_alike _ ((prs_nodup n _).filter _) fun x hx y hy => ?_
    obtain ⟨hx, ex⟩ := List.mem_filter.1 hx
    obtain ⟨hy, ey⟩ := List.mem_filter.1 hy
    obtain ⟨i, k, _, _, hm, rfl⟩ := mem_prs.1 hx
    obtain ⟨i', k', _, _, hm', rfl⟩ := mem_prs.1 hy
    have e1 : k = r := by have := of_decide_eq_true ex; simp only at this; omega
    have e2 : k' = r := by have := of_decide_eq_true ey; simp only at this; omega
    subst e1; subst e2
    have h1 := of_decide_eq_true hm
    have h2 := of_decide_eq_true hm'
    rw [h1] at h2
    have : (i : Int) = (i' : Int) := Option.some.inj h2
    rw [this]
  by_cases h : ∃ w : Nat, w < n ∧ f[r]? = some (w : Int)
  · rw [if_pos h]
    obtain ⟨w, hw, e⟩ := h
    have : (⟨(w : Int), (r : Int)⟩ : S46) ∈ (prs n (rfM f)).filter fun p => decide (p.f1 = (r : Int)) :=
      List.mem_filter.2 ⟨mem_prs.2 ⟨w, r, hw, hr, decide_eq_true e, rfl⟩, by simp⟩
    have := List.length_pos_of_mem this
    omega
  · rw [if_neg h]
    refine List.length_eq_zero_iff.2 (List.filter_eq_nil_iff.2 fun p hp hd => ?_)
    obtain ⟨i, k, hi, _, hm, rfl⟩ := mem_prs.1 hp
    have e1 : k = r := by have := of_decide_eq_true hd; simp only at this; omega
    subst e1
    exact h ⟨i, hi, of_decide_eq_true hm⟩
theorem cnt_take (L : List S46) (i : Nat) (h : i < L.length) (r : Nat) : cntP (L.take (i + 1)) r = cntP (L.take i) r + if L[i].f1 = (r : Int) then 1 else 0 := by
  unfold cntP
  rw [List.take_add_one, List.getElem?_eq_getElem h, List.countP_append]
  by_cases h1 : L[i].f1 = (r : Int)
  · rw [if_pos h1]; simp [h1]
  · rw [if_neg h1]; simp [h1]
theorem wrs_mem (l : List S26) : ∀ (i c d x : Int), x ∈ wrs l i c d → ∃ w : Nat, x = i + (w : Int) ∧ ∃ h : w < l.length, l[w].f1 = 2 ∧ l[w].f2 = c ∧ l[w].f3 = d := by
  induction l with
  | nil => intro i c d x hx; simp [wrs] at hx
  | cons y ys ih =>
    intro i c d x hx
    simp only [wrs, List.mem_append] at hx
    rcases hx with hx | hx
    · split at hx
      · rename_i hc
        rw [List.mem_singleton] at hx
        exact ⟨0, by omega, by simp, hc⟩
      · simp at hx
    · obtain ⟨w, e, h, hc⟩ := ih _ _ _ _ hx
      exact ⟨w + 1, by omega, by simp; omega, by simpa using hc⟩
theorem SourceRf (l : List S26) (wl : ∀ y ∈ l, wf26 y) (_ : l.length ≤ 9223372036854775807) (init : List Int) (wi : ∀ y ∈ init, wfI .i64 y) (hi9 : init.length ≤ 9223372036854775807) (which : Int) (ww : (Lit.int .u16 which).wf = true) :
    ∃ k, cupolalaw11_SourceRf.f k l init which = some true := by
  refine Ev.rounds (g := fun k => cupolalaw11_SourceRf.f k l init which) ?_
  unfold cupolalaw11_SourceRf.f
  refine Ev.bind shown11_ev ?_
  by_cases h24 : (l.length : Int) > 24
  · exact pos h24 (Ev.now _)
  refine neg h24 (bindv rfl (Ev.bind (all_ev l (by omega) [] [] [] [] [] [] init) ?_))
  have hs := all_small (chsT l init)
  by_cases h0 : ((allT (chsT l init)).length : Int) = 0
  · exact pos h0 (Ev.now _)
  refine neg h0 ?_
  have hu := u16_in ww
  have hw0 : wrap64 which = which := IntWalk.wrap64_in _ (by omega)
  obtain ⟨q, hq, hql⟩ := tmod_at hu.1 (show 0 < (allT (chsT l init)).length by omega)
  rw [hw0, hq]
  clear hw0 hq
  refine pos (by omega) (pos (by omega) ?_)
  have eF : rd_L5 (allT (chsT l init)) (q : Int) = (allT (chsT l init))[q] := by simp [rd_L5, List.getD_eq_getElem?_getD, List.getElem?_eq_getElem hql]
  have hF := List.getElem_mem hql
  rw [eF]
  generalize (allT (chsT l init))[q] = f at hF
  clear eF hql h0
  have hsub := all_sub _ _ hF
  obtain ⟨t, h1, h2, h3⟩ := tell_pre _ _ _ hsub
  rw [List.nil_append] at h1
  subst h1
  have hcl : (chsT l init).length = l.length := by unfold chsT; rw [List.length_map]
  rw [hcl] at h2
  have hmem : ∀ i (hi : i < l.length), f[i]'(by omega) ∈ chT l init l[i] := fun i hi =>
    h3 i _ _ (by unfold chsT; rw [List.getElem?_map, List.getElem?_eq_getElem hi]; rfl) (List.getElem?_eq_getElem (by omega))
  clear h3 hsub hF
  have hn : l.length ≤ 32 := by omega
  refine Ev.bind (rf_ev hn l [] [] [] [] [] [] rfl f (by omega)) (Ev.bind (pairs_ev _) ?_)
  have e1 : prs (sz (ofM l.length (rfM f))) (mat (ofM l.length (rfM f))) = prs l.length (rfM f) := by
    rw [sz_ofM hn]
    exact prs_congr fun i k hi hk => by rw [mat_ofM hn]; simp [hi, hk]
  rw [e1]
  clear e1
  -- what each event reads
  have hread : ∀ i (hi : i < l.length), l[i].f1 = 1 → f[i]'(by omega) = -1 ∨ ∃ w : Nat, f[i]'(by omega) = (w : Int) ∧ ∃ h : w < l.length, l[w].f1 = 2 ∧ l[w].f2 = l[i].f2 ∧ l[w].f3 = l[i].f3 := by
    intro i hi h
    have hm := hmem i hi
    unfold chT mayX at hm
    rw [if_pos h, List.mem_append] at hm
    rcases hm with hm | hm
    · split at hm
      · exact .inl (by simpa using hm)
      · simp at hm
    · obtain ⟨w, e, hw⟩ := wrs_mem _ _ _ _ _ hm
      exact .inr ⟨w, by omega, hw⟩
  have hnope : ∀ i (hi : i < l.length), l[i].f1 ≠ 1 → f[i]'(by omega) = -2 := by
    intro i hi h
    have hm := hmem i hi
    unfold chT at hm
    rw [if_neg h] at hm
    simpa using hm
  clear hmem
  have hcount := fun r (hr : r < l.length) => cnt_rf l.length f r hr
  have hsmall : (prs l.length (rfM f)).length ≤ 1024 := Nat.le_trans (prs_length _ _) (Nat.le_trans (Nat.mul_le_mul hn hn) (by decide))
  -- the second loop
  have second : ∀ d i : Nat, i + d = l.length → Ev (fun k => cupolalaw11_SourceRf.l1 k l true f (tab 24 fun r => (cntP (prs l.length (rfM f)) r : Int)) (i : Int)) true := by
    intro d
    induction d with
    | zero =>
      intro i hi
      refine Ev.step (fun k => by rw [cupolalaw11_SourceRf.l1]) ?_
      exact neg (by omega) (Ev.now _)
    | succ d ih =>
      intro i hi
      have hlt : i < l.length := by omega
      have hlf : i < f.length := by omega
      have hw : wrap64 ((i : Int) + 1) = ((i + 1 : Nat) : Int) := by rw [IntWalk.wrap64_in _ (by omega)]; omega
      have e2 : rd (tab 24 fun r => (cntP (prs l.length (rfM f)) r : Int)) (i : Int) = (cntP (prs l.length (rfM f)) i : Int) := rd_tab _ _ _ (by omega)
      have e3 : rd f (i : Int) = f[i] := by simp [rd, List.getD_eq_getElem?_getD, List.getElem?_eq_getElem hlf]
      have e4 := hcount i hlt
      rw [List.getElem?_eq_getElem hlf] at e4
      have more : Ev (fun k => cupolalaw11_SourceRf.j3 k l true f (tab 24 fun r => (cntP (prs l.length (rfM f)) r : Int)) (i : Int) false) true := by
        refine Ev.step (fun k => by rw [cupolalaw11_SourceRf.j3]) (neg (by decide) ?_)
        rw [hw]
        exact ih (i + 1) (by omega)
      refine Ev.step (fun k => by rw [cupolalaw11_SourceRf.l1]) ?_
      rw [e2, e3, rd26 l i hlt]
      refine pos (by omega) (pos (by omega) (pos (by rw [tab_length]; omega) ?_))
      by_cases h1 : l[i].f1 = 1
      · rcases hread i hlt h1 with hr | ⟨w, hr, hwl, _⟩
        · have ec : cntP (prs l.length (rfM f)) i = 0 := by
            rw [e4, if_neg]
            rintro ⟨w, _, e⟩
            have := Option.some.inj e
            omega
          rw [ec, hr]
          refine neg (by decide) (pos h1 (pos (by omega) (neg (by decide) (pos h1 more))))
        · have ec : cntP (prs l.length (rfM f)) i = 1 := by rw [e4, if_pos ⟨w, hwl, by rw [hr]⟩]
          have hm1 : ((w : Int) == -1) = false := beq_eq_false_iff_ne.mpr (by omega)
          rw [ec, hr, hm1]
          refine neg (by decide) (pos h1 (pos (by omega) (neg (by decide) (pos h1 more))))
      · have hr := hnope i hlt h1
        have ec : cntP (prs l.length (rfM f)) i = 0 := by
          rw [e4, if_neg]
          rintro ⟨w, _, e⟩
          have := Option.some.inj e
          omega
        rw [ec, hr]
        exact neg (by decide) (neg h1 (neg h1 (neg (by decide) (pos (by omega) more))))
  -- the first
  have first : ∀ d i : Nat, i + d = (prs l.length (rfM f)).length → Ev (fun k => cupolalaw11_SourceRf.l0 k l true f (prs l.length (rfM f)) (tab 24 fun r => (cntP ((prs l.length (rfM f)).take i) r : Int)) (i : Int)) true := by
    intro d
    induction d with
    | zero =>
      intro i hi
      refine Ev.step (fun k => by rw [cupolalaw11_SourceRf.l0]) ?_
      refine neg (by omega) ?_
      rw [List.take_of_length_le (by omega)]
      exact second l.length 0 (by omega)
    | succ d ih =>
      intro i hi
      have hlt : i < (prs l.length (rfM f)).length := by omega
      obtain ⟨a, b, ha, hb, hm, hp⟩ := mem_prs.1 (List.getElem_mem hlt)
      have e46 : rd_T46 (prs l.length (rfM f)) (i : Int) = ⟨(a : Int), (b : Int)⟩ := by rw [← hp]; simp [rd_T46, List.getD_eq_getElem?_getD, List.getElem?_eq_getElem hlt]
      have hfb := of_decide_eq_true hm
      rw [List.getElem?_eq_getElem (show b < f.length by omega)] at hfb
      have hfb := Option.some.inj hfb
      have hb1 : l[b].f1 = 1 := by
        by_cases h : l[b].f1 = 1
        · exact h
        · have := hnope b hb h; omega
      obtain ⟨hal, ha1, ha2, ha3⟩ : ∃ h : a < l.length, l[a].f1 = 2 ∧ l[a].f2 = l[b].f2 ∧ l[a].f3 = l[b].f3 := by
        rcases hread b hb hb1 with hr | ⟨w, hr, hwl, hw3⟩
        · omega
        · obtain rfl : a = w := by omega
          exact ⟨hwl, hw3⟩
      have hc := cnt_le ((prs l.length (rfM f)).take i) b
      rw [List.length_take] at hc
      refine Ev.step (fun k => by rw [cupolalaw11_SourceRf.l0]) ?_
      rw [e46]
      simp only []
      rw [rd26 l a ha, rd26 l b hb]
      refine pos (by omega) (pos (by omega) (pos (by omega) (pos (by omega) (pos ha1 (pos (by omega) (pos (by omega) (pos hb1 (pos ha2 ?_))))))))
      rw [show (l[a].f3 != l[b].f3) = false from bne_eq_false_iff_eq.mpr ha3]
      refine Ev.step (fun k => by rw [cupolalaw11_SourceRf.j1]) (neg (by decide) (pos (by omega) (pos (by rw [tab_length]; omega) ?_)))
      rw [rd_tab 24 _ b (by omega), IntWalk.wrap64_in ((cntP ((prs l.length (rfM f)).take i) b : Int) + 1) (by omega), IntWalk.wrap64_in ((i : Int) + 1) (by omega), Int.toNat_natCast, tab_set, show (i : Int) + 1 = ((i + 1 : Nat) : Int) by omega]
      have e5 : (tab 24 fun j => if j = b then (cntP ((prs l.length (rfM f)).take i) b : Int) + 1 else (cntP ((prs l.length (rfM f)).take i) j : Int)) = tab 24 fun r => (cntP ((prs l.length (rfM f)).take (i + 1)) r : Int) := by
        refine tab_congr fun j hj => ?_
        rw [cnt_take _ i hlt, hp]
        by_cases hjb : j = b
        · subst hjb; simp
        · rw [if_neg hjb, if_neg (show ¬ (b : Int) = (j : Int) by omega)]; simp
      rw [e5]
      exact ih (i + 1) (by omega)
  have := first (prs l.length (rfM f)).length 0 (by omega)
  have e6 : (tab 24 fun r => (cntP ((prs l.length (rfM f)).take 0) r : Int)) = List.replicate 24 0 := by
    rw [List.take_zero]
    rfl
  rw [e6] at this
  exact this
end Go.Proofs.Ytbamkkdikeedoaa.Pure
