/- It is proved that the relation that an order makes is acyclic, has that order alone, and half of all pairs: the law OrderOf of layer 6 answers true for every input, by its plain form. -/
import Derived.Test.YtbamkkdikeedoaaGOrderOf
import Derived.Test.YtbamkkdikeedoaaPlainOrder3
import Derived.Test.YtbamkkdikeedoaaWf
import Derived.Test.YtbamkkdikeedoaaShown06
namespace Go.Proofs.Ytbamkkdikeedoaa.Pure
open Go.RowKit Go.Proofs.Ytbamkkdikeedoaa.G Go.Proofs.Ytbamkkdikeedoaa.Src Go.Proofs.Ytbamkkdikeedoaa.Ord Go.Proofs.YtbamkkdikeedoaaW.PrintWords Go.Proofs.YtbamkkdikeedoaaW.PrintLast Go.Proofs.YtbamkkdikeedoaaW.PrintMore
set_option linter.unusedVariables false
theorem fac_pos : ∀ n, 0 < fac n
  | 0 => by decide
  | n + 1 => by rw [fac]; exact Nat.mul_pos (fac_pos n) (by omega)
theorem small1 {i d n : Nat} (h : i + (d + 1) = n) : (i : Int) < (n : Int) := by omega
theorem small2 {i d n : Nat} (h : i + (d + 1) = n) (hn : n < 7) : (R i).length < 17592186044416 := by rw [R_length]; omega
theorem small3 {i d n : Nat} (h : i + (d + 1) = n) : i + 1 + d = n := by omega
theorem OrderOf : cupolalaw06_OrderOf.Pure := by
  intro a w t ha hw ht
  refine Ev.rounds (g := fun k => cupolalaw06_OrderOf.f k a w t) ?_
  unfold cupolalaw06_OrderOf.f
  refine Ev.bind shown06_ev ?_
  have hu := wf_u8 ha
  have hw := wf_u16 hw
  have ht := wf_u32 ht
  obtain ⟨n, hq0, hn⟩ := tmodq hu.1 (show 0 < 7 by decide)
  have hq : Int.tmod a 7 = (n : Int) := hq0
  rw [hq, IntWalk.wrap64_in (n : Int) (by omega)]
  clear hq hq0
  have hlen := perms_len _ _ (R_length n)
  have hf := fac_small (show n ≤ 6 by omega)
  have hfp := fac_pos n
  have hL := all_ev n (by omega) _ (R_length n)
  have hperm : ∀ q ∈ permsF n (R n), q.Perm (R n) := fun q hq => perms_perm _ _ (R_length n) _ hq
  have hnd : (permsF n (R n)).Nodup := perms_apart n _ (R_nodup n)
  obtain ⟨x, hx, hxl⟩ := tmodq hw.1 (show 0 < (permsF n (R n)).length by omega)
  have hpe := rdL4 _ x hxl
  have hpm := List.getElem_mem hxl
  generalize (permsF n (R n))[x] = p at hpe hpm
  obtain ⟨hpl, hg⟩ := perm_good (hperm p hpm)
  have hM : ∀ i k, i < n → k < n → mat (ofM n (memP (prsL p))) i k = memP (prsL p) i k := fun i k hi hk => mat_in (by omega) hi hk
  have hin : ∀ x ∈ p, 0 ≤ x ∧ x < (n : Int) := hg.1
  have hfit : ∀ q : List Int, q.Perm (R n) → (fitP (mat (ofM n (memP (prsL p)))) q ↔ q = p) := by
    intro q hq
    obtain ⟨hql, hqg⟩ := perm_good hq
    have hcell : ∀ a b : Nat, ∀ ha : a < q.length, ∀ hb : b < q.length, mat (ofM n (memP (prsL p))) (q[a]).toNat (q[b]).toNat = true ↔ (⟨q[a], q[b]⟩ : S46) ∈ prsL p := by
      intro a b ha hb
      have h1 := hqg.1 _ (List.getElem_mem ha)
      have h2 := hqg.1 _ (List.getElem_mem hb)
      rw [hM _ _ (by omega) (by omega), memP_iff, Int.toNat_of_nonneg h1.1, Int.toNat_of_nonneg h2.1]
    constructor
    · intro h
      refine uniq q p (hq.trans (hperm p hpm).symm) fun a b hab ha hm => ?_
      have := (hcell a b ha (by omega)).2 hm
      rw [h a b hab ha] at this
      exact absurd this (by decide)
    · rintro rfl a b hab ha
      cases hc : mat (ofM n (memP (prsL q))) (q[a]).toNat (q[b]'(by omega)).toNat with
      | false => rfl
      | true =>
        obtain ⟨c, d, hcd, hd, e1, e2⟩ := mem_prsL.1 ((hcell a b ha (by omega)).1 hc)
        have := inj_at hqg.2 (by omega) ha e1
        have := inj_at hqg.2 hd (by omega) e2
        omega
  have hlin : lins (ofM n (memP (prsL p))) = [p] := by
    rw [lins_fits (by rw [ofM_length]; omega), ofM_length]
    refine filter_one _ p _ hnd hpm fun q hq => ?_
    have hqp := hperm q hq
    rw [← hfit q hqp]
    constructor
    · intro h
      by_cases hP : FitsP n (mat (ofM n (memP (prsL p)))) q
      · exact hP.2.2
      · rw [fits_f hP] at h; exact absurd h (by decide)
    · intro h
      exact fits_t ⟨(perm_good hqp).1, (perm_good hqp).2, h⟩
  have hacy : acy n (mat (ofM n (memP (prsL p)))) = true := by
    rw [acy_iff]
    intro i hi
    cases h : plus n (mat (ofM n (memP (prsL p)))) i i with
    | false => rfl
    | true =>
      have := plus_least (R := memP (prsL p)) (fun i k hi hk hm => by rwa [hM i k hi hk] at hm) (fun i j k h1 h2 => ?_) h
      · obtain ⟨c, d, hcd, hd, e1, e2⟩ := mem_prsL.1 (memP_iff.1 this)
        have := inj_at hg.2 (by omega) hd (e1.trans e2.symm)
        omega
      · obtain ⟨c, d, hcd, hd, e1, e2⟩ := mem_prsL.1 (memP_iff.1 h1)
        obtain ⟨c', d', hcd', hd', e1', e2'⟩ := mem_prsL.1 (memP_iff.1 h2)
        have := inj_at hg.2 hd (by omega) (e2.trans e1'.symm)
        exact memP_iff.2 (mem_prsL.2 ⟨c, d', by omega, hd', e1, e2'⟩)
  have hcount : (prs n (mat (ofM n (memP (prsL p))))).length = tri n := by
    have h0 := prsL_len p
    rw [hpl] at h0
    rw [← h0]
    apply Nat.le_antisymm
    · refine sub_len2 (prsq_nodup _ _) fun y hy => ?_
      obtain ⟨i, k, hi, hk, hm, rfl⟩ := mem_prs.1 hy
      rw [hM i k hi hk] at hm
      exact memP_iff.1 hm
    · refine sub_len2 (prsL_nodup p hg.2) fun y hy => ?_
      obtain ⟨u, v⟩ := y
      obtain ⟨c, d, hcd, hd, e1, e2⟩ := mem_prsL.1 hy
      have h1 := hin _ (List.getElem_mem (show c < p.length by omega))
      have h2 := hin _ (List.getElem_mem hd)
      rw [e1] at h1
      rw [e2] at h2
      refine mem_prs.2 ⟨u.toNat, v.toNat, by omega, by omega, ?_, by rw [Int.toNat_of_nonneg h1.1, Int.toNat_of_nonneg h2.1]⟩
      rw [hM _ _ (by omega) (by omega), memP_iff, Int.toNat_of_nonneg h1.1, Int.toNat_of_nonneg h2.1]
      exact hy
  have hofN : ofN (n : Int) = n := by unfold ofN; rw [if_pos (by omega), Int.toNat_natCast]
  have hO := of_ev (n : Int) p (by omega)
  rw [hofN] at hO
  have hsz : sz (ofM n (memP (prsL p))) = n := sz_ofM (by omega) _
  have last : Ev (fun k => cupolalaw06_OrderOf.l0 k w t true (n : Int) (R n) (n : Int)) true := by
    refine Ev.step (fun k => by rw [cupolalaw06_OrderOf.l0]) ?_
    refine neg (by omega) (Ev.bind hL (neg (by omega) ?_))
    rw [IntWalk.wrap64_in w (by omega), hx, hpe]
    refine pos (by omega) (pos (by omega) (Ev.bind hO (Ev.bind (linear_ev _) ?_)))
    rw [hlin]
    refine pos rfl (Ev.bind (acyclic_at hsz) (pos hacy (pos rfl (pos (by simp) ?_))))
    refine Ev.bind (intq_is _ _ (by show p.length < 1000000; omega)) (pos (decide_eq_true rfl) (Ev.bind (only_at hsz t ht) (Ev.bind (fits_ev _ _) (pos ?_ (Ev.bind (pairs_ev _) ?_)))))
    · rw [sz_ofM (by omega)]
      refine fits_t ⟨hpl, hg, fun a b hab h => ?_⟩
      rw [mat_ofM (by omega), (hfit p (hperm p hpm)).2 rfl a b hab h]
      simp
    · rw [hsz, hcount, tri_is (by omega)]
      exact Ev.now _
  have grow : ∀ d i : Nat, i + d = n → Ev (fun k => cupolalaw06_OrderOf.l0 k w t true (n : Int) (R i) (i : Int)) true := by
    intro d
    induction d with
    | zero =>
      intro i hi
      obtain rfl : i = n := by omega
      exact last
    | succ d ih =>
      intro i hi
      have h1 : (i : Int) < (n : Int) := small1 hi
      have h9 : (R i).length < 17592186044416 := small2 hi hn
      have h2 := ih (i + 1) (small3 hi)
      have hw : wrap64 ((i : Int) + 1) = ((i + 1 : Nat) : Int) := by rw [IntWalk.wrap64_in _ (by omega)]; omega
      refine Ev.step (fun k => by rw [cupolalaw06_OrderOf.l0]) ?_
      rw [hw, ← R_succ]
      exact pos h1 (pos h9 h2)
  exact grow n 0 (by omega)
end Go.Proofs.Ytbamkkdikeedoaa.Pure
