/- It is proved that an order that fits, read backwards, fits the relation turned round, and keeps all that follows from it: the law OrderBack of layer 6 answers true for every input, by its plain form. -/
import Derived.Test.YtbamkkdikeedoaaGOrderBack
import Derived.Test.YtbamkkdikeedoaaPlainOrder2
import Derived.Test.YtbamkkdikeedoaaShown06
namespace Go.Proofs.Ytbamkkdikeedoaa.Pure
open Go.RowKit Go.Proofs.Ytbamkkdikeedoaa.G Go.Proofs.Ytbamkkdikeedoaa.Src Go.Proofs.Ytbamkkdikeedoaa.Ord Go.Proofs.YtbamkkdikeedoaaW.PrintWords Go.Proofs.YtbamkkdikeedoaaW.PrintLast Go.Proofs.YtbamkkdikeedoaaW.PrintMore
set_option linter.unusedVariables false
theorem OrderBack : cupolalaw06_OrderBack.Pure := by
  intro r _ _ _
  refine Ev.rounds (g := fun k => cupolalaw06_OrderBack.f k r) ?_
  unfold cupolalaw06_OrderBack.f
  refine Ev.bind shown06_ev ?_
  by_cases h6 : (r.length : Int) > 6
  · exact pos h6 (Ev.now _)
  refine neg h6 ?_
  have hs : sz r = r.length := sz_full (by omega)
  refine Ev.bind (linear_ev r) (Ev.bind (plus_at hs) (Ev.bind (pairs_ev _) ?_))
  have hps : prs (sz (ofM r.length (plus r.length (mat r)))) (mat (ofM r.length (plus r.length (mat r)))) = prs r.length (plus r.length (mat r)) := by
    rw [sz_ofM (by omega)]
    exact prs_congr fun i k hi hk => mat_in (by omega) hi hk
  rw [hps]
  clear hps
  have hlen : (lins r).length ≤ 720 := by
    rw [lins_fits (by omega)]
    exact Nat.le_trans (List.length_filter_le _ _) (by rw [perms_len _ _ (R_length _)]; exact fac_small (by omega))
  have hpc : (prs r.length (plus r.length (mat r))).length ≤ 36 := Nat.le_trans (prs_length _ _) (Nat.le_trans (Nat.mul_le_mul (show r.length ≤ 6 by omega) (show r.length ≤ 6 by omega)) (by decide))
  have outer : ∀ d i : Nat, i + d = (lins r).length → Ev (fun k => cupolalaw06_OrderBack.l0 k r true (lins r) (prs r.length (plus r.length (mat r))) (i : Int)) true := by
    intro d
    induction d with
    | zero =>
      intro i hi
      refine Ev.step (fun k => by rw [cupolalaw06_OrderBack.l0]) ?_
      exact neg (by omega) (Ev.now _)
    | succ d ih =>
      intro i hi
      have hlt : i < (lins r).length := by omega
      have next := ih (i + 1) (by omega)
      have hw : ((i + 1 : Nat) : Int) = wrap64 ((i : Int) + 1) := by rw [IntWalk.wrap64_in _ (by omega)]; omega
      rw [hw] at next
      clear hw
      have e := rdL4 (lins r) i hlt
      obtain ⟨_, hp, hfit⟩ := lins_mem (List.getElem_mem hlt)
      obtain ⟨hpl, hg⟩ := perm_good hp
      generalize (lins r)[i] = p at e hp hfit hpl hg
      -- the positions, once all are set
      have tail : ∀ f : Nat → Int, (∀ j (h : j < p.length), f (p[j]).toNat = (j : Int)) → ∀ e j : Nat, j + e = (prs r.length (plus r.length (mat r))).length →
          Ev (fun k => cupolalaw06_OrderBack.l2 k r true (lins r) (prs r.length (plus r.length (mat r))) (i : Int) (tab r.length f) (j : Int)) true := by
        intro f hf e
        induction e with
        | zero =>
          intro j hj
          refine Ev.step (fun k => by rw [cupolalaw06_OrderBack.l2]) ?_
          exact neg (by omega) next
        | succ e ih2 =>
          intro j hj
          have hjl : j < (prs r.length (plus r.length (mat r))).length := by omega
          obtain ⟨a, b, ha, hb, hm, hpp⟩ := mem_prs.1 (List.getElem_mem hjl)
          have e46 : rd_T46 (prs r.length (plus r.length (mat r))) (j : Int) = ⟨(a : Int), (b : Int)⟩ := by rw [← hpp]; simp [rd_T46, List.getD_eq_getElem?_getD, List.getElem?_eq_getElem hjl]
          have hlt2 : f a < f b := by
            have := plus_least (R := fun i k => decide (f i < f k)) (n := r.length) (M := mat r) (fun i k hi hk hm => ?_) (fun i j k h1 h2 => ?_) hm
            · exact of_decide_eq_true this
            · obtain ⟨x, hx, ex⟩ := List.getElem_of_mem (full_mem hpl hg hi)
              obtain ⟨y, hy, ey⟩ := List.getElem_of_mem (full_mem hpl hg hk)
              have f1 := hf x hx
              have f2 := hf y hy
              rw [ex, Int.toNat_natCast] at f1
              rw [ey, Int.toNat_natCast] at f2
              refine decide_eq_true ?_
              rw [f1, f2]
              by_cases h : x < y
              · omega
              · have := hfit x y (by omega) hx
                rw [ex, ey, Int.toNat_natCast, Int.toNat_natCast, hm] at this
                exact absurd this (by decide)
            · have := of_decide_eq_true h1
              have := of_decide_eq_true h2
              exact decide_eq_true (by omega)
          have hw : wrap64 ((j : Int) + 1) = ((j + 1 : Nat) : Int) := by rw [IntWalk.wrap64_in _ (by omega)]; omega
          refine Ev.step (fun k => by rw [cupolalaw06_OrderBack.l2]) ?_
          rw [e46, hw]
          clear hw
          simp only []
          rw [rd_tab _ _ a ha, rd_tab _ _ b hb]
          exact pos (by omega) (pos (by omega) (pos (by omega) (pos (by rw [tab_length]; omega) (pos (by omega) (pos (by rw [tab_length]; omega) (neg (by omega) (ih2 (j + 1) (by omega))))))))
      have down : ∀ c : Nat, c ≤ p.length → ∀ f : Nat → Int, (∀ j (h : j < p.length), c ≤ j → f (p[j]).toNat = (j : Int)) →
          Ev (fun k => cupolalaw06_OrderBack.l1 k r true (lins r) (prs r.length (plus r.length (mat r))) (i : Int) (p.drop c).reverse (tab r.length f) ((c : Int) - 1)) true := by
        intro c
        induction c with
        | zero =>
          intro _ f hf
          refine Ev.step (fun k => by rw [cupolalaw06_OrderBack.l1]) ?_
          refine neg (by omega) (Ev.bind (inv_at hs) (Ev.bind (fits_ev _ _) ?_))
          have ht : fits (sz (ofM r.length fun i k => mat r k i)) (mat (ofM r.length fun i k => mat r k i)) (p.drop 0).reverse = true := by
            rw [sz_ofM (by omega), List.drop_zero]
            refine fits_t ⟨by rw [List.length_reverse, hpl], ⟨fun x hx => hg.1 x (List.mem_reverse.1 hx), (List.reverse_perm p).nodup_iff.2 hg.2⟩, fun a b hab h => ?_⟩
            rw [List.length_reverse] at h
            rw [mat_ofM (by omega), List.getElem_reverse, List.getElem_reverse, hfit (p.length - 1 - b) (p.length - 1 - a) (by omega) (by omega), Bool.and_false]
          rw [ht]
          exact pos rfl (tail f (fun j h => hf j h (by omega)) (prs r.length (plus r.length (mat r))).length 0 (by omega))
        | succ c ih2 =>
          intro hc f hf
          have hcl : c < p.length := by omega
          have hin := hg.1 _ (List.getElem_mem hcl)
          have hx : ((c + 1 : Nat) : Int) - 1 = (c : Int) := by omega
          have hw : wrap64 ((c : Int) - 1) = (c : Int) - 1 := IntWalk.wrap64_in _ (by omega)
          refine Ev.step (fun k => by rw [cupolalaw06_OrderBack.l1]) ?_
          rw [hx, e, rdAt p c hcl, hw]
          clear hw hx
          refine pos (by omega) (pos (by omega) (pos (by omega) (pos (by omega) (pos (by omega) (neg (by omega) (neg (by omega) (pos ?_ (pos (by omega) (pos (by rw [tab_length]; omega) ?_)))))))))
          · rw [List.length_reverse, List.length_drop]; omega
          · rw [tab_set]
            have := ih2 (by omega) (fun j => if j = (p[c]).toNat then (c : Int) else f j) (fun j h hj => by
              by_cases hjc : j = c
              · subst hjc; simp
              · have h1 := (List.pairwise_iff_getElem.1 hg.2) c j hcl h (by omega)
                have h2 := hg.1 _ (List.getElem_mem h)
                show (if (p[j]).toNat = (p[c]).toNat then (c : Int) else f (p[j]).toNat) = _
                rw [if_neg (by omega), hf j h (by omega)])
            rw [List.drop_eq_getElem_cons hcl, List.reverse_cons] at this
            exact this
      refine Ev.step (fun k => by rw [cupolalaw06_OrderBack.l0]) ?_
      have hw : wrap64 ((p.length : Int) - 1) = (p.length : Int) - 1 := IntWalk.wrap64_in _ (by omega)
      rw [e, hw, Int.toNat_natCast, replicate_tab]
      clear hw
      refine pos (by omega) (pos (by omega) (pos (by omega) (pos (by omega) ?_)))
      have := down p.length (Nat.le_refl _) (fun _ => 0) (fun j h hj => by omega)
      rw [List.drop_length, List.reverse_nil] at this
      exact this
  exact outer (lins r).length 0 (by omega)
end Go.Proofs.Ytbamkkdikeedoaa.Pure
