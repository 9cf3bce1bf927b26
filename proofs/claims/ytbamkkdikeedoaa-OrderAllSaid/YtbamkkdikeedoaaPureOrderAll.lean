/- It is proved that Linear tells the orders that fit, all of them, in their order: the law OrderAll of layer 6 answers true for every input, by its plain form. -/
import Derived.Test.YtbamkkdikeedoaaGOrderAll
import Derived.Test.YtbamkkdikeedoaaPlainOrder2
import Derived.Test.YtbamkkdikeedoaaShown06
namespace Go.Proofs.Ytbamkkdikeedoaa.Pure
open Go.RowKit Go.Proofs.Ytbamkkdikeedoaa.G Go.Proofs.Ytbamkkdikeedoaa.Src Go.Proofs.Ytbamkkdikeedoaa.Ord Go.Proofs.YtbamkkdikeedoaaW.PrintWords Go.Proofs.YtbamkkdikeedoaaW.PrintLast Go.Proofs.YtbamkkdikeedoaaW.PrintMore
set_option linter.unusedVariables false
theorem OrderAll : cupolalaw06_OrderAll.Pure := by
  intro r _ _ _
  refine Ev.rounds (g := fun k => cupolalaw06_OrderAll.f k r) ?_
  unfold cupolalaw06_OrderAll.f
  refine Ev.bind shown06_ev ?_
  by_cases h6 : (r.length : Int) > 6
  · exact pos h6 (Ev.now _)
  refine neg h6 ?_
  have hs : sz r = r.length := sz_full (by omega)
  have hlen := perms_len _ _ (R_length r.length)
  have hf := fac_small (show r.length ≤ 6 by omega)
  have walk : ∀ suf pre : List (List Int), pre ++ suf = permsF r.length (R r.length) →
      Ev (fun k => cupolalaw06_OrderAll.l1 k r true (lins r) (permsF r.length (R r.length)) ((pre.filter (fits r.length (mat r))).length : Int) (pre.length : Int)) true := by
    intro suf
    induction suf with
    | nil =>
      intro pre hp
      rw [List.append_nil] at hp
      refine Ev.step (fun k => by rw [cupolalaw06_OrderAll.l1]) ?_
      refine neg (by rw [hp]; omega) (pos rfl ?_)
      rw [lins_fits (by omega), ← hp, beq_self_eq_true]
      exact Ev.now _
    | cons p suf ih =>
      intro pre hp
      have hl : pre.length < (permsF r.length (R r.length)).length := by rw [← hp]; simp
      have he : rd_L4 (permsF r.length (R r.length)) (pre.length : Int) = p := by rw [← hp]; simp [rd_L4, List.getD_eq_getElem?_getD]
      have hm : p ∈ permsF r.length (R r.length) := by rw [← hp]; simp
      have hpl : p.length = r.length := by rw [(perms_perm _ _ (R_length _) p hm).length_eq, R_length]
      have hi := ih (pre ++ [p]) (by rw [List.append_assoc]; exact hp)
      have hw : wrap64 ((pre.length : Int) + 1) = ((pre ++ [p]).length : Int) := by rw [IntWalk.wrap64_in _ (by omega), List.length_append, List.length_singleton]; omega
      refine Ev.step (fun k => by rw [cupolalaw06_OrderAll.l1]) ?_
      rw [he, hw]
      clear hw
      have hfe := fits_ev p r
      rw [hs] at hfe
      refine pos (by omega) (pos (by omega) (Ev.bind hfe ?_))
      have hle : (pre.filter (fits r.length (mat r))).length ≤ pre.length := List.length_filter_le _ _
      cases hc : fits r.length (mat r) p with
      | false =>
        refine neg (by decide) ?_
        rw [List.filter_append, List.filter_cons_of_neg (by simp [hc]), List.filter_nil, List.append_nil] at hi
        exact hi
      | true =>
        rw [List.filter_append, List.filter_cons_of_pos hc, List.filter_nil, List.length_append, List.length_singleton] at hi
        have hx : lins r = pre.filter (fits r.length (mat r)) ++ p :: suf.filter (fits r.length (mat r)) := by
          rw [lins_fits (by omega), ← hp, List.filter_append, List.filter_cons_of_pos hc]
        have h8 : (lins r).length = (pre.filter (fits r.length (mat r))).length + 1 + (suf.filter (fits r.length (mat r))).length := by rw [hx, List.length_append, List.length_cons]; omega
        have e8 : rd_L4 (lins r) ((pre.filter (fits r.length (mat r))).length : Int) = p := by rw [hx]; simp [rd_L4, List.getD_eq_getElem?_getD]
        have hw : wrap64 (((pre.filter (fits r.length (mat r))).length : Int) + 1) = (((pre.filter (fits r.length (mat r))).length + 1 : Nat) : Int) := by rw [IntWalk.wrap64_in _ (by omega)]; omega
        rw [e8, hw]
        clear hw
        refine pos rfl (neg (by omega) (pos (by omega) (pos (by omega) (Ev.bind (intq_is p p (by omega)) ?_))))
        exact pos (decide_eq_true rfl) hi
  have grow : ∀ d i : Nat, i + d = r.length → Ev (fun k => cupolalaw06_OrderAll.l0 k r true (R i) (i : Int)) true := by
    intro d
    induction d with
    | zero =>
      intro i hi
      obtain rfl : i = r.length := by omega
      refine Ev.step (fun k => by rw [cupolalaw06_OrderAll.l0]) ?_
      refine neg (by omega) (Ev.bind (linear_ev r) (Ev.bind (all_ev _ (by omega) _ (R_length _)) ?_))
      exact walk _ [] rfl
    | succ d ih =>
      intro i hi
      have hw : wrap64 ((i : Int) + 1) = ((i + 1 : Nat) : Int) := by rw [IntWalk.wrap64_in _ (by omega)]; omega
      refine Ev.step (fun k => by rw [cupolalaw06_OrderAll.l0]) ?_
      rw [hw, ← R_succ]
      exact pos (by omega) (pos (by rw [R_length]; omega) (ih (i + 1) (by omega)))
  exact grow r.length 0 (by omega)
end Go.Proofs.Ytbamkkdikeedoaa.Pure
