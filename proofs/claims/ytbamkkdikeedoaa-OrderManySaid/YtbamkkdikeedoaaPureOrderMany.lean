/- It is proved that of n things there are n! orders, of all things and no two alike, and that Linear of no pairs tells them all: the law OrderMany of layer 6 answers true for every input, by its plain form. -/
import Derived.Test.YtbamkkdikeedoaaGOrderMany
import Derived.Test.YtbamkkdikeedoaaPlainOrder2
import Derived.Test.YtbamkkdikeedoaaPlainLists
import Derived.Test.YtbamkkdikeedoaaWf
import Derived.Test.YtbamkkdikeedoaaShown06
namespace Go.Proofs.Ytbamkkdikeedoaa.Pure
open Go.RowKit Go.Proofs.Ytbamkkdikeedoaa.G Go.Proofs.Ytbamkkdikeedoaa.Src Go.Proofs.Ytbamkkdikeedoaa.Ord Go.Proofs.YtbamkkdikeedoaaW.PrintWords Go.Proofs.YtbamkkdikeedoaaW.PrintLast Go.Proofs.YtbamkkdikeedoaaW.PrintMore
set_option linter.unusedVariables false
theorem OrderMany : cupolalaw06_OrderMany.Pure := by
  intro a ha
  refine Ev.rounds (g := fun k => cupolalaw06_OrderMany.f k a) ?_
  unfold cupolalaw06_OrderMany.f
  refine Ev.bind shown06_ev ?_
  have hu := wf_u8 ha
  obtain ⟨n, hq, hn⟩ := tmodq hu.1 (show 0 < 7 by decide)
  have hq : Int.tmod a 7 = (n : Int) := hq
  rw [hq, IntWalk.wrap64_in (n : Int) (by omega)]
  clear hq
  have hlen := perms_len _ _ (R_length n)
  have hf := fac_small (show n ≤ 6 by omega)
  generalize hL : permsF n (R n) = L at hlen
  have hperm : ∀ i (hi : i < L.length), L[i].Perm (R n) := fun i hi => perms_perm _ _ (R_length n) _ (by rw [hL]; exact List.getElem_mem hi)
  have hpl : ∀ i (hi : i < L.length), L[i].length = n := fun i hi => by rw [(hperm i hi).length_eq, R_length]
  have hnd : L.Nodup := by rw [← hL]; exact perms_apart n _ (R_nodup n)
  have hlin : lins (ofM n fun _ _ => false) = L := by
    rw [lins_fits (by rw [ofM_length]; omega), ofM_length, hL, List.filter_eq_self]
    intro p hp
    have := perms_perm _ _ (R_length n) p (by rw [hL]; exact hp)
    refine fits_t ⟨(perm_good this).1, (perm_good this).2, fun a b _ _ => ?_⟩
    rw [mat_ofM (by omega)]; simp
  have last : Ev (fun k => cupolalaw06_OrderMany.l1 k true (n : Int) (fac n : Int) L (L.length : Int)) true := by
    refine Ev.step (fun k => by rw [cupolalaw06_OrderMany.l1]) ?_
    refine neg (by omega) (pos rfl (pos (by omega) (bindv (new_eq _) ?_)))
    rw [if_pos (by omega), Int.toNat_natCast]
    refine Ev.bind (linear_ev _) ?_
    rw [hlin]
    refine Ev.bind (lists_same L (by omega) fun r hr => ?_) (Ev.now _)
    obtain ⟨i, hi, rfl⟩ := List.getElem_of_mem hr
    rw [hpl i hi]; omega
  have each : ∀ d i : Nat, i + d = L.length → Ev (fun k => cupolalaw06_OrderMany.l1 k true (n : Int) (fac n : Int) L (i : Int)) true := by
    intro d
    induction d with
    | zero =>
      intro i hi
      obtain rfl : i = L.length := by omega
      exact last
    | succ d ih =>
      intro i hi
      have hlt : i < L.length := by omega
      have next := ih (i + 1) (by omega)
      have hw : ((i + 1 : Nat) : Int) = wrap64 ((i : Int) + 1) := by rw [IntWalk.wrap64_in _ (by omega)]; omega
      rw [hw] at next
      clear hw
      have hp := hpl i hlt
      have inner : ∀ e j : Nat, j + e = n → Ev (fun k => cupolalaw06_OrderMany.l2 k true (n : Int) (fac n : Int) L (i : Int) (j : Int)) true := by
        intro e
        induction e with
        | zero =>
          intro j hj
          refine Ev.step (fun k => by rw [cupolalaw06_OrderMany.l2]) ?_
          refine neg (by omega) ?_
          by_cases hi0 : (i : Int) > 0
          · obtain ⟨i', rfl⟩ : ∃ i', i = i' + 1 := ⟨i - 1, by omega⟩
            have hw : wrap64 (((i' + 1 : Nat) : Int) - 1) = (i' : Int) := by rw [IntWalk.wrap64_in _ (by omega)]; omega
            rw [hw, rdL4 L (i' + 1) hlt, rdL4 L i' (by omega)]
            clear hw
            refine pos hi0 (pos (by omega) (pos (by omega) (pos (by omega) (pos (by omega) (Ev.bind (intq_is _ _ (by omega)) ?_)))))
            have hne : L[i' + 1] ≠ L[i'] := fun e => (List.pairwise_iff_getElem.1 hnd) i' (i' + 1) (by omega) hlt (by omega) e.symm
            rw [decide_eq_false hne]
            exact neg (by decide) next
          · exact neg hi0 next
        | succ e ih2 =>
          intro j hj
          have hw : wrap64 ((j : Int) + 1) = ((j + 1 : Nat) : Int) := by rw [IntWalk.wrap64_in _ (by omega)]; omega
          refine Ev.step (fun k => by rw [cupolalaw06_OrderMany.l2]) ?_
          rw [rdL4 L i hlt, hw]
          clear hw
          refine pos (by omega) (pos (by omega) (pos (by omega) (Ev.bind (inq_is _ (by omega) _) ?_)))
          have : (j : Int) ∈ L[i] := ((hperm i hlt).mem_iff).2 (R_mem.2 (by omega))
          rw [decide_eq_true this]
          exact pos rfl (ih2 (j + 1) (by omega))
      refine Ev.step (fun k => by rw [cupolalaw06_OrderMany.l1]) ?_
      exact pos (by omega) (inner n 0 (by omega))
  have grow : ∀ d i : Nat, i + d = n → Ev (fun k => cupolalaw06_OrderMany.l0 k true (n : Int) (R i) (fac i : Int) (i : Int)) true := by
    intro d
    induction d with
    | zero =>
      intro i hi
      obtain rfl : i = n := by omega
      refine Ev.step (fun k => by rw [cupolalaw06_OrderMany.l0]) ?_
      have := all_ev i (by omega) _ (R_length i)
      rw [hL] at this
      exact neg (by omega) (Ev.bind this (each L.length 0 (by omega)))
    | succ d ih =>
      intro i hi
      have hw : wrap64 ((i : Int) + 1) = ((i + 1 : Nat) : Int) := by rw [IntWalk.wrap64_in _ (by omega)]; omega
      refine Ev.step (fun k => by rw [cupolalaw06_OrderMany.l0]) ?_
      rw [fac_step (by omega), hw, ← R_succ]
      exact pos (by omega) (pos (by rw [R_length]; omega) (ih (i + 1) (by omega)))
  exact grow n 0 (by omega)
end Go.Proofs.Ytbamkkdikeedoaa.Pure
