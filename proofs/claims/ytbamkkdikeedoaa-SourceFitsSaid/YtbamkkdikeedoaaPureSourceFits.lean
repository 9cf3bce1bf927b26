/- It is proved that all ways to read that are told fit, rise, and are as many as whence each may read, times each other: the law SourceFits of layer 11 answers true for every input, by its plain form. -/
import Derived.Test.YtbamkkdikeedoaaGSourceFits
import Derived.Test.YtbamkkdikeedoaaPlainFits
import Derived.Test.YtbamkkdikeedoaaShown11
import Derived.Test.YtbamkkdikeedoaaOpensAt
namespace Go.Proofs.Ytbamkkdikeedoaa.Pure
open Go.RowKit Go.Proofs.Ytbamkkdikeedoaa.G Go.Proofs.Ytbamkkdikeedoaa.Src Go.Proofs.Ytbamkkdikeedoaa.Opens Go.Proofs.YtbamkkdikeedoaaW.PrintWords Go.Proofs.YtbamkkdikeedoaaW.PrintLast Go.Proofs.YtbamkkdikeedoaaW.PrintMore
theorem rdF (l : List (List Int)) (i : Nat) (h : i < l.length) : rd_L5 l (i : Int) = l[i] := by simp [rd_L5, List.getD_eq_getElem?_getD, List.getElem?_eq_getElem h]
theorem rdQ {l : List Int} {i : Nat} {x : Int} (h : l[i]? = some x) : rd l (i : Int) = x := by simp [rd, List.getD_eq_getElem?_getD, h]
theorem SourceFits (l : List S26) (_ : ∀ y ∈ l, wf26 y) (_ : l.length ≤ 9223372036854775807) (init : List Int) (_ : ∀ y ∈ init, wfI .i64 y) (_ : init.length ≤ 9223372036854775807) :
    ∃ k, cupolalaw11_SourceFits.f k l init = some true := by
  refine Ev.rounds (g := fun k => cupolalaw11_SourceFits.f k l init) ?_
  unfold cupolalaw11_SourceFits.f
  refine Ev.bind shown11_ev ?_
  by_cases h : (l.length : Int) > 24
  · exact pos h (Ev.now _)
  have hl : l.length ≤ 24 := by omega
  refine neg h (bindv rfl (Ev.bind (all_ev l (by omega) [] [] [] [] [] [] init) ?_))
  have hsub := all_sub (chsT l init)
  have hrise := all_rise l init
  have hlen : ∀ f ∈ allT (chsT l init), f.length = l.length := by
    intro f hf
    obtain ⟨t, h1, h2, _⟩ := tell_pre _ _ _ (hsub f hf)
    rw [h1, List.nil_append, h2]; unfold chsT; rw [List.length_map]
  have hmany : ∀ m, manyT (chsT l init) 1 = some m → ((allT (chsT l init)).length : Int) = m := by
    intro m hm
    have := (manyT_tell _ _ _ hm []).1
    unfold allT
    rw [hm]
    simp only
    split
    · rename_i h0; rw [h0]; rfl
    · rw [this]; omega
  have hnone : manyT (chsT l init) 1 = none → allT (chsT l init) = [] := by intro hm; unfold allT; rw [hm]
  have hbound : ∀ m, manyT (chsT l init) 1 = some m → m ≤ 20000 := fun m hm => (manyT_tell _ _ _ hm []).2 (by omega) (by omega)
  generalize hall : allT (chsT l init) = all at *
  -- all of them fit and rise
  have loop1 : ∀ (m : Int), (all.length : Int) = m → all.length ≤ 20000 → ∀ d i : Nat, i + d = all.length → Ev (fun k => cupolalaw11_SourceFits.l1 k l init true all m (i : Int) l) true := by
    intro m hm hb d
    induction d with
    | zero =>
      intro i hi
      refine Ev.step (fun k => by rw [cupolalaw11_SourceFits.l1]) ?_
      refine neg (by omega) (pos rfl ?_)
      rw [hm, beq_self_eq_true]
      exact Ev.now _
    | succ d ih =>
      intro i hi
      have hlt : i < all.length := by omega
      refine Ev.step (fun k => by rw [cupolalaw11_SourceFits.l1]) ?_
      refine pos (by omega) (pos (by omega) ?_)
      rw [rdF all i hlt]
      refine Ev.bind (fits_ev l (by omega) [] [] [] [] [] [] init _ (hsub _ (List.getElem_mem hlt))) (pos rfl ?_)
      have hw : wrap64 ((i : Int) + 1) = ((i + 1 : Nat) : Int) := by rw [IntWalk.wrap64_in _ (by omega)]; omega
      have next : ∀ x11 : Int, Ev (fun k => cupolalaw11_SourceFits.j3 k l init true all m (i : Int) x11 false l) true := by
        intro x11
        refine Ev.step (fun k => by rw [cupolalaw11_SourceFits.j3]) ?_
        refine neg (by decide) ?_
        rw [hw]
        exact ih (i + 1) (by omega)
      by_cases hi0 : i = 0
      · refine Ev.step (fun k => by rw [cupolalaw11_SourceFits.l2]) ?_
        exact neg (by omega) (next 0)
      have hwm : wrap64 ((i : Int) - 1) = ((i - 1 : Nat) : Int) := by rw [IntWalk.wrap64_in _ (by omega)]; omega
      have hlt' : i - 1 < all.length := by omega
      have hlex : LexLt all[i - 1] all[i] := (List.pairwise_iff_getElem.1 hrise) (i - 1) i hlt' hlt (by omega)
      obtain ⟨q, hq1, hq2, hq3, x, y, hx, hy, hxy⟩ := hlex
      have hn1 := hlen _ (List.getElem_mem hlt')
      have hn2 := hlen _ (List.getElem_mem hlt)
      have rA : rd_L5 all ((i - 1 : Nat) : Int) = all[i - 1] := rdF all (i - 1) hlt'
      have rB : rd_L5 all (i : Int) = all[i] := rdF all i hlt
      generalize all[i - 1] = A at rA hn1 hq1 hq3 hx
      generalize all[i] = B at rB hn2 hq2 hq3 hy
      have pi : (0 : Int) < (i : Int) := by omega
      have pi1 : ((i - 1 : Nat) : Int) < (all.length : Int) := by omega
      have pi2 : (i : Int) < (all.length : Int) := by omega
      have walk : ∀ e j : Nat, j + e = q → Ev (fun k => cupolalaw11_SourceFits.l2 k l init true all m (i : Int) (j : Int) l) true := by
        intro e
        induction e with
        | zero =>
          intro j hj
          obtain rfl : j = q := by omega
          have e1 := rdQ hx
          have e2 := rdQ hy
          refine Ev.step (fun k => by rw [cupolalaw11_SourceFits.l2]) ?_
          rw [hwm, rA, rB, e1, e2]
          refine pos pi (pos (by omega) (pos (by omega) (pos pi1 (pos (by omega) (pos (by omega) (pos (by omega) (pos pi2 (pos (by omega) ?_))))))))
          have e3 : decide (x ≥ y) = false := decide_eq_false (by omega)
          rw [e3]
          exact next _
        | succ e ihe =>
          intro j hj
          have hj1 : j < A.length := by omega
          have hj2 : j < B.length := by omega
          have hj3 := hq3 j (by omega)
          obtain ⟨z, hz⟩ : ∃ z, A[j]? = some z := ⟨_, List.getElem?_eq_getElem hj1⟩
          have hz2 : B[j]? = some z := by rw [← hj3]; exact hz
          have e1 := rdQ hz
          have e2 := rdQ hz2
          have q1 : (j : Int) < (l.length : Int) := by omega
          have q2 : 0 ≤ (j : Int) := by omega
          have q3 : (j : Int) < (A.length : Int) := by omega
          have q4 : (j : Int) < (B.length : Int) := by omega
          have q5 : ¬ (j : Int) = (l.length : Int) - 1 := by omega
          have q6 : 0 ≤ ((i - 1 : Nat) : Int) := by omega
          have q7 : 0 ≤ (i : Int) := by omega
          have q8 : ¬ z > z := by omega
          have e3 : decide (z ≥ z) = true := decide_eq_true (by omega)
          have q9 := ihe (j + 1) (by omega)
          have hwj : wrap64 ((j : Int) + 1) = ((j + 1 : Nat) : Int) := by rw [IntWalk.wrap64_in _ (by omega)]; omega
          rw [← hwj] at q9
          clear hwj
          have hwl : wrap64 ((l.length : Int) - 1) = (l.length : Int) - 1 := IntWalk.wrap64_in _ (by omega)
          clear hj3 hz hz2
          refine Ev.step (fun k => by rw [cupolalaw11_SourceFits.l2]) ?_
          rw [hwm, rA, rB, e1, e2]
          refine pos pi (pos q1 (pos q6 (pos pi1 (pos q2 (pos q3 (pos q7 (pos pi2 (pos q4 ?_))))))))
          rw [e3]
          refine Ev.step (fun k => by rw [cupolalaw11_SourceFits.j3]) ?_
          rw [hwm, rA, rB, e1, e2, hwl]
          exact pos rfl (pos q6 (pos pi1 (pos q2 (pos q3 (pos q7 (pos pi2 (pos q4 (neg q8 (neg q5 q9)))))))))
      exact walk q 0 (by omega)
  have loop0 : ∀ d i : Nat, i + d = l.length → ∀ m : Int, 0 ≤ m → m ≤ 20000 → manyT (chsT l init) 1 = manyT ((l.drop i).map (chT l init)) m → Ev (fun k => cupolalaw11_SourceFits.l0 k l init true all m (i : Int) l) true := by
    intro d
    induction d with
    | zero =>
      intro i hi m h0 h1 hm
      rw [List.drop_of_length_le (by omega), List.map_nil, manyT] at hm
      refine Ev.step (fun k => by rw [cupolalaw11_SourceFits.l0]) ?_
      refine neg (by omega) ?_
      have := hmany m hm
      exact loop1 m this (by omega) all.length 0 (by omega)
    | succ d ih =>
      intro i hi m h0 h1 hm
      have hlt : i < l.length := by omega
      have hw : wrap64 ((i : Int) + 1) = ((i + 1 : Nat) : Int) := by rw [IntWalk.wrap64_in _ (by omega)]; omega
      rw [List.drop_eq_getElem_cons hlt, List.map_cons, manyT] at hm
      refine Ev.step (fun k => by rw [cupolalaw11_SourceFits.l0]) ?_
      rw [rd26 l i hlt, hw]
      refine pos (by omega) (pos (by omega) ?_)
      by_cases c1 : (l[i]).f1 = 1
      · have hM := may_ev l (by omega) [] [] [] [] [] [] init (i : Int)
        unfold mayT at hM
        rw [rd26 l i hlt, if_pos ⟨by omega, by omega, c1⟩] at hM
        have hc : chT l init l[i] = mayX l init l[i] := by unfold chT; rw [if_pos c1]
        have hb := mayX_length l init l[i]
        rw [hc] at hm
        refine pos c1 (Ev.bind hM ?_)
        have hge : 0 ≤ m * ((mayX l init l[i]).length : Int) := Int.mul_nonneg h0 (by omega)
        have hle : m * ((mayX l init l[i]).length : Int) ≤ 20000 * ((mayX l init l[i]).length : Int) := Int.mul_le_mul_of_nonneg_right h1 (by omega)
        have hwm : wrap64 (m * ((mayX l init l[i]).length : Int)) = m * ((mayX l init l[i]).length : Int) := IntWalk.wrap64_in _ (by omega)
        rw [hwm]
        by_cases c2 : m * ((mayX l init l[i]).length : Int) > 20000
        · rw [if_pos c2] at hm
          rw [hnone hm]
          exact pos c2 (pos rfl (Ev.now _))
        · rw [if_neg c2] at hm
          exact neg c2 (ih (i + 1) (by omega) _ hge (by omega) hm)
      · have hc : chT l init l[i] = [-2] := by unfold chT; rw [if_neg c1]
        rw [hc] at hm
        simp only [List.length_singleton, Int.natCast_one, Int.mul_one] at hm
        rw [if_neg (by omega)] at hm
        exact neg c1 (neg (by omega) (ih (i + 1) (by omega) m h0 h1 hm))
  have := loop0 l.length 0 (by omega) 1 (by omega) (by omega) (by rw [List.drop_zero]; rfl)
  exact this
end Go.Proofs.Ytbamkkdikeedoaa.Pure
