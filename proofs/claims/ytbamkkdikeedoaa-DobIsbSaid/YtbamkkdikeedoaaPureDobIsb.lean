/- It is proved that without isb no read hangs on a branch, and what is left leads to writes alone: the law DobIsb of layer 14 answers true for every input, by its plain form. -/
import Derived.Test.YtbamkkdikeedoaaGDobIsb
import Derived.Test.YtbamkkdikeedoaaPlainSized
import Derived.Test.YtbamkkdikeedoaaShown14
import Derived.Test.YtbamkkdikeedoaaOpensExec
namespace Go.Proofs.Ytbamkkdikeedoaa.Pure
open Go.RowKit Go.Proofs.Ytbamkkdikeedoaa.G Go.Proofs.Ytbamkkdikeedoaa.Opens Go.Proofs.YtbamkkdikeedoaaW.PrintWords Go.Proofs.YtbamkkdikeedoaaW.PrintLast Go.Proofs.YtbamkkdikeedoaaW.PrintMore
set_option linter.unusedVariables false
theorem DobIsb (l : List S26) (po addr data ctrl rmw : List Int) (regs : List (List Int)) (_ : ∀ y ∈ l, wf26 y) (wpo : ∀ y ∈ po, wfI .u32 y) (wad : ∀ y ∈ addr, wfI .u32 y) (wda : ∀ y ∈ data, wfI .u32 y) (wct : ∀ y ∈ ctrl, wfI .u32 y) (wrm : ∀ y ∈ rmw, wfI .u32 y) :
    ∃ k, cupolalaw14_DobIsb.f k l po addr data ctrl rmw regs = some true := by
  refine Ev.rounds (g := fun k => cupolalaw14_DobIsb.f k l po addr data ctrl rmw regs) ?_
  unfold cupolalaw14_DobIsb.f
  refine Ev.bind shown14_ev ?_
  rcases sized_or l po addr data ctrl rmw regs po with h | ⟨h, hl, _, hp, ha, hd, hc, hr⟩
  · exact Ev.bindv h (Ev.neg (by decide) (Ev.now _))
  refine Ev.bindv h (Ev.pos rfl ?_)
  have loop : ∀ d i : Nat, i + d = l.length → (∀ j y, j < i → l[j]? = some y → y.f1 ≠ 6) → Ev (fun k => cupolalaw14_DobIsb.l0 k true (i : Int) l po addr data ctrl rmw regs) true := by
    intro d
    induction d with
    | zero =>
      intro i hi hno
      generalize hn : l.length = n at *
      have hn32 : n ≤ 32 := by omega
      have hz : sz (ofM n fun _ _ => false) = n := sz_ofM hn32 _
      have no6 : ∀ j, evp (isK [6]) l j = false := by
        intro j
        unfold evp
        cases hj : l[j]? with
        | none => rfl
        | some y =>
          have hlt : j < i := by
            have := (List.getElem?_eq_some_iff.1 hj).1; omega
          have := hno j y hlt hj
          simp [isK, this]
      refine Ev.step (fun k => by rw [cupolalaw14_DobIsb.l0]) ?_
      rw [hn]
      refine Ev.neg (by omega) (Ev.bindv rfl (Ev.bindv (new_at hn32) (Ev.bind (static_ev hn32 l regs hn hp hz hz hc rmw) (Ev.bindv rfl (Ev.pos rfl ?_)))))
      have hs : ∀ i k, i < n → k < n → memM l (G.stM n l po (ofM n fun _ _ => false) (ofM n fun _ _ => false) ctrl) i k = memM l (fun i k => mat ctrl i k && evp (isK [2]) l k) i k := by
        intro i k hi hk
        unfold memM G.stM
        congr 1
        rw [mat_in hn32 hi hk, seqM_none (A := mat (ofM n fun _ _ => false)) (fun j hj => by rw [mat_in hn32 hi hj]; rfl), seqM_none (fun j hj => by rw [no6 j]; simp)]
        simp
      have e1 : ofM n (memM l (G.stM n l po (ofM n fun _ _ => false) (ofM n fun _ _ => false) ctrl)) = ofM n (memM l (fun i k => mat ctrl i k && evp (isK [2]) l k)) := ofM_congr hs
      rw [e1]
      refine Ev.bind (only_at (sz_ofM hn32 _) _ full_u32) (Ev.bind (same_ev _ _) (Ev.pos ?_ (Ev.bind (only_at hc _ full_u32) (Ev.bind (memory_ev hn32 l po _ _ ctrl rmw regs (sz_ofM hn32 _)) (Ev.bind (same_ev _ _) ?_)))))
      · refine same_of (sz_ofM hn32 _) (sz_ofM hn32 _) fun i k hi hk => ?_
        rw [mat_in hn32 hi hk, mat_in hn32 hi hk, tb_full (by omega), tb_maskW _ _ (by omega)]
        rw [Bool.true_and, Bool.and_comm]
        exact and_of_imp (fun h => ((Bool.and_eq_true _ _).mp (memM_true.1 h).2).2)
      · have e2 : sameM (ofM n (memM l fun i k => mat ctrl i k && evp (isK [2]) l k)) (ofM n (memM l (mat (ofM n fun i k => mat ctrl i k && (tb 4294967295 i && tb (maskW (isK [2]) l) k))))) = true := by
          refine same_of (sz_ofM hn32 _) (sz_ofM hn32 _) fun i k hi hk => ?_
          rw [mat_in hn32 hi hk, mat_in hn32 hi hk]
          unfold memM
          rw [mat_in hn32 hi hk, tb_full (by omega), tb_maskW _ _ (by omega), Bool.true_and]
        rw [e2]
        exact Ev.now _
    | succ d ih =>
      intro i hi hno
      have hlt : i < l.length := by omega
      have e26 : rd_T26 l (i : Int) = l[i] := by simp [rd_T26, List.getD_eq_getElem?_getD, List.getElem?_eq_getElem hlt]
      refine Ev.step (fun k => by rw [cupolalaw14_DobIsb.l0]) ?_
      refine Ev.pos (by omega) (Ev.pos (by omega) ?_)
      rw [e26, wrap64_succ i (by omega)]
      by_cases h6 : (l[i]).f1 = 6
      · exact Ev.pos h6 (Ev.now _)
      · refine Ev.neg h6 (ih (i + 1) (by omega) fun j y hj hy => ?_)
        by_cases hji : j = i
        · subst hji
          rw [List.getElem?_eq_getElem hlt] at hy
          rw [← Option.some.inj hy]; exact h6
        · exact hno j y (by omega) hy
  exact loop l.length 0 (by omega) (fun j y hj _ => absurd hj (by omega))
end Go.Proofs.Ytbamkkdikeedoaa.Pure
