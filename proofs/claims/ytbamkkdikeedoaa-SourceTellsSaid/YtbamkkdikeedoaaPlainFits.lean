/- Plain: what fits, and that whence an event may read rises. -/
import Derived.Test.YtbamkkdikeedoaaPlainSource
namespace Go.Proofs.Ytbamkkdikeedoaa.Src
open Go.RowKit Go.Proofs.Ytbamkkdikeedoaa.G Go.Proofs.YtbamkkdikeedoaaW.PrintWords Go.Proofs.YtbamkkdikeedoaaW.PrintLast Go.Proofs.YtbamkkdikeedoaaW.PrintMore
/-- slices.Index finds what is there. -/
theorem index_loop (l : List Int) (hl : l.length < 1000000) (x : Int) : ∀ m i : Nat, i + m = l.length → x ∈ l.drop i → ∃ j : Int, 0 ≤ j ∧ Ev (fun k => slices_Index_int_int.l0 k l x (l.length : Int) (i : Int)) j := by
  intro m
  induction m with
  | zero => intro i hi hx; rw [List.drop_of_length_le (by omega)] at hx; simp at hx
  | succ m ih =>
    intro i hi hx
    have hlt : i < l.length := by omega
    have hw : wrap64 ((i : Int) + 1) = ((i + 1 : Nat) : Int) := by rw [IntWalk.wrap64_in _ (by omega)]; omega
    have e : rd l (i : Int) = l[i] := by simp [rd, List.getD_eq_getElem?_getD, List.getElem?_eq_getElem hlt]
    by_cases hx1 : x = l[i]
    · exact ⟨(i : Int), by omega, Ev.step (fun k => by rw [slices_Index_int_int.l0]) (pos (by omega) (pos (by omega) (pos (by omega) (pos (by rw [e]; exact hx1) (Ev.now _)))))⟩
    · rw [List.drop_eq_getElem_cons hlt] at hx
      obtain ⟨j, hj, hE⟩ := ih (i + 1) (by omega) ((List.mem_cons.1 hx).resolve_left hx1)
      refine ⟨j, hj, Ev.step (fun k => by rw [slices_Index_int_int.l0]) (pos (by omega) (pos (by omega) (pos (by omega) (neg (by rw [e]; exact hx1) ?_))))⟩
      rw [hw]
      exact hE
theorem contains_ev (l : List Int) (hl : l.length < 1000000) (x : Int) (hx : x ∈ l) : Ev (fun k => slices_Contains_int_int.f k l x) true := by
  unfold slices_Contains_int_int.f slices_Index_int_int.f
  obtain ⟨j, hj, hE⟩ := index_loop l hl x l.length 0 (by omega) (by simpa using hx)
  refine Ev.bind hE ?_
  rw [decide_eq_true (show j ≥ 0 by omega)]
  exact Ev.now _
theorem chs_len (l : List S26) (init : List Int) : ∀ r ∈ chsT l init, r.length ≤ l.length + 1 := by
  intro r hr
  obtain ⟨y, _, rfl⟩ := List.mem_map.1 hr
  unfold chT
  split
  · exact mayX_length _ _ _
  · simp
end Go.Proofs.Ytbamkkdikeedoaa.Src
