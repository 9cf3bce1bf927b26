/- Plain: what fits, and that whence an event may read rises. -/
import Derived.Test.YtbamkkdikeedoaaTellLex
namespace Go.Proofs.Ytbamkkdikeedoaa.Src
open Go.RowKit Go.Proofs.Ytbamkkdikeedoaa.G Go.Proofs.YtbamkkdikeedoaaW.PrintWords Go.Proofs.YtbamkkdikeedoaaW.PrintLast Go.Proofs.YtbamkkdikeedoaaW.PrintMore
theorem wrs_ge (l : List S26) : ∀ (i c d x : Int), x ∈ wrs l i c d → i ≤ x := by
  induction l with
  | nil => intro i c d x h; simp [wrs] at h
  | cons y ys ih =>
    intro i c d x h
    simp only [wrs, List.mem_append] at h
    rcases h with h | h
    · split at h
      · rw [List.mem_singleton] at h; omega
      · simp at h
    · have := ih _ _ _ _ h; omega
theorem wrs_rise (l : List S26) : ∀ (i c d : Int), (wrs l i c d).Pairwise (· < ·) := by
  induction l with
  | nil => intro i c d; simp [wrs]
  | cons y ys ih =>
    intro i c d
    simp only [wrs]
    rw [List.pairwise_append]
    refine ⟨by split <;> simp, ih _ _ _, fun a ha b hb => ?_⟩
    have := wrs_ge _ _ _ _ _ hb
    split at ha
    · rw [List.mem_singleton] at ha; omega
    · simp at ha
theorem chs_rise (l : List S26) (init : List Int) : ∀ c ∈ chsT l init, c.Pairwise (· < ·) := by
  intro c hc
  obtain ⟨y, _, rfl⟩ := List.mem_map.1 hc
  unfold chT
  split
  · unfold mayX
    rw [List.pairwise_append]
    refine ⟨by split <;> simp, wrs_rise _ _ _ _, fun a ha b hb => ?_⟩
    have := wrs_ge _ _ _ _ _ hb
    split at ha
    · rw [List.mem_singleton] at ha; omega
    · simp at ha
  · simp
/-- slices.Index finds what is there. -/
theorem index_loop (l : List Int) (hl : l.length < 1000000) (x : Int) : ∀ m i : Nat, i + m = l.length → x ∈ l.drop i → ∃ j : Int, 0 ≤ j ∧ Ev (fun k => slices_Index_int_int.l0 k l x (l.length : Int) (i : Int)) j := by
  intro m
  induction m with
  | zero => intro i hi hx; rw [List.drop_of_length_le (by omega)] at hx; simp at hx
  | succ m ih =>
    intro i hi hx
    have hlt : i < l.length := by omega
    have hw : wrap64 ((i : Int) + 1) = ((i + 1 : Nat) : Int) := by rw [IntWalk.wrap64_in _ (by omega)]; omega
    have e : rd l (i : Int) = l[i] := by simp [rd, List.getD_eq_getElem?_getD, List.getElem?_eq_getElem hlt]
    by_cases hx1 : x = l[i]
    · exact ⟨(i : Int), by omega, Ev.step (fun k => by rw [slices_Index_int_int.l0]) (pos (by omega) (pos (by omega) (pos (by omega) (pos (by rw [e]; exact hx1) (Ev.now _)))))⟩
    · rw [List.drop_eq_getElem_cons hlt] at hx
      obtain ⟨j, hj, hE⟩ := ih (i + 1) (by omega) ((List.mem_cons.1 hx).resolve_left hx1)
      refine ⟨j, hj, Ev.step (fun k => by rw [slices_Index_int_int.l0]) (pos (by omega) (pos (by omega) (pos (by omega) (neg (by rw [e]; exact hx1) ?_))))⟩
      rw [hw]
      exact hE
theorem contains_ev (l : List Int) (hl : l.length < 1000000) (x : Int) (hx : x ∈ l) : Ev (fun k => slices_Contains_int_int.f k l x) true := by
  unfold slices_Contains_int_int.f slices_Index_int_int.f
  obtain ⟨j, hj, hE⟩ := index_loop l hl x l.length 0 (by omega) (by simpa using hx)
  refine Ev.bind hE ?_
  rw [decide_eq_true (show j ≥ 0 by omega)]
  exact Ev.now _
theorem fits_loop (c : List (List Int)) (hc : ∀ r ∈ c, r.length < 1000000) (f : List Int) (hf : f.length = c.length) (hl : f.length < 1000000) (hm : ∀ (j : Nat) (r : List Int) (x : Int), c[j]? = some r → f[j]? = some x → x ∈ r) : ∀ m i : Nat, i + m = f.length →
    Ev (fun k => source_Fits.l0 k c f (f.length : Int) (i : Int)) true := by
  intro m
  induction m with
  | zero =>
    intro i hi
    refine Ev.step (fun k => by rw [source_Fits.l0]) ?_
    exact neg (by omega) (Ev.now _)
  | succ m ih =>
    intro i hi
    have hlt : i < f.length := by omega
    have hlc : i < c.length := by omega
    have hw : wrap64 ((i : Int) + 1) = ((i + 1 : Nat) : Int) := by rw [IntWalk.wrap64_in _ (by omega)]; omega
    have e : rd f (i : Int) = f[i] := by simp [rd, List.getD_eq_getElem?_getD, List.getElem?_eq_getElem hlt]
    have ec : rd_L5 c (i : Int) = c[i] := by simp [rd_L5, List.getD_eq_getElem?_getD, List.getElem?_eq_getElem hlc]
    refine Ev.step (fun k => by rw [source_Fits.l0]) ?_
    refine pos (by omega) (pos (by omega) (pos (by omega) (pos (by omega) ?_)))
    rw [e, ec, hw]
    exact Ev.bind (contains_ev _ (hc _ (List.getElem_mem hlc)) _ (hm i _ _ (List.getElem?_eq_getElem hlc) (List.getElem?_eq_getElem hlt))) (pos rfl (ih (i + 1) (by omega)))
theorem chs_len (l : List S26) (init : List Int) : ∀ r ∈ chsT l init, r.length ≤ l.length + 1 := by
  intro r hr
  obtain ⟨y, _, rfl⟩ := List.mem_map.1 hr
  unfold chT
  split
  · exact mayX_length _ _ _
  · simp
theorem fits_ev (l : List S26) (hl : l.length < 100000) (n1 n2 n3 n4 n5 : List Int) (n6 : List (List Int)) (init f : List Int) (hf : f ∈ tellT (chsT l init) []) : Ev (fun k => source_Fits.f k l n1 n2 n3 n4 n5 n6 init f) true := by
  unfold source_Fits.f
  obtain ⟨t, h1, h2, h3⟩ := tell_pre _ _ _ hf
  rw [List.nil_append] at h1
  subst h1
  have h4 : (chsT l init).length = l.length := by unfold chsT; rw [List.length_map]
  refine Ev.bind (choices_ev l (by omega) n1 n2 n3 n4 n5 n6 init) (pos (by omega) ?_)
  exact fits_loop _ (fun r hr => by have := chs_len l init r hr; omega) f h2 (by omega) h3 f.length 0 (by omega)
theorem all_sub (c : List (List Int)) : ∀ f ∈ allT c, f ∈ tellT c [] := by
  intro f hf
  unfold allT at hf
  cases hm : manyT c 1 with
  | none => rw [hm] at hf; simp at hf
  | some m => rw [hm] at hf; simp only at hf; split at hf <;> first | exact hf | simp at hf
theorem all_rise (l : List S26) (init : List Int) : (allT (chsT l init)).Pairwise LexLt := by
  unfold allT
  cases hm : manyT (chsT l init) 1 with
  | none => simp
  | some m => simp only; split <;> first | exact tell_lex _ (chs_rise l init) [] | simp
end Go.Proofs.Ytbamkkdikeedoaa.Src
