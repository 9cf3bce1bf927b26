/- It is proved that who reads what nobody writes, and what was not there at first, reads from nowhere: the law SourceNone of layer 11 answers true for every input, by its plain form. -/
import Derived.Test.YtbamkkdikeedoaaGSourceNone
import Derived.Test.YtbamkkdikeedoaaPlainSource
import Derived.Test.YtbamkkdikeedoaaShown11
import Derived.Test.YtbamkkdikeedoaaOpensAt
namespace Go.Proofs.Ytbamkkdikeedoaa.Pure
open Go.RowKit Go.Proofs.Ytbamkkdikeedoaa.G Go.Proofs.Ytbamkkdikeedoaa.Src Go.Proofs.Ytbamkkdikeedoaa.Opens Go.Proofs.YtbamkkdikeedoaaW.PrintWords Go.Proofs.YtbamkkdikeedoaaW.PrintLast Go.Proofs.YtbamkkdikeedoaaW.PrintMore
theorem i64_range {x : Int} (h : wfI .i64 x) : -9223372036854775808 ≤ x ∧ x ≤ 9223372036854775807 := by
  unfold wfI at h
  simp [Lit.wf, IntKind.min, IntKind.max, IntKind.bits, IntKind.signed] at h
  omega
theorem mx_spec (a b : Int) : a ≤ mx a b ∧ b ≤ mx a b ∧ (mx a b = a ∨ mx a b = b) := by unfold mx; split <;> omega
theorem wrs_none (l : List S26) (c d : Int) (h : ∀ y ∈ l, y.f1 = 2 → y.f3 ≠ d) : ∀ i, wrs l i c d = [] := by
  induction l with
  | nil => intro i; rfl
  | cons y ys ih =>
    intro i
    simp only [wrs]
    rw [if_neg (fun e => h y (List.mem_cons_self ..) e.1 e.2.2), ih (fun z hz => h z (List.mem_cons_of_mem _ hz)), List.nil_append]
theorem SourceNone (l : List S26) (wl : ∀ y ∈ l, wf26 y) (_ : l.length ≤ 9223372036854775807) (init : List Int) (wi : ∀ y ∈ init, wfI .i64 y) (hi : init.length ≤ 9223372036854775807) (loc : Int) (_ : (Lit.int .i64 loc).wf = true) :
    ∃ k, cupolalaw11_SourceNone.f k l init loc = some true := by
  refine Ev.rounds (g := fun k => cupolalaw11_SourceNone.f k l init loc) ?_
  unfold cupolalaw11_SourceNone.f
  refine Ev.bind shown11_ev ?_
  by_cases h : (l.length : Int) > 23
  · exact pos h (Ev.now _)
  refine neg h ?_
  have hl : l.length ≤ 23 := by omega
  -- behind both loops
  have last : ∀ top : Int, 0 ≤ top → top ≤ 9223372036854775807 → (∀ y ∈ l, y.f3 ≤ top) → (∀ y ∈ init, y ≤ top) →
      Ev (fun k => cupolalaw11_SourceNone.l1 k l init loc true top (init.length : Int)) true := by
    intro top h0 h1 h2 h3
    refine Ev.step (fun k => by rw [cupolalaw11_SourceNone.l1]) ?_
    refine neg (by omega) ?_
    by_cases hm : top = 9223372036854775807
    · exact pos hm (Ev.now _)
    refine neg hm (bindv rfl (pos (by simp; omega) (bindv rfl (pos (by simp; omega) (bindv rfl (bindv rfl (pos rfl ?_)))))))
    rw [List.nil_append]
    have hw : wrap64 (top + 1) = top + 1 := IntWalk.wrap64_in _ (by omega)
    rw [hw]
    generalize hx : (⟨0, 1, loc, top + 1, false, false, false⟩ : S26) = x
    have hy : (l ++ [x]).length = l.length + 1 := by simp
    have nox : mayX (l ++ [x]) init x = [] := by
      unfold mayX
      rw [wrs_none _ _ _ (by
        intro y hy h4
        rcases List.mem_append.1 hy with hy | hy
        · have := h2 y hy; subst hx; simp only; omega
        · rw [List.mem_singleton.1 hy] at h4; subst hx; simp at h4), if_neg, List.nil_append]
      rintro ⟨e1, e2, e3⟩
      have : rd init x.f2 ∈ init := by
        unfold rd
        rw [List.getD_eq_getElem?_getD, List.getElem?_eq_getElem (by omega), Option.getD_some]
        exact List.getElem_mem _
      have := h3 _ this
      rw [e3] at this
      subst hx
      simp only at this
      omega
    have r1 : mayT (l ++ [x]) init (l.length : Int) = [] := by
      unfold mayT
      have : rd_T26 (l ++ [x]) (l.length : Int) = x := by rw [rd26 _ _ (by omega)]; simp
      rw [this, nox]; simp
    have r2 : mayT (l ++ [x]) init ((l.length : Int) + 1) = [] := by
      unfold mayT
      rw [if_neg]; rw [hy]; omega
    have r3 : allT (chsT (l ++ [x]) init) = [] := by
      apply all_nil
      unfold chsT
      refine List.mem_map.2 ⟨x, by simp, ?_⟩
      unfold chT
      rw [nox]
      subst hx
      rfl
    have m1 := may_ev (l ++ [x]) (by omega) [] [] [] [] [] [] init (l.length : Int)
    have m2 := may_ev (l ++ [x]) (by omega) [] [] [] [] [] [] init ((l.length : Int) + 1)
    have m3 := all_ev (l ++ [x]) (by omega) [] [] [] [] [] [] init
    rw [r1] at m1
    rw [r2] at m2
    rw [r3] at m3
    have hw2 : wrap64 ((l.length : Int) + 1) = (l.length : Int) + 1 := IntWalk.wrap64_in _ (by omega)
    rw [hw2]
    exact Ev.bind m1 (pos rfl (Ev.bind m3 (pos rfl (Ev.bind m2 (Ev.now _)))))
  have loop1 : ∀ m i : Nat, i + m = init.length → ∀ top : Int, 0 ≤ top → top ≤ 9223372036854775807 → (∀ y ∈ l, y.f3 ≤ top) → (∀ y ∈ init.take i, y ≤ top) →
      Ev (fun k => cupolalaw11_SourceNone.l1 k l init loc true top (i : Int)) true := by
    intro m
    induction m with
    | zero =>
      intro i hm top h0 h1 h2 h3
      obtain rfl : i = init.length := by omega
      rw [List.take_length] at h3
      exact last top h0 h1 h2 h3
    | succ m ih =>
      intro i hm top h0 h1 h2 h3
      have hlt : i < init.length := by omega
      refine Ev.step (fun k => by rw [cupolalaw11_SourceNone.l1]) ?_
      have hw : wrap64 ((i : Int) + 1) = ((i + 1 : Nat) : Int) := by rw [IntWalk.wrap64_in _ (by omega)]; omega
      have e : rd init (i : Int) = init[i] := by simp [rd, List.getD_eq_getElem?_getD, List.getElem?_eq_getElem hlt]
      have hr := i64_range (wi _ (List.getElem_mem hlt))
      obtain ⟨s1, s2, s3⟩ := mx_spec top init[i]
      refine pos (by omega) (pos (by omega) ?_)
      rw [hw, e]
      refine ih (i + 1) (by omega) _ (by omega) (by omega) (fun y hy => by have := h2 y hy; omega) ?_
      intro y hy
      rw [List.take_add_one, List.getElem?_eq_getElem hlt] at hy
      rcases List.mem_append.1 hy with hy | hy
      · have := h3 y hy; omega
      · simp at hy; subst hy; exact s2
  have loop0 : ∀ m i : Nat, i + m = l.length → ∀ top : Int, 0 ≤ top → top ≤ 9223372036854775807 → (∀ y ∈ l.take i, y.f3 ≤ top) →
      Ev (fun k => cupolalaw11_SourceNone.l0 k l init loc true top (i : Int)) true := by
    intro m
    induction m with
    | zero =>
      intro i hm top h0 h1 h2
      obtain rfl : i = l.length := by omega
      rw [List.take_length] at h2
      refine Ev.step (fun k => by rw [cupolalaw11_SourceNone.l0]) ?_
      refine neg (by omega) ?_
      exact loop1 init.length 0 (by omega) top h0 h1 h2 (by simp)
    | succ m ih =>
      intro i hm top h0 h1 h2
      have hlt : i < l.length := by omega
      refine Ev.step (fun k => by rw [cupolalaw11_SourceNone.l0]) ?_
      have hw : wrap64 ((i : Int) + 1) = ((i + 1 : Nat) : Int) := by rw [IntWalk.wrap64_in _ (by omega)]; omega
      have hr := i64_range (wl _ (List.getElem_mem hlt)).2.2.2.1
      refine pos (by omega) (pos (by omega) ?_)
      rw [hw, rd26 l i hlt]
      obtain ⟨s1, s2, s3⟩ := mx_spec top (l[i]).f3
      refine ih (i + 1) (by omega) _ (by omega) (by omega) ?_
      intro y hy
      rw [List.take_add_one, List.getElem?_eq_getElem hlt] at hy
      rcases List.mem_append.1 hy with hy | hy
      · have := h2 y hy; omega
      · simp at hy; subst hy; exact s2
  exact loop0 l.length 0 (by omega) 0 (by omega) (by omega) (by simp)
end Go.Proofs.Ytbamkkdikeedoaa.Pure
