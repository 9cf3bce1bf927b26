/- It is proved that a barrier of all keeps what the other two keep: the law BobWeak answers true for every input, by its plain form. -/
import Derived.Test.YtbamkkdikeedoaaGBobWeak
import Derived.Test.YtbamkkdikeedoaaPlainSized
import Derived.Test.YtbamkkdikeedoaaShown15
import Derived.Test.YtbamkkdikeedoaaOpensExec
import Derived.Test.YtbamkkdikeedoaaPlainBob
namespace Go.Proofs.Ytbamkkdikeedoaa.Pure
open Go.RowKit Go.Proofs.Ytbamkkdikeedoaa.G Go.Proofs.Ytbamkkdikeedoaa.Opens Go.Proofs.YtbamkkdikeedoaaW.PrintWords Go.Proofs.YtbamkkdikeedoaaW.PrintLast Go.Proofs.YtbamkkdikeedoaaW.PrintMore
set_option linter.unusedVariables false
theorem rdAt2 (l : List S26) (i : Nat) (h : i < l.length) : rd_T26 l (i : Int) = l[i] := by simp [rd_T26, List.getD_eq_getElem?_getD, List.getElem?_eq_getElem h]
/-- A barrier of loads, or of stores, turned to one of all. -/
def turn (y : S26) : S26 := if y.f1 = 4 ∨ y.f1 = 5 then ⟨y.f0, 3, y.f2, y.f3, y.f4, y.f5, y.f6⟩ else y
def half (l : List S26) (i : Nat) (cur : List S26) : Prop := cur.length = l.length ∧ ∀ j : Nat, cur[j]? = if j < i then (l[j]?).map turn else l[j]?
theorem half_set {l cur : List S26} {i : Nat} (h : half l i cur) (hi : i < l.length) {v : S26} (hv : v = turn l[i]) : half l (i + 1) (cur.set i v) := by
  have hc : i < cur.length := by rw [h.1]; exact hi
  refine ⟨by rw [List.length_set]; exact h.1, fun j => ?_⟩
  by_cases hij : i = j
  · subst hij
    rw [List.getElem?_set_self hc, if_pos (by omega), List.getElem?_eq_getElem hi, hv]; rfl
  · rw [List.getElem?_set_ne hij, h.2 j]
    by_cases hlt : j < i
    · rw [if_pos hlt, if_pos (by omega)]
    · rw [if_neg hlt, if_neg (by omega)]
theorem half_keep {l cur : List S26} {i : Nat} (h : half l i cur) (hi : i < l.length) (hv : l[i] = turn l[i]) : half l (i + 1) cur := by
  refine ⟨h.1, fun j => ?_⟩
  rw [h.2 j]
  by_cases hlt : j < i
  · rw [if_pos hlt, if_pos (by omega)]
  · rw [if_neg hlt]
    by_cases hij : j = i
    · subst hij
      rw [if_pos (by omega), List.getElem?_eq_getElem hi]
      exact congrArg some hv
    · rw [if_neg (by omega)]
theorem half_at {l cur : List S26} {i : Nat} (h : half l i cur) (hi : i < l.length) : rd_T26 cur (i : Int) = l[i] := by
  have hc : i < cur.length := by rw [h.1]; exact hi
  rw [rdAt2 cur i hc]
  have := h.2 i
  rw [if_neg (by omega), List.getElem?_eq_getElem hi, List.getElem?_eq_getElem hc] at this
  exact Option.some.inj this
theorem turn_k (c : List Int) (h3 : (3 : Int) ∉ c) (h4 : (4 : Int) ∉ c) (h5 : (5 : Int) ∉ c) (y : S26) : isK c (turn y) = isK c y := by
  unfold turn isK
  by_cases h : y.f1 = 4 ∨ y.f1 = 5
  · rw [if_pos h]
    rcases h with h | h <;> simp [h, h3, h4, h5]
  · rw [if_neg h]
theorem turn_3 (y : S26) : isK [3] (turn y) = (isK [3] y || (isK [4] y || isK [5] y)) := by
  unfold turn isK
  by_cases h : y.f1 = 4 ∨ y.f1 = 5
  · rw [if_pos h]
    rcases h with h | h <;> simp [h]
  · rw [if_neg h]
    have h4 : ¬ y.f1 = 4 := fun e => h (.inl e)
    have h5 : ¬ y.f1 = 5 := fun e => h (.inr e)
    simp [h4, h5]
theorem BobWeak (l : List S26) (po addr data ctrl rmw : List Int) (regs : List (List Int)) (wev : ∀ y ∈ l, wf26 y) (wpo : ∀ y ∈ po, wfI .u32 y) (wad : ∀ y ∈ addr, wfI .u32 y) (wda : ∀ y ∈ data, wfI .u32 y) (wct : ∀ y ∈ ctrl, wfI .u32 y) (wrm : ∀ y ∈ rmw, wfI .u32 y) :
    ∃ k, cupolalaw15_BobWeak.f k l po addr data ctrl rmw regs = some true := by
  refine Ev.rounds (g := fun k => cupolalaw15_BobWeak.f k l po addr data ctrl rmw regs) ?_
  unfold cupolalaw15_BobWeak.f
  refine Ev.bind shown15_ev ?_
  rcases sized_or l po addr data ctrl rmw regs po with h | ⟨h, hl, _, hp, ha, hd, hc, hr⟩
  · exact Ev.bindv h (Ev.neg (by decide) (Ev.now _))
  refine Ev.bindv h (Ev.pos rfl (Ev.bindv rfl (Ev.bindv rfl (Ev.pos (by simp; omega) ?_))))
  rw [List.nil_append]
  have loop : ∀ d i : Nat, i + d = l.length → ∀ (cur : List S26) (sy : Bool), half l i cur → (sy = false → ∀ (j : Nat) (y : S26), j < i → l[j]? = some y → y.f1 ≠ 3) → Ev (fun k => cupolalaw15_BobWeak.l0 k true sy (i : Int) l po addr data ctrl rmw regs cur po addr data ctrl rmw regs) true := by
    intro d
    induction d with
    | zero =>
      intro i hi cur sy hcur hsy
      have hn := hcur.1
      have hn32 : l.length ≤ 32 := by omega
      have hat : ∀ j : Nat, cur[j]? = (l[j]?).map turn := by
        intro j
        rw [hcur.2 j]
        by_cases hlt : j < i
        · rw [if_pos hlt]
        · rw [if_neg hlt, List.getElem?_eq_none (by omega)]; rfl
      have ev : ∀ (p q : S26 → Bool), (∀ y, p (turn y) = q y) → ∀ j, evp p cur j = evp q l j := by
        intro p q hpq j
        unfold evp
        rw [hat j]
        cases l[j]? <;> simp [hpq]
      have k12 := ev (isK [1, 2]) (isK [1, 2]) (turn_k _ (by decide) (by decide) (by decide))
      have k3 := ev (isK [3]) (fun y => isK [3] y || (isK [4] y || isK [5] y)) turn_3
      have or3 : ∀ j, evp (fun y => isK [3] y || (isK [4] y || isK [5] y)) l j = (evp (isK [3]) l j || (evp (isK [4]) l j || evp (isK [5]) l j)) := by
        intro j
        unfold evp
        cases l[j]? <;> simp
      have g3 : ∀ (F T : Nat → Bool) (c : Int) (i k : Nat), (∀ j, evp (isK [c]) l j = true → evp (isK [3]) cur j = true) → overM l.length l po F c T i k = true → overM l.length cur po (fun _ => true) 3 (fun _ => true) i k = true := by
        intro F T c i k hcc ho
        unfold overM at ho ⊢
        refine seqM_mono (fun j hj h1 => ?_) (fun j hj h1 => ?_) ho
        · simp only [Bool.and_eq_true] at h1 ⊢
          exact ⟨h1.1, trivial, hcc j h1.2.2⟩
        · simp only [Bool.and_eq_true] at h1 ⊢
          exact ⟨h1.1, hcc j h1.2.1, trivial⟩
      have fen : ∀ i k, memM l (fenM l.length l po) i k = true → memM cur (fenM l.length cur po) i k = true := by
        intro i k h1
        rw [memM_true] at h1 ⊢
        rw [k12, k12]
        refine ⟨h1.1, ?_⟩
        have h2 := h1.2
        unfold fenM at h2 ⊢
        simp only [Bool.or_eq_true] at h2 ⊢
        rcases h2 with h2 | h2 | h2
        · exact .inl (g3 _ _ 3 i k (fun j hj => by rw [k3, or3, hj]; rfl) h2)
        · exact .inl (g3 _ _ 4 i k (fun j hj => by rw [k3, or3, hj]; simp) h2)
        · exact .inl (g3 _ _ 5 i k (fun j hj => by rw [k3, or3, hj]; simp) h2)
      refine Ev.step (fun k => by rw [cupolalaw15_BobWeak.l0]) ?_
      refine Ev.neg (by omega) ?_
      refine Ev.bind (fences_ev hn32 l addr data ctrl rmw regs rfl hp) (Ev.bindv rfl (Ev.bindv rfl (Ev.bind (only_at (sz_ofM hn32 _) _ (maskW_u32 _ _)) (Ev.bind (only_at (sz_ofM hn32 _) _ (maskW_u32 _ _)) (Ev.bindv (or_at (sz_ofM hn32 _) (sz_ofM hn32 _)) (Ev.pos rfl ?_))))))
      refine Ev.bind (fences_ev hn32 cur addr data ctrl rmw regs hn hp) (Ev.bindv (and_at (sz_ofM hn32 _) (sz_ofM hn32 _)) (Ev.bind (same_ev _ _) (Ev.pos ?_ ?_)))
      · refine same_of (sz_ofM hn32 _) (sz_ofM hn32 _) fun i k hi hk => ?_
        rw [mat_in hn32 hi hk, mat_in hn32 hi hk, mat_in hn32 hi hk, Bool.and_comm]
        exact and_of_imp (fen i k)
      · cases sy with
        | true => exact Ev.pos rfl (Ev.now _)
        | false =>
          refine Ev.neg (by decide) (Ev.bind (same_ev _ _) (Ev.ofEq (congrArg some (same_of (sz_ofM hn32 _) (sz_ofM hn32 _) fun i k hi hk => ?_))))
          have i32 : i < 32 := by omega
          have k32 : k < 32 := by omega
          simp only [mat_in hn32 hi hk, tb_maskW _ _ i32, tb_maskW _ _ k32, tb_full k32]
          have no3 : ∀ j, evp (isK [3]) l j = false := by
            intro j
            unfold evp
            cases hj : l[j]? with
            | none => rfl
            | some y =>
              have := hsy rfl j y (by have := (List.getElem?_eq_some_iff.1 hj).1; omega) hj
              simp [isK, this]
          have hno : overM l.length l po (fun _ => true) 3 (fun _ => true) i k = false := by
            unfold overM
            exact seqM_none (fun j hj => by rw [no3 j]; simp)
          have key4 : overM l.length l po (evp (isK [1]) l) 4 (fun _ => true) i k = true → evp (isK [1]) l i = true := by
            intro h1
            unfold overM at h1
            obtain ⟨j, hj, h2, h3⟩ := seqM_iff.1 h1
            simp only [Bool.and_eq_true] at h2
            exact h2.2.1
          have key5 : overM l.length l po (evp (isK [2]) l) 5 (evp (isK [2]) l) i k = true → evp (isK [2]) l i = true ∧ evp (isK [2]) l k = true := by
            intro h1
            unfold overM at h1
            obtain ⟨j, hj, h2, h3⟩ := seqM_iff.1 h1
            simp only [Bool.and_eq_true] at h2 h3
            exact ⟨h2.2.1, h3.2.2⟩
          unfold memM fenM
          rw [hno]
          generalize overM l.length l po (evp (isK [1]) l) 4 (fun _ => true) i k = a at *
          generalize overM l.length l po (evp (isK [2]) l) 5 (evp (isK [2]) l) i k = b at *
          generalize evp (isK [1]) l i = c1 at *
          generalize evp (isK [2]) l i = c2 at *
          generalize evp (isK [2]) l k = c3 at *
          generalize evp (isK [1, 2]) l i = c4
          generalize evp (isK [1, 2]) l k = c5
          clear hno no3 fen g3 or3 k3 k12 ev hat
          revert a b c1 c2 c3 c4 c5
          decide
    | succ d ih =>
      intro i hi cur sy hcur hsy
      have hlt : i < l.length := by omega
      have hcl := hcur.1
      have hrd := half_at hcur hlt
      have t45 : l[i].f1 = 4 ∨ l[i].f1 = 5 → (⟨l[i].f0, 3, l[i].f2, l[i].f3, l[i].f4, l[i].f5, l[i].f6⟩ : S26) = turn l[i] := by intro h9; unfold turn; rw [if_pos h9]
      have tno : ¬ (l[i].f1 = 4 ∨ l[i].f1 = 5) → l[i] = turn l[i] := by intro h9; unfold turn; rw [if_neg h9]
      have next : ∀ (cur2 : List S26) (sy2 : Bool), half l (i + 1) cur2 → (sy2 = false → ∀ (j : Nat) (y : S26), j < i + 1 → l[j]? = some y → y.f1 ≠ 3) → Ev (fun k => cupolalaw15_BobWeak.l0 k true sy2 ((i + 1 : Nat) : Int) l po addr data ctrl rmw regs cur2 po addr data ctrl rmw regs) true := ih (i + 1) (by omega)
      have more : sy = false → (l[i].f1 == 3) = false → ∀ (j : Nat) (y : S26), j < i + 1 → l[j]? = some y → y.f1 ≠ 3 := by
        intro h1 h2 j y hj hy
        by_cases hji : j = i
        · subst hji
          rw [List.getElem?_eq_getElem hlt] at hy
          rw [← Option.some.inj hy]
          exact beq_eq_false_iff_ne.mp h2
        · exact hsy h1 j y (by omega) hy
      refine Ev.step (fun k => by rw [cupolalaw15_BobWeak.l0]) ?_
      refine Ev.pos (by omega) ?_
      rw [hrd, wrap64_succ i (by omega), Int.toNat_natCast]
      cases sy with
      | true =>
        refine Ev.pos rfl (Ev.pos (by omega) ?_)
        by_cases h4 : l[i].f1 = 4
        · exact Ev.pos h4 (next _ _ (half_set hcur hlt (t45 (.inl h4))) (fun h9 => by cases h9))
        · refine Ev.neg h4 ?_
          by_cases h5 : l[i].f1 = 5
          · exact Ev.pos h5 (next _ _ (half_set hcur hlt (t45 (.inr h5))) (fun h9 => by cases h9))
          · exact Ev.neg h5 (next _ _ (half_keep hcur hlt (tno (fun h9 => h9.elim h4 h5))) (fun h9 => by cases h9))
      | false =>
        refine Ev.neg (by decide) (Ev.pos (by omega) ?_)
        by_cases h4 : l[i].f1 = 4
        · exact Ev.pos h4 (next _ _ (half_set hcur hlt (t45 (.inl h4))) (more rfl))
        · refine Ev.neg h4 ?_
          by_cases h5 : l[i].f1 = 5
          · exact Ev.pos h5 (next _ _ (half_set hcur hlt (t45 (.inr h5))) (more rfl))
          · exact Ev.neg h5 (next _ _ (half_keep hcur hlt (tno (fun h9 => h9.elim h4 h5))) (more rfl))
  exact loop l.length 0 (by omega) l false ⟨rfl, fun j => by rw [if_neg (by omega)]⟩ (fun _ j y hj _ => absurd hj (by omega))
end Go.Proofs.Ytbamkkdikeedoaa.Pure
