/- Plain: what the program's package source computes. -/
import Derived.Test.YtbamkkdikeedoaaHandSource
namespace Go.Proofs.Ytbamkkdikeedoaa.Src
open Go.RowKit Go.Proofs.Ytbamkkdikeedoaa.G Go.Proofs.YtbamkkdikeedoaaW.PrintWords Go.Proofs.YtbamkkdikeedoaaW.PrintLast Go.Proofs.YtbamkkdikeedoaaW.PrintMore
set_option linter.unusedVariables false
theorem pos {α : Type} {c : Prop} [Decidable c] {g f : Nat → Option α} {r : α} (hc : c) (h : Ev g r) : Ev (fun k => if c then g k else f k) r := Ev.congr (fun k => if_pos hc) h
theorem neg {α : Type} {c : Prop} [Decidable c] {g f : Nat → Option α} {r : α} (hc : ¬ c) (h : Ev f r) : Ev (fun k => if c then g k else f k) r := Ev.congr (fun k => if_neg hc) h
theorem bindv {α β : Type} {g : Option α} {f : Nat → α → Option β} {a : α} {r : β} (h : g = some a) (k : Ev (fun n => f n a) r) : Ev (fun n => g.bind (f n)) r := Ev.congr (fun n => by rw [h]; rfl) k

/-- The writes of what x reads, from number i on. -/
def wrs : List S26 → Int → Int → Int → List Int
  | [], _, _, _ => []
  | y :: ys, i, c, d => (if y.f1 = 2 ∧ y.f2 = c ∧ y.f3 = d then [i] else []) ++ wrs ys (i + 1) c d
theorem wrs_length (l : List S26) : ∀ (i c d : Int), (wrs l i c d).length ≤ l.length := by
  induction l with
  | nil => intro i c d; exact Nat.le_refl _
  | cons y ys ih =>
    intro i c d
    have := ih (i + 1) c d
    simp only [wrs, List.length_append, List.length_cons]
    split <;> simp <;> omega
/-- Whence the read x of events l may read. -/
def mayX (l : List S26) (init : List Int) (x : S26) : List Int := (if 0 ≤ x.f2 ∧ x.f2 < (init.length : Int) ∧ rd init x.f2 = x.f3 then [-1] else []) ++ wrs l 0 x.f2 x.f3
def mayT (l : List S26) (init : List Int) (r : Int) : List Int := if 0 ≤ r ∧ r < (l.length : Int) ∧ (rd_T26 l r).f1 = 1 then mayX l init (rd_T26 l r) else []
theorem mayX_length (l : List S26) (init : List Int) (x : S26) : (mayX l init x).length ≤ l.length + 1 := by
  have := wrs_length l 0 x.f2 x.f3
  unfold mayX
  rw [List.length_append]
  split <;> simp <;> omega
theorem rd26 (l : List S26) (i : Nat) (h : i < l.length) : rd_T26 l (i : Int) = l[i] := by
  simp [rd_T26, List.getD_eq_getElem?_getD, List.getElem?_eq_getElem h]

theorem may_loop (l : List S26) (hl : l.length < 1000000) (x : S26) : ∀ m i : Nat, i + m = l.length → ∀ acc : List Int, acc.length ≤ i + 1 →
    Ev (fun k => source_May.l0 k acc l (l.length : Int) (i : Int) x.f0 x.f1 x.f2 x.f3 x.f4 x.f5 x.f6) (acc ++ wrs (l.drop i) (i : Int) x.f2 x.f3) := by
  intro m
  induction m with
  | zero =>
    intro i hi acc ha
    refine Ev.step (fun k => by rw [source_May.l0]) ?_
    refine neg (by omega) ?_
    rw [List.drop_of_length_le (by omega), wrs, List.append_nil]
    exact Ev.now _
  | succ m ih =>
    intro i hi acc ha
    have hlt : i < l.length := by omega
    refine Ev.step (fun k => by rw [source_May.l0]) ?_
    have hw : wrap64 ((i : Int) + 1) = ((i + 1 : Nat) : Int) := by rw [IntWalk.wrap64_in _ (by omega)]; omega
    refine pos (by omega) (pos (by omega) (pos (by omega) ?_))
    rw [List.drop_eq_getElem_cons hlt, wrs, rd26 l i hlt, hw]
    by_cases c1 : (l[i]).f1 = 2
    · refine pos c1 ?_
      by_cases c2 : (l[i]).f2 = x.f2
      · refine pos c2 ?_
        by_cases c3 : (l[i]).f3 = x.f3
        · refine pos c3 (pos (by omega) ?_)
          rw [if_pos ⟨c1, c2, c3⟩, ← List.append_assoc]
          exact ih (i + 1) (by omega) _ (by rw [List.length_append, List.length_singleton]; omega)
        · rw [if_neg (fun h => c3 h.2.2), List.nil_append]
          exact neg c3 (ih (i + 1) (by omega) _ (by omega))
      · rw [if_neg (fun h => c2 h.2.1), List.nil_append]
        exact neg c2 (ih (i + 1) (by omega) _ (by omega))
    · rw [if_neg (fun h => c1 h.1), List.nil_append]
      exact neg c1 (ih (i + 1) (by omega) _ (by omega))

theorem may_ev (l : List S26) (hl : l.length < 1000000) (n1 n2 n3 n4 n5 : List Int) (n6 : List (List Int)) (init : List Int) (r : Int) :
    Ev (fun k => source_May.f k l n1 n2 n3 n4 n5 n6 init r) (mayT l init r) := by
  unfold source_May.f mayT
  by_cases h0 : r < 0
  · refine pos h0 (Ev.step (fun k => by rw [source_May.j0]) ?_)
    rw [if_neg (by omega)]
    exact pos rfl (Ev.now _)
  · refine neg h0 ?_
    by_cases h1 : r ≥ (l.length : Int)
    · refine pos h1 (Ev.step (fun k => by rw [source_May.j0]) ?_)
      rw [if_neg (by omega)]
      exact pos rfl (Ev.now _)
    · refine neg h1 (pos (by omega) (pos (by omega) (Ev.step (fun k => by rw [source_May.j0]) ?_)))
      by_cases h2 : (rd_T26 l r).f1 = 1
      · rw [if_pos ⟨by omega, by omega, h2⟩]
        refine neg (by simp [h2]) (pos (by omega) (pos (by omega) ?_))
        generalize rd_T26 l r = x at *
        have base : ∀ acc : List Int, acc.length ≤ 1 → Ev (fun k => source_May.j2 k acc l n1 n2 n3 n4 n5 n6 x.f0 x.f1 x.f2 x.f3 x.f4 x.f5 x.f6) (acc ++ wrs l 0 x.f2 x.f3) := by
          intro acc ha
          refine Ev.step (fun k => by rw [source_May.j2]) ?_
          have := may_loop l hl x l.length 0 (by omega) acc (by omega)
          rw [List.drop_zero] at this
          exact this
        have nob : ∀ b : Bool, Ev (fun k => source_May.j1 k [] b l n1 n2 n3 n4 n5 n6 x.f0 x.f1 x.f2 x.f3 x.f4 x.f5 x.f6) ((if b = true then [-1] else []) ++ wrs l 0 x.f2 x.f3) := by
          intro b
          refine Ev.step (fun k => by rw [source_May.j1]) ?_
          cases b with
          | false => exact neg (by decide) (base [] (by simp))
          | true => exact pos rfl (pos (by simp) (base _ (by simp)))
        unfold mayX
        by_cases c0 : x.f2 ≥ 0
        · refine pos c0 ?_
          by_cases c1 : x.f2 < (init.length : Int)
          · refine pos c1 (pos c0 ?_)
            have := nob (rd init x.f2 == x.f3)
            by_cases c2 : rd init x.f2 = x.f3
            · rw [if_pos ⟨c0, c1, c2⟩]; rw [beq_iff_eq.mpr c2, if_pos rfl] at this; simpa [c2] using this
            · rw [if_neg (fun h => c2 h.2.2)]; have e := beq_eq_false_iff_ne.mpr c2; rw [e, if_neg (by decide)] at this; exact Ev.congr (fun k => by rw [e]) this
          · refine neg c1 ?_
            rw [if_neg (fun h => c1 h.2.1)]
            have := nob false
            rwa [if_neg (by decide)] at this
        · refine neg c0 ?_
          rw [if_neg (fun h => c0 h.1)]
          have := nob false
          rwa [if_neg (by decide)] at this
      · rw [if_neg (fun h => h2 h.2.2)]
        exact pos (by simp [h2]) (Ev.now _)
/-- Whence each event may read. -/
def chT (l : List S26) (init : List Int) (y : S26) : List Int := if y.f1 = 1 then mayX l init y else [-2]
theorem ch_loop (l : List S26) (hl : l.length < 1000000) (n1 n2 n3 n4 n5 : List Int) (n6 : List (List Int)) (init : List Int) : ∀ m i : Nat, i + m = l.length → ∀ acc : List (List Int), acc.length = i →
    Ev (fun k => source_choices.l0 k init acc l (l.length : Int) (i : Int) l n1 n2 n3 n4 n5 n6) (acc ++ (l.drop i).map (chT l init)) := by
  intro m
  induction m with
  | zero =>
    intro i hi acc ha
    refine Ev.step (fun k => by rw [source_choices.l0]) ?_
    refine neg (by omega) ?_
    rw [List.drop_of_length_le (by omega), List.map_nil, List.append_nil]
    exact Ev.now _
  | succ m ih =>
    intro i hi acc ha
    have hlt : i < l.length := by omega
    have hw : wrap64 ((i : Int) + 1) = ((i + 1 : Nat) : Int) := by rw [IntWalk.wrap64_in _ (by omega)]; omega
    refine Ev.step (fun k => by rw [source_choices.l0]) ?_
    refine pos (by omega) (pos (by omega) (pos (by omega) (bindv rfl ?_)))
    rw [List.drop_eq_getElem_cons hlt, List.map_cons, hw]
    have hm := may_ev l hl n1 n2 n3 n4 n5 n6 init (i : Int)
    unfold mayT at hm
    rw [rd26 l i hlt] at hm ⊢
    unfold chT
    by_cases c1 : (l[i]).f1 = 1
    · rw [if_pos ⟨by omega, by omega, c1⟩] at hm
      rw [if_pos c1]
      refine pos c1 (Ev.bind hm (pos (by omega) ?_))
      have := ih (i + 1) (by omega) (acc ++ [mayX l init l[i]]) (by rw [List.length_append, List.length_singleton]; omega)
      rw [List.append_assoc] at this
      exact this
    · rw [if_neg c1]
      refine neg c1 (pos (by omega) ?_)
      have := ih (i + 1) (by omega) (acc ++ [[-2]]) (by rw [List.length_append, List.length_singleton]; omega)
      rw [List.append_assoc] at this
      exact this
def chsT (l : List S26) (init : List Int) : List (List Int) := l.map (chT l init)
theorem choices_ev (l : List S26) (hl : l.length < 1000000) (n1 n2 n3 n4 n5 : List Int) (n6 : List (List Int)) (init : List Int) : Ev (fun k => source_choices.f k l n1 n2 n3 n4 n5 n6 init) (chsT l init) := by
  unfold source_choices.f
  have := ch_loop l hl n1 n2 n3 n4 n5 n6 init l.length 0 (by omega) [] rfl
  rw [List.drop_zero, List.nil_append] at this
  exact this
theorem all_ev (l : List S26) (hl : l.length < 100000) (n1 n2 n3 n4 n5 : List Int) (n6 : List (List Int)) (init : List Int) : Ev (fun k => source_All.f k l n1 n2 n3 n4 n5 n6 init) (allT (chsT l init)) := by
  unfold source_All.f
  refine Ev.bind (choices_ev l (by omega) n1 n2 n3 n4 n5 n6 init) (pos ⟨?_, ?_⟩ (Ev.now _))
  · unfold chsT; rw [List.length_map]; omega
  · intro c hc
    obtain ⟨y, _, rfl⟩ := List.mem_map.1 hc
    unfold chT
    have := mayX_length l init y
    split
    · omega
    · simp
end Go.Proofs.Ytbamkkdikeedoaa.Src
