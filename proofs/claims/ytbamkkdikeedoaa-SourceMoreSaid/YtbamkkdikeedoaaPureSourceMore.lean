/- It is proved that with a write more, of a place and a value that a read has, there is one more whence it may read; others read as before: the law SourceMore of layer 11 answers true for every input, by its plain form. -/
import Derived.Test.YtbamkkdikeedoaaGSourceMore
import Derived.Test.YtbamkkdikeedoaaPlainLists
import Derived.Test.YtbamkkdikeedoaaShown11
import Derived.Test.YtbamkkdikeedoaaOpensAt
namespace Go.Proofs.Ytbamkkdikeedoaa.Pure
open Go.RowKit Go.Proofs.Ytbamkkdikeedoaa.G Go.Proofs.Ytbamkkdikeedoaa.Src Go.Proofs.Ytbamkkdikeedoaa.Opens Go.Proofs.YtbamkkdikeedoaaW.PrintWords Go.Proofs.YtbamkkdikeedoaaW.PrintLast Go.Proofs.YtbamkkdikeedoaaW.PrintMore
set_option linter.unusedVariables false
theorem u8_in {x : Int} (h : (Lit.int .u8 x).wf = true) : 0 ≤ x ∧ x < 256 := by
 simp [Lit.wf, IntKind.min, IntKind.max, IntKind.bits, IntKind.signed] at h
 omega
theorem wrs_more (l : List S26) (x : S26) (c d : Int) : ∀ i : Int, wrs (l ++ [x]) i c d = wrs l i c d ++ (if x.f1 = 2 ∧ x.f2 = c ∧ x.f3 = d then [i + (l.length : Int)] else []) := by
 induction l with
 | nil => intro i; simp [wrs]
 | cons y ys ih =>
  intro i
  simp only [List.cons_append, wrs]
  rw [ih (i + 1), List.append_assoc, List.length_cons]
  rw [show i + 1 + (ys.length : Int) = i + ((ys.length + 1 : Nat) : Int) by omega]
theorem mayX_more (l : List S26) (init : List Int) (x y : S26) (hx : x.f1 = 2) : mayX (l ++ [x]) init y = mayX l init y ++ (if x.f2 = y.f2 ∧ x.f3 = y.f3 then [(l.length : Int)] else []) := by
 unfold mayX
 rw [wrs_more, List.append_assoc]
 congr 2
 by_cases h : x.f2 = y.f2 ∧ x.f3 = y.f3
 ·rw [if_pos ⟨hx, h⟩, if_pos h, Int.zero_add]
 ·rw [if_neg (fun h9 => h h9.2), if_neg h]
theorem mayT_at (l : List S26) (init : List Int) (i : Nat) (h : i < l.length) : mayT l init (i : Int) = if l[i].f1 = 1 then mayX l init l[i] else [] := by
 unfold mayT
 rw [rd26 l i h]
 by_cases h1 : l[i].f1 = 1
 ·rw [if_pos ⟨by omega, by omega, h1⟩, if_pos h1]
 ·rw [if_neg (fun h9 => h1 h9.2.2), if_neg h1]
theorem tmod_nat {a : Int} {n : Nat} (ha : 0 ≤ a) (hn : 0 < n) : ∃ q : Nat, Int.tmod a (n : Int) = (q : Int) ∧ q < n := by
 rw [Int.tmod_eq_emod_of_nonneg ha]
 have h1 := Int.emod_nonneg a (show (n : Int) ≠ 0 by omega)
 have h2 := Int.emod_lt_of_pos a (show (0 : Int) < (n : Int) by omega)
 obtain ⟨q, hq⟩ := Int.eq_ofNat_of_zero_le h1
 exact ⟨q, hq, by omega⟩
theorem SourceMore (l : List S26) (wl : ∀ y ∈ l, wf26 y) (_ : l.length ≤ 9223372036854775807) (init : List Int) (wi : ∀ y ∈ init, wfI .i64 y) (hi9 : init.length ≤ 9223372036854775807) (r : Int) (wr : (Lit.int .u8 r).wf = true) (o : Int) (wo : (Lit.int .u8 o).wf = true) :
  ∃ k, cupolalaw11_SourceMore.f k l init r o = some true := by
 refine Ev.rounds (g := fun k => cupolalaw11_SourceMore.f k l init r o) ?_
 unfold cupolalaw11_SourceMore.f
 refine Ev.bind shown11_ev ?_
 have out : Ev (fun k => cupolalaw11_SourceMore.j0 k l init r o true true) true := Ev.step (fun k => by rw [cupolalaw11_SourceMore.j0]) (pos rfl (Ev.now _))
 by_cases h20 : (l.length : Int) > 20
 ·exact pos h20 out
 refine neg h20 ?_
 by_cases h0 : (l.length : Int) = 0
 ·rw [beq_iff_eq.mpr h0]; exact out
 rw [beq_eq_false_iff_ne.mpr h0]
 have hr := u8_in wr
 have ho := u8_in wo
 have w1 : wrap64 r = r := IntWalk.wrap64_in _ (by omega)
 have w2 : wrap64 o = o := IntWalk.wrap64_in _ (by omega)
 obtain ⟨q, hq, hql⟩ := tmod_nat hr.1 (show 0 < l.length by omega)
 obtain ⟨n, hn, hnl⟩ := tmod_nat ho.1 (show 0 < l.length by omega)
 refine Ev.step (fun k => by rw [cupolalaw11_SourceMore.j0]) ?_
 rw [w1, w2, hq, hn]
 clear w1 w2 hq hn
 refine neg (by decide) (neg h0 (pos (by omega) (pos (by omega) ?_)))
 rw [rd26 l q hql]
 refine bindv rfl (bindv rfl (pos (by simp; omega) (bindv rfl (bindv rfl (pos (by simp; omega) (bindv rfl (bindv rfl ?_)))))))
 rw [List.nil_append]
 generalize hx : (⟨0, 2, l[q].f2, l[q].f3, false, false, false⟩ : S26) = x
 have x1 : x.f1 = 2 := by rw [← hx]
 have x2 : x.f2 = l[q].f2 := by rw [← hx]
 have x3 : x.f3 = l[q].f3 := by rw [← hx]
 have hlen : (l ++ [x]).length = l.length + 1 := by simp
 have ga : (l ++ [x])[q]'(by omega) = l[q] := List.getElem_append_left hql
 have gn : (l ++ [x])[n]'(by omega) = l[n] := List.getElem_append_left hnl
 have ma := may_ev l (by omega) [] [] [] [] [] [] init (q : Int)
 have mb := may_ev (l ++ [x]) (by omega) [] [] [] [] [] [] init (q : Int)
 have mc := may_ev l (by omega) [] [] [] [] [] [] init (n : Int)
 have md := may_ev (l ++ [x]) (by omega) [] [] [] [] [] [] init (n : Int)
 rw [mayT_at l init q hql] at ma
 rw [mayT_at (l ++ [x]) init q (by omega), ga, mayX_more l init x l[q] x1, if_pos (show x.f2 = l[q].f2 ∧ x.f3 = l[q].f3 from ⟨x2, x3⟩)] at mb
 rw [mayT_at l init n hnl] at mc
 rw [mayT_at (l ++ [x]) init n (by omega), gn, mayX_more l init x l[n] x1] at md
 refine Ev.bind ma (Ev.bind mb (Ev.bind mc (Ev.bind md ?_)))
 have bc := mayX_length l init l[n]
 have ba := mayX_length l init l[q]
 -- what comes last
 have J2 : ∀ b : Bool, (b = false → (if l[n].f1 = 1 then mayX l init l[n] ++ (if x.f2 = l[n].f2 ∧ x.f3 = l[n].f3 then [(l.length : Int)] else []) else []) = (if l[n].f1 = 1 then mayX l init l[n] else [])) →
   Ev (fun k => cupolalaw11_SourceMore.j2 k true (if l[n].f1 = 1 then mayX l init l[n] else []) (if l[n].f1 = 1 then mayX l init l[n] ++ (if x.f2 = l[n].f2 ∧ x.f3 = l[n].f3 then [(l.length : Int)] else []) else []) b) true := by
  intro b hb
  refine Ev.step (fun k => by rw [cupolalaw11_SourceMore.j2]) ?_
  refine pos rfl ?_
  have hge : (((if l[n].f1 = 1 then mayX l init l[n] ++ (if x.f2 = l[n].f2 ∧ x.f3 = l[n].f3 then [(l.length : Int)] else []) else []).length : Nat) : Int) ≥ (((if l[n].f1 = 1 then mayX l init l[n] else []).length : Nat) : Int) := by
   by_cases h1 : l[n].f1 = 1
   ·rw [if_pos h1, if_pos h1, List.length_append]; omega
   ·rw [if_neg h1, if_neg h1]; exact Int.le_refl _
  cases b with
  | true =>
   refine pos rfl ?_
   rw [decide_eq_true hge]
   exact Ev.now _
  | false =>
   have hb2 := hb rfl
   rw [hb2] at hge ⊢
   refine neg (by decide) (Ev.bind (ints_same _ ?_) (pos rfl ?_))
   ·by_cases h1 : l[n].f1 = 1
    ·rw [if_pos h1]; omega
    ·rw [if_neg h1]; simp
   ·rw [decide_eq_true hge]
    exact Ev.now _
 have J1 : Ev (fun k => cupolalaw11_SourceMore.j1 k l true (n : Int) (if l[n].f1 = 1 then mayX l init l[n] else []) (if l[n].f1 = 1 then mayX l init l[n] ++ (if x.f2 = l[n].f2 ∧ x.f3 = l[n].f3 then [(l.length : Int)] else []) else []) false 0 2 l[q].f2 l[q].f3 false false false) true := by
  refine Ev.step (fun k => by rw [cupolalaw11_SourceMore.j1]) ?_
  refine neg (by decide) (pos (by omega) (pos (by omega) ?_))
  rw [rd26 l n hnl]
  by_cases h1 : l[n].f1 = 1
  ·refine pos h1 ?_
   by_cases h2 : l[n].f2 = l[q].f2
   ·refine pos h2 (J2 _ (fun h3 => ?_))
    rw [if_pos h1, if_pos h1, if_neg (fun h9 => beq_eq_false_iff_ne.mp h3 (by rw [← h9.2, x3])), List.append_nil]
   ·refine neg h2 (J2 _ (fun _ => ?_))
    rw [if_pos h1, if_pos h1, if_neg (fun h9 => h2 (by rw [← h9.1, x2])), List.append_nil]
  ·refine neg h1 (J2 _ (fun _ => ?_))
   rw [if_neg h1, if_neg h1]
 by_cases h1 : l[q].f1 = 1
 ·have e1 : wrap64 (((mayX l init l[q]).length : Int) + 1) = (((mayX l init l[q]).length + 1 : Nat) : Int) := by rw [IntWalk.wrap64_in _ (by omega)]; omega
  refine pos h1 ?_
  simp only [if_pos h1]
  rw [e1]
  clear e1
  have e2 : wrap64 (((mayX l init l[q] ++ [(l.length : Int)]).length : Int) - 1) = ((mayX l init l[q]).length : Int) := by rw [List.length_append, List.length_singleton, IntWalk.wrap64_in _ (by omega)]; omega
  rw [e2]
  clear e2
  have e3 : rd (mayX l init l[q] ++ [(l.length : Int)]) ((mayX l init l[q]).length : Int) = (l.length : Int) := by simp [rd, List.getD_eq_getElem?_getD]
  rw [e3, bne_self_eq_false]
  exact pos (by rw [List.length_append, List.length_singleton]) (pos (by omega) (pos (by rw [List.length_append, List.length_singleton]; omega) J1))
 ·exact neg h1 J1
end Go.Proofs.Ytbamkkdikeedoaa.Pure
