/- Plain: what the document's package cupolaref15 computes, as matrices. -/
import Derived.Test.YtbamkkdikeedoaaGCupolaref15
import Derived.Test.YtbamkkdikeedoaaGCupolaref15b
import Derived.Test.YtbamkkdikeedoaaPlainRef14
import Derived.Test.YtbamkkdikeedoaaPlainBob
namespace Go.Proofs.Ytbamkkdikeedoaa.G
open Go.RowKit Go.Proofs.YtbamkkdikeedoaaW.PrintWords Go.Proofs.YtbamkkdikeedoaaW.PrintLast Go.Proofs.YtbamkkdikeedoaaW.PrintMore
theorem racq_eq (y : S26) : cupolaref15_acquires.f y.f0 y.f1 y.f2 y.f3 y.f4 y.f5 y.f6 = some (isAcq y) := by
 unfold cupolaref15_acquires.f isAcq
 by_cases h : y.f1 = 1
 ·rw [if_pos h]; simp [h]
 ·rw [if_neg h]; simp [h]
theorem rrel_eq (y : S26) : cupolaref15_releases.f y.f0 y.f1 y.f2 y.f3 y.f4 y.f5 y.f6 = some (isRel y) := by
 unfold cupolaref15_releases.f isRel
 by_cases h : y.f1 = 2
 ·rw [if_pos h]; simp [h]
 ·rw [if_neg h]; simp [h]
section
variable (l : List S26) (hl : l.length ≤ 32) (n1 n2 n3 n4 n5 : List Int) (n6 : List (List Int))
include hl
def barB (l : List S26) (po : List Int) (a b : Int) (i k j : Nat) : Bool :=
 (mat po i j && mat po j k) && (evp (isK [3]) l j || ((evp (isK [4]) l j && a == 1) || (evp (isK [5]) l j && (a == 2 && b == 2))))
theorem rover_l0 {po : List Int} (up : ∀ x ∈ po, U32 x) (a b : Int) (i k : Nat) : ∀ d j : Nat, j + d = l.length →
  Ev (fun q => cupolaref15_over.l0 q (i : Int) (k : Int) a b (j : Int) l po n2 n3 n4 n5 n6) ((List.range' j d).any (barB l po a b i k)) := by
 intro d
 induction d with
 | zero =>
  intro j hj
  refine Ev.step (fun k => by rw [cupolaref15_over.l0]) ?_
  exact Ev.neg (by omega) (Ev.now _)
 | succ d ih =>
  intro j hj
  have hjl : j < l.length := by omega
  have h := ih (j + 1) (by omega)
  rw [List.range'_succ, List.any_cons]
  generalize (List.range' (j + 1) d).any (barB l po a b i k) = tl at h ⊢
  have w3 : (l[j].f1 == 3) = evp (isK [3]) l j := by rw [evp_at _ hjl, isK_one]
  have w4 : (l[j].f1 == 4) = evp (isK [4]) l j := by rw [evp_at _ hjl, isK_one]
  have w5 : (l[j].f1 == 5) = evp (isK [5]) l j := by rw [evp_at _ hjl, isK_one]
  have J1 : ∀ x : Bool, Ev (fun q => cupolaref15_over.j1 q (i : Int) (k : Int) a b (j : Int) (!x) l po n2 n3 n4 n5 n6) ((x && (evp (isK [3]) l j || ((evp (isK [4]) l j && a == 1) || (evp (isK [5]) l j && (a == 2 && b == 2))))) || tl) := by
   intro x
   refine Ev.step (fun k => by rw [cupolaref15_over.j1]) ?_
   rw [wrap64_succ j (by omega)]
   cases x with
   | false => exact Ev.pos rfl h
   | true =>
    rw [Bool.true_and, ← w3, ← w4, ← w5]
    refine Ev.neg (by decide) (Ev.pos (by omega) (Ev.pos (by omega) ?_))
    rw [rd26n l hjl]
    by_cases h3 : l[j].f1 = 3
    ·rw [beq_iff_eq.mpr h3]; exact Ev.pos h3 (Ev.now _)
    ·refine Ev.neg h3 ?_
     rw [beq_eq_false_iff_ne.mpr h3, Bool.false_or]
     have five : Ev (fun q => if l[j].f1 = 5 then (if a = 2 then (if b = 2 then (some true) else (cupolaref15_over.l0 q (i : Int) (k : Int) a b ((j + 1 : Nat) : Int) l po n2 n3 n4 n5 n6)) else (cupolaref15_over.l0 q (i : Int) (k : Int) a b ((j + 1 : Nat) : Int) l po n2 n3 n4 n5 n6)) else (cupolaref15_over.l0 q (i : Int) (k : Int) a b ((j + 1 : Nat) : Int) l po n2 n3 n4 n5 n6)) ((l[j].f1 == 5 && (a == 2 && b == 2)) || tl) := by
      by_cases h5 : l[j].f1 = 5
      ·refine Ev.pos h5 ?_
       rw [beq_iff_eq.mpr h5, Bool.true_and]
       by_cases ha : a = 2
       ·refine Ev.pos ha ?_
        rw [beq_iff_eq.mpr ha, Bool.true_and]
        by_cases hb : b = 2
        ·rw [beq_iff_eq.mpr hb]; exact Ev.pos hb (Ev.now _)
        ·rw [beq_eq_false_iff_ne.mpr hb, Bool.false_or]; exact Ev.neg hb h
       ·rw [beq_eq_false_iff_ne.mpr ha, Bool.false_and, Bool.false_or]; exact Ev.neg ha h
      ·rw [beq_eq_false_iff_ne.mpr h5, Bool.false_and, Bool.false_or]; exact Ev.neg h5 h
     by_cases h4 : l[j].f1 = 4
     ·refine Ev.pos h4 ?_
      rw [beq_iff_eq.mpr h4, Bool.true_and]
      by_cases ha : a = 1
      ·rw [beq_iff_eq.mpr ha]; exact Ev.pos ha (Ev.now _)
      ·rw [beq_eq_false_iff_ne.mpr ha, Bool.false_or]
       exact Ev.neg ha five
     ·rw [beq_eq_false_iff_ne.mpr h4, Bool.false_and, Bool.false_or]
      exact Ev.neg h4 five
  unfold barB
  refine Ev.step (fun k => by rw [cupolaref15_over.l0]) ?_
  refine Ev.pos (by omega) (Ev.bind (rhas_ev up _ _) ?_)
  rw [hasM_nat]
  by_cases h1 : mat po i j = true
  ·rw [h1, Bool.true_and]
   refine Ev.pos rfl (Ev.bind (rhas_ev up _ _) ?_)
   rw [hasM_nat]
   exact J1 _
  ·rw [Bool.eq_false_iff.2 h1, Bool.false_and]
   exact Ev.neg (by decide) (J1 false)
omit hl in
theorem bar_eq {po : List Int} {i k : Nat} (hi : i < l.length) (hk : k < l.length) : (List.range' 0 l.length).any (barB l po l[i].f1 l[k].f1 i k) = fenM l.length l po i k := by
 have w1 : (l[i].f1 == 1) = evp (isK [1]) l i := by rw [evp_at _ hi, isK_one]
 have w2 : (l[i].f1 == 2) = evp (isK [2]) l i := by rw [evp_at _ hi, isK_one]
 have w3 : (l[k].f1 == 2) = evp (isK [2]) l k := by rw [evp_at _ hk, isK_one]
 rw [Bool.eq_iff_iff, ← List.range_eq_range']
 unfold fenM overM barB
 rw [w1, w2, w3]
 simp only [Bool.or_eq_true, Bool.and_eq_true, List.any_eq_true, List.mem_range, seqM_iff]
 constructor
 ·rintro ⟨j, hj, ⟨h1, h2⟩, h3 | ⟨h3, h4⟩ | ⟨h3, h4, h5⟩⟩
  ·exact .inl ⟨j, hj, ⟨h1, trivial, h3⟩, h2, h3, trivial⟩
  ·exact .inr (.inl ⟨j, hj, ⟨h1, h4, h3⟩, h2, h3, trivial⟩)
  ·exact .inr (.inr ⟨j, hj, ⟨h1, h4, h3⟩, h2, h3, h5⟩)
 ·rintro (⟨j, hj, ⟨h1, _, h3⟩, h2, _, _⟩ | ⟨j, hj, ⟨h1, h4, h3⟩, h2, _, _⟩ | ⟨j, hj, ⟨h1, h4, h3⟩, h2, _, h5⟩)
  ·exact ⟨j, hj, ⟨h1, h2⟩, .inl h3⟩
  ·exact ⟨j, hj, ⟨h1, h2⟩, .inr (.inl ⟨h3, h4⟩)⟩
  ·exact ⟨j, hj, ⟨h1, h2⟩, .inr (.inr ⟨h3, h4, h5⟩)⟩
theorem rover_ev {po : List Int} (up : ∀ x ∈ po, U32 x) {i k : Nat} (hi : i < l.length) (hk : k < l.length) : Ev (fun q => cupolaref15_over.f q l po n2 n3 n4 n5 n6 (i : Int) (k : Int)) (fenM l.length l po i k) := by
 unfold cupolaref15_over.f
 refine Ev.pos (by omega) (Ev.pos (by omega) (Ev.pos (by omega) (Ev.pos (by omega) ?_)))
 rw [rd26n l hi, rd26n l hk, ← bar_eq l hi hk]
 exact rover_l0 l hl n2 n3 n4 n5 n6 up _ _ i k l.length 0 (by omega)
def ofB (l : List S26) (po : List Int) (what : Int) (i k : Nat) : Bool := if what = 1 then fenM l.length l po i k else ordM l po i k
theorem rof_l1 {po : List Int} (up : ∀ x ∈ po, U32 x) (what : Int) (hw : what = 1 ∨ what = 2) (i : Nat) (hi : i < l.length) (acc : List S46) (hacc : acc.length ≤ 1024) (r : List Int)
  (hr : Ev (fun q => cupolaref15_of.l0 q what (acc ++ rowp (memM l (ofB l po what)) i l.length) (l.length : Int) ((i + 1 : Nat) : Int) l po n2 n3 n4 n5 n6) r) : ∀ d j : Nat, j + d = l.length →
  Ev (fun q => cupolaref15_of.l1 q what (acc ++ rowp (memM l (ofB l po what)) i j) (l.length : Int) (i : Int) (j : Int) l po n2 n3 n4 n5 n6) r := by
 intro d
 induction d with
 | zero =>
  intro j hj
  obtain rfl : j = l.length := by omega
  refine Ev.step (fun k => by rw [cupolaref15_of.l1]) ?_
  refine Ev.neg (by omega) ?_
  rw [wrap64_succ i (by omega)]
  exact hr
 | succ d ih =>
  intro j hj
  have hjl : j < l.length := by omega
  have hrl := rowp_length (memM l (ofB l po what)) i j
  have h := ih (j + 1) (by omega)
  rw [rowp_succ] at h
  have skip : memM l (ofB l po what) i j = false → Ev (fun q => cupolaref15_of.l1 q what (acc ++ rowp (memM l (ofB l po what)) i j) (l.length : Int) (i : Int) ((j + 1 : Nat) : Int) l po n2 n3 n4 n5 n6) r := by
   intro h9
   rw [h9] at h
   simpa using h
  have take : memM l (ofB l po what) i j = true → Ev (fun q => cupolaref15_of.l1 q what (acc ++ rowp (memM l (ofB l po what)) i j ++ [(⟨(i : Int), (j : Int)⟩ : S46)]) (l.length : Int) (i : Int) ((j + 1 : Nat) : Int) l po n2 n3 n4 n5 n6) r := by
   intro h9
   rw [h9, if_pos rfl, ← List.append_assoc] at h
   exact h
  have J3 : (evp (isK [1, 2]) l i = true ∧ evp (isK [1, 2]) l j = true) → Ev (fun q => cupolaref15_of.j3 q what (acc ++ rowp (memM l (ofB l po what)) i j) (l.length : Int) (i : Int) (j : Int) (evp isAcq l i || (evp isRel l j || (evp isRel l i && evp isAcq l j))) l po n2 n3 n4 n5 n6) r := by
   intro hm
   refine Ev.step (fun k => by rw [cupolaref15_of.j3]) ?_
   rw [wrap64_succ j (by omega)]
   rcases hw with rfl | rfl
   ·refine Ev.pos rfl (Ev.bind (rover_ev l hl n2 n3 n4 n5 n6 up hi hjl) ?_)
    by_cases h1 : fenM l.length l po i j = true
    ·refine Ev.pos h1 (Ev.pos (by rw [List.length_append]; omega) (take (memM_true.2 ⟨hm, ?_⟩)))
     unfold ofB; rw [if_pos rfl]; exact h1
    ·refine Ev.neg h1 (Ev.neg (by decide) (skip ?_))
     rw [Bool.eq_false_iff]
     intro h9
     have := (memM_true.1 h9).2
     unfold ofB at this
     rw [if_pos rfl] at this
     exact h1 this
   ·have eo : ofB l po 2 i j = ordM l po i j := by unfold ofB; rw [if_neg (by decide)]
    have ee : ordM l po i j = (mat po i j && (evp isAcq l i || (evp isRel l j || (evp isRel l i && evp isAcq l j)))) := by
     unfold ordM
     cases mat po i j <;> simp
    refine Ev.neg (by decide) (Ev.pos rfl ?_)
    by_cases h1 : (evp isAcq l i || (evp isRel l j || (evp isRel l i && evp isAcq l j))) = true
    ·refine Ev.pos h1 (Ev.bind (rhas_ev up _ _) ?_)
     rw [hasM_nat]
     by_cases h2 : mat po i j = true
     ·refine Ev.pos h2 (Ev.pos (by rw [List.length_append]; omega) (take (memM_true.2 ⟨hm, ?_⟩)))
      rw [eo, ee, h1, h2]; rfl
     ·refine Ev.neg h2 (skip ?_)
      rw [Bool.eq_false_iff]
      intro h9
      have := (memM_true.1 h9).2
      rw [eo, ee, Bool.eq_false_iff.2 h2] at this
      exact absurd this (by simp)
    ·refine Ev.neg h1 (skip ?_)
     rw [Bool.eq_false_iff]
     intro h9
     have := (memM_true.1 h9).2
     rw [eo, ee, Bool.eq_false_iff.2 h1] at this
     exact absurd this (by simp)
  have J2 : ∀ x : Bool, (x = true → evp (isK [1, 2]) l i = true ∧ evp (isK [1, 2]) l j = true) → (x = false → memM l (ofB l po what) i j = false) → Ev (fun q => cupolaref15_of.j2 q what (acc ++ rowp (memM l (ofB l po what)) i j) (l.length : Int) (i : Int) (j : Int) (!x) l po n2 n3 n4 n5 n6) r := by
   intro x hx1 hx2
   refine Ev.step (fun k => by rw [cupolaref15_of.j2]) ?_
   cases x with
   | false =>
    rw [wrap64_succ j (by omega)]
    exact Ev.pos rfl (skip (hx2 rfl))
   | true =>
    refine Ev.neg (by decide) (Ev.pos (by omega) (Ev.pos (by omega) (Ev.pos (by omega) (Ev.pos (by omega) ?_))))
    rw [rd26n l hi, rd26n l hjl]
    have h3 := J3 (hx1 rfl)
    rw [evp_at isAcq hi, evp_at isAcq hjl, evp_at isRel hi, evp_at isRel hjl] at h3
    refine Ev.bindv (racq_eq _) ?_
    by_cases a1 : isAcq l[i] = true
    ·rw [a1, Bool.true_or] at h3
     exact Ev.pos a1 h3
    ·rw [Bool.eq_false_iff.2 a1, Bool.false_or] at h3
     refine Ev.neg a1 (Ev.bindv (rrel_eq _) ?_)
     by_cases a2 : isRel l[j] = true
     ·rw [a2, Bool.true_or] at h3
      exact Ev.pos a2 h3
     ·rw [Bool.eq_false_iff.2 a2, Bool.false_or] at h3
      refine Ev.neg a2 (Ev.bindv (rrel_eq _) ?_)
      by_cases a3 : isRel l[i] = true
      ·rw [a3, Bool.true_and] at h3
       exact Ev.pos a3 (Ev.bindv (racq_eq _) h3)
      ·rw [Bool.eq_false_iff.2 a3, Bool.false_and] at h3
       exact Ev.neg a3 h3
  refine Ev.step (fun k => by rw [cupolaref15_of.l1]) ?_
  refine Ev.pos (by omega) (Ev.bindv (mem_at l po n2 n3 n4 n5 n6 hi) ?_)
  by_cases h1 : evp (isK [1, 2]) l i = true
  ·refine Ev.pos h1 (Ev.bindv (mem_at l po n2 n3 n4 n5 n6 hjl) (J2 _ (fun h2 => ⟨h1, h2⟩) (fun h2 => ?_)))
   rw [Bool.eq_false_iff]
   intro h9
   have := (memM_true.1 h9).1.2
   rw [h2] at this
   cases this
  ·refine Ev.neg h1 (J2 false (fun h9 => by cases h9) (fun _ => ?_))
   rw [Bool.eq_false_iff]
   intro h9
   exact h1 (memM_true.1 h9).1.1
theorem rof_ev {po : List Int} (up : ∀ x ∈ po, U32 x) (what : Int) (hw : what = 1 ∨ what = 2) : Ev (fun q => cupolaref15_of.f q l po n2 n3 n4 n5 n6 what) (ofM l.length (memM l (ofB l po what))) := by
 have loop : ∀ d i : Nat, i + d = l.length → Ev (fun q => cupolaref15_of.l0 q what ((List.range i).flatMap fun i => rowp (memM l (ofB l po what)) i l.length) (l.length : Int) (i : Int) l po n2 n3 n4 n5 n6) (ofM l.length (memM l (ofB l po what))) := by
  intro d
  induction d with
  | zero =>
   intro i hi
   obtain rfl : i = l.length := by omega
   refine Ev.step (fun k => by rw [cupolaref15_of.l0]) ?_
   refine Ev.neg (by omega) ?_
   have hs := prs_small hl (memM l (ofB l po what))
   have := rmade_ev l.length hl (prs l.length (memM l (ofB l po what))) (by omega) (prs_inR _ _)
   rw [ofM_memP_prs] at this
   exact Ev.bind this (Ev.now _)
  | succ d ih =>
   intro i hi
   refine Ev.step (fun k => by rw [cupolaref15_of.l0]) ?_
   refine Ev.pos (by omega) ?_
   have hfl := flat_length (memM l (ofB l po what)) l.length i
   have hb : i * l.length ≤ 1024 := Nat.le_trans (Nat.mul_le_mul (show i ≤ 32 by omega) hl) (by decide)
   have h := ih (i + 1) (by omega)
   rw [List.range_succ, List.flatMap_append] at h
   simp only [List.flatMap_cons, List.flatMap_nil, List.append_nil] at h
   have := rof_l1 l hl n2 n3 n4 n5 n6 up what hw i (by omega) ((List.range i).flatMap fun i => rowp (memM l (ofB l po what)) i l.length) (by omega) _ h l.length 0 (by omega)
   simpa [rowp] using this
 unfold cupolaref15_of.f
 exact loop l.length 0 (by omega)
theorem rfences_ev {po : List Int} (up : ∀ x ∈ po, U32 x) : Ev (fun q => cupolaref15_Fences.f q l po n2 n3 n4 n5 n6) (ofM l.length (memM l (fenM l.length l po))) := by
 unfold cupolaref15_Fences.f
 have h := rof_ev l hl n2 n3 n4 n5 n6 up 1 (.inl rfl)
 have e : ofB l po 1 = fenM l.length l po := by funext i k; unfold ofB; rw [if_pos rfl]
 rw [e] at h
 exact Ev.bind h (Ev.now _)
theorem rorders_ev {po : List Int} (up : ∀ x ∈ po, U32 x) : Ev (fun q => cupolaref15_Orders.f q l po n2 n3 n4 n5 n6) (ofM l.length (memM l (ordM l po))) := by
 unfold cupolaref15_Orders.f
 have h := rof_ev l hl n2 n3 n4 n5 n6 up 2 (.inr rfl)
 have e : ofB l po 2 = ordM l po := by funext i k; unfold ofB; rw [if_neg (by decide)]
 rw [e] at h
 exact Ev.bind h (Ev.now _)
end
end Go.Proofs.Ytbamkkdikeedoaa.G
