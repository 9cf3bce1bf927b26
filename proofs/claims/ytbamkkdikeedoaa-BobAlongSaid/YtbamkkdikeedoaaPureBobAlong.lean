/- It is proved that what barriers and orders keep leads along the order of the program: the law BobAlong answers true for every input, by its plain form. -/
import Derived.Test.YtbamkkdikeedoaaGBobAlongD
import Derived.Test.YtbamkkdikeedoaaPlainAlong
import Derived.Test.YtbamkkdikeedoaaOpensTrace
import Derived.Test.YtbamkkdikeedoaaShown15
import Derived.Test.YtbamkkdikeedoaaPlainBob
namespace Go.Proofs.Ytbamkkdikeedoaa.Pure
open Go.RowKit Go.Proofs.Ytbamkkdikeedoaa.G Go.Proofs.Ytbamkkdikeedoaa.Joi Go.Proofs.Ytbamkkdikeedoaa.Opens Go.Proofs.YtbamkkdikeedoaaW.PrintWords Go.Proofs.YtbamkkdikeedoaaW.PrintLast Go.Proofs.YtbamkkdikeedoaaW.PrintMore
set_option linter.unusedVariables false
theorem joined_ex (l : List S117) : ∃ (ev : List S26) (po addr data ctrl rmw : List Int) (regs : List (List Int)) (b : Bool), Ev (fun k => cupolalaw15_joined.f k l) (ev, po, addr, data, ctrl, rmw, regs, b) ∧ (b = true → Joined (ev, po, addr, data, ctrl, rmw, regs, 0)) := by
 unfold cupolalaw15_joined.f
 by_cases h3 : (l.length : Int) > 3
 ·exact ⟨_, _, _, _, _, _, _, _, Ev.pos h3 (Ev.now _), fun h => absurd h (by decide)⟩
 have loop : ∀ d i : Nat, i + d = l.length → (∀ j (h : j < l.length), j < i → l[j].f0.length ≤ 8) → ∃ (ev : List S26) (po addr data ctrl rmw : List Int) (regs : List (List Int)) (b : Bool), Ev (fun k => cupolalaw15_joined.l0 k l (i : Int)) (ev, po, addr, data, ctrl, rmw, regs, b) ∧ (b = true → Joined (ev, po, addr, data, ctrl, rmw, regs, 0)) := by
  intro d
  induction d with
  | zero =>
   intro i hi h8
   obtain ⟨⟨ev, po, addr, data, ctrl, rmw, regs, st⟩, h, hg⟩ := join_ex l (by omega) (fun t ht => by
    obtain ⟨j, hj, rfl⟩ := List.getElem_of_mem ht
    exact h8 j hj (by omega))
   refine ⟨ev, po, addr, data, ctrl, rmw, regs, st == 0, ?_, fun hb => ?_⟩
   ·refine Ev.step (fun k => by rw [cupolalaw15_joined.l0]) ?_
    exact Ev.neg (by omega) (Ev.bind h (Ev.now _))
   ·have hb : st = 0 := by simpa using hb
    rw [← hb]; exact hg
  | succ d ih =>
   intro i hi h8
   have hlt : i < l.length := by omega
   have e := rd117 l i hlt
   by_cases hx : ((l[i].f0.length : Nat) : Int) > 8
   ·refine ⟨[], [], [], [], [], [], [], false, ?_, fun h => absurd h (by decide)⟩
    refine Ev.step (fun k => by rw [cupolalaw15_joined.l0]) ?_
    rw [e]
    exact Ev.pos (by omega) (Ev.pos (by omega) (Ev.pos hx (Ev.now _)))
   ·obtain ⟨ev, po, addr, data, ctrl, rmw, regs, b, h, hg⟩ := ih (i + 1) (by omega) (fun j hj hji => by
     by_cases hj2 : j = i
     ·subst hj2; omega
     ·exact h8 j hj (by omega))
    refine ⟨ev, po, addr, data, ctrl, rmw, regs, b, ?_, hg⟩
    refine Ev.step (fun k => by rw [cupolalaw15_joined.l0]) ?_
    rw [e, show wrap64 ((i : Int) + 1) = ((i + 1 : Nat) : Int) from wrN i 1 (by omega)]
    exact Ev.pos (by omega) (Ev.pos (by omega) (Ev.neg hx h))
 obtain ⟨ev, po, addr, data, ctrl, rmw, regs, b, h, hg⟩ := loop l.length 0 (by omega) (fun j _ h => by omega)
 exact ⟨ev, po, addr, data, ctrl, rmw, regs, b, Ev.neg h3 h, hg⟩
theorem BobAlong (l : List S117) (wl : ∀ y ∈ l, True) (_ : l.length ≤ 9223372036854775807) (co : List Int) (wc : ∀ y ∈ co, wfI .u32 y) (_ : co.length ≤ 9223372036854775807) : ∃ k, cupolalaw15_BobAlong.f k l co = some true := by
 refine Ev.rounds (g := fun k => cupolalaw15_BobAlong.f k l co) ?_
 unfold cupolalaw15_BobAlong.f
 refine Ev.bind shown15_ev ?_
 obtain ⟨ev, po, addr, data, ctrl, rmw, regs, b, h, hg⟩ := joined_ex l
 have out : Ev (fun k => cupolalaw15_BobAlong.j0 k co true true ev po addr data ctrl rmw regs) true := Ev.step (fun k => by rw [cupolalaw15_BobAlong.j0]) (Ev.pos rfl (Ev.now _))
 refine Ev.bind h ?_
 cases b with
 | false => exact Ev.neg (show ¬ (false = true) by decide) out
 | true =>
  suffices main : Ev (fun k => cupolalaw15_BobAlong.j0 k co true ((co.length : Int) != (ev.length : Int)) ev po addr data ctrl rmw regs) true from Ev.pos rfl main
  by_cases hc : (co.length : Int) = (ev.length : Int)
  ·have e : ((co.length : Int) != (ev.length : Int)) = false := bne_eq_false_iff_eq.mpr hc
   obtain ⟨n, P, A, D, C, W, hn24, hev, hpo, ha, hd, hct, hw, hP1, hP2, _⟩ := hg rfl rfl
   replace hev : ev.length = n := hev
   replace hpo : po = ofM n P := hpo
   have hn32 : n ≤ 32 := by omega
   have hp : sz po = n := by rw [hpo]; exact sz_ofM hn32 _
   have hco : sz co = n := by rw [sz_full (by omega)]; omega
   have hm : ∀ i k, i < n → k < n → mat po i k = P i k := fun i k hi hk => by rw [hpo]; exact mat_in hn32 hi hk
   have hT : ∀ i j k, i < n → j < n → k < n → mat po i j = true → mat po j k = true → mat po i k = true := by
    intro i j k hi hj hk h1 h2
    rw [hm i j hi hj] at h1
    rw [hm j k hj hk] at h2
    rw [hm i k hi hk]
    exact hP2 i j k h1 h2
   have hup : ∀ s : List Int, along n (mat s) (mat po) → acy n (mat s) = true := fun s hs => acy_up fun i k hi hk h => hP1 i k (by rw [← hm i k hi hk]; exact hs i k hi hk h)
   have over : ∀ F c T, along n (overM n ev po F c T) (mat po) := fun F c T => by
    unfold overM
    exact seq_along hT (fun i k _ _ h => by simp only [Bool.and_eq_true] at h; exact h.1) (fun i k _ _ h => by simp only [Bool.and_eq_true] at h; exact h.1)
   have hfen : along n (memM ev (fenM n ev po)) (mat po) := by
    intro i k hi hk h
    rw [memM_true] at h
    have h := h.2
    unfold fenM at h
    simp only [Bool.or_eq_true] at h
    rcases h with h | h | h
    ·exact over _ _ _ i k hi hk h
    ·exact over _ _ _ i k hi hk h
    ·exact over _ _ _ i k hi hk h
   have hord : along n (memM ev (ordM ev po)) (mat po) := by
    intro i k hi hk h
    rw [memM_true] at h
    have h := h.2
    unfold ordM at h
    simp only [Bool.or_eq_true, Bool.and_eq_true] at h
    rcases h with h | h | h <;> exact h.1
   have hX : ∀ i k, i < n → k < n → mat (ofM n fun i k => mat (ofM n (memM ev (fenM n ev po))) i k || mat (ofM n (memM ev (ordM ev po))) i k) i k = (memM ev (fenM n ev po) i k || memM ev (ordM ev po) i k) := fun i k hi hk => by rw [mat_in hn32 hi hk, mat_in hn32 hi hk, mat_in hn32 hi hk]
   have hXa : along n (mat (ofM n fun i k => mat (ofM n (memM ev (fenM n ev po))) i k || mat (ofM n (memM ev (ordM ev po))) i k)) (mat po) := by
    intro i k hi hk h
    rw [hX i k hi hk, Bool.or_eq_true] at h
    exact h.elim (hfen i k hi hk) (hord i k hi hk)
   have hbob : ∀ i k, i < n → k < n → mat (ofM n (memM ev (bobM n ev po co))) i k = memM ev (bobM n ev po co) i k := fun i k hi hk => mat_in hn32 hi hk
   rw [e]
   refine Ev.step (fun k => by rw [cupolalaw15_BobAlong.j0]) ?_
   refine Ev.neg (by decide) (Ev.bindv rfl ?_)
   refine Ev.bind (fences_ev hn32 ev addr data ctrl rmw regs hev hp) (Ev.bind (orders_ev hn32 ev addr data ctrl rmw regs hev hp) (Ev.bindv (or_at (sz_ofM hn32 _) (sz_ofM hn32 _)) ?_))
   refine Ev.bindv (coi_at hn32 ev po addr data ctrl rmw regs hev hco) (Ev.bind (bob_ev hn32 ev addr data ctrl rmw regs hev hp hco) ?_)
   refine Ev.bindv (and_at (sz_ofM hn32 _) hp) (Ev.bind (same_ev _ _) (Ev.pos (same_and hn32 (sz_ofM hn32 _) hXa) ?_))
   refine Ev.bind (acyclic_at (sz_ofM hn32 _)) (Ev.pos (hup _ hXa) ?_)
   refine Ev.bindv (and_at (sz_ofM hn32 _) (sz_ofM hn32 _)) (Ev.bind (same_ev _ _) ?_)
   have hin : along n (mat (ofM n fun i k => mat (ofM n (memM ev (fenM n ev po))) i k || mat (ofM n (memM ev (ordM ev po))) i k)) (mat (ofM n (memM ev (bobM n ev po co)))) := by
    intro i k hi hk h
    rw [hX i k hi hk, Bool.or_eq_true] at h
    rw [hbob i k hi hk]
    have hb2 : evp (isK [1, 2]) ev i = true ∧ evp (isK [1, 2]) ev k = true := h.elim (fun h => (memM_true.1 h).1) (fun h => (memM_true.1 h).1)
    rw [memM_true]
    refine ⟨hb2, ?_⟩
    unfold bobM
    simp only [Bool.or_eq_true]
    exact h.elim .inl (fun h => .inr (.inl h))
   rw [same_and hn32 (sz_ofM hn32 _) hin]
   refine Ev.step (fun k => by rw [cupolalaw15_BobAlong.j1]) ?_
   refine Ev.neg (by decide) (Ev.pos rfl ?_)
   refine Ev.bindv (and_at (sz_ofM hn32 _) hp) (Ev.bind (same_ev _ _) ?_)
   cases hs : sameM (ofM n fun i k => mat (ofM n fun i k => mat co i k && innM ev i k) i k && mat po i k) (ofM n fun i k => mat co i k && innM ev i k) with
   | false => exact Ev.neg (by decide) (Ev.now _)
   | true =>
    have hcoi := and_same hn32 hs
    have hba : along n (mat (ofM n (memM ev (bobM n ev po co)))) (mat po) := by
     intro i k hi hk h
     rw [hbob i k hi hk, memM_true] at h
     have h := h.2
     unfold bobM at h
     simp only [Bool.or_eq_true] at h
     rcases h with h | h | h
     ·exact hfen i k hi hk h
     ·exact hord i k hi hk h
     ·refine seq_along hT (fun i k _ _ h => by simp only [Bool.and_eq_true] at h; exact h.1) (fun j k hj hk h => hcoi j k hj hk (by rw [mat_in hn32 hj hk]; exact h)) i k hi hk h
    refine Ev.pos rfl (Ev.bindv (and_at (sz_ofM hn32 _) hp) (Ev.bind (same_ev _ _) (Ev.pos (same_and hn32 (sz_ofM hn32 _) hba) ?_)))
    have ha2 := acyclic_at (sz_ofM hn32 (memM ev (bobM n ev po co)))
    rw [hup _ hba] at ha2
    exact Ev.bind ha2 (Ev.now _)
  ·rw [show ((co.length : Int) != (ev.length : Int)) = true from bne_iff_ne.mpr hc]
   exact out
end Go.Proofs.Ytbamkkdikeedoaa.Pure
