/- It is proved that what hangs on what leads along the order of the program, from what is hung on: the law DobAlong answers true for every input, by its plain form. -/
import Derived.Test.YtbamkkdikeedoaaGDobAlongD
import Derived.Test.YtbamkkdikeedoaaPlainAlong
import Derived.Test.YtbamkkdikeedoaaOpensTrace
import Derived.Test.YtbamkkdikeedoaaShown14
import Derived.Test.YtbamkkdikeedoaaPlainDob
namespace Go.Proofs.Ytbamkkdikeedoaa.Pure
open Go.RowKit Go.Proofs.Ytbamkkdikeedoaa.G Go.Proofs.Ytbamkkdikeedoaa.Joi Go.Proofs.Ytbamkkdikeedoaa.Opens Go.Proofs.YtbamkkdikeedoaaW.PrintWords Go.Proofs.YtbamkkdikeedoaaW.PrintLast Go.Proofs.YtbamkkdikeedoaaW.PrintMore
set_option linter.unusedVariables false
theorem DobAlong (l : List S117) (wl : ∀ y ∈ l, True) (_ : l.length ≤ 9223372036854775807) (from_ : List Int) (wf : ∀ y ∈ from_, wfI .i64 y) (_ : from_.length ≤ 9223372036854775807) (co : List Int) (wc : ∀ y ∈ co, wfI .u32 y) (_ : co.length ≤ 9223372036854775807) : ∃ k, cupolalaw14_DobAlong.f k l from_ co = some true := by
 refine Ev.rounds (g := fun k => cupolalaw14_DobAlong.f k l from_ co) ?_
 unfold cupolalaw14_DobAlong.f
 refine Ev.bind shown14_ev ?_
 by_cases h3 : (l.length : Int) > 3
 ·exact Ev.pos h3 (Ev.now _)
 refine Ev.neg h3 ?_
 have last : (∀ j (h : j < l.length), l[j].f0.length ≤ 8) → Ev (fun k => cupolalaw14_DobAlong.l0 k l from_ co true (l.length : Int)) true := by
  intro h8
  obtain ⟨⟨ev, po, addr, data, ctrl, rmw, regs, st⟩, h, hg⟩ := join_ex l (by omega) (fun t ht => by
   obtain ⟨j, hj, rfl⟩ := List.getElem_of_mem ht
   exact h8 j hj)
  refine Ev.step (fun k => by rw [cupolalaw14_DobAlong.l0]) ?_
  refine Ev.neg (by omega) (Ev.bind h ?_)
  have out : ∀ b, b = true → Ev (fun k => cupolalaw14_DobAlong.j1 k from_ co true b ev po addr data ctrl rmw regs) true := by
   intro b hb
   subst hb
   refine Ev.step (fun k => by rw [cupolalaw14_DobAlong.j1]) ?_
   exact Ev.pos rfl (Ev.now _)
  by_cases h0 : st = 0
  ·suffices main : Ev (fun k => if (co.length : Int) = (ev.length : Int) then cupolalaw14_DobAlong.j1 k from_ co true (decide ((from_.length : Int) > 40)) ev po addr data ctrl rmw regs else cupolalaw14_DobAlong.j1 k from_ co true true ev po addr data ctrl rmw regs) true from Ev.pos h0 main
   by_cases hc : (co.length : Int) = (ev.length : Int)
   ·refine Ev.pos hc ?_
    by_cases h40 : (from_.length : Int) > 40
    ·exact out _ (decide_eq_true h40)
    rw [decide_eq_false h40]
    obtain ⟨n, P, A, D, C, W, hn24, hev, hpo, haddr, hdata, hctrl, hrmw, hP1, hP2, hA, hD, hC, _⟩ := hg h0
    replace hev : ev.length = n := hev
    replace hpo : po = ofM n P := hpo
    replace haddr : addr = ofM n A := haddr
    replace hdata : data = ofM n D := hdata
    replace hctrl : ctrl = ofM n C := hctrl
    have hn32 : n ≤ 32 := by omega
    have hp : sz po = n := by rw [hpo]; exact sz_ofM hn32 _
    have ha : sz addr = n := by rw [haddr]; exact sz_ofM hn32 _
    have hd : sz data = n := by rw [hdata]; exact sz_ofM hn32 _
    have hct : sz ctrl = n := by rw [hctrl]; exact sz_ofM hn32 _
    have hco : sz co = n := by rw [sz_full (by omega)]; omega
    have hm : ∀ i k, i < n → k < n → mat po i k = P i k := fun i k hi hk => by rw [hpo]; exact mat_in hn32 hi hk
    have hT : ∀ i j k, i < n → j < n → k < n → mat po i j = true → mat po j k = true → mat po i k = true := by
     intro i j k hi hj hk h1 h2
     rw [hm i j hi hj] at h1
     rw [hm j k hj hk] at h2
     rw [hm i k hi hk]
     exact hP2 i j k h1 h2
    have lA : along n (mat addr) (mat po) := fun i k hi hk h => by rw [hm i k hi hk]; rw [haddr, mat_in hn32 hi hk] at h; exact hA i k h
    have lD : along n (mat data) (mat po) := fun i k hi hk h => by rw [hm i k hi hk]; rw [hdata, mat_in hn32 hi hk] at h; exact hD i k h
    have lC : along n (mat ctrl) (mat po) := fun i k hi hk h => by rw [hm i k hi hk]; rw [hctrl, mat_in hn32 hi hk] at h; exact hC i k h
    have hup : ∀ s : List Int, along n (mat s) (mat po) → acy n (mat s) = true := fun s hs => acy_up fun i k hi hk h => hP1 i k (by rw [← hm i k hi hk]; exact hs i k hi hk h)
    clear hg haddr hdata hctrl hrmw hA hD hC
    -- what something hangs on
    let B : Nat → Prop := fun i => ∃ k, k < n ∧ (mat addr i k = true ∨ mat data i k = true ∨ mat ctrl i k = true)
    have sB : ∀ i k, i < n → k < n → memM ev (stM n ev po addr data ctrl) i k = true → mat po i k = true ∧ B i := by
     intro i k hi hk h
     rw [memM_true] at h
     have h := h.2
     have sq : ∀ i k, i < n → k < n → seqM n (mat addr) (mat po) i k = true → mat po i k = true ∧ B i := by
      intro i k hi hk h
      refine ⟨seq_along hT lA (fun i k _ _ h => h) i k hi hk h, ?_⟩
      obtain ⟨j, hj, h1, _⟩ := seqM_iff.1 h
      exact ⟨j, hj, .inl h1⟩
     unfold G.stM at h
     simp only [Bool.or_eq_true, Bool.and_eq_true] at h
     rcases h with h | h | h | h | h
     ·exact ⟨lA i k hi hk h, k, hk, .inl h⟩
     ·exact ⟨lD i k hi hk h, k, hk, .inr (.inl h)⟩
     ·exact ⟨lC i k hi hk h.1, k, hk, .inr (.inr h.1)⟩
     ·obtain ⟨j, hj, h1, h2⟩ := seqM_iff.1 h.1
      simp only [Bool.or_eq_true, Bool.and_eq_true] at h1
      rcases h1.1 with h1 | h1
      ·exact ⟨hT i j k hi hj hk (lC i j hi hj h1) h2, j, hj, .inr (.inr h1)⟩
      ·have := sq i j hi hj h1
       exact ⟨hT i j k hi hj hk this.1 h2, this.2⟩
     ·exact sq i k hi hk h.1
    have hstm : ∀ i k, i < n → k < n → mat (ofM n (memM ev (stM n ev po addr data ctrl))) i k = memM ev (stM n ev po addr data ctrl) i k := fun i k hi hk => mat_in hn32 hi hk
    have hdom : ∀ i k, i < n → k < n → mat (ofM n (memM ev (dobM n ev po addr data ctrl from_ co))) i k = memM ev (dobM n ev po addr data ctrl from_ co) i k := fun i k hi hk => mat_in hn32 hi hk
    have sta : along n (mat (ofM n (memM ev (stM n ev po addr data ctrl)))) (mat po) := fun i k hi hk h => (sB i k hi hk (by rw [← hstm i k hi hk]; exact h)).1
    -- behind the mask
    have tail : ∀ m : Int, U32 m → (∀ i, i < n → B i → tb m i = true) → Ev (fun k => cupolalaw14_DobAlong.j3 k from_ co true (ofM n (memM ev (stM n ev po addr data ctrl))) m false ev po addr data ctrl rmw regs) true := by
     intro m hmu hmB
     refine Ev.step (fun k => by rw [cupolalaw14_DobAlong.j3]) ?_
     refine Ev.neg (by decide) (Ev.bindv (coi_at hn32 ev po addr data ctrl rmw regs hev hco) (Ev.bind (rfi_ev hn32 ev po addr data ctrl rmw regs hev from_ (by omega)) (Ev.bindv (or_at (sz_ofM hn32 _) (sz_ofM hn32 _)) (Ev.bindv (and_at (sz_ofM hn32 _) hp) (Ev.bind (same_ev _ _) ?_)))))
     cases hs : sameM (ofM n fun i k => mat (ofM n fun i k => mat (ofM n fun i k => mat co i k && innM ev i k) i k || mat (ofM n fun i k => rfM from_ i k && innM ev i k) i k) i k && mat po i k) (ofM n fun i k => mat (ofM n fun i k => mat co i k && innM ev i k) i k || mat (ofM n fun i k => rfM from_ i k && innM ev i k) i k) with
     | false => exact Ev.neg (by decide) (Ev.now _)
     | true =>
      have hin := and_same hn32 hs
      have hcoi : along n (fun i k => mat co i k && innM ev i k) (mat po) := fun i k hi hk h => hin i k hi hk (by
       have h : (mat co i k && innM ev i k) = true := h
       rw [mat_in hn32 hi hk, mat_in hn32 hi hk, h]; rfl)
      have hrfi : along n (fun i k => rfM from_ i k && innM ev i k) (mat po) := fun i k hi hk h => hin i k hi hk (by
       have h : (rfM from_ i k && innM ev i k) = true := h
       rw [mat_in hn32 hi hk, mat_in hn32 hi hk, mat_in hn32 hi hk, h, Bool.or_true])
      have dB : ∀ i k, i < n → k < n → memM ev (dobM n ev po addr data ctrl from_ co) i k = true → mat po i k = true ∧ B i := by
       intro i k hi hk h
       rw [memM_true] at h
       have h := h.2
       unfold dobM at h
       simp only [Bool.or_eq_true] at h
       rcases h with h | h | h
       ·exact sB i k hi hk h
       ·obtain ⟨j, hj, h1, h2⟩ := seqM_iff.1 h
        simp only [Bool.or_eq_true] at h1
        have h2 := hcoi j k hj hk h2
        rcases h1 with h1 | h1
        ·exact ⟨hT i j k hi hj hk (lC i j hi hj h1) h2, j, hj, .inr (.inr h1)⟩
        ·exact ⟨hT i j k hi hj hk (lD i j hi hj h1) h2, j, hj, .inr (.inl h1)⟩
       ·obtain ⟨j, hj, h1, h2⟩ := seqM_iff.1 h
        simp only [Bool.or_eq_true] at h1
        have h2 := hrfi j k hj hk h2
        rcases h1 with h1 | h1
        ·exact ⟨hT i j k hi hj hk (lA i j hi hj h1) h2, j, hj, .inl h1⟩
        ·exact ⟨hT i j k hi hj hk (lD i j hi hj h1) h2, j, hj, .inr (.inl h1)⟩
      have doa : along n (mat (ofM n (memM ev (dobM n ev po addr data ctrl from_ co)))) (mat po) := fun i k hi hk h => (dB i k hi hk (by rw [← hdom i k hi hk]; exact h)).1
      have dom : along n (mat (ofM n (memM ev (dobM n ev po addr data ctrl from_ co)))) (fun i k => tb m i && tb 4294967295 k) := fun i k hi hk h => by
       show (tb m i && tb 4294967295 k) = true
       rw [hmB i hi (dB i k hi hk (by rw [← hdom i k hi hk]; exact h)).2, tb_full (by omega)]; rfl
      have std : along n (mat (ofM n (memM ev (stM n ev po addr data ctrl)))) (mat (ofM n (memM ev (dobM n ev po addr data ctrl from_ co)))) := by
       intro i k hi hk h
       rw [hstm i k hi hk] at h
       rw [hdom i k hi hk, memM_true]
       refine ⟨(memM_true.1 h).1, ?_⟩
       unfold dobM
       rw [h]; rfl
      refine Ev.pos rfl (Ev.bind (dob_ev hn32 ev regs hev hp ha hd hct hco rmw from_ (by omega)) (Ev.pos rfl ?_))
      refine Ev.bindv (and_at (sz_ofM hn32 _) hp) (Ev.bind (same_ev _ _) (Ev.pos (same_and hn32 (sz_ofM hn32 _) doa) ?_))
      refine Ev.bind (only_at (sz_ofM hn32 _) _ hmu) (Ev.bind (same_ev _ _) (Ev.pos (same_and hn32 (sz_ofM hn32 _) dom) ?_))
      refine Ev.bind (acyclic_at (sz_ofM hn32 _)) (Ev.pos (hup _ doa) ?_)
      refine Ev.bindv (and_at (sz_ofM hn32 _) (sz_ofM hn32 _)) ?_
      have hsame := same_ev (ofM n fun i k => mat (ofM n (memM ev (stM n ev po addr data ctrl))) i k && mat (ofM n (memM ev (dobM n ev po addr data ctrl from_ co))) i k) (ofM n (memM ev (stM n ev po addr data ctrl)))
      rw [same_and hn32 (sz_ofM hn32 _) std] at hsame
      exact Ev.bind hsame (Ev.now _)
    -- the mask
    refine Ev.step (fun k => by rw [cupolalaw14_DobAlong.j1]) ?_
    refine Ev.neg (by decide) (Ev.bindv rfl (Ev.bind (static_ev hn32 ev regs hev hp ha hd hct rmw) (Ev.bindv (or_at hd hct) (Ev.bindv (or_at ha (sz_ofM hn32 _)) (Ev.bind (pairs_ev _) ?_)))))
    rw [sz_ofM hn32]
    have hmem : ∀ i k, i < n → k < n → (mat (ofM n fun i k => mat addr i k || mat (ofM n fun i k => mat data i k || mat ctrl i k) i k) i k = true ↔ (mat addr i k = true ∨ mat data i k = true ∨ mat ctrl i k = true)) := by
     intro i k hi hk
     rw [mat_in hn32 hi hk, mat_in hn32 hi hk, Bool.or_eq_true, Bool.or_eq_true]
    have hpr : ∀ i, i < n → B i → ∃ k : Nat, (⟨(i : Int), (k : Int)⟩ : S46) ∈ prs n (mat (ofM n fun i k => mat addr i k || mat (ofM n fun i k => mat data i k || mat ctrl i k) i k)) := by
     rintro i hi ⟨k, hk, hh⟩
     exact ⟨k, mem_prs.2 ⟨i, k, hi, hk, (hmem i k hi hk).2 hh, rfl⟩⟩
    have hlen : (prs n (mat (ofM n fun i k => mat addr i k || mat (ofM n fun i k => mat data i k || mat ctrl i k) i k))).length ≤ 1024 := prs_small hn32 _
    have hinr := prs_inR n (mat (ofM n fun i k => mat addr i k || mat (ofM n fun i k => mat data i k || mat ctrl i k) i k))
    generalize prs n (mat (ofM n fun i k => mat addr i k || mat (ofM n fun i k => mat data i k || mat ctrl i k) i k)) = ps at hpr hlen hinr
    have loop : ∀ d i : Nat, i + d = ps.length → ∀ m : Int, U32 m → (∀ j (h : j < ps.length), j < i → ∀ a : Nat, ps[j].f0 = (a : Int) → tb m a = true) → Ev (fun k => cupolalaw14_DobAlong.l1 k from_ co true (ofM n (memM ev (stM n ev po addr data ctrl))) m ps (i : Int) ev po addr data ctrl rmw regs) true := by
     intro d
     induction d with
     | zero =>
      intro i hi m hmu hmm
      have hmB : ∀ i, i < n → B i → tb m i = true := by
       intro a ha2 hb
       obtain ⟨k, hk⟩ := hpr a ha2 hb
       obtain ⟨j, hj, e⟩ := List.getElem_of_mem hk
       exact hmm j hj (by omega) a (by rw [e])
      have stm : along n (mat (ofM n (memM ev (stM n ev po addr data ctrl)))) (fun i k => tb m i && tb 4294967295 k) := fun i k hi hk h => by
       show (tb m i && tb 4294967295 k) = true
       rw [hmB i hi (sB i k hi hk (by rw [← hstm i k hi hk]; exact h)).2, tb_full (by omega)]; rfl
      refine Ev.step (fun k => by rw [cupolalaw14_DobAlong.l1]) ?_
      refine Ev.neg (by omega) (Ev.bindv (and_at (sz_ofM hn32 _) hp) (Ev.bind (same_ev _ _) (Ev.pos (same_and hn32 (sz_ofM hn32 _) sta) ?_)))
      refine Ev.bind (only_at (sz_ofM hn32 _) _ hmu) (Ev.bind (same_ev _ _) (Ev.pos (same_and hn32 (sz_ofM hn32 _) stm) ?_))
      refine Ev.bind (acyclic_at (sz_ofM hn32 _)) ?_
      rw [hup _ sta]
      exact tail m hmu hmB
     | succ d ih =>
      intro i hi m hmu hmm
      have hlt : i < ps.length := by omega
      obtain ⟨a, b, ha2, hb2, e⟩ := hinr _ (List.getElem_mem hlt)
      have e46 : rd_T46 ps (i : Int) = ⟨(a : Int), (b : Int)⟩ := by rw [← e]; simp [rd_T46, List.getD_eq_getElem?_getD, List.getElem?_eq_getElem hlt]
      have next := ih (i + 1) (by omega) (Go.bits .or .u32 m (shl .u32 1 (a : Int))) (bits_u32 _ _ _) (fun j hj hji x hx => by
       rw [tb_or]
       by_cases hj2 : j = i
       ·subst hj2
        rw [e] at hx
        have hx : (a : Int) = (x : Int) := hx
        obtain rfl : a = x := by omega
        rw [tb_shl_one]
        simp; right; omega
       ·rw [hmm j hj (by omega) x hx]; rfl)
      refine Ev.step (fun k => by rw [cupolalaw14_DobAlong.l1]) ?_
      rw [e46]
      simp only []
      rw [wrap_u64_nat a (by omega), show wrap64 ((i : Int) + 1) = ((i + 1 : Nat) : Int) from wrN i 1 (by omega)]
      exact Ev.pos (by omega) (Ev.pos (by omega) (Ev.pos (by omega) next))
    exact loop ps.length 0 (by omega) 0 (by unfold U32; omega) (fun j _ h => by omega)
   ·exact Ev.neg hc (out _ rfl)
  ·suffices main : Ev (fun k => cupolalaw14_DobAlong.j1 k from_ co true true ev po addr data ctrl rmw regs) true from Ev.neg h0 main
   exact out _ rfl
 have loop : ∀ d i : Nat, i + d = l.length → (∀ j (h : j < l.length), j < i → l[j].f0.length ≤ 8) → Ev (fun k => cupolalaw14_DobAlong.l0 k l from_ co true (i : Int)) true := by
  intro d
  induction d with
  | zero =>
   intro i hi h8
   obtain rfl : i = l.length := by omega
   exact last fun j hj => h8 j hj hj
  | succ d ih =>
   intro i hi h8
   have hlt : i < l.length := by omega
   have e := rd117 l i hlt
   refine Ev.step (fun k => by rw [cupolalaw14_DobAlong.l0]) ?_
   rw [e, show wrap64 ((i : Int) + 1) = ((i + 1 : Nat) : Int) from wrN i 1 (by omega)]
   refine Ev.pos (by omega) (Ev.pos (by omega) ?_)
   by_cases hx : ((l[i].f0.length : Nat) : Int) > 8
   ·exact Ev.pos hx (Ev.now _)
   ·refine Ev.neg hx (ih (i + 1) (by omega) (fun j hj hji => ?_))
    by_cases hj2 : j = i
    ·subst hj2; omega
    ·exact h8 j hj (by omega)
 exact loop l.length 0 (by omega) (fun j _ h => by omega)
end Go.Proofs.Ytbamkkdikeedoaa.Pure
