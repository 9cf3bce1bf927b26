/- It is proved that what hangs on what grows with each of the relations that it is made of: the law DobMore answers true for every input, by its plain form. -/
import Derived.Test.YtbamkkdikeedoaaGDobMore
import Derived.Test.YtbamkkdikeedoaaPlainSized
import Derived.Test.YtbamkkdikeedoaaShown14
import Derived.Test.YtbamkkdikeedoaaOpensExec

namespace Go.Proofs.Ytbamkkdikeedoaa.Pure
open Go.RowKit Go.Proofs.Ytbamkkdikeedoaa.G Go.Proofs.Ytbamkkdikeedoaa.Opens Go.Proofs.YtbamkkdikeedoaaW.PrintWords Go.Proofs.YtbamkkdikeedoaaW.PrintLast Go.Proofs.YtbamkkdikeedoaaW.PrintMore
set_option linter.unusedVariables false
theorem DobMore (l : List S26) (po addr data ctrl rmw : List Int) (regs : List (List Int)) (wev : ∀ y ∈ l, wf26 y) (wpo : ∀ y ∈ po, wfI .u32 y) (wad : ∀ y ∈ addr, wfI .u32 y) (wda : ∀ y ∈ data, wfI .u32 y) (wct : ∀ y ∈ ctrl, wfI .u32 y) (wrm : ∀ y ∈ rmw, wfI .u32 y) (from_ : List Int) (wfr : ∀ y ∈ from_, wfI .i64 y) (hfr : from_.length ≤ 9223372036854775807) (co : List Int) (wco : ∀ y ∈ co, wfI .u32 y) (hco9 : co.length ≤ 9223372036854775807) :
    ∃ k, cupolalaw14_DobMore.f k l po addr data ctrl rmw regs from_ co = some true := by
  refine Ev.rounds (g := fun k => cupolalaw14_DobMore.f k l po addr data ctrl rmw regs from_ co) ?_
  unfold cupolalaw14_DobMore.f
  refine Ev.bind shown14_ev ?_
  have out : Ev (fun k => cupolalaw14_DobMore.j0 k from_ co true true l po addr data ctrl rmw regs) true := Ev.step (fun k => by rw [cupolalaw14_DobMore.j0]) (Ev.pos rfl (Ev.now _))
  rcases sized_or l po addr data ctrl rmw regs co with h | ⟨h, hl, hco, hp, ha, hd, hc, hr⟩
  · exact Ev.bindv h (Ev.neg (by decide) out)
  refine Ev.bindv h (Ev.pos rfl ?_)
  by_cases h40 : (from_.length : Int) > 40
  · rw [decide_eq_true h40]; exact out
  rw [decide_eq_false h40]
  generalize hn : l.length = n at *
  have hn32 : n ≤ 32 := by omega
  have hz : sz (ofM n fun _ _ => false) = n := sz_ofM hn32 _
  have mz : ∀ i k, i < n → k < n → mat (ofM n fun _ _ => false) i k = false := fun i k hi hk => mat_in hn32 hi hk
  refine Ev.step (fun k => by rw [cupolalaw14_DobMore.j0]) ?_
  refine Ev.neg (by decide) (Ev.bindv rfl ?_)
  rw [hn]
  refine Ev.bindv (new_at hn32) ?_
  generalize (ofM n fun _ _ => false) = z at *
  have zz : ∀ i k, i < n → k < n → seqM n (mat z) (mat po) i k = false := fun i k hi hk => seqM_none (fun j hj => by rw [mz i j hi hj]; rfl)
  refine Ev.bind (dob_ev hn32 l regs hn hp ha hd hc hco rmw from_ hfr) (Ev.bind (dob_ev hn32 l regs hn hp ha hd hz hco rmw from_ hfr) (Ev.pos rfl (Ev.bind (dob_ev hn32 l regs hn hp hz hz hz hco rmw from_ hfr) (Ev.bind (pairs_ev _) ?_))))
  rw [sz_ofM hn32, prs_nil (fun i k hi hk => by
    rw [mat_in hn32 hi hk]
    unfold memM dobM
    have s1 : G.stM n l po z z z i k = false := by
      unfold G.stM
      rw [mz i k hi hk, zz i k hi hk, seqM_none (fun j hj => by rw [mz i j hi hj, zz i j hi hj]; simp)]
      simp
    rw [seqM_none (A := fun i j => mat z i j || mat z i j) (B := fun j k => mat co j k && innM l j k) (fun j hj => by rw [mz i j hi hj]; rfl), seqM_none (A := fun i j => mat z i j || mat z i j) (B := fun j k => rfM from_ j k && innM l j k) (fun j hj => by rw [mz i j hi hj]; rfl)]
    unfold memM
    rw [s1]
    simp)]
  have stm : ∀ i k, i < n → k < n → G.stM n l po addr data z i k = true → G.stM n l po addr data ctrl i k = true := by
    intro i k hi hk hs
    unfold G.stM at hs ⊢
    rw [mz i k hi hk] at hs
    simp only [Bool.or_eq_true, Bool.and_eq_true, Bool.false_and, Bool.false_or] at hs ⊢
    rcases hs with h1 | h1 | ⟨h1, h2⟩ | h1
    · exact .inl h1
    · exact .inr (.inl h1)
    · refine .inr (.inr (.inr (.inl ⟨seqM_mono (fun j hj h3 => ?_) (fun _ _ h3 => h3) h1, h2⟩)))
      rw [mz i j hi hj] at h3
      simp only [Bool.false_or, Bool.and_eq_true, Bool.or_eq_true] at h3 ⊢
      exact ⟨.inr h3.1, h3.2⟩
    · exact .inr (.inr (.inr (.inr h1)))
  have dm : ∀ i k, i < n → k < n → memM l (dobM n l po addr data z from_ co) i k = true → memM l (dobM n l po addr data ctrl from_ co) i k = true := by
    intro i k hi hk hs
    rw [memM_true] at hs ⊢
    refine ⟨hs.1, ?_⟩
    have hs2 := hs.2
    unfold dobM at hs2 ⊢
    simp only [Bool.or_eq_true] at hs2 ⊢
    rcases hs2 with h1 | h1 | h1
    · rw [memM_true] at h1
      exact .inl (memM_true.2 ⟨h1.1, stm i k hi hk h1.2⟩)
    · refine .inr (.inl (seqM_mono (fun j hj h3 => ?_) (fun _ _ h3 => h3) h1))
      rw [mz i j hi hj] at h3
      simp only [Bool.false_or, Bool.or_eq_true] at h3 ⊢
      exact .inr h3
    · exact .inr (.inr h1)
  refine Ev.pos rfl (Ev.bindv (and_at (sz_ofM hn32 _) (sz_ofM hn32 _)) (Ev.bind (same_ev _ _) (Ev.pos ?_ ?_)))
  · refine same_of (sz_ofM hn32 _) (sz_ofM hn32 _) fun i k hi hk => ?_
    rw [mat_in hn32 hi hk, mat_in hn32 hi hk, mat_in hn32 hi hk]
    exact and_of_imp (dm i k hi hk)
  · refine Ev.bind (memory_ev hn32 l po addr data ctrl rmw regs (sz_ofM hn32 _)) (Ev.bind (same_ev _ _) (Ev.pos ?_ ?_))
    · refine same_of (sz_ofM hn32 _) (sz_ofM hn32 _) fun i k hi hk => ?_
      rw [mat_in hn32 hi hk]
      unfold memM
      rw [mat_in hn32 hi hk]
      cases evp (isK [1, 2]) l i <;> cases evp (isK [1, 2]) l k <;> simp
    · refine Ev.bind (static_ev hn32 l regs hn hp ha hd hc rmw) (Ev.bindv (and_at (sz_ofM hn32 _) (sz_ofM hn32 _)) (Ev.bind (static_ev hn32 l regs hn hp ha hd hc rmw) (Ev.bind (same_ev _ _) ?_)))
      refine Ev.ofEq (congrArg some (same_of (sz_ofM hn32 _) (sz_ofM hn32 _) fun i k hi hk => ?_))
      rw [mat_in hn32 hi hk, mat_in hn32 hi hk, mat_in hn32 hi hk]
      refine and_of_imp (fun h1 => ?_)
      refine memM_true.2 ⟨(memM_true.1 h1).1, ?_⟩
      unfold dobM
      rw [h1]
      rfl
end Go.Proofs.Ytbamkkdikeedoaa.Pure
