/- It is proved that with nobody reading of its own thread, and no writes one behind the other, just what hangs whatever is read is left: the law DobRead of layer 14 answers true for every input, by its plain form. -/
import Derived.Test.YtbamkkdikeedoaaGDobRead
import Derived.Test.YtbamkkdikeedoaaPlainSized
import Derived.Test.YtbamkkdikeedoaaShown14
import Derived.Test.YtbamkkdikeedoaaOpensExec
namespace Go.Proofs.Ytbamkkdikeedoaa.Pure
open Go.RowKit Go.Proofs.Ytbamkkdikeedoaa.G Go.Proofs.Ytbamkkdikeedoaa.Opens Go.Proofs.YtbamkkdikeedoaaW.PrintWords Go.Proofs.YtbamkkdikeedoaaW.PrintLast Go.Proofs.YtbamkkdikeedoaaW.PrintMore
set_option linter.unusedVariables false
theorem DobRead (l : List S26) (po addr data ctrl rmw : List Int) (regs : List (List Int)) (_ : ∀ y ∈ l, wf26 y) (wpo : ∀ y ∈ po, wfI .u32 y) (wad : ∀ y ∈ addr, wfI .u32 y) (wda : ∀ y ∈ data, wfI .u32 y) (wct : ∀ y ∈ ctrl, wfI .u32 y) (wrm : ∀ y ∈ rmw, wfI .u32 y) :
    ∃ k, cupolalaw14_DobRead.f k l po addr data ctrl rmw regs = some true := by
  refine Ev.rounds (g := fun k => cupolalaw14_DobRead.f k l po addr data ctrl rmw regs) ?_
  unfold cupolalaw14_DobRead.f
  refine Ev.bind shown14_ev ?_
  rcases sized_or l po addr data ctrl rmw regs po with h | ⟨h, hl, _, hp, ha, hd, hc, hr⟩
  · exact Ev.bindv h (Ev.neg (by decide) (Ev.now _))
  generalize hn : l.length = n at *
  have hn32 : n ≤ 32 := by omega
  have hz : sz (ofM n fun _ _ => false) = n := sz_ofM hn32 _
  have hin : ∀ i k, i < n → k < n → (mat (ofM n fun _ _ => false) i k && innM l i k) = false := fun i k hi hk => by rw [mat_in hn32 hi hk]; rfl
  refine Ev.bindv h (Ev.pos rfl (Ev.bindv rfl ?_))
  refine Ev.bindv (new_at hn32) (Ev.pos rfl ?_)
  refine Ev.bind (dob_ev hn32 l regs hn hp ha hd hc hz rmw [] (by simp)) (Ev.bind (static_ev hn32 l regs hn hp ha hd hc rmw) (Ev.bind (same_ev _ _) (Ev.pos ?_ ?_)))
  · refine same_of (sz_ofM hn32 _) (sz_ofM hn32 _) fun i k hi hk => ?_
    rw [mat_in hn32 hi hk, mat_in hn32 hi hk]
    unfold memM dobM
    rw [seqM_none (A := fun i j => mat ctrl i j || mat data i j) (fun j hj => by rw [hin j k hj hk, Bool.and_false]), seqM_none (A := fun i j => mat addr i j || mat data i j) (fun j hj => by unfold rfM; simp)]
    unfold memM
    cases evp (isK [1, 2]) l i <;> cases evp (isK [1, 2]) l k <;> simp
  · refine Ev.bindv (coi_at hn32 l po addr data ctrl rmw regs hn hz) (Ev.bind (pairs_ev _) ?_)
    rw [sz_ofM hn32, prs_nil (fun i k hi hk => by rw [mat_in hn32 hi hk]; exact hin i k hi hk)]
    refine Ev.pos rfl (Ev.bind (rfi_ev hn32 l po addr data ctrl rmw regs hn [] (by simp)) (Ev.bind (pairs_ev _) ?_))
    rw [sz_ofM hn32, prs_nil (fun i k hi hk => by rw [mat_in hn32 hi hk]; unfold rfM; simp)]
    exact Ev.now _
end Go.Proofs.Ytbamkkdikeedoaa.Pure
