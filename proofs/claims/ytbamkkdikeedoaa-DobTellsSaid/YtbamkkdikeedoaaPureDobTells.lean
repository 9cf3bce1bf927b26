/- It is proved that what hangs on what, with what is read, and without, are the document's: the law DobTells answers true for every input, by its plain form. -/
import Derived.Test.YtbamkkdikeedoaaGDobTells
import Derived.Test.YtbamkkdikeedoaaPlainSized
import Derived.Test.YtbamkkdikeedoaaShown14
import Derived.Test.YtbamkkdikeedoaaOpensExec
import Derived.Test.YtbamkkdikeedoaaPlainRef14
namespace Go.Proofs.Ytbamkkdikeedoaa.Pure
open Go.RowKit Go.Proofs.Ytbamkkdikeedoaa.G Go.Proofs.Ytbamkkdikeedoaa.Opens Go.Proofs.YtbamkkdikeedoaaW.PrintWords Go.Proofs.YtbamkkdikeedoaaW.PrintLast Go.Proofs.YtbamkkdikeedoaaW.PrintMore
set_option linter.unusedVariables false
theorem DobTells (l : List S26) (po addr data ctrl rmw : List Int) (regs : List (List Int)) (wev : ∀ y ∈ l, wf26 y) (wpo : ∀ y ∈ po, wfI .u32 y) (wad : ∀ y ∈ addr, wfI .u32 y) (wda : ∀ y ∈ data, wfI .u32 y) (wct : ∀ y ∈ ctrl, wfI .u32 y) (wrm : ∀ y ∈ rmw, wfI .u32 y) (from_ : List Int) (wfr : ∀ y ∈ from_, wfI .i64 y) (hfr : from_.length ≤ 9223372036854775807) (co : List Int) (wco : ∀ y ∈ co, wfI .u32 y) (hco9 : co.length ≤ 9223372036854775807) :
    ∃ k, cupolalaw14_DobTells.f k l po addr data ctrl rmw regs from_ co = some true := by
  refine Ev.rounds (g := fun k => cupolalaw14_DobTells.f k l po addr data ctrl rmw regs from_ co) ?_
  have up := fun x hx => wf_u32 (wpo x hx)
  have ua := fun x hx => wf_u32 (wad x hx)
  have ud := fun x hx => wf_u32 (wda x hx)
  have uc := fun x hx => wf_u32 (wct x hx)
  have uo := fun x hx => wf_u32 (wco x hx)
  unfold cupolalaw14_DobTells.f
  refine Ev.bind shown14_ev ?_
  have out : Ev (fun k => cupolalaw14_DobTells.j0 k from_ co true true l po addr data ctrl rmw regs) true := Ev.step (fun k => by rw [cupolalaw14_DobTells.j0]) (Ev.pos rfl (Ev.now _))
  rcases sized_or l po addr data ctrl rmw regs co with h | ⟨h, hl, hco, hp, ha, hd, hc, hr⟩
  · exact Ev.bindv h (Ev.neg (by decide) out)
  refine Ev.bindv h (Ev.pos rfl ?_)
  by_cases h40 : (from_.length : Int) > 40
  · rw [decide_eq_true h40]; exact out
  rw [decide_eq_false h40]
  have hn32 : l.length ≤ 32 := by omega
  refine Ev.step (fun k => by rw [cupolalaw14_DobTells.j0]) ?_
  refine Ev.neg (by decide) (Ev.bindv rfl (Ev.pos rfl ?_))
  refine Ev.bind (dob_ev hn32 l regs rfl hp ha hd hc hco rmw from_ hfr) (Ev.bind (rdob_ev l hn32 regs up ua ud uc uo ha hd hc hco from_ hfr) (Ev.bind (rsame_ev (ofM_u32 _ _) (ofM_u32 _ _)) (Ev.pos (same_self _) ?_)))
  refine Ev.bind (static_ev hn32 l regs rfl hp ha hd hc rmw) (Ev.bind (rstatic_ev l hn32 regs up ua ud uc) (Ev.bind (rsame_ev (ofM_u32 _ _) (ofM_u32 _ _)) (Ev.pos (same_self _) ?_)))
  refine Ev.bind (memory_ev hn32 l po addr data ctrl rmw regs hco) (Ev.bind (rmemory_ev l hn32 po addr data ctrl rmw regs uo hco) (Ev.bind (rsame_ev (ofM_u32 _ _) (ofM_u32 _ _)) (Ev.pos (same_self _) ?_)))
  refine Ev.bindv (coi_at hn32 l po addr data ctrl rmw regs rfl hco) (Ev.bind (rcoi_ev l hn32 po addr data ctrl rmw regs uo hco) (Ev.bind (rsame_ev (ofM_u32 _ _) (ofM_u32 _ _)) (Ev.pos (same_self _) ?_)))
  refine Ev.bind (rfi_ev hn32 l po addr data ctrl rmw regs rfl from_ hfr) (Ev.bind (rrfi_ev l hn32 po addr data ctrl rmw regs from_ hfr) (Ev.bind (rsame_ev (ofM_u32 _ _) (ofM_u32 _ _)) ?_))
  exact Ev.ofEq (congrArg some (same_self _))
end Go.Proofs.Ytbamkkdikeedoaa.Pure
