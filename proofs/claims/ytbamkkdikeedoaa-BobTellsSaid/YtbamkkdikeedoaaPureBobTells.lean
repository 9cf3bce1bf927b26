/- It is proved that what is kept in order by barriers, by loads and stores, by exclusive ones, and all together, are the document's: the law BobTells answers true for every input, by its plain form. -/
import Derived.Test.YtbamkkdikeedoaaGBobTells
import Derived.Test.YtbamkkdikeedoaaPlainSized
import Derived.Test.YtbamkkdikeedoaaShown15
import Derived.Test.YtbamkkdikeedoaaOpensExec
import Derived.Test.YtbamkkdikeedoaaPlainRef15b
namespace Go.Proofs.Ytbamkkdikeedoaa.Pure
open Go.RowKit Go.Proofs.Ytbamkkdikeedoaa.G Go.Proofs.Ytbamkkdikeedoaa.Opens Go.Proofs.YtbamkkdikeedoaaW.PrintWords Go.Proofs.YtbamkkdikeedoaaW.PrintLast Go.Proofs.YtbamkkdikeedoaaW.PrintMore
set_option linter.unusedVariables false
theorem BobTells (l : List S26) (po addr data ctrl rmw : List Int) (regs : List (List Int)) (wev : ∀ y ∈ l, wf26 y) (wpo : ∀ y ∈ po, wfI .u32 y) (wad : ∀ y ∈ addr, wfI .u32 y) (wda : ∀ y ∈ data, wfI .u32 y) (wct : ∀ y ∈ ctrl, wfI .u32 y) (wrm : ∀ y ∈ rmw, wfI .u32 y) (from_ : List Int) (wfr : ∀ y ∈ from_, wfI .i64 y) (hfr : from_.length ≤ 9223372036854775807) (co : List Int) (wco : ∀ y ∈ co, wfI .u32 y) (hco9 : co.length ≤ 9223372036854775807) :
  ∃ k, cupolalaw15_BobTells.f k l po addr data ctrl rmw regs from_ co = some true := by
 refine Ev.rounds (g := fun k => cupolalaw15_BobTells.f k l po addr data ctrl rmw regs from_ co) ?_
 have up := fun x hx => wf_u32 (wpo x hx)
 have ur := fun x hx => wf_u32 (wrm x hx)
 have uo := fun x hx => wf_u32 (wco x hx)
 unfold cupolalaw15_BobTells.f
 refine Ev.bind shown15_ev ?_
 have out : Ev (fun k => cupolalaw15_BobTells.j0 k from_ co true true l po addr data ctrl rmw regs) true := Ev.step (fun k => by rw [cupolalaw15_BobTells.j0]) (Ev.pos rfl (Ev.now _))
 rcases sized_or l po addr data ctrl rmw regs co with h | ⟨h, hl, hco, hp, ha, hd, hc, hr⟩
 ·exact Ev.bindv h (Ev.neg (by decide) out)
 refine Ev.bindv h (Ev.pos rfl ?_)
 by_cases h40 : (from_.length : Int) > 40
 ·rw [decide_eq_true h40]; exact out
 rw [decide_eq_false h40]
 have hn32 : l.length ≤ 32 := by omega
 refine Ev.step (fun k => by rw [cupolalaw15_BobTells.j0]) ?_
 refine Ev.neg (by decide) (Ev.bindv rfl (Ev.pos rfl ?_))
 refine Ev.bind (fences_ev hn32 l addr data ctrl rmw regs rfl hp) (Ev.bind (rfences_ev l hn32 addr data ctrl rmw regs up) (Ev.bind (rsame_ev (ofM_u32 _ _) (ofM_u32 _ _)) (Ev.pos (same_self _) ?_)))
 refine Ev.bind (orders_ev hn32 l addr data ctrl rmw regs rfl hp) (Ev.bind (rorders_ev l hn32 addr data ctrl rmw regs up) (Ev.bind (rsame_ev (ofM_u32 _ _) (ofM_u32 _ _)) (Ev.pos (same_self _) ?_)))
 refine Ev.bind (bob_ev hn32 l addr data ctrl rmw regs rfl hp hco) (Ev.bind (rbob_ev l hn32 addr data ctrl rmw regs up uo hco) (Ev.bind (rsame_ev (ofM_u32 _ _) (ofM_u32 _ _)) (Ev.pos (same_self _) ?_)))
 refine Ev.bind (aob_ev hn32 l regs rfl (po := po) (addr := addr) (data := data) (ctrl := ctrl) hr from_ hfr) (Ev.bind (raob_ev l hn32 regs (po := po) (addr := addr) (data := data) (ctrl := ctrl) ur hr from_ hfr) (Ev.bind (rsame_ev (ofM_u32 _ _) (ofM_u32 _ _)) ?_))
 exact Ev.ofEq (congrArg some (same_self _))
end Go.Proofs.Ytbamkkdikeedoaa.Pure
