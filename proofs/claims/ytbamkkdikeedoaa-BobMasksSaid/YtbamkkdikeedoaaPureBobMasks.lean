/- It is proved that acquires are reads, releases writes, that say so; without both orders are nothing; an exclusive store's load is kept ahead of it: the law BobMasks answers true for every input, by its plain form. -/
import Derived.Test.YtbamkkdikeedoaaGBobMasks
import Derived.Test.YtbamkkdikeedoaaPlainSized
import Derived.Test.YtbamkkdikeedoaaShown15
import Derived.Test.YtbamkkdikeedoaaOpensExec
import Derived.Test.YtbamkkdikeedoaaPlainBob
namespace Go.Proofs.Ytbamkkdikeedoaa.Pure
open Go.RowKit Go.Proofs.Ytbamkkdikeedoaa.G Go.Proofs.Ytbamkkdikeedoaa.Opens Go.Proofs.YtbamkkdikeedoaaW.PrintWords Go.Proofs.YtbamkkdikeedoaaW.PrintLast Go.Proofs.YtbamkkdikeedoaaW.PrintMore
set_option linter.unusedVariables false
theorem rdAt3 (l : List S26) (i : Nat) (h : i < l.length) : rd_T26 l (i : Int) = l[i] := by simp [rd_T26, List.getD_eq_getElem?_getD, List.getElem?_eq_getElem h]
theorem BobMasks (l : List S26) (po addr data ctrl rmw : List Int) (regs : List (List Int)) (wev : ∀ y ∈ l, wf26 y) (wpo : ∀ y ∈ po, wfI .u32 y) (wad : ∀ y ∈ addr, wfI .u32 y) (wda : ∀ y ∈ data, wfI .u32 y) (wct : ∀ y ∈ ctrl, wfI .u32 y) (wrm : ∀ y ∈ rmw, wfI .u32 y) (from_ : List Int) (wfr : ∀ y ∈ from_, wfI .i64 y) (hfr : from_.length ≤ 9223372036854775807) (co : List Int) (wco : ∀ y ∈ co, wfI .u32 y) (hco9 : co.length ≤ 9223372036854775807) :
    ∃ k, cupolalaw15_BobMasks.f k l po addr data ctrl rmw regs from_ co = some true := by
  refine Ev.rounds (g := fun k => cupolalaw15_BobMasks.f k l po addr data ctrl rmw regs from_ co) ?_
  unfold cupolalaw15_BobMasks.f
  refine Ev.bind shown15_ev ?_
  have out : Ev (fun k => cupolalaw15_BobMasks.j0 k from_ true true l po addr data ctrl rmw regs) true := Ev.step (fun k => by rw [cupolalaw15_BobMasks.j0]) (Ev.pos rfl (Ev.now _))
  rcases sized_or l po addr data ctrl rmw regs co with h | ⟨h, hl, hco, hp, ha, hd, hc, hr⟩
  · exact Ev.bindv h (Ev.neg (by decide) out)
  refine Ev.bindv h (Ev.pos rfl ?_)
  by_cases h40 : (from_.length : Int) > 40
  · rw [decide_eq_true h40]; exact out
  rw [decide_eq_false h40]
  have hn32 : l.length ≤ 32 := by omega
  refine Ev.step (fun k => by rw [cupolalaw15_BobMasks.j0]) ?_
  refine Ev.neg (by decide) (Ev.bindv rfl (Ev.bindv rfl (Ev.bindv rfl ?_)))
  have last : Ev (fun k => (bob_Aob.f k l po addr data ctrl rmw regs from_).bind fun t125 => ((rel_And.f t125 (ofM l.length (memM l (mat rmw)))).bind fun t128 => ((rel_Same.f k t128 (ofM l.length (memM l (mat rmw)))).bind fun t131 => (some t131)))) true := by
    refine Ev.bind (aob_ev hn32 l regs rfl (po := po) (addr := addr) (data := data) (ctrl := ctrl) hr from_ hfr) (Ev.bindv (and_at (sz_ofM hn32 _) (sz_ofM hn32 _)) (Ev.bind (same_ev _ _) ?_))
    refine Ev.ofEq (congrArg some (same_of (sz_ofM hn32 _) (sz_ofM hn32 _) fun i k hi hk => ?_))
    rw [mat_in hn32 hi hk, mat_in hn32 hi hk, mat_in hn32 hi hk]
    refine and_of_imp (fun h1 => ?_)
    have h2 := memM_true.1 h1
    refine memM_true.2 ⟨h2.1, ?_⟩
    unfold aobM
    rw [h2.2]; rfl
  have loop : ∀ d i : Nat, i + d = l.length → Ev (fun k => cupolalaw15_BobMasks.l0 k from_ true (maskW isAcq l) (maskW isRel l) (i : Int) l po addr data ctrl rmw regs l po addr data ctrl rmw regs) true := by
    intro d
    induction d with
    | zero =>
      intro i hi
      refine Ev.step (fun k => by rw [cupolalaw15_BobMasks.l0]) ?_
      refine Ev.neg (by omega) (Ev.bind (memory_ev hn32 l po addr data ctrl rmw regs hr) (Ev.pos rfl ?_))
      by_cases h0 : Go.bits .or .u32 (maskW isAcq l) (maskW isRel l) = 0
      · have no : ∀ j, j < l.length → evp isAcq l j = false ∧ evp isRel l j = false := by
          intro j hj
          have h1 : tb (Go.bits .or .u32 (maskW isAcq l) (maskW isRel l)) j = false := by rw [h0, tb_zero]
          rw [tb_or, tb_maskW _ _ (by omega), tb_maskW _ _ (by omega)] at h1
          simpa using h1
        refine Ev.pos h0 (Ev.bind (orders_ev hn32 l addr data ctrl rmw regs rfl hp) (Ev.bind (pairs_ev _) ?_))
        rw [sz_ofM hn32, prs_nil (fun i k hi hk => by
          rw [mat_in hn32 hi hk]
          unfold memM ordM
          rw [(no i hi).1, (no i hi).2, (no k hk).2]
          simp)]
        exact Ev.pos rfl last
      · exact Ev.neg h0 last
    | succ d ih =>
      intro i hi
      have hlt : i < l.length := by omega
      have hnext := ih (i + 1) (by omega)
      refine Ev.step (fun k => by rw [cupolalaw15_BobMasks.l0]) ?_
      rw [rdAt3 l i hlt, wrap_u64_nat i (by omega), wrap64_succ i (by omega), shr_and_one (maskW_u32 _ _), shr_and_one (maskW_u32 _ _), one_eq, one_eq, tb_maskW _ _ (by omega), tb_maskW _ _ (by omega)]
      have ea : evp isAcq l i = (decide (l[i].f1 = 1) && l[i].f4) := by unfold evp; rw [List.getElem?_eq_getElem hlt]; rfl
      have er : evp isRel l i = (decide (l[i].f1 = 2) && l[i].f5) := by unfold evp; rw [List.getElem?_eq_getElem hlt]; rfl
      rw [ea, er]
      refine Ev.pos (by omega) (Ev.pos (by omega) (Ev.pos (by omega) ?_))
      by_cases h1 : l[i].f1 = 1
      · refine Ev.pos h1 (Ev.neg (by simp [h1]) ?_)
        exact Ev.neg (by omega) (Ev.neg (by simp [h1]) hnext)
      · refine Ev.neg h1 (Ev.neg (by simp [h1]) ?_)
        by_cases h2 : l[i].f1 = 2
        · exact Ev.pos h2 (Ev.neg (by simp [h2]) hnext)
        · exact Ev.neg h2 (Ev.neg (by simp [h2]) hnext)
  exact loop l.length 0 (by omega)
end Go.Proofs.Ytbamkkdikeedoaa.Pure
