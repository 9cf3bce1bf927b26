/- Plain: relations of as many things as there are events. -/
import Derived.Test.YtbamkkdikeedoaaPlainDob
import Derived.Test.YtbamkkdikeedoaaGCupolaref14
namespace Go.Proofs.Ytbamkkdikeedoaa.G
open Go.RowKit Go.Proofs.YtbamkkdikeedoaaW.PrintWords Go.Proofs.YtbamkkdikeedoaaW.PrintLast Go.Proofs.YtbamkkdikeedoaaW.PrintMore
theorem sized_or (l : List S26) (po addr data ctrl rmw : List Int) (regs : List (List Int)) (co : List Int) : cupolaref14_Sized.f l po addr data ctrl rmw regs co = some false ∨
  (cupolaref14_Sized.f l po addr data ctrl rmw regs co = some true ∧ l.length ≤ 24 ∧ sz co = l.length ∧ sz po = l.length ∧ sz addr = l.length ∧ sz data = l.length ∧ sz ctrl = l.length ∧ sz rmw = l.length) := by
 unfold cupolaref14_Sized.f
 by_cases h0 : (l.length : Int) ≤ 24
 ·rw [if_pos h0]
  by_cases h1 : (co.length : Int) = (l.length : Int)
  ·rw [if_pos h1]
   by_cases h2 : (po.length : Int) = (l.length : Int)
   ·rw [if_pos h2]
    by_cases h3 : (addr.length : Int) = (l.length : Int)
    ·rw [if_pos h3]
     by_cases h4 : (data.length : Int) = (l.length : Int)
     ·rw [if_pos h4]
      by_cases h5 : (ctrl.length : Int) = (l.length : Int)
      ·rw [if_pos h5]
       by_cases h6 : (rmw.length : Int) = (l.length : Int)
       ·refine .inr ⟨by rw [beq_iff_eq.mpr h6], by omega, ?_, ?_, ?_, ?_, ?_, ?_⟩ <;> (rw [sz_full (by omega)]; omega)
       ·exact .inl (by rw [beq_eq_false_iff_ne.mpr h6])
      ·exact .inl (if_neg h5)
     ·exact .inl (if_neg h4)
    ·exact .inl (if_neg h3)
   ·exact .inl (if_neg h2)
  ·exact .inl (if_neg h1)
 ·exact .inl (if_neg h0)
theorem memM_true {l : List S26} {M : Nat → Nat → Bool} {i k : Nat} : memM l M i k = true ↔ (evp (isK [1, 2]) l i = true ∧ evp (isK [1, 2]) l k = true) ∧ M i k = true := by unfold memM; simp
end Go.Proofs.Ytbamkkdikeedoaa.G
