-- Written by drive.py, a program of this seat's session, out of the translation.
import Derived.Test.YtbamkkdikeedoaaRows
import Derived.Test.YtbamkkdikeedoaaHead
import Derived.Test.YtbamkkdikeedoaaGOrderOf
import Derived.Test.YtbamkkdikeedoaaPureOrderOf
import Derived.WalkKit
import Derived.ProofKit
import Derived.OpenShut
import Derived.ShutString
import Derived.ChangeOld
import Derived.Below
import Derived.SizedLaws
namespace Go.Proofs.Ytbamkkdikeedoaa.orderOf
open Go.ChangeShapes Go.WideShapes Go.ChangeAt Go.RowKit
open Go.ChangeMaps (open_string shut_string)
set_option linter.unusedVariables false
theorem own : ownKnob Try.prog.godebug = none := by kernel_rfl
set_option maxRecDepth 100000 in
theorem lifted (os : Os) (started : os.Started) (H : Type) (enc : TypeId × Value → H) :
    ReturnsInHanded {} Try.checked os 29 .any (Rows.orderOfSpec.pre6 enc Try.prog Try.f29 Rows.orderOfRow.domain false) (Rows.orderOfSpec.post enc Try.prog Try.f29 false true false false) := by
  refine returnsInHanded_of_change_sized (C := Try.checked) own started (by kernel_rfl) Try.func29
    (ChangeSpec.witness6 (enc := enc) (C := Try.checked) false ⟨#[], #[.int .u8 0, .int .u16 0, .int .u32 0], []⟩ 8 (by kernel_rfl) (by kernel_rfl) (by kernel_rfl) (by kernel_rfl)) ?_
  intro W base args ds gs before hval0 hW hcnd hsz0 _
  have hsz : (DataW.weightsEach Try.prog (Try.f29.params.toList ++ Rows.orderOfSpec.plain.varTypes Try.prog) (ds ++ gs)).all (· ≤ reachBytes) = true := hsz0
  have hval : ∀ (j : Nat) t v, Try.f29.params[j]? = some t → args[j]? = some v → Value.okWide Try.prog W .any base t v := hval0
  have hW' := hW
  obtain ⟨p, q, hA0, hV, rfl, hfz, hnd⟩ := hW
  have hA : DataW.TrodAll enc Try.prog W 0 (fun _ => true) true Try.f29.params.toList args.toList ds p := hA0
  rw [Try.params29] at hA hval hsz
  obtain ⟨v0, vs0, d0, ds0, p0, q0, hargs, rfl, rfl, h0, r0⟩ := trodAll_cons hA
  obtain ⟨v1, vs1, d1, ds1, p1, q1, rfl, rfl, rfl, h1, r1⟩ := trodAll_cons r0
  obtain ⟨v2, vs2, d2, ds2, p2, q2, rfl, rfl, rfl, h2, r2⟩ := trodAll_cons r1
  obtain ⟨rfl, rfl, rfl⟩ := trodAll_nil r2
  obtain rfl : args = #[v0, v1, v2] := by cases args; simp_all
  obtain ⟨rfl, rfl⟩ := trodVars_none hV
  obtain ⟨a0, rfl, rfl, rfl, w0⟩ := open_int Try.underlying5 (hval 0 5 v0 rfl rfl) h0
  obtain ⟨a1, rfl, rfl, rfl, w1⟩ := open_int Try.underlying69 (hval 1 69 v1 rfl rfl) h1
  obtain ⟨a2, rfl, rfl, rfl, w2⟩ := open_int Try.underlying52 (hval 2 52 v2 rfl rfl) h2
  clear hA0 hval0 hsz0 hsz
  refine (G.cupolalaw06_OrderOf.walk Pure.OrderOf a0 a1 a2 W w0 w1 w2).mono fun e W' ⟨he, bel⟩ => ?_
  subst he
  exact ⟨_, rfl, _, _, _, [], _, [], hW', trodAll_mk1 (shut_bool Try.underlying4 _), (trodAll_cons_mk (shut_int Try.underlying5 w0) (trodAll_cons_mk (shut_int Try.underlying69 w1) (trodAll_cons_mk (shut_int Try.underlying52 w2) trodAll_mk0))), rfl, bel.frame _, fun h => by cases h⟩
theorem closed : ∀ P, P = Try.prog → joinedFacts P 29 Try.f29 Rows.orderOfSpec Rows.orderOfRow = true := by
  intro P hP
  unfold joinedFacts
  repeat' (with_reducible refine Head.and_t ?_ ?_)
  all_goals (subst hP; first | (with_reducible exact Head.may) | (rw [Head.fin]; rfl) | (rw [Head.make]; rfl) | (as_aux_lemma => kernel_rfl))
theorem over : Rows.orderOfRow.holds Try.pinned (OpenSpec.ofChange Rows.orderOfSpec) :=
  OpenClaim.holds_of_wide 29 Try.f29 rfl rfl rfl rfl rfl rfl rfl ⟨rfl, rfl, rfl, rfl, rfl⟩ rfl rfl rfl rfl rfl (by kernel_rfl) Try.func29 (closed _ rfl)
    (of_decide_eq_true (by kernel_rfl)) (by unfold Func.isWrapper; first | (rw [if_pos (by decide +kernel)]; kernel_rfl) | (rw [if_neg (by decide +kernel)]; exact ⟨rfl, rfl⟩))
    (fun os started H enc _ => lifted os started H enc)
theorem proved : Rows.OrderOfSaid := over
#print axioms proved
end Go.Proofs.Ytbamkkdikeedoaa.orderOf
namespace Go.Proofs.Ytbamkkdikeedoaa
/-- The row, under a short name, for the claim. -/
theorem orderOf_holds : Rows.OrderOfSaid := orderOf.proved
end Go.Proofs.Ytbamkkdikeedoaa
