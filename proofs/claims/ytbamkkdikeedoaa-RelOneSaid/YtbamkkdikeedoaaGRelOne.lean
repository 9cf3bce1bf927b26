-- Written by drive.py, a program of this seat's session, out of the translation.
import Derived.Test.YtbamkkdikeedoaaG0
import Derived.Test.YtbamkkdikeedoaaGCupolalaw05
import Derived.Test.YtbamkkdikeedoaaGCupolaref05
import Derived.Test.YtbamkkdikeedoaaGRel
namespace Go.Proofs.Ytbamkkdikeedoaa.G
open Go.RowKit Go.Proofs.YtbamkkdikeedoaaW.PrintWords Go.Proofs.YtbamkkdikeedoaaW.PrintLast Go.Proofs.YtbamkkdikeedoaaW.PrintMore
attribute [local go_sem] max2_int min2_int max_two min_two max_three min_three max_four min_four   -- for this text's walks alone
set_option linter.unusedVariables false
set_option linter.unusedSimpArgs false

/-! ### cupolalaw05_RelOne: function 8 -/
mutual
def cupolalaw05_RelOne.j0 : Nat → List Int → Int → Int → Int → Int → Bool → List Int → Bool → Option (Bool)
  | 0, _, _, _, _, _, _, _, _ => none
  | k + 1, x0, x1, x2, x3, x4, x11, x12, x13 => (rel_Put.f k x12 x1 x2).bind fun t119 => ((cupolaref05_Put.f k x0 x1 x2).bind fun t122 => ((cupolaref05_Same.f k t119 t122).bind fun t125 => (if t125 = true then ((rel_Inv.f k x12).bind fun t126 => ((cupolaref05_Inv.f k x0).bind fun t129 => ((cupolaref05_Same.f k t126 t129).bind fun t132 => (if t132 = true then ((rel_Plus.f k x12).bind fun t133 => ((cupolaref05_Plus.f k x0).bind fun t136 => ((cupolaref05_Same.f k t133 t136).bind fun t139 => (cupolalaw05_RelOne.j1 k x0 x1 x3 x4 x11 x12 x13 t139)))) else (cupolalaw05_RelOne.j1 k x0 x1 x3 x4 x11 x12 x13 false))))) else (cupolalaw05_RelOne.j1 k x0 x1 x3 x4 x11 x12 x13 false))))
def cupolalaw05_RelOne.j1 : Nat → List Int → Int → Int → Int → Bool → List Int → Bool → Bool → Option (Bool)
  | 0, _, _, _, _, _, _, _, _ => none
  | k + 1, x0, x1, x3, x4, x11, x12, x13, x14 => (rel_Only.f k x12 x3 x4).bind fun t140 => ((cupolaref05_Only.f k x0 x3 x4).bind fun t143 => ((cupolaref05_Same.f k t140 t143).bind fun t146 => (if t146 = true then ((rel_Cross.f k x1 x3 x4).bind fun t147 => ((cupolaref05_Cross.f k x1 x3 x4).bind fun t150 => ((cupolaref05_Same.f k t147 t150).bind fun t153 => (cupolalaw05_RelOne.j2 k x0 x11 x12 x13 x14 t153)))) else (cupolalaw05_RelOne.j2 k x0 x11 x12 x13 x14 false))))
def cupolalaw05_RelOne.j2 : Nat → List Int → Bool → List Int → Bool → Bool → Bool → Option (Bool)
  | 0, _, _, _, _, _, _ => none
  | k + 1, x0, x11, x12, x13, x14, x15 => cupolalaw05_RelOne.l0 k x0 x11 x12 x13 x14 x15 0
def cupolalaw05_RelOne.l0 : Nat → List Int → Bool → List Int → Bool → Bool → Bool → Int → Option (Bool)
  | 0, _, _, _, _, _, _, _ => none
  | k + 1, x0, x11, x12, x13, x14, x15, x16 => if x16 < (x0.length : Int) then (if 0 ≤ x16 then (if x16 < (x12.length : Int) then (if (rd x12 x16) = (rd x0 x16) then (cupolalaw05_RelOne.l0 k x0 x11 x12 x13 x14 x15 (wrap64 (x16 + 1))) else (some false)) else (none)) else (none)) else (if x11 = true then (if x13 = true then (if x14 = true then (some x15) else (some false)) else (some false)) else (some false))
end
def cupolalaw05_RelOne.f (k : Nat) (l0 : List Int) (a1 : Int) (a2 : Int) (a3 : Int) (a4 : Int) : Option (Bool) := (cupolalaw05_shown.f k).bind fun t101 => (if (l0.length : Int) > 100 then (some t101) else ((some (([] : List Int) : List Int)).bind fun y102 => (if y102.length + l0.length < 35184372088832 then ((some (y102 ++ l0 : List Int)).bind fun y105 => ((rel_Has.f y105 a1 a2).bind fun t108 => ((cupolaref05_Has.f k l0 a1 a2).bind fun t109 => (if (t108 == t109) = true then ((rel_Acyclic.f k y105).bind fun t110 => ((cupolaref05_Acyclic.f k l0).bind fun t111 => (if (t110 == t111) = true then ((rel_Pairs.f k y105).bind fun t112 => ((cupolaref05_Pairs.f k l0).bind fun t115 => ((cupolalaw05_pairs.f k t112 t115).bind fun t118 => (cupolalaw05_RelOne.j0 k l0 a1 a2 a3 a4 t101 y105 t118)))) else (cupolalaw05_RelOne.j0 k l0 a1 a2 a3 a4 t101 y105 false)))) else (cupolalaw05_RelOne.j0 k l0 a1 a2 a3 a4 t101 y105 false))))) else (none))))
theorem cupolalaw05_RelOne.mono_l : ∀ k, (∀ y0 y1 y2 y3 y4 y5 y6 y7, LeO (cupolalaw05_RelOne.j0 k y0 y1 y2 y3 y4 y5 y6 y7) (cupolalaw05_RelOne.j0 (k + 1) y0 y1 y2 y3 y4 y5 y6 y7)) ∧ (∀ y0 y1 y2 y3 y4 y5 y6 y7, LeO (cupolalaw05_RelOne.j1 k y0 y1 y2 y3 y4 y5 y6 y7) (cupolalaw05_RelOne.j1 (k + 1) y0 y1 y2 y3 y4 y5 y6 y7)) ∧ (∀ y0 y1 y2 y3 y4 y5, LeO (cupolalaw05_RelOne.j2 k y0 y1 y2 y3 y4 y5) (cupolalaw05_RelOne.j2 (k + 1) y0 y1 y2 y3 y4 y5)) ∧ (∀ y0 y1 y2 y3 y4 y5 y6, LeO (cupolalaw05_RelOne.l0 k y0 y1 y2 y3 y4 y5 y6) (cupolalaw05_RelOne.l0 (k + 1) y0 y1 y2 y3 y4 y5 y6))
  | 0 => ⟨fun _ _ _ _ _ _ _ _ r h => by simp [cupolalaw05_RelOne.j0] at h, fun _ _ _ _ _ _ _ _ r h => by simp [cupolalaw05_RelOne.j1] at h, fun _ _ _ _ _ _ r h => by simp [cupolalaw05_RelOne.j2] at h, fun _ _ _ _ _ _ _ r h => by simp [cupolalaw05_RelOne.l0] at h⟩
  | k + 1 => by
    obtain ⟨ih0, ih1, ih2, ih3⟩ := cupolalaw05_RelOne.mono_l k
    refine ⟨?_, ?_, ?_, ?_⟩
    · intro y0 y1 y2 y3 y4 y5 y6 y7
      unfold cupolalaw05_RelOne.j0
      repeat' first
      | (with_reducible exact ih0 _ _ _ _ _ _ _ _)
      | (with_reducible exact ih1 _ _ _ _ _ _ _ _)
      | (with_reducible exact ih2 _ _ _ _ _ _)
      | (with_reducible exact ih3 _ _ _ _ _ _ _)
      | (with_reducible exact cupolalaw05_pairs.mono _ _ _)
      | (with_reducible exact cupolalaw05_shown.mono _)
      | (with_reducible exact cupolaref05_Acyclic.mono _ _)
      | (with_reducible exact cupolaref05_Cross.mono _ _ _ _)
      | (with_reducible exact cupolaref05_Has.mono _ _ _ _)
      | (with_reducible exact cupolaref05_Inv.mono _ _)
      | (with_reducible exact cupolaref05_Only.mono _ _ _ _)
      | (with_reducible exact cupolaref05_Pairs.mono _ _)
      | (with_reducible exact cupolaref05_Plus.mono _ _)
      | (with_reducible exact cupolaref05_Put.mono _ _ _ _)
      | (with_reducible exact cupolaref05_Same.mono _ _ _)
      | (with_reducible exact rel_Acyclic.mono _ _)
      | (with_reducible exact rel_Cross.mono _ _ _ _)
      | (with_reducible exact rel_Inv.mono _ _)
      | (with_reducible exact rel_Only.mono _ _ _ _)
      | (with_reducible exact rel_Pairs.mono _ _)
      | (with_reducible exact rel_Plus.mono _ _)
      | (with_reducible exact rel_Put.mono _ _ _ _)
      | (with_reducible exact LeO.refl _)
      | (with_reducible exact LeO.none _)
      | (with_reducible refine LeO.ite ?_ ?_)
      | (with_reducible refine LeO.bind ?_ (fun _ => ?_))
      | exact ih0 _ _ _ _ _ _ _ _
      | exact ih1 _ _ _ _ _ _ _ _
      | exact ih2 _ _ _ _ _ _
      | exact ih3 _ _ _ _ _ _ _
      | exact cupolalaw05_pairs.mono _ _ _
      | exact cupolalaw05_shown.mono _
      | exact cupolaref05_Acyclic.mono _ _
      | exact cupolaref05_Cross.mono _ _ _ _
      | exact cupolaref05_Has.mono _ _ _ _
      | exact cupolaref05_Inv.mono _ _
      | exact cupolaref05_Only.mono _ _ _ _
      | exact cupolaref05_Pairs.mono _ _
      | exact cupolaref05_Plus.mono _ _
      | exact cupolaref05_Put.mono _ _ _ _
      | exact cupolaref05_Same.mono _ _ _
      | exact rel_Acyclic.mono _ _
      | exact rel_Cross.mono _ _ _ _
      | exact rel_Inv.mono _ _
      | exact rel_Only.mono _ _ _ _
      | exact rel_Pairs.mono _ _
      | exact rel_Plus.mono _ _
      | exact rel_Put.mono _ _ _ _
      | exact LeO.none _
      | refine LeO.ite ?_ ?_
      | refine LeO.bind ?_ (fun _ => ?_)
    · intro y0 y1 y2 y3 y4 y5 y6 y7
      unfold cupolalaw05_RelOne.j1
      repeat' first
      | (with_reducible exact ih0 _ _ _ _ _ _ _ _)
      | (with_reducible exact ih1 _ _ _ _ _ _ _ _)
      | (with_reducible exact ih2 _ _ _ _ _ _)
      | (with_reducible exact ih3 _ _ _ _ _ _ _)
      | (with_reducible exact cupolalaw05_pairs.mono _ _ _)
      | (with_reducible exact cupolalaw05_shown.mono _)
      | (with_reducible exact cupolaref05_Acyclic.mono _ _)
      | (with_reducible exact cupolaref05_Cross.mono _ _ _ _)
      | (with_reducible exact cupolaref05_Has.mono _ _ _ _)
      | (with_reducible exact cupolaref05_Inv.mono _ _)
      | (with_reducible exact cupolaref05_Only.mono _ _ _ _)
      | (with_reducible exact cupolaref05_Pairs.mono _ _)
      | (with_reducible exact cupolaref05_Plus.mono _ _)
      | (with_reducible exact cupolaref05_Put.mono _ _ _ _)
      | (with_reducible exact cupolaref05_Same.mono _ _ _)
      | (with_reducible exact rel_Acyclic.mono _ _)
      | (with_reducible exact rel_Cross.mono _ _ _ _)
      | (with_reducible exact rel_Inv.mono _ _)
      | (with_reducible exact rel_Only.mono _ _ _ _)
      | (with_reducible exact rel_Pairs.mono _ _)
      | (with_reducible exact rel_Plus.mono _ _)
      | (with_reducible exact rel_Put.mono _ _ _ _)
      | (with_reducible exact LeO.refl _)
      | (with_reducible exact LeO.none _)
      | (with_reducible refine LeO.ite ?_ ?_)
      | (with_reducible refine LeO.bind ?_ (fun _ => ?_))
      | exact ih0 _ _ _ _ _ _ _ _
      | exact ih1 _ _ _ _ _ _ _ _
      | exact ih2 _ _ _ _ _ _
      | exact ih3 _ _ _ _ _ _ _
      | exact cupolalaw05_pairs.mono _ _ _
      | exact cupolalaw05_shown.mono _
      | exact cupolaref05_Acyclic.mono _ _
      | exact cupolaref05_Cross.mono _ _ _ _
      | exact cupolaref05_Has.mono _ _ _ _
      | exact cupolaref05_Inv.mono _ _
      | exact cupolaref05_Only.mono _ _ _ _
      | exact cupolaref05_Pairs.mono _ _
      | exact cupolaref05_Plus.mono _ _
      | exact cupolaref05_Put.mono _ _ _ _
      | exact cupolaref05_Same.mono _ _ _
      | exact rel_Acyclic.mono _ _
      | exact rel_Cross.mono _ _ _ _
      | exact rel_Inv.mono _ _
      | exact rel_Only.mono _ _ _ _
      | exact rel_Pairs.mono _ _
      | exact rel_Plus.mono _ _
      | exact rel_Put.mono _ _ _ _
      | exact LeO.none _
      | refine LeO.ite ?_ ?_
      | refine LeO.bind ?_ (fun _ => ?_)
    · intro y0 y1 y2 y3 y4 y5
      unfold cupolalaw05_RelOne.j2
      repeat' first
      | (with_reducible exact ih0 _ _ _ _ _ _ _ _)
      | (with_reducible exact ih1 _ _ _ _ _ _ _ _)
      | (with_reducible exact ih2 _ _ _ _ _ _)
      | (with_reducible exact ih3 _ _ _ _ _ _ _)
      | (with_reducible exact cupolalaw05_pairs.mono _ _ _)
      | (with_reducible exact cupolalaw05_shown.mono _)
      | (with_reducible exact cupolaref05_Acyclic.mono _ _)
      | (with_reducible exact cupolaref05_Cross.mono _ _ _ _)
      | (with_reducible exact cupolaref05_Has.mono _ _ _ _)
      | (with_reducible exact cupolaref05_Inv.mono _ _)
      | (with_reducible exact cupolaref05_Only.mono _ _ _ _)
      | (with_reducible exact cupolaref05_Pairs.mono _ _)
      | (with_reducible exact cupolaref05_Plus.mono _ _)
      | (with_reducible exact cupolaref05_Put.mono _ _ _ _)
      | (with_reducible exact cupolaref05_Same.mono _ _ _)
      | (with_reducible exact rel_Acyclic.mono _ _)
      | (with_reducible exact rel_Cross.mono _ _ _ _)
      | (with_reducible exact rel_Inv.mono _ _)
      | (with_reducible exact rel_Only.mono _ _ _ _)
      | (with_reducible exact rel_Pairs.mono _ _)
      | (with_reducible exact rel_Plus.mono _ _)
      | (with_reducible exact rel_Put.mono _ _ _ _)
      | (with_reducible exact LeO.refl _)
      | (with_reducible exact LeO.none _)
      | (with_reducible refine LeO.ite ?_ ?_)
      | (with_reducible refine LeO.bind ?_ (fun _ => ?_))
      | exact ih0 _ _ _ _ _ _ _ _
      | exact ih1 _ _ _ _ _ _ _ _
      | exact ih2 _ _ _ _ _ _
      | exact ih3 _ _ _ _ _ _ _
      | exact cupolalaw05_pairs.mono _ _ _
      | exact cupolalaw05_shown.mono _
      | exact cupolaref05_Acyclic.mono _ _
      | exact cupolaref05_Cross.mono _ _ _ _
      | exact cupolaref05_Has.mono _ _ _ _
      | exact cupolaref05_Inv.mono _ _
      | exact cupolaref05_Only.mono _ _ _ _
      | exact cupolaref05_Pairs.mono _ _
      | exact cupolaref05_Plus.mono _ _
      | exact cupolaref05_Put.mono _ _ _ _
      | exact cupolaref05_Same.mono _ _ _
      | exact rel_Acyclic.mono _ _
      | exact rel_Cross.mono _ _ _ _
      | exact rel_Inv.mono _ _
      | exact rel_Only.mono _ _ _ _
      | exact rel_Pairs.mono _ _
      | exact rel_Plus.mono _ _
      | exact rel_Put.mono _ _ _ _
      | exact LeO.none _
      | refine LeO.ite ?_ ?_
      | refine LeO.bind ?_ (fun _ => ?_)
    · intro y0 y1 y2 y3 y4 y5 y6
      unfold cupolalaw05_RelOne.l0
      repeat' first
      | (with_reducible exact ih0 _ _ _ _ _ _ _ _)
      | (with_reducible exact ih1 _ _ _ _ _ _ _ _)
      | (with_reducible exact ih2 _ _ _ _ _ _)
      | (with_reducible exact ih3 _ _ _ _ _ _ _)
      | (with_reducible exact cupolalaw05_pairs.mono _ _ _)
      | (with_reducible exact cupolalaw05_shown.mono _)
      | (with_reducible exact cupolaref05_Acyclic.mono _ _)
      | (with_reducible exact cupolaref05_Cross.mono _ _ _ _)
      | (with_reducible exact cupolaref05_Has.mono _ _ _ _)
      | (with_reducible exact cupolaref05_Inv.mono _ _)
      | (with_reducible exact cupolaref05_Only.mono _ _ _ _)
      | (with_reducible exact cupolaref05_Pairs.mono _ _)
      | (with_reducible exact cupolaref05_Plus.mono _ _)
      | (with_reducible exact cupolaref05_Put.mono _ _ _ _)
      | (with_reducible exact cupolaref05_Same.mono _ _ _)
      | (with_reducible exact rel_Acyclic.mono _ _)
      | (with_reducible exact rel_Cross.mono _ _ _ _)
      | (with_reducible exact rel_Inv.mono _ _)
      | (with_reducible exact rel_Only.mono _ _ _ _)
      | (with_reducible exact rel_Pairs.mono _ _)
      | (with_reducible exact rel_Plus.mono _ _)
      | (with_reducible exact rel_Put.mono _ _ _ _)
      | (with_reducible exact LeO.refl _)
      | (with_reducible exact LeO.none _)
      | (with_reducible refine LeO.ite ?_ ?_)
      | (with_reducible refine LeO.bind ?_ (fun _ => ?_))
      | exact ih0 _ _ _ _ _ _ _ _
      | exact ih1 _ _ _ _ _ _ _ _
      | exact ih2 _ _ _ _ _ _
      | exact ih3 _ _ _ _ _ _ _
      | exact cupolalaw05_pairs.mono _ _ _
      | exact cupolalaw05_shown.mono _
      | exact cupolaref05_Acyclic.mono _ _
      | exact cupolaref05_Cross.mono _ _ _ _
      | exact cupolaref05_Has.mono _ _ _ _
      | exact cupolaref05_Inv.mono _ _
      | exact cupolaref05_Only.mono _ _ _ _
      | exact cupolaref05_Pairs.mono _ _
      | exact cupolaref05_Plus.mono _ _
      | exact cupolaref05_Put.mono _ _ _ _
      | exact cupolaref05_Same.mono _ _ _
      | exact rel_Acyclic.mono _ _
      | exact rel_Cross.mono _ _ _ _
      | exact rel_Inv.mono _ _
      | exact rel_Only.mono _ _ _ _
      | exact rel_Pairs.mono _ _
      | exact rel_Plus.mono _ _
      | exact rel_Put.mono _ _ _ _
      | exact LeO.none _
      | refine LeO.ite ?_ ?_
      | refine LeO.bind ?_ (fun _ => ?_)
theorem cupolalaw05_RelOne.mono : ∀ a0 a1 a2 a3 a4 k, LeO (cupolalaw05_RelOne.f k a0 a1 a2 a3 a4) (cupolalaw05_RelOne.f (k + 1) a0 a1 a2 a3 a4) := by
  intro a0 a1 a2 a3 a4 k
  obtain ⟨ih0, ih1, ih2, ih3⟩ := cupolalaw05_RelOne.mono_l k
  unfold cupolalaw05_RelOne.f
  repeat' first
      | (with_reducible exact ih0 _ _ _ _ _ _ _ _)
      | (with_reducible exact ih1 _ _ _ _ _ _ _ _)
      | (with_reducible exact ih2 _ _ _ _ _ _)
      | (with_reducible exact ih3 _ _ _ _ _ _ _)
      | (with_reducible exact cupolalaw05_pairs.mono _ _ _)
      | (with_reducible exact cupolalaw05_shown.mono _)
      | (with_reducible exact cupolaref05_Acyclic.mono _ _)
      | (with_reducible exact cupolaref05_Cross.mono _ _ _ _)
      | (with_reducible exact cupolaref05_Has.mono _ _ _ _)
      | (with_reducible exact cupolaref05_Inv.mono _ _)
      | (with_reducible exact cupolaref05_Only.mono _ _ _ _)
      | (with_reducible exact cupolaref05_Pairs.mono _ _)
      | (with_reducible exact cupolaref05_Plus.mono _ _)
      | (with_reducible exact cupolaref05_Put.mono _ _ _ _)
      | (with_reducible exact cupolaref05_Same.mono _ _ _)
      | (with_reducible exact rel_Acyclic.mono _ _)
      | (with_reducible exact rel_Cross.mono _ _ _ _)
      | (with_reducible exact rel_Inv.mono _ _)
      | (with_reducible exact rel_Only.mono _ _ _ _)
      | (with_reducible exact rel_Pairs.mono _ _)
      | (with_reducible exact rel_Plus.mono _ _)
      | (with_reducible exact rel_Put.mono _ _ _ _)
      | (with_reducible exact LeO.refl _)
      | (with_reducible exact LeO.none _)
      | (with_reducible refine LeO.ite ?_ ?_)
      | (with_reducible refine LeO.bind ?_ (fun _ => ?_))
      | exact ih0 _ _ _ _ _ _ _ _
      | exact ih1 _ _ _ _ _ _ _ _
      | exact ih2 _ _ _ _ _ _
      | exact ih3 _ _ _ _ _ _ _
      | exact cupolalaw05_pairs.mono _ _ _
      | exact cupolalaw05_shown.mono _
      | exact cupolaref05_Acyclic.mono _ _
      | exact cupolaref05_Cross.mono _ _ _ _
      | exact cupolaref05_Has.mono _ _ _ _
      | exact cupolaref05_Inv.mono _ _
      | exact cupolaref05_Only.mono _ _ _ _
      | exact cupolaref05_Pairs.mono _ _
      | exact cupolaref05_Plus.mono _ _
      | exact cupolaref05_Put.mono _ _ _ _
      | exact cupolaref05_Same.mono _ _ _
      | exact rel_Acyclic.mono _ _
      | exact rel_Cross.mono _ _ _ _
      | exact rel_Inv.mono _ _
      | exact rel_Only.mono _ _ _ _
      | exact rel_Pairs.mono _ _
      | exact rel_Plus.mono _ _
      | exact rel_Put.mono _ _ _ _
      | exact LeO.none _
      | refine LeO.ite ?_ ?_
      | refine LeO.bind ?_ (fun _ => ?_)
set_option maxHeartbeats 8000000 in
set_option maxRecDepth 100000 in
theorem cupolalaw05_RelOne.calls (k : Nat) (A0 : Option Addr) (c0 : Nat) (l0 : List Int) (a1 : Int) (a2 : Int) (a3 : Int) (a4 : Int) (r : Bool) (w : World) (hr0 : Kd.C (Kd.int .u32) w A0 l0.length l0) (hc0 : l0.length ≤ c0) (h : cupolalaw05_RelOne.f k l0 a1 a2 a3 a4 = some r) :
    Calls Try.prog 8 #[.slice A0 l0.length c0, .int .i64 a1, .int .i64 a2, .int .u32 a3, .int .u32 a4] w fun e w' => e = .returned (.bool r) ∧ Below w.heap.size w w' := by
  have HR0 := Aside0.mk hr0
  have HC0 := Aside0.mk hc0
  clear hr0 hc0
  have HB := Aside0.mk (Below.refl w.heap.size w)
  have H : ((cupolalaw05_shown.f k).bind fun t101 => (if (l0.length : Int) > 100 then (some t101) else ((some (([] : List Int) : List Int)).bind fun y102 => (if y102.length + l0.length < 35184372088832 then ((some (y102 ++ l0 : List Int)).bind fun y105 => ((rel_Has.f y105 a1 a2).bind fun t108 => ((cupolaref05_Has.f k l0 a1 a2).bind fun t109 => (if (t108 == t109) = true then ((rel_Acyclic.f k y105).bind fun t110 => ((cupolaref05_Acyclic.f k l0).bind fun t111 => (if (t110 == t111) = true then ((rel_Pairs.f k y105).bind fun t112 => ((cupolaref05_Pairs.f k l0).bind fun t115 => ((cupolalaw05_pairs.f k t112 t115).bind fun t118 => (cupolalaw05_RelOne.j0 k l0 a1 a2 a3 a4 t101 y105 t118)))) else (cupolalaw05_RelOne.j0 k l0 a1 a2 a3 a4 t101 y105 false)))) else (cupolalaw05_RelOne.j0 k l0 a1 a2 a3 a4 t101 y105 false))))) else (none))))) = some r := h
  clear h
  replace H := Option.bind_eq_some_iff.mp H
  obtain ⟨t101, A60, H⟩ := H
  replace H : (if (l0.length : Int) > 100 then (some t101) else ((some (([] : List Int) : List Int)).bind fun y102 => (if y102.length + l0.length < 35184372088832 then ((some (y102 ++ l0 : List Int)).bind fun y105 => ((rel_Has.f y105 a1 a2).bind fun t108 => ((cupolaref05_Has.f k l0 a1 a2).bind fun t109 => (if (t108 == t109) = true then ((rel_Acyclic.f k y105).bind fun t110 => ((cupolaref05_Acyclic.f k l0).bind fun t111 => (if (t110 == t111) = true then ((rel_Pairs.f k y105).bind fun t112 => ((cupolaref05_Pairs.f k l0).bind fun t115 => ((cupolalaw05_pairs.f k t112 t115).bind fun t118 => (cupolalaw05_RelOne.j0 k l0 a1 a2 a3 a4 t101 y105 t118)))) else (cupolalaw05_RelOne.j0 k l0 a1 a2 a3 a4 t101 y105 false)))) else (cupolalaw05_RelOne.j0 k l0 a1 a2 a3 a4 t101 y105 false))))) else (none)))) = some r := H
  have A6 := Aside0.mk A60
  clear A60
  by_cases c7 : (l0.length : Int) > 100
  · rw [if_pos c7] at H
    have c7b0 : decide (100 < (l0.length : Int)) = true := decide_eq_true c7
    have c7b1 : decide (100 < l0.length) = true := decide_eq_true (by omega)
    clear c7
    obtain rfl := Option.some.inj H
    go_enter Try.func8, Try.ntmps8
    go_wp2_with (first | (go_at_call 36; (with_reducible refine (cupolalaw05_shown.calls k  t101 _ A6.out).mono ?_); rintro e w8 ⟨rfl, hb⟩; have n0_ := Aside0.mk (below_step (by repeat (first | (with_reducible first | exact HB.out | apply below_alloc | apply pw_below_drewN | apply below_drew1) | exact HB.out)) hb); clear HB; have HB := n0_; clear n0_; (try clear hb); (try clear hb2); (try clear hk); (try clear hi)))
    go_ret
    exact ⟨by first | rfl | (simp [errW_none, errW_some] <;> rfl) | (simp [*, errW_none, errW_some] <;> rfl), by repeat (first | (with_reducible first | exact HB.out | apply below_alloc | apply pw_below_drewN | apply below_drew1) | exact HB.out)⟩
  · rw [if_neg c7] at H
    have c7b0 : decide (100 < (l0.length : Int)) = false := decide_eq_false c7
    have c7b1 : decide (100 < l0.length) = false := decide_eq_false (by omega)
    clear c7
    obtain ⟨y102, hy102⟩ : ∃ y_ : List Int, y_ = (([] : List Int)) := ⟨_, rfl⟩
    replace H : (if y102.length + l0.length < 35184372088832 then ((some (y102 ++ l0 : List Int)).bind fun y105 => ((rel_Has.f y105 a1 a2).bind fun t108 => ((cupolaref05_Has.f k l0 a1 a2).bind fun t109 => (if (t108 == t109) = true then ((rel_Acyclic.f k y105).bind fun t110 => ((cupolaref05_Acyclic.f k l0).bind fun t111 => (if (t110 == t111) = true then ((rel_Pairs.f k y105).bind fun t112 => ((cupolaref05_Pairs.f k l0).bind fun t115 => ((cupolalaw05_pairs.f k t112 t115).bind fun t118 => (cupolalaw05_RelOne.j0 k l0 a1 a2 a3 a4 t101 y105 t118)))) else (cupolalaw05_RelOne.j0 k l0 a1 a2 a3 a4 t101 y105 false)))) else (cupolalaw05_RelOne.j0 k l0 a1 a2 a3 a4 t101 y105 false))))) else (none)) = some r := by first | (rw [hy102]; with_reducible exact H) | (have H2_ := (Option.bind_some _ _).symm.trans H; rw [hy102]; with_reducible exact H2_) | (have H2_ := (Option.bind_some _ _).symm.trans H; with_reducible exact H2_) | with_reducible exact H | (rw [hy102]; exact H) | exact H
    have Ny102 := Aside0.mk hy102
    clear hy102
    by_cases c9 : y102.length + l0.length < 35184372088832
    · rw [if_pos c9] at H
      have LMc9 := Aside0.mk c9
      clear c9
      obtain ⟨y105, hy105⟩ : ∃ y_ : List Int, y_ = (y102 ++ l0) := ⟨_, rfl⟩
      replace H : ((rel_Has.f y105 a1 a2).bind fun t108 => ((cupolaref05_Has.f k l0 a1 a2).bind fun t109 => (if (t108 == t109) = true then ((rel_Acyclic.f k y105).bind fun t110 => ((cupolaref05_Acyclic.f k l0).bind fun t111 => (if (t110 == t111) = true then ((rel_Pairs.f k y105).bind fun t112 => ((cupolaref05_Pairs.f k l0).bind fun t115 => ((cupolalaw05_pairs.f k t112 t115).bind fun t118 => (cupolalaw05_RelOne.j0 k l0 a1 a2 a3 a4 t101 y105 t118)))) else (cupolalaw05_RelOne.j0 k l0 a1 a2 a3 a4 t101 y105 false)))) else (cupolalaw05_RelOne.j0 k l0 a1 a2 a3 a4 t101 y105 false)))) = some r := by first | (rw [hy105]; with_reducible exact H) | (have H2_ := (Option.bind_some _ _).symm.trans H; rw [hy105]; with_reducible exact H2_) | (have H2_ := (Option.bind_some _ _).symm.trans H; with_reducible exact H2_) | with_reducible exact H | (rw [hy105]; exact H) | exact H
      have Ny105 := Aside0.mk hy105
      clear hy105
      have HC10 := Aside0.mk H
      clear H
      go_enter Try.func8, Try.ntmps8
      go_upto_region 5 with (first | (go_at_call 36; (with_reducible refine (cupolalaw05_shown.calls k  t101 _ A6.out).mono ?_); rintro e w11 ⟨rfl, hb⟩; have n0_ := Aside0.mk (below_step (by repeat (first | (with_reducible first | exact HB.out | apply below_alloc | apply pw_below_drewN | apply below_drew1) | exact HB.out)) hb); clear HB; have HB := n0_; clear n0_; (try clear hb); (try clear hb2); (try clear hk); (try clear hi)) | ((with_reducible refine gate_dst (N := 22) rfl ?_); refine Kd.R_lit (Kd.int .u32) _ 52 ?hg (N := 22) ?hd (xs := ([] : List Int)) (inner := []) (ok := fun _ => True) (okp := fun _ => True) ?hr ?hp (fun _ hk => hk) trivial (Below.refl _ _) (Nat.le_refl _) (by simp) ?_; (case hd => rfl); (case hg => rfl); (case hr => first | (go_simp; done) | (go_simp; rfl)); (case hp => exact (Reps.none _ _)); intro v103 w12 ho13 hb hg_ hnew_; clear hg_ hnew_; (first | rw [← Ny102.out] at ho13 | (simp only [Int.reduceToNat] at ho13; rw [← Ny102.out] at ho13)); have n0_ := Aside0.mk (Kd.R_lower ho13 (below_size (by repeat (first | (with_reducible first | exact HB.out | apply below_alloc | apply pw_below_drewN | apply below_drew1) | exact HB.out)))); have n1_ := Aside0.mk (below_step (by repeat (first | (with_reducible first | exact HB.out | apply below_alloc | apply pw_below_drewN | apply below_drew1) | exact HB.out)) hb); clear HB; have HO104 := n0_; have HB := n1_; clear n0_ n1_; clear hb ho13) | ((with_reducible refine gate_builtin (b := .append) (xs := #[.tmp 22, .tmp 23]) rfl ?_); at_builtin; refine Kd.R_append_rows (Kd.int .u32) (w0 := w) w.heap.size rfl (.tmp 22) (.tmp 23) 27 52 (.int .u32 0) 4 rfl Try.underlying27 info52 rfl (by decide) (by omega) v103 y102 l0 _ _ _ (fun _ => True) (fun _ => False) rfl rfl ?aO ?aR (fun _ _ h => h) (fun _ h => h.elim) ?aF ?aB ?aS ?aL ?_; (case aR => repeat (first | exact (Kd.C_below HR0.out HB.out) | (with_reducible refine Kd.C_alloc ?_ _) | (with_reducible refine Kd.C_drewN ?_ _) | (with_reducible refine Kd.C_drew ?_))); (case aB => exact (by repeat (first | (with_reducible first | exact HB.out | apply below_alloc | apply pw_below_drewN | apply below_drew1) | exact HB.out))); (case aF => exact (fun _ _ => trivial)); (case aO => exact (by (with_reducible repeat (first | apply Kd.R_alloc | apply Kd.R_drewN | apply Kd.R_drew)); exact HO104.out)); (case aS => exact (below_size (by repeat (first | (with_reducible first | exact HB.out | apply below_alloc | apply pw_below_drewN | apply below_drew1) | exact HB.out)))); (case aL => have := LMc9.out; omega); intro v106 w14 ho hb hg hat; rw [← Ny105.out] at ho; have n0_ := Aside0.mk (hb); have n1_ := Aside0.mk (ho); clear HB; clear HO104; have HB := n0_; have HO107 := n1_; clear n0_ n1_; clear ho hb hg hat))
      (try simp only [Act.put, List.setIfInBounds_toArray, List.set_cons_zero, List.set_cons_succ])
      go_cut [13] (fun v13 wc => ∃ (kq : Nat) (x13_9 : Bool), v13 = .bool x13_9 ∧ Aside0 (cupolalaw05_RelOne.j0 kq l0 a1 a2 a3 a4 t101 y105 x13_9 = some r) ∧ Aside0 (kq ≤ k) ∧ Aside0 (Kd.R (Kd.int .u32) 52 wc w.heap.size (fun _ => True) v106 y105) ∧ Aside0 (Below w.heap.size w wc))
      case first =>
        have H := HC10.out
        clear HC10
        replace H := Option.bind_eq_some_iff.mp H
        obtain ⟨t108, A150, H⟩ := H
        replace H : ((cupolaref05_Has.f k l0 a1 a2).bind fun t109 => (if (t108 == t109) = true then ((rel_Acyclic.f k y105).bind fun t110 => ((cupolaref05_Acyclic.f k l0).bind fun t111 => (if (t110 == t111) = true then ((rel_Pairs.f k y105).bind fun t112 => ((cupolaref05_Pairs.f k l0).bind fun t115 => ((cupolalaw05_pairs.f k t112 t115).bind fun t118 => (cupolalaw05_RelOne.j0 k l0 a1 a2 a3 a4 t101 y105 t118)))) else (cupolalaw05_RelOne.j0 k l0 a1 a2 a3 a4 t101 y105 false)))) else (cupolalaw05_RelOne.j0 k l0 a1 a2 a3 a4 t101 y105 false))) = some r := H
        have A15 := Aside0.mk A150
        clear A150
        replace H := Option.bind_eq_some_iff.mp H
        obtain ⟨t109, A160, H⟩ := H
        replace H : (if (t108 == t109) = true then ((rel_Acyclic.f k y105).bind fun t110 => ((cupolaref05_Acyclic.f k l0).bind fun t111 => (if (t110 == t111) = true then ((rel_Pairs.f k y105).bind fun t112 => ((cupolaref05_Pairs.f k l0).bind fun t115 => ((cupolalaw05_pairs.f k t112 t115).bind fun t118 => (cupolalaw05_RelOne.j0 k l0 a1 a2 a3 a4 t101 y105 t118)))) else (cupolalaw05_RelOne.j0 k l0 a1 a2 a3 a4 t101 y105 false)))) else (cupolalaw05_RelOne.j0 k l0 a1 a2 a3 a4 t101 y105 false)) = some r := H
        have A16 := Aside0.mk A160
        clear A160
        by_cases c17 : (t108 == t109) = true
        · rw [if_pos c17] at H
          have c17b0 : (t108 == t109) = true := c17
          (try (have c17b1 : decide (t108 = t109) = true := by simpa using c17))
          (try (have c17b2 : (t108 == t109) = true := by simpa using c17))
          clear c17
          (first | rw [c17b0] | (simp only [i64_w, i32_w]; rw [c17b0]) | skip)
          replace H := Option.bind_eq_some_iff.mp H
          obtain ⟨t110, A180, H⟩ := H
          replace H : ((cupolaref05_Acyclic.f k l0).bind fun t111 => (if (t110 == t111) = true then ((rel_Pairs.f k y105).bind fun t112 => ((cupolaref05_Pairs.f k l0).bind fun t115 => ((cupolalaw05_pairs.f k t112 t115).bind fun t118 => (cupolalaw05_RelOne.j0 k l0 a1 a2 a3 a4 t101 y105 t118)))) else (cupolalaw05_RelOne.j0 k l0 a1 a2 a3 a4 t101 y105 false))) = some r := H
          have A18 := Aside0.mk A180
          clear A180
          replace H := Option.bind_eq_some_iff.mp H
          obtain ⟨t111, A190, H⟩ := H
          replace H : (if (t110 == t111) = true then ((rel_Pairs.f k y105).bind fun t112 => ((cupolaref05_Pairs.f k l0).bind fun t115 => ((cupolalaw05_pairs.f k t112 t115).bind fun t118 => (cupolalaw05_RelOne.j0 k l0 a1 a2 a3 a4 t101 y105 t118)))) else (cupolalaw05_RelOne.j0 k l0 a1 a2 a3 a4 t101 y105 false)) = some r := H
          have A19 := Aside0.mk A190
          clear A190
          by_cases c20 : (t110 == t111) = true
          · rw [if_pos c20] at H
            have c20b0 : (t110 == t111) = true := c20
            (try (have c20b1 : decide (t110 = t111) = true := by simpa using c20))
            (try (have c20b2 : (t110 == t111) = true := by simpa using c20))
            clear c20
            replace H := Option.bind_eq_some_iff.mp H
            obtain ⟨t112, A210, H⟩ := H
            replace H : ((cupolaref05_Pairs.f k l0).bind fun t115 => ((cupolalaw05_pairs.f k t112 t115).bind fun t118 => (cupolalaw05_RelOne.j0 k l0 a1 a2 a3 a4 t101 y105 t118))) = some r := H
            have A21 := Aside0.mk A210
            clear A210
            replace H := Option.bind_eq_some_iff.mp H
            obtain ⟨t115, A220, H⟩ := H
            replace H : ((cupolalaw05_pairs.f k t112 t115).bind fun t118 => (cupolalaw05_RelOne.j0 k l0 a1 a2 a3 a4 t101 y105 t118)) = some r := H
            have A22 := Aside0.mk A220
            clear A220
            replace H := Option.bind_eq_some_iff.mp H
            obtain ⟨t118, A230, H⟩ := H
            replace H : (cupolalaw05_RelOne.j0 k l0 a1 a2 a3 a4 t101 y105 t118) = some r := H
            have A23 := Aside0.mk A230
            clear A230
            have H' := Aside0.mk H
            clear H
            obtain ⟨Ao24, co24, eo24⟩ := Kd.R_slice HO107.out
            subst eo24
            go_wp2_with (first | (go_at_call 39; (with_reducible refine (rel_Has.calls _ _ y105 a1 a2 t108 _ ?side1 ?side2 A15.out).mono ?_); (case side1 => repeat (first | exact (Kd.R_reads' HO107.out).2.2 | (with_reducible refine Kd.C_alloc ?_ _) | (with_reducible refine Kd.C_drewN ?_ _) | (with_reducible refine Kd.C_drew ?_))); (case side2 => exact (Kd.R_reads' HO107.out).2.1); rintro e w' ⟨rfl, ⟨nd, rfl⟩⟩; (try first | exact ⟨rfl, _, World.drewN_drewN _ _ _⟩ | exact ⟨rfl, _, Eq.trans (World.drewN_drewN _ _ _) (congrArg (World.drewN _) (Nat.add_assoc _ _ _))⟩)) | (go_at_call 43; (with_reducible refine (cupolaref05_Has.calls k _ _ l0 a1 a2 t109 _ ?side1 ?side2 A16.out).mono ?_); (case side1 => repeat (first | exact (Kd.C_below HR0.out (by repeat (first | (with_reducible first | exact HB.out | apply below_alloc | apply pw_below_drewN | apply below_drew1) | exact HB.out))) | (with_reducible refine Kd.C_alloc ?_ _) | (with_reducible refine Kd.C_drewN ?_ _) | (with_reducible refine Kd.C_drew ?_))); (case side2 => exact HC0.out); rintro e w' ⟨rfl, ⟨nd, rfl⟩⟩; (try first | exact ⟨rfl, _, World.drewN_drewN _ _ _⟩ | exact ⟨rfl, _, Eq.trans (World.drewN_drewN _ _ _) (congrArg (World.drewN _) (Nat.add_assoc _ _ _))⟩)) | (go_at_call 44; (with_reducible refine (rel_Acyclic.calls k _ _ y105 t110 _ ?side1 ?side2 A18.out).mono ?_); (case side1 => repeat (first | exact (Kd.R_reads' HO107.out).2.2 | (with_reducible refine Kd.C_alloc ?_ _) | (with_reducible refine Kd.C_drewN ?_ _) | (with_reducible refine Kd.C_drew ?_))); (case side2 => exact (Kd.R_reads' HO107.out).2.1); rintro e w25 ⟨rfl, hb⟩; have n0_ := Aside0.mk (Kd.R_below (by (with_reducible repeat (first | apply Kd.R_alloc | apply Kd.R_drewN | apply Kd.R_drew)); exact HO107.out) hb); have n1_ := Aside0.mk (below_step (by repeat (first | (with_reducible first | exact HB.out | apply below_alloc | apply pw_below_drewN | apply below_drew1) | exact HB.out)) hb); clear HO107; clear HB; have HO107 := n0_; have HB := n1_; clear n0_ n1_; (try clear hb); (try clear hb2); (try clear hk); (try clear hi)) | (go_at_call 45; (with_reducible refine (cupolaref05_Acyclic.calls k _ _ l0 t111 _ ?side1 ?side2 A19.out).mono ?_); (case side1 => repeat (first | exact (Kd.C_below HR0.out HB.out) | (with_reducible refine Kd.C_alloc ?_ _) | (with_reducible refine Kd.C_drewN ?_ _) | (with_reducible refine Kd.C_drew ?_))); (case side2 => exact HC0.out); rintro e w26 ⟨rfl, hb⟩; have n0_ := Aside0.mk (Kd.R_below (by (with_reducible repeat (first | apply Kd.R_alloc | apply Kd.R_drewN | apply Kd.R_drew)); exact HO107.out) hb); have n1_ := Aside0.mk (below_step (by repeat (first | (with_reducible first | exact HB.out | apply below_alloc | apply pw_below_drewN | apply below_drew1) | exact HB.out)) hb); clear HO107; clear HB; have HO107 := n0_; have HB := n1_; clear n0_ n1_; (try clear hb); (try clear hb2); (try clear hk); (try clear hi)) | (go_at_call 38; (with_reducible refine (rel_Pairs.calls k _ _ y105 t112 _ ?side1 ?side2 A21.out).mono ?_); (case side1 => repeat (first | exact (Kd.R_reads' HO107.out).2.2 | (with_reducible refine Kd.C_alloc ?_ _) | (with_reducible refine Kd.C_drewN ?_ _) | (with_reducible refine Kd.C_drew ?_))); (case side2 => exact (Kd.R_reads' HO107.out).2.1); rintro e w27 ⟨v113, rfl, ho0, hb⟩; have n0_ := Aside0.mk (Kd.R_below (by (with_reducible repeat (first | apply Kd.R_alloc | apply Kd.R_drewN | apply Kd.R_drew)); exact HO107.out) hb); have n1_ := Aside0.mk (Kd.R_lower ho0 (below_size (by repeat (first | (with_reducible first | exact HB.out | apply below_alloc | apply pw_below_drewN | apply below_drew1) | exact HB.out)))); have n2_ := Aside0.mk (below_step (by repeat (first | (with_reducible first | exact HB.out | apply below_alloc | apply pw_below_drewN | apply below_drew1) | exact HB.out)) hb); clear HO107; clear HB; have HO107 := n0_; have HO114 := n1_; have HB := n2_; clear n0_ n1_ n2_; (try clear hb); (try clear hb2); (try clear hk); (try clear hi); (try clear ho0)) | (go_at_call 47; (with_reducible refine (cupolaref05_Pairs.calls k _ _ l0 t115 _ ?side1 ?side2 A22.out).mono ?_); (case side1 => repeat (first | exact (Kd.C_below HR0.out HB.out) | (with_reducible refine Kd.C_alloc ?_ _) | (with_reducible refine Kd.C_drewN ?_ _) | (with_reducible refine Kd.C_drew ?_))); (case side2 => exact HC0.out); rintro e w28 ⟨v116, rfl, ho0, hb⟩; have n0_ := Aside0.mk (Kd.R_below (by (with_reducible repeat (first | apply Kd.R_alloc | apply Kd.R_drewN | apply Kd.R_drew)); exact HO107.out) hb); have n1_ := Aside0.mk (Kd.R_elder' (by (with_reducible repeat (first | apply Kd.R_alloc | apply Kd.R_drewN | apply Kd.R_drew)); exact HO114.out) (Kd.R_base ho0) hb); have n2_ := Aside0.mk (Kd.R_lower (Kd.R_new' ho0 (Kd.R_lt (by (with_reducible repeat (first | apply Kd.R_alloc | apply Kd.R_drewN | apply Kd.R_drew)); exact HO114.out))) (below_size (by repeat (first | (with_reducible first | exact HB.out | apply below_alloc | apply pw_below_drewN | apply below_drew1) | exact HB.out)))); have n3_ := Aside0.mk (below_step (by repeat (first | (with_reducible first | exact HB.out | apply below_alloc | apply pw_below_drewN | apply below_drew1) | exact HB.out)) hb); clear HO107; clear HO114; clear HB; have HO107 := n0_; have HO114 := n1_; have HO117 := n2_; have HB := n3_; clear n0_ n1_ n2_ n3_; (try clear hb); (try clear hb2); (try clear hk); (try clear hi); (try clear ho0); obtain ⟨Ao29, co29, eo29⟩ := Kd.R_slice HO114.out; subst eo29; obtain ⟨Ao30, co30, eo30⟩ := Kd.R_slice HO117.out; subst eo30) | (go_at_call 46; (with_reducible refine (cupolalaw05_pairs.calls k _ _ t112 _ _ t115 t118 _ ?side1 ?side2 ?side3 ?side4 A23.out).mono ?_); (case side1 => repeat (first | exact (Kd.R_reads' HO114.out).2.2 | (with_reducible refine Kd.C_alloc ?_ _) | (with_reducible refine Kd.C_drewN ?_ _) | (with_reducible refine Kd.C_drew ?_))); (case side2 => exact (Kd.R_reads' HO114.out).2.1); (case side3 => repeat (first | exact (Kd.R_reads' HO117.out).2.2 | (with_reducible refine Kd.C_alloc ?_ _) | (with_reducible refine Kd.C_drewN ?_ _) | (with_reducible refine Kd.C_drew ?_))); (case side4 => exact (Kd.R_reads' HO117.out).2.1); rintro e w' ⟨rfl, ⟨nd, rfl⟩⟩; (try first | exact ⟨rfl, _, World.drewN_drewN _ _ _⟩ | exact ⟨rfl, _, Eq.trans (World.drewN_drewN _ _ _) (congrArg (World.drewN _) (Nat.add_assoc _ _ _))⟩)))
            go_meet
            case rel => exact ⟨_, (t118), (by first | rfl | (simp; done) | (simp [*]; done)), H', ⟨by first | omega | exact Nat.le_refl _⟩, ⟨by (with_reducible repeat (first | apply Kd.R_alloc | apply Kd.R_drewN | apply Kd.R_drew)); exact HO107.out⟩, ⟨by repeat (first | (with_reducible first | exact HB.out | apply below_alloc | apply pw_below_drewN | apply below_drew1) | exact HB.out)⟩⟩
          · rw [if_neg c20] at H
            have c20b0 : (t110 == t111) = false := by simpa using c20
            (try (have c20b1 : decide (t110 = t111) = false := by simpa using c20))
            (try (have c20b2 : (t110 == t111) = false := by simpa using c20))
            (try (have c20b3 : ¬ (t110 = t111) := by simpa using c20))
            clear c20
            have H' := Aside0.mk H
            clear H
            obtain ⟨Ao31, co31, eo31⟩ := Kd.R_slice HO107.out
            subst eo31
            go_wp2_with (first | (go_at_call 39; (with_reducible refine (rel_Has.calls _ _ y105 a1 a2 t108 _ ?side1 ?side2 A15.out).mono ?_); (case side1 => repeat (first | exact (Kd.R_reads' HO107.out).2.2 | (with_reducible refine Kd.C_alloc ?_ _) | (with_reducible refine Kd.C_drewN ?_ _) | (with_reducible refine Kd.C_drew ?_))); (case side2 => exact (Kd.R_reads' HO107.out).2.1); rintro e w' ⟨rfl, ⟨nd, rfl⟩⟩; (try first | exact ⟨rfl, _, World.drewN_drewN _ _ _⟩ | exact ⟨rfl, _, Eq.trans (World.drewN_drewN _ _ _) (congrArg (World.drewN _) (Nat.add_assoc _ _ _))⟩)) | (go_at_call 43; (with_reducible refine (cupolaref05_Has.calls k _ _ l0 a1 a2 t109 _ ?side1 ?side2 A16.out).mono ?_); (case side1 => repeat (first | exact (Kd.C_below HR0.out (by repeat (first | (with_reducible first | exact HB.out | apply below_alloc | apply pw_below_drewN | apply below_drew1) | exact HB.out))) | (with_reducible refine Kd.C_alloc ?_ _) | (with_reducible refine Kd.C_drewN ?_ _) | (with_reducible refine Kd.C_drew ?_))); (case side2 => exact HC0.out); rintro e w' ⟨rfl, ⟨nd, rfl⟩⟩; (try first | exact ⟨rfl, _, World.drewN_drewN _ _ _⟩ | exact ⟨rfl, _, Eq.trans (World.drewN_drewN _ _ _) (congrArg (World.drewN _) (Nat.add_assoc _ _ _))⟩)) | (go_at_call 44; (with_reducible refine (rel_Acyclic.calls k _ _ y105 t110 _ ?side1 ?side2 A18.out).mono ?_); (case side1 => repeat (first | exact (Kd.R_reads' HO107.out).2.2 | (with_reducible refine Kd.C_alloc ?_ _) | (with_reducible refine Kd.C_drewN ?_ _) | (with_reducible refine Kd.C_drew ?_))); (case side2 => exact (Kd.R_reads' HO107.out).2.1); rintro e w32 ⟨rfl, hb⟩; have n0_ := Aside0.mk (Kd.R_below (by (with_reducible repeat (first | apply Kd.R_alloc | apply Kd.R_drewN | apply Kd.R_drew)); exact HO107.out) hb); have n1_ := Aside0.mk (below_step (by repeat (first | (with_reducible first | exact HB.out | apply below_alloc | apply pw_below_drewN | apply below_drew1) | exact HB.out)) hb); clear HO107; clear HB; have HO107 := n0_; have HB := n1_; clear n0_ n1_; (try clear hb); (try clear hb2); (try clear hk); (try clear hi)) | (go_at_call 45; (with_reducible refine (cupolaref05_Acyclic.calls k _ _ l0 t111 _ ?side1 ?side2 A19.out).mono ?_); (case side1 => repeat (first | exact (Kd.C_below HR0.out HB.out) | (with_reducible refine Kd.C_alloc ?_ _) | (with_reducible refine Kd.C_drewN ?_ _) | (with_reducible refine Kd.C_drew ?_))); (case side2 => exact HC0.out); rintro e w33 ⟨rfl, hb⟩; have n0_ := Aside0.mk (Kd.R_below (by (with_reducible repeat (first | apply Kd.R_alloc | apply Kd.R_drewN | apply Kd.R_drew)); exact HO107.out) hb); have n1_ := Aside0.mk (below_step (by repeat (first | (with_reducible first | exact HB.out | apply below_alloc | apply pw_below_drewN | apply below_drew1) | exact HB.out)) hb); clear HO107; clear HB; have HO107 := n0_; have HB := n1_; clear n0_ n1_; (try clear hb); (try clear hb2); (try clear hk); (try clear hi)))
            go_meet
            case rel => exact ⟨_, (false), (by first | rfl | (simp; done) | (simp [*]; done)), H', ⟨by first | omega | exact Nat.le_refl _⟩, ⟨by (with_reducible repeat (first | apply Kd.R_alloc | apply Kd.R_drewN | apply Kd.R_drew)); exact HO107.out⟩, ⟨by repeat (first | (with_reducible first | exact HB.out | apply below_alloc | apply pw_below_drewN | apply below_drew1) | exact HB.out)⟩⟩
        · rw [if_neg c17] at H
          have c17b0 : (t108 == t109) = false := by simpa using c17
          (try (have c17b1 : decide (t108 = t109) = false := by simpa using c17))
          (try (have c17b2 : (t108 == t109) = false := by simpa using c17))
          (try (have c17b3 : ¬ (t108 = t109) := by simpa using c17))
          clear c17
          (first | rw [c17b0] | (simp only [i64_w, i32_w]; rw [c17b0]) | skip)
          have H' := Aside0.mk H
          clear H
          obtain ⟨Ao34, co34, eo34⟩ := Kd.R_slice HO107.out
          subst eo34
          go_wp2_with (first | (go_at_call 39; (with_reducible refine (rel_Has.calls _ _ y105 a1 a2 t108 _ ?side1 ?side2 A15.out).mono ?_); (case side1 => repeat (first | exact (Kd.R_reads' HO107.out).2.2 | (with_reducible refine Kd.C_alloc ?_ _) | (with_reducible refine Kd.C_drewN ?_ _) | (with_reducible refine Kd.C_drew ?_))); (case side2 => exact (Kd.R_reads' HO107.out).2.1); rintro e w' ⟨rfl, ⟨nd, rfl⟩⟩; (try first | exact ⟨rfl, _, World.drewN_drewN _ _ _⟩ | exact ⟨rfl, _, Eq.trans (World.drewN_drewN _ _ _) (congrArg (World.drewN _) (Nat.add_assoc _ _ _))⟩)) | (go_at_call 43; (with_reducible refine (cupolaref05_Has.calls k _ _ l0 a1 a2 t109 _ ?side1 ?side2 A16.out).mono ?_); (case side1 => repeat (first | exact (Kd.C_below HR0.out (by repeat (first | (with_reducible first | exact HB.out | apply below_alloc | apply pw_below_drewN | apply below_drew1) | exact HB.out))) | (with_reducible refine Kd.C_alloc ?_ _) | (with_reducible refine Kd.C_drewN ?_ _) | (with_reducible refine Kd.C_drew ?_))); (case side2 => exact HC0.out); rintro e w' ⟨rfl, ⟨nd, rfl⟩⟩; (try first | exact ⟨rfl, _, World.drewN_drewN _ _ _⟩ | exact ⟨rfl, _, Eq.trans (World.drewN_drewN _ _ _) (congrArg (World.drewN _) (Nat.add_assoc _ _ _))⟩)))
          go_meet
          case rel => exact ⟨_, (false), (by first | rfl | (simp; done) | (simp [*]; done)), H', ⟨by first | omega | exact Nat.le_refl _⟩, ⟨by (with_reducible repeat (first | apply Kd.R_alloc | apply Kd.R_drewN | apply Kd.R_drew)); exact HO107.out⟩, ⟨by repeat (first | (with_reducible first | exact HB.out | apply below_alloc | apply pw_below_drewN | apply below_drew1) | exact HB.out)⟩⟩
      case rest =>
        clear HC10
        try clear c1
        try clear c2
        try clear p2
        try clear c7
        try clear c7b0
        try clear c7b1
        try clear c8
        try clear c9
        try clear c17
        try clear c17b0
        try clear c17b1
        try clear c17b2
        try clear c20
        try clear c20b0
        try clear c20b1
        try clear c20b2
        obtain ⟨kq, x13_9, rfl, HA, HJ9, HO_12, HB⟩ := hcut
        cases kq with
        | zero => exact absurd HA.out (by simp [cupolalaw05_RelOne.j0])
        | succ kj9 =>
          have H := HA.out
          clear HA
          simp only [cupolalaw05_RelOne.j0] at H
          have HC35 := Aside0.mk H
          clear H
          go_upto_region 6 with (fail)
          repeat (go_quiet (fail); go_upto_region 6 with (fail))
          go_cut [14] (fun v14 wc => ∃ (kq : Nat) (x14_34 : Bool), v14 = .bool x14_34 ∧ Aside0 (cupolalaw05_RelOne.j1 kq l0 a1 a3 a4 t101 y105 x13_9 x14_34 = some r) ∧ Aside0 (kq ≤ kj9) ∧ Aside0 (Kd.R (Kd.int .u32) 52 wc w.heap.size (fun _ => True) v106 y105) ∧ Aside0 (Below w.heap.size w wc))
          case first =>
            have H := HC35.out
            clear HC35
            replace H := Option.bind_eq_some_iff.mp H
            obtain ⟨t119, A360, H⟩ := H
            replace H : ((cupolaref05_Put.f kj9 l0 a1 a2).bind fun t122 => ((cupolaref05_Same.f kj9 t119 t122).bind fun t125 => (if t125 = true then ((rel_Inv.f kj9 y105).bind fun t126 => ((cupolaref05_Inv.f kj9 l0).bind fun t129 => ((cupolaref05_Same.f kj9 t126 t129).bind fun t132 => (if t132 = true then ((rel_Plus.f kj9 y105).bind fun t133 => ((cupolaref05_Plus.f kj9 l0).bind fun t136 => ((cupolaref05_Same.f kj9 t133 t136).bind fun t139 => (cupolalaw05_RelOne.j1 kj9 l0 a1 a3 a4 t101 y105 x13_9 t139)))) else (cupolalaw05_RelOne.j1 kj9 l0 a1 a3 a4 t101 y105 x13_9 false))))) else (cupolalaw05_RelOne.j1 kj9 l0 a1 a3 a4 t101 y105 x13_9 false)))) = some r := H
            have A36 := Aside0.mk A360
            clear A360
            replace H := Option.bind_eq_some_iff.mp H
            obtain ⟨t122, A370, H⟩ := H
            replace H : ((cupolaref05_Same.f kj9 t119 t122).bind fun t125 => (if t125 = true then ((rel_Inv.f kj9 y105).bind fun t126 => ((cupolaref05_Inv.f kj9 l0).bind fun t129 => ((cupolaref05_Same.f kj9 t126 t129).bind fun t132 => (if t132 = true then ((rel_Plus.f kj9 y105).bind fun t133 => ((cupolaref05_Plus.f kj9 l0).bind fun t136 => ((cupolaref05_Same.f kj9 t133 t136).bind fun t139 => (cupolalaw05_RelOne.j1 kj9 l0 a1 a3 a4 t101 y105 x13_9 t139)))) else (cupolalaw05_RelOne.j1 kj9 l0 a1 a3 a4 t101 y105 x13_9 false))))) else (cupolalaw05_RelOne.j1 kj9 l0 a1 a3 a4 t101 y105 x13_9 false))) = some r := H
            have A37 := Aside0.mk A370
            clear A370
            replace H := Option.bind_eq_some_iff.mp H
            obtain ⟨t125, A380, H⟩ := H
            replace H : (if t125 = true then ((rel_Inv.f kj9 y105).bind fun t126 => ((cupolaref05_Inv.f kj9 l0).bind fun t129 => ((cupolaref05_Same.f kj9 t126 t129).bind fun t132 => (if t132 = true then ((rel_Plus.f kj9 y105).bind fun t133 => ((cupolaref05_Plus.f kj9 l0).bind fun t136 => ((cupolaref05_Same.f kj9 t133 t136).bind fun t139 => (cupolalaw05_RelOne.j1 kj9 l0 a1 a3 a4 t101 y105 x13_9 t139)))) else (cupolalaw05_RelOne.j1 kj9 l0 a1 a3 a4 t101 y105 x13_9 false))))) else (cupolalaw05_RelOne.j1 kj9 l0 a1 a3 a4 t101 y105 x13_9 false)) = some r := H
            have A38 := Aside0.mk A380
            clear A380
            by_cases c39 : t125 = true
            · subst c39
              have H1 : ((rel_Inv.f kj9 y105).bind fun t126 => ((cupolaref05_Inv.f kj9 l0).bind fun t129 => ((cupolaref05_Same.f kj9 t126 t129).bind fun t132 => (if t132 = true then ((rel_Plus.f kj9 y105).bind fun t133 => ((cupolaref05_Plus.f kj9 l0).bind fun t136 => ((cupolaref05_Same.f kj9 t133 t136).bind fun t139 => (cupolalaw05_RelOne.j1 kj9 l0 a1 a3 a4 t101 y105 x13_9 t139)))) else (cupolalaw05_RelOne.j1 kj9 l0 a1 a3 a4 t101 y105 x13_9 false))))) = some r := by rw [if_pos rfl] at H; exact H
              clear H
              have H := H1
              clear H1
              replace H := Option.bind_eq_some_iff.mp H
              obtain ⟨t126, A400, H⟩ := H
              replace H : ((cupolaref05_Inv.f kj9 l0).bind fun t129 => ((cupolaref05_Same.f kj9 t126 t129).bind fun t132 => (if t132 = true then ((rel_Plus.f kj9 y105).bind fun t133 => ((cupolaref05_Plus.f kj9 l0).bind fun t136 => ((cupolaref05_Same.f kj9 t133 t136).bind fun t139 => (cupolalaw05_RelOne.j1 kj9 l0 a1 a3 a4 t101 y105 x13_9 t139)))) else (cupolalaw05_RelOne.j1 kj9 l0 a1 a3 a4 t101 y105 x13_9 false)))) = some r := H
              have A40 := Aside0.mk A400
              clear A400
              replace H := Option.bind_eq_some_iff.mp H
              obtain ⟨t129, A410, H⟩ := H
              replace H : ((cupolaref05_Same.f kj9 t126 t129).bind fun t132 => (if t132 = true then ((rel_Plus.f kj9 y105).bind fun t133 => ((cupolaref05_Plus.f kj9 l0).bind fun t136 => ((cupolaref05_Same.f kj9 t133 t136).bind fun t139 => (cupolalaw05_RelOne.j1 kj9 l0 a1 a3 a4 t101 y105 x13_9 t139)))) else (cupolalaw05_RelOne.j1 kj9 l0 a1 a3 a4 t101 y105 x13_9 false))) = some r := H
              have A41 := Aside0.mk A410
              clear A410
              replace H := Option.bind_eq_some_iff.mp H
              obtain ⟨t132, A420, H⟩ := H
              replace H : (if t132 = true then ((rel_Plus.f kj9 y105).bind fun t133 => ((cupolaref05_Plus.f kj9 l0).bind fun t136 => ((cupolaref05_Same.f kj9 t133 t136).bind fun t139 => (cupolalaw05_RelOne.j1 kj9 l0 a1 a3 a4 t101 y105 x13_9 t139)))) else (cupolalaw05_RelOne.j1 kj9 l0 a1 a3 a4 t101 y105 x13_9 false)) = some r := H
              have A42 := Aside0.mk A420
              clear A420
              by_cases c43 : t132 = true
              · subst c43
                have H1 : ((rel_Plus.f kj9 y105).bind fun t133 => ((cupolaref05_Plus.f kj9 l0).bind fun t136 => ((cupolaref05_Same.f kj9 t133 t136).bind fun t139 => (cupolalaw05_RelOne.j1 kj9 l0 a1 a3 a4 t101 y105 x13_9 t139)))) = some r := by rw [if_pos rfl] at H; exact H
                clear H
                have H := H1
                clear H1
                replace H := Option.bind_eq_some_iff.mp H
                obtain ⟨t133, A440, H⟩ := H
                replace H : ((cupolaref05_Plus.f kj9 l0).bind fun t136 => ((cupolaref05_Same.f kj9 t133 t136).bind fun t139 => (cupolalaw05_RelOne.j1 kj9 l0 a1 a3 a4 t101 y105 x13_9 t139))) = some r := H
                have A44 := Aside0.mk A440
                clear A440
                replace H := Option.bind_eq_some_iff.mp H
                obtain ⟨t136, A450, H⟩ := H
                replace H : ((cupolaref05_Same.f kj9 t133 t136).bind fun t139 => (cupolalaw05_RelOne.j1 kj9 l0 a1 a3 a4 t101 y105 x13_9 t139)) = some r := H
                have A45 := Aside0.mk A450
                clear A450
                replace H := Option.bind_eq_some_iff.mp H
                obtain ⟨t139, A460, H⟩ := H
                replace H : (cupolalaw05_RelOne.j1 kj9 l0 a1 a3 a4 t101 y105 x13_9 t139) = some r := H
                have A46 := Aside0.mk A460
                clear A460
                have H' := Aside0.mk H
                clear H
                obtain ⟨Ao47, co47, eo47⟩ := Kd.R_slice HO_12.out
                subst eo47
                go_wp2_with (first | (go_at_call 40; (with_reducible refine (rel_Put.calls kj9 _ _ y105 a1 a2 t119 _ ?side1 ?side2 A36.out).mono ?_); (case side1 => repeat (first | exact (Kd.R_reads' HO_12.out).2.2 | (with_reducible refine Kd.C_alloc ?_ _) | (with_reducible refine Kd.C_drewN ?_ _) | (with_reducible refine Kd.C_drew ?_))); (case side2 => exact (Kd.R_reads' HO_12.out).2.1); rintro e w48 ⟨v120, rfl, ho0, hb⟩; have n0_ := Aside0.mk (Kd.R_elder' (by (with_reducible repeat (first | apply Kd.R_alloc | apply Kd.R_drewN | apply Kd.R_drew)); exact HO_12.out) (Kd.R_base ho0) hb); have n1_ := Aside0.mk (Kd.R_lower (Kd.R_new' ho0 (Kd.R_lt (by (with_reducible repeat (first | apply Kd.R_alloc | apply Kd.R_drewN | apply Kd.R_drew)); exact HO_12.out))) (below_size (by repeat (first | (with_reducible first | exact HB.out | apply below_alloc | apply pw_below_drewN | apply below_drew1) | exact HB.out)))); have n2_ := Aside0.mk (below_step (by repeat (first | (with_reducible first | exact HB.out | apply below_alloc | apply pw_below_drewN | apply below_drew1) | exact HB.out)) hb); clear HO_12; clear HB; have HO_12 := n0_; have HO121 := n1_; have HB := n2_; clear n0_ n1_ n2_; (try clear hb); (try clear hb2); (try clear hk); (try clear hi); (try clear ho0)) | (go_at_call 49; (with_reducible refine (cupolaref05_Put.calls kj9 _ _ l0 a1 a2 t122 _ ?side1 ?side2 A37.out).mono ?_); (case side1 => repeat (first | exact (Kd.C_below HR0.out HB.out) | (with_reducible refine Kd.C_alloc ?_ _) | (with_reducible refine Kd.C_drewN ?_ _) | (with_reducible refine Kd.C_drew ?_))); (case side2 => exact HC0.out); rintro e w49 ⟨v123, rfl, ho0, hb⟩; have n0_ := Aside0.mk (Kd.R_elder' (by (with_reducible repeat (first | apply Kd.R_alloc | apply Kd.R_drewN | apply Kd.R_drew)); exact HO_12.out) (Kd.R_base ho0) hb); have n1_ := Aside0.mk (Kd.R_elder' (by (with_reducible repeat (first | apply Kd.R_alloc | apply Kd.R_drewN | apply Kd.R_drew)); exact HO121.out) (Kd.R_base ho0) hb); have n2_ := Aside0.mk (Kd.R_lower (Kd.R_new' (Kd.R_new' ho0 (Kd.R_lt (by (with_reducible repeat (first | apply Kd.R_alloc | apply Kd.R_drewN | apply Kd.R_drew)); exact HO_12.out))) (Kd.R_lt (by (with_reducible repeat (first | apply Kd.R_alloc | apply Kd.R_drewN | apply Kd.R_drew)); exact HO121.out))) (below_size (by repeat (first | (with_reducible first | exact HB.out | apply below_alloc | apply pw_below_drewN | apply below_drew1) | exact HB.out)))); have n3_ := Aside0.mk (below_step (by repeat (first | (with_reducible first | exact HB.out | apply below_alloc | apply pw_below_drewN | apply below_drew1) | exact HB.out)) hb); clear HO_12; clear HO121; clear HB; have HO_12 := n0_; have HO121 := n1_; have HO124 := n2_; have HB := n3_; clear n0_ n1_ n2_ n3_; (try clear hb); (try clear hb2); (try clear hk); (try clear hi); (try clear ho0); obtain ⟨Ao50, co50, eo50⟩ := Kd.R_slice HO121.out; subst eo50; obtain ⟨Ao51, co51, eo51⟩ := Kd.R_slice HO124.out; subst eo51) | (go_at_call 48; (with_reducible refine (cupolaref05_Same.calls kj9 _ _ t119 _ _ t122 true _ ?side1 ?side2 ?side3 ?side4 A38.out).mono ?_); (case side1 => repeat (first | exact (Kd.R_reads' HO121.out).2.2 | (with_reducible refine Kd.C_alloc ?_ _) | (with_reducible refine Kd.C_drewN ?_ _) | (with_reducible refine Kd.C_drew ?_))); (case side2 => exact (Kd.R_reads' HO121.out).2.1); (case side3 => repeat (first | exact (Kd.R_reads' HO124.out).2.2 | (with_reducible refine Kd.C_alloc ?_ _) | (with_reducible refine Kd.C_drewN ?_ _) | (with_reducible refine Kd.C_drew ?_))); (case side4 => exact (Kd.R_reads' HO124.out).2.1); rintro e w52 ⟨rfl, hb⟩; have n0_ := Aside0.mk (Kd.R_below (by (with_reducible repeat (first | apply Kd.R_alloc | apply Kd.R_drewN | apply Kd.R_drew)); exact HO_12.out) hb); have n1_ := Aside0.mk (Kd.R_below (by (with_reducible repeat (first | apply Kd.R_alloc | apply Kd.R_drewN | apply Kd.R_drew)); exact HO121.out) hb); have n2_ := Aside0.mk (Kd.R_below (by (with_reducible repeat (first | apply Kd.R_alloc | apply Kd.R_drewN | apply Kd.R_drew)); exact HO124.out) hb); have n3_ := Aside0.mk (below_step (by repeat (first | (with_reducible first | exact HB.out | apply below_alloc | apply pw_below_drewN | apply below_drew1) | exact HB.out)) hb); clear HO_12; clear HO121; clear HO124; clear HB; have HO_12 := n0_; have HO121 := n1_; have HO124 := n2_; have HB := n3_; clear n0_ n1_ n2_ n3_; (try clear hb); (try clear hb2); (try clear hk); (try clear hi)) | (go_at_call 50; (with_reducible refine (rel_Inv.calls kj9 _ _ y105 t126 _ ?side1 ?side2 A40.out).mono ?_); (case side1 => repeat (first | exact (Kd.R_reads' HO_12.out).2.2 | (with_reducible refine Kd.C_alloc ?_ _) | (with_reducible refine Kd.C_drewN ?_ _) | (with_reducible refine Kd.C_drew ?_))); (case side2 => exact (Kd.R_reads' HO_12.out).2.1); rintro e w53 ⟨v127, rfl, ho0, hb⟩; have n0_ := Aside0.mk (Kd.R_elder' (by (with_reducible repeat (first | apply Kd.R_alloc | apply Kd.R_drewN | apply Kd.R_drew)); exact HO_12.out) (Kd.R_base ho0) hb); have n1_ := Aside0.mk (Kd.R_elder' (by (with_reducible repeat (first | apply Kd.R_alloc | apply Kd.R_drewN | apply Kd.R_drew)); exact HO121.out) (Kd.R_base ho0) hb); have n2_ := Aside0.mk (Kd.R_elder' (by (with_reducible repeat (first | apply Kd.R_alloc | apply Kd.R_drewN | apply Kd.R_drew)); exact HO124.out) (Kd.R_base ho0) hb); have n3_ := Aside0.mk (Kd.R_lower (Kd.R_new' (Kd.R_new' (Kd.R_new' ho0 (Kd.R_lt (by (with_reducible repeat (first | apply Kd.R_alloc | apply Kd.R_drewN | apply Kd.R_drew)); exact HO_12.out))) (Kd.R_lt (by (with_reducible repeat (first | apply Kd.R_alloc | apply Kd.R_drewN | apply Kd.R_drew)); exact HO121.out))) (Kd.R_lt (by (with_reducible repeat (first | apply Kd.R_alloc | apply Kd.R_drewN | apply Kd.R_drew)); exact HO124.out))) (below_size (by repeat (first | (with_reducible first | exact HB.out | apply below_alloc | apply pw_below_drewN | apply below_drew1) | exact HB.out)))); have n4_ := Aside0.mk (below_step (by repeat (first | (with_reducible first | exact HB.out | apply below_alloc | apply pw_below_drewN | apply below_drew1) | exact HB.out)) hb); clear HO_12; clear HO121; clear HO124; clear HB; have HO_12 := n0_; have HO121 := n1_; have HO124 := n2_; have HO128 := n3_; have HB := n4_; clear n0_ n1_ n2_ n3_ n4_; (try clear hb); (try clear hb2); (try clear hk); (try clear hi); (try clear ho0)) | (go_at_call 51; (with_reducible refine (cupolaref05_Inv.calls kj9 _ _ l0 t129 _ ?side1 ?side2 A41.out).mono ?_); (case side1 => repeat (first | exact (Kd.C_below HR0.out HB.out) | (with_reducible refine Kd.C_alloc ?_ _) | (with_reducible refine Kd.C_drewN ?_ _) | (with_reducible refine Kd.C_drew ?_))); (case side2 => exact HC0.out); rintro e w54 ⟨v130, rfl, ho0, hb⟩; have n0_ := Aside0.mk (Kd.R_elder' (by (with_reducible repeat (first | apply Kd.R_alloc | apply Kd.R_drewN | apply Kd.R_drew)); exact HO_12.out) (Kd.R_base ho0) hb); have n1_ := Aside0.mk (Kd.R_elder' (by (with_reducible repeat (first | apply Kd.R_alloc | apply Kd.R_drewN | apply Kd.R_drew)); exact HO121.out) (Kd.R_base ho0) hb); have n2_ := Aside0.mk (Kd.R_elder' (by (with_reducible repeat (first | apply Kd.R_alloc | apply Kd.R_drewN | apply Kd.R_drew)); exact HO124.out) (Kd.R_base ho0) hb); have n3_ := Aside0.mk (Kd.R_elder' (by (with_reducible repeat (first | apply Kd.R_alloc | apply Kd.R_drewN | apply Kd.R_drew)); exact HO128.out) (Kd.R_base ho0) hb); have n4_ := Aside0.mk (Kd.R_lower (Kd.R_new' (Kd.R_new' (Kd.R_new' (Kd.R_new' ho0 (Kd.R_lt (by (with_reducible repeat (first | apply Kd.R_alloc | apply Kd.R_drewN | apply Kd.R_drew)); exact HO_12.out))) (Kd.R_lt (by (with_reducible repeat (first | apply Kd.R_alloc | apply Kd.R_drewN | apply Kd.R_drew)); exact HO121.out))) (Kd.R_lt (by (with_reducible repeat (first | apply Kd.R_alloc | apply Kd.R_drewN | apply Kd.R_drew)); exact HO124.out))) (Kd.R_lt (by (with_reducible repeat (first | apply Kd.R_alloc | apply Kd.R_drewN | apply Kd.R_drew)); exact HO128.out))) (below_size (by repeat (first | (with_reducible first | exact HB.out | apply below_alloc | apply pw_below_drewN | apply below_drew1) | exact HB.out)))); have n5_ := Aside0.mk (below_step (by repeat (first | (with_reducible first | exact HB.out | apply below_alloc | apply pw_below_drewN | apply below_drew1) | exact HB.out)) hb); clear HO_12; clear HO121; clear HO124; clear HO128; clear HB; have HO_12 := n0_; have HO121 := n1_; have HO124 := n2_; have HO128 := n3_; have HO131 := n4_; have HB := n5_; clear n0_ n1_ n2_ n3_ n4_ n5_; (try clear hb); (try clear hb2); (try clear hk); (try clear hi); (try clear ho0); obtain ⟨Ao55, co55, eo55⟩ := Kd.R_slice HO128.out; subst eo55; obtain ⟨Ao56, co56, eo56⟩ := Kd.R_slice HO131.out; subst eo56) | (go_at_call 48; (with_reducible refine (cupolaref05_Same.calls kj9 _ _ t126 _ _ t129 true _ ?side1 ?side2 ?side3 ?side4 A42.out).mono ?_); (case side1 => repeat (first | exact (Kd.R_reads' HO128.out).2.2 | (with_reducible refine Kd.C_alloc ?_ _) | (with_reducible refine Kd.C_drewN ?_ _) | (with_reducible refine Kd.C_drew ?_))); (case side2 => exact (Kd.R_reads' HO128.out).2.1); (case side3 => repeat (first | exact (Kd.R_reads' HO131.out).2.2 | (with_reducible refine Kd.C_alloc ?_ _) | (with_reducible refine Kd.C_drewN ?_ _) | (with_reducible refine Kd.C_drew ?_))); (case side4 => exact (Kd.R_reads' HO131.out).2.1); rintro e w57 ⟨rfl, hb⟩; have n0_ := Aside0.mk (Kd.R_below (by (with_reducible repeat (first | apply Kd.R_alloc | apply Kd.R_drewN | apply Kd.R_drew)); exact HO_12.out) hb); have n1_ := Aside0.mk (Kd.R_below (by (with_reducible repeat (first | apply Kd.R_alloc | apply Kd.R_drewN | apply Kd.R_drew)); exact HO121.out) hb); have n2_ := Aside0.mk (Kd.R_below (by (with_reducible repeat (first | apply Kd.R_alloc | apply Kd.R_drewN | apply Kd.R_drew)); exact HO124.out) hb); have n3_ := Aside0.mk (Kd.R_below (by (with_reducible repeat (first | apply Kd.R_alloc | apply Kd.R_drewN | apply Kd.R_drew)); exact HO128.out) hb); have n4_ := Aside0.mk (Kd.R_below (by (with_reducible repeat (first | apply Kd.R_alloc | apply Kd.R_drewN | apply Kd.R_drew)); exact HO131.out) hb); have n5_ := Aside0.mk (below_step (by repeat (first | (with_reducible first | exact HB.out | apply below_alloc | apply pw_below_drewN | apply below_drew1) | exact HB.out)) hb); clear HO_12; clear HO121; clear HO124; clear HO128; clear HO131; clear HB; have HO_12 := n0_; have HO121 := n1_; have HO124 := n2_; have HO128 := n3_; have HO131 := n4_; have HB := n5_; clear n0_ n1_ n2_ n3_ n4_ n5_; (try clear hb); (try clear hb2); (try clear hk); (try clear hi)) | (go_at_call 52; (with_reducible refine (rel_Plus.calls kj9 _ _ y105 t133 _ ?side1 ?side2 A44.out).mono ?_); (case side1 => repeat (first | exact (Kd.R_reads' HO_12.out).2.2 | (with_reducible refine Kd.C_alloc ?_ _) | (with_reducible refine Kd.C_drewN ?_ _) | (with_reducible refine Kd.C_drew ?_))); (case side2 => exact (Kd.R_reads' HO_12.out).2.1); rintro e w58 ⟨v134, rfl, ho0, hb⟩; have n0_ := Aside0.mk (Kd.R_elder' (by (with_reducible repeat (first | apply Kd.R_alloc | apply Kd.R_drewN | apply Kd.R_drew)); exact HO_12.out) (Kd.R_base ho0) hb); have n1_ := Aside0.mk (Kd.R_elder' (by (with_reducible repeat (first | apply Kd.R_alloc | apply Kd.R_drewN | apply Kd.R_drew)); exact HO121.out) (Kd.R_base ho0) hb); have n2_ := Aside0.mk (Kd.R_elder' (by (with_reducible repeat (first | apply Kd.R_alloc | apply Kd.R_drewN | apply Kd.R_drew)); exact HO124.out) (Kd.R_base ho0) hb); have n3_ := Aside0.mk (Kd.R_elder' (by (with_reducible repeat (first | apply Kd.R_alloc | apply Kd.R_drewN | apply Kd.R_drew)); exact HO128.out) (Kd.R_base ho0) hb); have n4_ := Aside0.mk (Kd.R_elder' (by (with_reducible repeat (first | apply Kd.R_alloc | apply Kd.R_drewN | apply Kd.R_drew)); exact HO131.out) (Kd.R_base ho0) hb); have n5_ := Aside0.mk (Kd.R_lower (Kd.R_new' (Kd.R_new' (Kd.R_new' (Kd.R_new' (Kd.R_new' ho0 (Kd.R_lt (by (with_reducible repeat (first | apply Kd.R_alloc | apply Kd.R_drewN | apply Kd.R_drew)); exact HO_12.out))) (Kd.R_lt (by (with_reducible repeat (first | apply Kd.R_alloc | apply Kd.R_drewN | apply Kd.R_drew)); exact HO121.out))) (Kd.R_lt (by (with_reducible repeat (first | apply Kd.R_alloc | apply Kd.R_drewN | apply Kd.R_drew)); exact HO124.out))) (Kd.R_lt (by (with_reducible repeat (first | apply Kd.R_alloc | apply Kd.R_drewN | apply Kd.R_drew)); exact HO128.out))) (Kd.R_lt (by (with_reducible repeat (first | apply Kd.R_alloc | apply Kd.R_drewN | apply Kd.R_drew)); exact HO131.out))) (below_size (by repeat (first | (with_reducible first | exact HB.out | apply below_alloc | apply pw_below_drewN | apply below_drew1) | exact HB.out)))); have n6_ := Aside0.mk (below_step (by repeat (first | (with_reducible first | exact HB.out | apply below_alloc | apply pw_below_drewN | apply below_drew1) | exact HB.out)) hb); clear HO_12; clear HO121; clear HO124; clear HO128; clear HO131; clear HB; have HO_12 := n0_; have HO121 := n1_; have HO124 := n2_; have HO128 := n3_; have HO131 := n4_; have HO135 := n5_; have HB := n6_; clear n0_ n1_ n2_ n3_ n4_ n5_ n6_; (try clear hb); (try clear hb2); (try clear hk); (try clear hi); (try clear ho0)) | (go_at_call 53; (with_reducible refine (cupolaref05_Plus.calls kj9 _ _ l0 t136 _ ?side1 ?side2 A45.out).mono ?_); (case side1 => repeat (first | exact (Kd.C_below HR0.out HB.out) | (with_reducible refine Kd.C_alloc ?_ _) | (with_reducible refine Kd.C_drewN ?_ _) | (with_reducible refine Kd.C_drew ?_))); (case side2 => exact HC0.out); rintro e w59 ⟨v137, rfl, ho0, hb⟩; have n0_ := Aside0.mk (Kd.R_elder' (by (with_reducible repeat (first | apply Kd.R_alloc | apply Kd.R_drewN | apply Kd.R_drew)); exact HO_12.out) (Kd.R_base ho0) hb); have n1_ := Aside0.mk (Kd.R_elder' (by (with_reducible repeat (first | apply Kd.R_alloc | apply Kd.R_drewN | apply Kd.R_drew)); exact HO121.out) (Kd.R_base ho0) hb); have n2_ := Aside0.mk (Kd.R_elder' (by (with_reducible repeat (first | apply Kd.R_alloc | apply Kd.R_drewN | apply Kd.R_drew)); exact HO124.out) (Kd.R_base ho0) hb); have n3_ := Aside0.mk (Kd.R_elder' (by (with_reducible repeat (first | apply Kd.R_alloc | apply Kd.R_drewN | apply Kd.R_drew)); exact HO128.out) (Kd.R_base ho0) hb); have n4_ := Aside0.mk (Kd.R_elder' (by (with_reducible repeat (first | apply Kd.R_alloc | apply Kd.R_drewN | apply Kd.R_drew)); exact HO131.out) (Kd.R_base ho0) hb); have n5_ := Aside0.mk (Kd.R_elder' (by (with_reducible repeat (first | apply Kd.R_alloc | apply Kd.R_drewN | apply Kd.R_drew)); exact HO135.out) (Kd.R_base ho0) hb); have n6_ := Aside0.mk (Kd.R_lower (Kd.R_new' (Kd.R_new' (Kd.R_new' (Kd.R_new' (Kd.R_new' (Kd.R_new' ho0 (Kd.R_lt (by (with_reducible repeat (first | apply Kd.R_alloc | apply Kd.R_drewN | apply Kd.R_drew)); exact HO_12.out))) (Kd.R_lt (by (with_reducible repeat (first | apply Kd.R_alloc | apply Kd.R_drewN | apply Kd.R_drew)); exact HO121.out))) (Kd.R_lt (by (with_reducible repeat (first | apply Kd.R_alloc | apply Kd.R_drewN | apply Kd.R_drew)); exact HO124.out))) (Kd.R_lt (by (with_reducible repeat (first | apply Kd.R_alloc | apply Kd.R_drewN | apply Kd.R_drew)); exact HO128.out))) (Kd.R_lt (by (with_reducible repeat (first | apply Kd.R_alloc | apply Kd.R_drewN | apply Kd.R_drew)); exact HO131.out))) (Kd.R_lt (by (with_reducible repeat (first | apply Kd.R_alloc | apply Kd.R_drewN | apply Kd.R_drew)); exact HO135.out))) (below_size (by repeat (first | (with_reducible first | exact HB.out | apply below_alloc | apply pw_below_drewN | apply below_drew1) | exact HB.out)))); have n7_ := Aside0.mk (below_step (by repeat (first | (with_reducible first | exact HB.out | apply below_alloc | apply pw_below_drewN | apply below_drew1) | exact HB.out)) hb); clear HO_12; clear HO121; clear HO124; clear HO128; clear HO131; clear HO135; clear HB; have HO_12 := n0_; have HO121 := n1_; have HO124 := n2_; have HO128 := n3_; have HO131 := n4_; have HO135 := n5_; have HO138 := n6_; have HB := n7_; clear n0_ n1_ n2_ n3_ n4_ n5_ n6_ n7_; (try clear hb); (try clear hb2); (try clear hk); (try clear hi); (try clear ho0); obtain ⟨Ao60, co60, eo60⟩ := Kd.R_slice HO135.out; subst eo60; obtain ⟨Ao61, co61, eo61⟩ := Kd.R_slice HO138.out; subst eo61) | (go_at_call 48; (with_reducible refine (cupolaref05_Same.calls kj9 _ _ t133 _ _ t136 t139 _ ?side1 ?side2 ?side3 ?side4 A46.out).mono ?_); (case side1 => repeat (first | exact (Kd.R_reads' HO135.out).2.2 | (with_reducible refine Kd.C_alloc ?_ _) | (with_reducible refine Kd.C_drewN ?_ _) | (with_reducible refine Kd.C_drew ?_))); (case side2 => exact (Kd.R_reads' HO135.out).2.1); (case side3 => repeat (first | exact (Kd.R_reads' HO138.out).2.2 | (with_reducible refine Kd.C_alloc ?_ _) | (with_reducible refine Kd.C_drewN ?_ _) | (with_reducible refine Kd.C_drew ?_))); (case side4 => exact (Kd.R_reads' HO138.out).2.1); rintro e w62 ⟨rfl, hb⟩; have n0_ := Aside0.mk (Kd.R_below (by (with_reducible repeat (first | apply Kd.R_alloc | apply Kd.R_drewN | apply Kd.R_drew)); exact HO_12.out) hb); have n1_ := Aside0.mk (Kd.R_below (by (with_reducible repeat (first | apply Kd.R_alloc | apply Kd.R_drewN | apply Kd.R_drew)); exact HO121.out) hb); have n2_ := Aside0.mk (Kd.R_below (by (with_reducible repeat (first | apply Kd.R_alloc | apply Kd.R_drewN | apply Kd.R_drew)); exact HO124.out) hb); have n3_ := Aside0.mk (Kd.R_below (by (with_reducible repeat (first | apply Kd.R_alloc | apply Kd.R_drewN | apply Kd.R_drew)); exact HO128.out) hb); have n4_ := Aside0.mk (Kd.R_below (by (with_reducible repeat (first | apply Kd.R_alloc | apply Kd.R_drewN | apply Kd.R_drew)); exact HO131.out) hb); have n5_ := Aside0.mk (Kd.R_below (by (with_reducible repeat (first | apply Kd.R_alloc | apply Kd.R_drewN | apply Kd.R_drew)); exact HO135.out) hb); have n6_ := Aside0.mk (Kd.R_below (by (with_reducible repeat (first | apply Kd.R_alloc | apply Kd.R_drewN | apply Kd.R_drew)); exact HO138.out) hb); have n7_ := Aside0.mk (below_step (by repeat (first | (with_reducible first | exact HB.out | apply below_alloc | apply pw_below_drewN | apply below_drew1) | exact HB.out)) hb); clear HO_12; clear HO121; clear HO124; clear HO128; clear HO131; clear HO135; clear HO138; clear HB; have HO_12 := n0_; have HO121 := n1_; have HO124 := n2_; have HO128 := n3_; have HO131 := n4_; have HO135 := n5_; have HO138 := n6_; have HB := n7_; clear n0_ n1_ n2_ n3_ n4_ n5_ n6_ n7_; (try clear hb); (try clear hb2); (try clear hk); (try clear hi)))
                go_meet
                case rel => exact ⟨_, (t139), (by first | rfl | (simp; done) | (simp [*]; done)), H', ⟨by have := HJ9.out; first | omega | exact Nat.le_refl _⟩, ⟨by (with_reducible repeat (first | apply Kd.R_alloc | apply Kd.R_drewN | apply Kd.R_drew)); exact Kd.R_mono HO_12.out (fun _ hk => trivial)⟩, ⟨by repeat (first | (with_reducible first | exact HB.out | apply below_alloc | apply pw_below_drewN | apply below_drew1) | exact HB.out)⟩⟩
              · replace c43 := Bool.eq_false_iff.mpr c43
                subst c43
                have H1 : (cupolalaw05_RelOne.j1 kj9 l0 a1 a3 a4 t101 y105 x13_9 false) = some r := by rw [if_neg (show ¬ (false = true) by decide)] at H; exact H
                clear H
                have H := H1
                clear H1
                have H' := Aside0.mk H
                clear H
                obtain ⟨Ao63, co63, eo63⟩ := Kd.R_slice HO_12.out
                subst eo63
                go_wp2_with (first | (go_at_call 40; (with_reducible refine (rel_Put.calls kj9 _ _ y105 a1 a2 t119 _ ?side1 ?side2 A36.out).mono ?_); (case side1 => repeat (first | exact (Kd.R_reads' HO_12.out).2.2 | (with_reducible refine Kd.C_alloc ?_ _) | (with_reducible refine Kd.C_drewN ?_ _) | (with_reducible refine Kd.C_drew ?_))); (case side2 => exact (Kd.R_reads' HO_12.out).2.1); rintro e w64 ⟨v120, rfl, ho0, hb⟩; have n0_ := Aside0.mk (Kd.R_elder' (by (with_reducible repeat (first | apply Kd.R_alloc | apply Kd.R_drewN | apply Kd.R_drew)); exact HO_12.out) (Kd.R_base ho0) hb); have n1_ := Aside0.mk (Kd.R_lower (Kd.R_new' ho0 (Kd.R_lt (by (with_reducible repeat (first | apply Kd.R_alloc | apply Kd.R_drewN | apply Kd.R_drew)); exact HO_12.out))) (below_size (by repeat (first | (with_reducible first | exact HB.out | apply below_alloc | apply pw_below_drewN | apply below_drew1) | exact HB.out)))); have n2_ := Aside0.mk (below_step (by repeat (first | (with_reducible first | exact HB.out | apply below_alloc | apply pw_below_drewN | apply below_drew1) | exact HB.out)) hb); clear HO_12; clear HB; have HO_12 := n0_; have HO121 := n1_; have HB := n2_; clear n0_ n1_ n2_; (try clear hb); (try clear hb2); (try clear hk); (try clear hi); (try clear ho0)) | (go_at_call 49; (with_reducible refine (cupolaref05_Put.calls kj9 _ _ l0 a1 a2 t122 _ ?side1 ?side2 A37.out).mono ?_); (case side1 => repeat (first | exact (Kd.C_below HR0.out HB.out) | (with_reducible refine Kd.C_alloc ?_ _) | (with_reducible refine Kd.C_drewN ?_ _) | (with_reducible refine Kd.C_drew ?_))); (case side2 => exact HC0.out); rintro e w65 ⟨v123, rfl, ho0, hb⟩; have n0_ := Aside0.mk (Kd.R_elder' (by (with_reducible repeat (first | apply Kd.R_alloc | apply Kd.R_drewN | apply Kd.R_drew)); exact HO_12.out) (Kd.R_base ho0) hb); have n1_ := Aside0.mk (Kd.R_elder' (by (with_reducible repeat (first | apply Kd.R_alloc | apply Kd.R_drewN | apply Kd.R_drew)); exact HO121.out) (Kd.R_base ho0) hb); have n2_ := Aside0.mk (Kd.R_lower (Kd.R_new' (Kd.R_new' ho0 (Kd.R_lt (by (with_reducible repeat (first | apply Kd.R_alloc | apply Kd.R_drewN | apply Kd.R_drew)); exact HO_12.out))) (Kd.R_lt (by (with_reducible repeat (first | apply Kd.R_alloc | apply Kd.R_drewN | apply Kd.R_drew)); exact HO121.out))) (below_size (by repeat (first | (with_reducible first | exact HB.out | apply below_alloc | apply pw_below_drewN | apply below_drew1) | exact HB.out)))); have n3_ := Aside0.mk (below_step (by repeat (first | (with_reducible first | exact HB.out | apply below_alloc | apply pw_below_drewN | apply below_drew1) | exact HB.out)) hb); clear HO_12; clear HO121; clear HB; have HO_12 := n0_; have HO121 := n1_; have HO124 := n2_; have HB := n3_; clear n0_ n1_ n2_ n3_; (try clear hb); (try clear hb2); (try clear hk); (try clear hi); (try clear ho0); obtain ⟨Ao66, co66, eo66⟩ := Kd.R_slice HO121.out; subst eo66; obtain ⟨Ao67, co67, eo67⟩ := Kd.R_slice HO124.out; subst eo67) | (go_at_call 48; (with_reducible refine (cupolaref05_Same.calls kj9 _ _ t119 _ _ t122 true _ ?side1 ?side2 ?side3 ?side4 A38.out).mono ?_); (case side1 => repeat (first | exact (Kd.R_reads' HO121.out).2.2 | (with_reducible refine Kd.C_alloc ?_ _) | (with_reducible refine Kd.C_drewN ?_ _) | (with_reducible refine Kd.C_drew ?_))); (case side2 => exact (Kd.R_reads' HO121.out).2.1); (case side3 => repeat (first | exact (Kd.R_reads' HO124.out).2.2 | (with_reducible refine Kd.C_alloc ?_ _) | (with_reducible refine Kd.C_drewN ?_ _) | (with_reducible refine Kd.C_drew ?_))); (case side4 => exact (Kd.R_reads' HO124.out).2.1); rintro e w68 ⟨rfl, hb⟩; have n0_ := Aside0.mk (Kd.R_below (by (with_reducible repeat (first | apply Kd.R_alloc | apply Kd.R_drewN | apply Kd.R_drew)); exact HO_12.out) hb); have n1_ := Aside0.mk (Kd.R_below (by (with_reducible repeat (first | apply Kd.R_alloc | apply Kd.R_drewN | apply Kd.R_drew)); exact HO121.out) hb); have n2_ := Aside0.mk (Kd.R_below (by (with_reducible repeat (first | apply Kd.R_alloc | apply Kd.R_drewN | apply Kd.R_drew)); exact HO124.out) hb); have n3_ := Aside0.mk (below_step (by repeat (first | (with_reducible first | exact HB.out | apply below_alloc | apply pw_below_drewN | apply below_drew1) | exact HB.out)) hb); clear HO_12; clear HO121; clear HO124; clear HB; have HO_12 := n0_; have HO121 := n1_; have HO124 := n2_; have HB := n3_; clear n0_ n1_ n2_ n3_; (try clear hb); (try clear hb2); (try clear hk); (try clear hi)) | (go_at_call 50; (with_reducible refine (rel_Inv.calls kj9 _ _ y105 t126 _ ?side1 ?side2 A40.out).mono ?_); (case side1 => repeat (first | exact (Kd.R_reads' HO_12.out).2.2 | (with_reducible refine Kd.C_alloc ?_ _) | (with_reducible refine Kd.C_drewN ?_ _) | (with_reducible refine Kd.C_drew ?_))); (case side2 => exact (Kd.R_reads' HO_12.out).2.1); rintro e w69 ⟨v127, rfl, ho0, hb⟩; have n0_ := Aside0.mk (Kd.R_elder' (by (with_reducible repeat (first | apply Kd.R_alloc | apply Kd.R_drewN | apply Kd.R_drew)); exact HO_12.out) (Kd.R_base ho0) hb); have n1_ := Aside0.mk (Kd.R_elder' (by (with_reducible repeat (first | apply Kd.R_alloc | apply Kd.R_drewN | apply Kd.R_drew)); exact HO121.out) (Kd.R_base ho0) hb); have n2_ := Aside0.mk (Kd.R_elder' (by (with_reducible repeat (first | apply Kd.R_alloc | apply Kd.R_drewN | apply Kd.R_drew)); exact HO124.out) (Kd.R_base ho0) hb); have n3_ := Aside0.mk (Kd.R_lower (Kd.R_new' (Kd.R_new' (Kd.R_new' ho0 (Kd.R_lt (by (with_reducible repeat (first | apply Kd.R_alloc | apply Kd.R_drewN | apply Kd.R_drew)); exact HO_12.out))) (Kd.R_lt (by (with_reducible repeat (first | apply Kd.R_alloc | apply Kd.R_drewN | apply Kd.R_drew)); exact HO121.out))) (Kd.R_lt (by (with_reducible repeat (first | apply Kd.R_alloc | apply Kd.R_drewN | apply Kd.R_drew)); exact HO124.out))) (below_size (by repeat (first | (with_reducible first | exact HB.out | apply below_alloc | apply pw_below_drewN | apply below_drew1) | exact HB.out)))); have n4_ := Aside0.mk (below_step (by repeat (first | (with_reducible first | exact HB.out | apply below_alloc | apply pw_below_drewN | apply below_drew1) | exact HB.out)) hb); clear HO_12; clear HO121; clear HO124; clear HB; have HO_12 := n0_; have HO121 := n1_; have HO124 := n2_; have HO128 := n3_; have HB := n4_; clear n0_ n1_ n2_ n3_ n4_; (try clear hb); (try clear hb2); (try clear hk); (try clear hi); (try clear ho0)) | (go_at_call 51; (with_reducible refine (cupolaref05_Inv.calls kj9 _ _ l0 t129 _ ?side1 ?side2 A41.out).mono ?_); (case side1 => repeat (first | exact (Kd.C_below HR0.out HB.out) | (with_reducible refine Kd.C_alloc ?_ _) | (with_reducible refine Kd.C_drewN ?_ _) | (with_reducible refine Kd.C_drew ?_))); (case side2 => exact HC0.out); rintro e w70 ⟨v130, rfl, ho0, hb⟩; have n0_ := Aside0.mk (Kd.R_elder' (by (with_reducible repeat (first | apply Kd.R_alloc | apply Kd.R_drewN | apply Kd.R_drew)); exact HO_12.out) (Kd.R_base ho0) hb); have n1_ := Aside0.mk (Kd.R_elder' (by (with_reducible repeat (first | apply Kd.R_alloc | apply Kd.R_drewN | apply Kd.R_drew)); exact HO121.out) (Kd.R_base ho0) hb); have n2_ := Aside0.mk (Kd.R_elder' (by (with_reducible repeat (first | apply Kd.R_alloc | apply Kd.R_drewN | apply Kd.R_drew)); exact HO124.out) (Kd.R_base ho0) hb); have n3_ := Aside0.mk (Kd.R_elder' (by (with_reducible repeat (first | apply Kd.R_alloc | apply Kd.R_drewN | apply Kd.R_drew)); exact HO128.out) (Kd.R_base ho0) hb); have n4_ := Aside0.mk (Kd.R_lower (Kd.R_new' (Kd.R_new' (Kd.R_new' (Kd.R_new' ho0 (Kd.R_lt (by (with_reducible repeat (first | apply Kd.R_alloc | apply Kd.R_drewN | apply Kd.R_drew)); exact HO_12.out))) (Kd.R_lt (by (with_reducible repeat (first | apply Kd.R_alloc | apply Kd.R_drewN | apply Kd.R_drew)); exact HO121.out))) (Kd.R_lt (by (with_reducible repeat (first | apply Kd.R_alloc | apply Kd.R_drewN | apply Kd.R_drew)); exact HO124.out))) (Kd.R_lt (by (with_reducible repeat (first | apply Kd.R_alloc | apply Kd.R_drewN | apply Kd.R_drew)); exact HO128.out))) (below_size (by repeat (first | (with_reducible first | exact HB.out | apply below_alloc | apply pw_below_drewN | apply below_drew1) | exact HB.out)))); have n5_ := Aside0.mk (below_step (by repeat (first | (with_reducible first | exact HB.out | apply below_alloc | apply pw_below_drewN | apply below_drew1) | exact HB.out)) hb); clear HO_12; clear HO121; clear HO124; clear HO128; clear HB; have HO_12 := n0_; have HO121 := n1_; have HO124 := n2_; have HO128 := n3_; have HO131 := n4_; have HB := n5_; clear n0_ n1_ n2_ n3_ n4_ n5_; (try clear hb); (try clear hb2); (try clear hk); (try clear hi); (try clear ho0); obtain ⟨Ao71, co71, eo71⟩ := Kd.R_slice HO128.out; subst eo71; obtain ⟨Ao72, co72, eo72⟩ := Kd.R_slice HO131.out; subst eo72) | (go_at_call 48; (with_reducible refine (cupolaref05_Same.calls kj9 _ _ t126 _ _ t129 false _ ?side1 ?side2 ?side3 ?side4 A42.out).mono ?_); (case side1 => repeat (first | exact (Kd.R_reads' HO128.out).2.2 | (with_reducible refine Kd.C_alloc ?_ _) | (with_reducible refine Kd.C_drewN ?_ _) | (with_reducible refine Kd.C_drew ?_))); (case side2 => exact (Kd.R_reads' HO128.out).2.1); (case side3 => repeat (first | exact (Kd.R_reads' HO131.out).2.2 | (with_reducible refine Kd.C_alloc ?_ _) | (with_reducible refine Kd.C_drewN ?_ _) | (with_reducible refine Kd.C_drew ?_))); (case side4 => exact (Kd.R_reads' HO131.out).2.1); rintro e w73 ⟨rfl, hb⟩; have n0_ := Aside0.mk (Kd.R_below (by (with_reducible repeat (first | apply Kd.R_alloc | apply Kd.R_drewN | apply Kd.R_drew)); exact HO_12.out) hb); have n1_ := Aside0.mk (Kd.R_below (by (with_reducible repeat (first | apply Kd.R_alloc | apply Kd.R_drewN | apply Kd.R_drew)); exact HO121.out) hb); have n2_ := Aside0.mk (Kd.R_below (by (with_reducible repeat (first | apply Kd.R_alloc | apply Kd.R_drewN | apply Kd.R_drew)); exact HO124.out) hb); have n3_ := Aside0.mk (Kd.R_below (by (with_reducible repeat (first | apply Kd.R_alloc | apply Kd.R_drewN | apply Kd.R_drew)); exact HO128.out) hb); have n4_ := Aside0.mk (Kd.R_below (by (with_reducible repeat (first | apply Kd.R_alloc | apply Kd.R_drewN | apply Kd.R_drew)); exact HO131.out) hb); have n5_ := Aside0.mk (below_step (by repeat (first | (with_reducible first | exact HB.out | apply below_alloc | apply pw_below_drewN | apply below_drew1) | exact HB.out)) hb); clear HO_12; clear HO121; clear HO124; clear HO128; clear HO131; clear HB; have HO_12 := n0_; have HO121 := n1_; have HO124 := n2_; have HO128 := n3_; have HO131 := n4_; have HB := n5_; clear n0_ n1_ n2_ n3_ n4_ n5_; (try clear hb); (try clear hb2); (try clear hk); (try clear hi)))
                go_meet
                case rel => exact ⟨_, (false), (by first | rfl | (simp; done) | (simp [*]; done)), H', ⟨by have := HJ9.out; first | omega | exact Nat.le_refl _⟩, ⟨by (with_reducible repeat (first | apply Kd.R_alloc | apply Kd.R_drewN | apply Kd.R_drew)); exact Kd.R_mono HO_12.out (fun _ hk => trivial)⟩, ⟨by repeat (first | (with_reducible first | exact HB.out | apply below_alloc | apply pw_below_drewN | apply below_drew1) | exact HB.out)⟩⟩
            · replace c39 := Bool.eq_false_iff.mpr c39
              subst c39
              have H1 : (cupolalaw05_RelOne.j1 kj9 l0 a1 a3 a4 t101 y105 x13_9 false) = some r := by rw [if_neg (show ¬ (false = true) by decide)] at H; exact H
              clear H
              have H := H1
              clear H1
              have H' := Aside0.mk H
              clear H
              obtain ⟨Ao74, co74, eo74⟩ := Kd.R_slice HO_12.out
              subst eo74
              go_wp2_with (first | (go_at_call 40; (with_reducible refine (rel_Put.calls kj9 _ _ y105 a1 a2 t119 _ ?side1 ?side2 A36.out).mono ?_); (case side1 => repeat (first | exact (Kd.R_reads' HO_12.out).2.2 | (with_reducible refine Kd.C_alloc ?_ _) | (with_reducible refine Kd.C_drewN ?_ _) | (with_reducible refine Kd.C_drew ?_))); (case side2 => exact (Kd.R_reads' HO_12.out).2.1); rintro e w75 ⟨v120, rfl, ho0, hb⟩; have n0_ := Aside0.mk (Kd.R_elder' (by (with_reducible repeat (first | apply Kd.R_alloc | apply Kd.R_drewN | apply Kd.R_drew)); exact HO_12.out) (Kd.R_base ho0) hb); have n1_ := Aside0.mk (Kd.R_lower (Kd.R_new' ho0 (Kd.R_lt (by (with_reducible repeat (first | apply Kd.R_alloc | apply Kd.R_drewN | apply Kd.R_drew)); exact HO_12.out))) (below_size (by repeat (first | (with_reducible first | exact HB.out | apply below_alloc | apply pw_below_drewN | apply below_drew1) | exact HB.out)))); have n2_ := Aside0.mk (below_step (by repeat (first | (with_reducible first | exact HB.out | apply below_alloc | apply pw_below_drewN | apply below_drew1) | exact HB.out)) hb); clear HO_12; clear HB; have HO_12 := n0_; have HO121 := n1_; have HB := n2_; clear n0_ n1_ n2_; (try clear hb); (try clear hb2); (try clear hk); (try clear hi); (try clear ho0)) | (go_at_call 49; (with_reducible refine (cupolaref05_Put.calls kj9 _ _ l0 a1 a2 t122 _ ?side1 ?side2 A37.out).mono ?_); (case side1 => repeat (first | exact (Kd.C_below HR0.out HB.out) | (with_reducible refine Kd.C_alloc ?_ _) | (with_reducible refine Kd.C_drewN ?_ _) | (with_reducible refine Kd.C_drew ?_))); (case side2 => exact HC0.out); rintro e w76 ⟨v123, rfl, ho0, hb⟩; have n0_ := Aside0.mk (Kd.R_elder' (by (with_reducible repeat (first | apply Kd.R_alloc | apply Kd.R_drewN | apply Kd.R_drew)); exact HO_12.out) (Kd.R_base ho0) hb); have n1_ := Aside0.mk (Kd.R_elder' (by (with_reducible repeat (first | apply Kd.R_alloc | apply Kd.R_drewN | apply Kd.R_drew)); exact HO121.out) (Kd.R_base ho0) hb); have n2_ := Aside0.mk (Kd.R_lower (Kd.R_new' (Kd.R_new' ho0 (Kd.R_lt (by (with_reducible repeat (first | apply Kd.R_alloc | apply Kd.R_drewN | apply Kd.R_drew)); exact HO_12.out))) (Kd.R_lt (by (with_reducible repeat (first | apply Kd.R_alloc | apply Kd.R_drewN | apply Kd.R_drew)); exact HO121.out))) (below_size (by repeat (first | (with_reducible first | exact HB.out | apply below_alloc | apply pw_below_drewN | apply below_drew1) | exact HB.out)))); have n3_ := Aside0.mk (below_step (by repeat (first | (with_reducible first | exact HB.out | apply below_alloc | apply pw_below_drewN | apply below_drew1) | exact HB.out)) hb); clear HO_12; clear HO121; clear HB; have HO_12 := n0_; have HO121 := n1_; have HO124 := n2_; have HB := n3_; clear n0_ n1_ n2_ n3_; (try clear hb); (try clear hb2); (try clear hk); (try clear hi); (try clear ho0); obtain ⟨Ao77, co77, eo77⟩ := Kd.R_slice HO121.out; subst eo77; obtain ⟨Ao78, co78, eo78⟩ := Kd.R_slice HO124.out; subst eo78) | (go_at_call 48; (with_reducible refine (cupolaref05_Same.calls kj9 _ _ t119 _ _ t122 false _ ?side1 ?side2 ?side3 ?side4 A38.out).mono ?_); (case side1 => repeat (first | exact (Kd.R_reads' HO121.out).2.2 | (with_reducible refine Kd.C_alloc ?_ _) | (with_reducible refine Kd.C_drewN ?_ _) | (with_reducible refine Kd.C_drew ?_))); (case side2 => exact (Kd.R_reads' HO121.out).2.1); (case side3 => repeat (first | exact (Kd.R_reads' HO124.out).2.2 | (with_reducible refine Kd.C_alloc ?_ _) | (with_reducible refine Kd.C_drewN ?_ _) | (with_reducible refine Kd.C_drew ?_))); (case side4 => exact (Kd.R_reads' HO124.out).2.1); rintro e w79 ⟨rfl, hb⟩; have n0_ := Aside0.mk (Kd.R_below (by (with_reducible repeat (first | apply Kd.R_alloc | apply Kd.R_drewN | apply Kd.R_drew)); exact HO_12.out) hb); have n1_ := Aside0.mk (Kd.R_below (by (with_reducible repeat (first | apply Kd.R_alloc | apply Kd.R_drewN | apply Kd.R_drew)); exact HO121.out) hb); have n2_ := Aside0.mk (Kd.R_below (by (with_reducible repeat (first | apply Kd.R_alloc | apply Kd.R_drewN | apply Kd.R_drew)); exact HO124.out) hb); have n3_ := Aside0.mk (below_step (by repeat (first | (with_reducible first | exact HB.out | apply below_alloc | apply pw_below_drewN | apply below_drew1) | exact HB.out)) hb); clear HO_12; clear HO121; clear HO124; clear HB; have HO_12 := n0_; have HO121 := n1_; have HO124 := n2_; have HB := n3_; clear n0_ n1_ n2_ n3_; (try clear hb); (try clear hb2); (try clear hk); (try clear hi)))
              go_meet
              case rel => exact ⟨_, (false), (by first | rfl | (simp; done) | (simp [*]; done)), H', ⟨by have := HJ9.out; first | omega | exact Nat.le_refl _⟩, ⟨by (with_reducible repeat (first | apply Kd.R_alloc | apply Kd.R_drewN | apply Kd.R_drew)); exact Kd.R_mono HO_12.out (fun _ hk => trivial)⟩, ⟨by repeat (first | (with_reducible first | exact HB.out | apply below_alloc | apply pw_below_drewN | apply below_drew1) | exact HB.out)⟩⟩
          case rest =>
            clear HC35
            try clear c1
            try clear c2
            try clear p2
            try clear c3
            try clear c4
            try clear c7
            try clear c7b0
            try clear c7b1
            try clear c8
            try clear c9
            try clear c17
            try clear c17b0
            try clear c17b1
            try clear c17b2
            try clear c20
            try clear c20b0
            try clear c20b1
            try clear c20b2
            try clear c39
            try clear c43
            try clear p2
            obtain ⟨kq, x14_34, rfl, HA, HJ34, HO_12, HB⟩ := hcut
            cases kq with
            | zero => exact absurd HA.out (by simp [cupolalaw05_RelOne.j1])
            | succ kj34 =>
              have H := HA.out
              clear HA
              simp only [cupolalaw05_RelOne.j1] at H
              have HC80 := Aside0.mk H
              clear H
              go_upto_region 7 with (fail)
              repeat (go_quiet (fail); go_upto_region 7 with (fail))
              go_cut [15] (fun v15 wc => ∃ (kq : Nat) (x15_79 : Bool), v15 = .bool x15_79 ∧ Aside0 (cupolalaw05_RelOne.j2 kq l0 t101 y105 x13_9 x14_34 x15_79 = some r) ∧ Aside0 (kq ≤ kj34) ∧ Aside0 (Kd.R (Kd.int .u32) 52 wc w.heap.size (fun _ => True) v106 y105) ∧ Aside0 (Below w.heap.size w wc))
              case first =>
                have H := HC80.out
                clear HC80
                replace H := Option.bind_eq_some_iff.mp H
                obtain ⟨t140, A810, H⟩ := H
                replace H : ((cupolaref05_Only.f kj34 l0 a3 a4).bind fun t143 => ((cupolaref05_Same.f kj34 t140 t143).bind fun t146 => (if t146 = true then ((rel_Cross.f kj34 a1 a3 a4).bind fun t147 => ((cupolaref05_Cross.f kj34 a1 a3 a4).bind fun t150 => ((cupolaref05_Same.f kj34 t147 t150).bind fun t153 => (cupolalaw05_RelOne.j2 kj34 l0 t101 y105 x13_9 x14_34 t153)))) else (cupolalaw05_RelOne.j2 kj34 l0 t101 y105 x13_9 x14_34 false)))) = some r := H
                have A81 := Aside0.mk A810
                clear A810
                replace H := Option.bind_eq_some_iff.mp H
                obtain ⟨t143, A820, H⟩ := H
                replace H : ((cupolaref05_Same.f kj34 t140 t143).bind fun t146 => (if t146 = true then ((rel_Cross.f kj34 a1 a3 a4).bind fun t147 => ((cupolaref05_Cross.f kj34 a1 a3 a4).bind fun t150 => ((cupolaref05_Same.f kj34 t147 t150).bind fun t153 => (cupolalaw05_RelOne.j2 kj34 l0 t101 y105 x13_9 x14_34 t153)))) else (cupolalaw05_RelOne.j2 kj34 l0 t101 y105 x13_9 x14_34 false))) = some r := H
                have A82 := Aside0.mk A820
                clear A820
                replace H := Option.bind_eq_some_iff.mp H
                obtain ⟨t146, A830, H⟩ := H
                replace H : (if t146 = true then ((rel_Cross.f kj34 a1 a3 a4).bind fun t147 => ((cupolaref05_Cross.f kj34 a1 a3 a4).bind fun t150 => ((cupolaref05_Same.f kj34 t147 t150).bind fun t153 => (cupolalaw05_RelOne.j2 kj34 l0 t101 y105 x13_9 x14_34 t153)))) else (cupolalaw05_RelOne.j2 kj34 l0 t101 y105 x13_9 x14_34 false)) = some r := H
                have A83 := Aside0.mk A830
                clear A830
                by_cases c84 : t146 = true
                · subst c84
                  have H1 : ((rel_Cross.f kj34 a1 a3 a4).bind fun t147 => ((cupolaref05_Cross.f kj34 a1 a3 a4).bind fun t150 => ((cupolaref05_Same.f kj34 t147 t150).bind fun t153 => (cupolalaw05_RelOne.j2 kj34 l0 t101 y105 x13_9 x14_34 t153)))) = some r := by rw [if_pos rfl] at H; exact H
                  clear H
                  have H := H1
                  clear H1
                  replace H := Option.bind_eq_some_iff.mp H
                  obtain ⟨t147, A850, H⟩ := H
                  replace H : ((cupolaref05_Cross.f kj34 a1 a3 a4).bind fun t150 => ((cupolaref05_Same.f kj34 t147 t150).bind fun t153 => (cupolalaw05_RelOne.j2 kj34 l0 t101 y105 x13_9 x14_34 t153))) = some r := H
                  have A85 := Aside0.mk A850
                  clear A850
                  replace H := Option.bind_eq_some_iff.mp H
                  obtain ⟨t150, A860, H⟩ := H
                  replace H : ((cupolaref05_Same.f kj34 t147 t150).bind fun t153 => (cupolalaw05_RelOne.j2 kj34 l0 t101 y105 x13_9 x14_34 t153)) = some r := H
                  have A86 := Aside0.mk A860
                  clear A860
                  replace H := Option.bind_eq_some_iff.mp H
                  obtain ⟨t153, A870, H⟩ := H
                  replace H : (cupolalaw05_RelOne.j2 kj34 l0 t101 y105 x13_9 x14_34 t153) = some r := H
                  have A87 := Aside0.mk A870
                  clear A870
                  have H' := Aside0.mk H
                  clear H
                  obtain ⟨Ao88, co88, eo88⟩ := Kd.R_slice HO_12.out
                  subst eo88
                  go_wp2_with (first | (go_at_call 54; (with_reducible refine (rel_Only.calls kj34 _ _ y105 a3 a4 t140 _ ?side1 ?side2 A81.out).mono ?_); (case side1 => repeat (first | exact (Kd.R_reads' HO_12.out).2.2 | (with_reducible refine Kd.C_alloc ?_ _) | (with_reducible refine Kd.C_drewN ?_ _) | (with_reducible refine Kd.C_drew ?_))); (case side2 => exact (Kd.R_reads' HO_12.out).2.1); rintro e w89 ⟨v141, rfl, ho0, hb⟩; have n0_ := Aside0.mk (Kd.R_elder' (by (with_reducible repeat (first | apply Kd.R_alloc | apply Kd.R_drewN | apply Kd.R_drew)); exact HO_12.out) (Kd.R_base ho0) hb); have n1_ := Aside0.mk (Kd.R_lower (Kd.R_new' ho0 (Kd.R_lt (by (with_reducible repeat (first | apply Kd.R_alloc | apply Kd.R_drewN | apply Kd.R_drew)); exact HO_12.out))) (below_size (by repeat (first | (with_reducible first | exact HB.out | apply below_alloc | apply pw_below_drewN | apply below_drew1) | exact HB.out)))); have n2_ := Aside0.mk (below_step (by repeat (first | (with_reducible first | exact HB.out | apply below_alloc | apply pw_below_drewN | apply below_drew1) | exact HB.out)) hb); clear HO_12; clear HB; have HO_12 := n0_; have HO142 := n1_; have HB := n2_; clear n0_ n1_ n2_; (try clear hb); (try clear hb2); (try clear hk); (try clear hi); (try clear ho0)) | (go_at_call 55; (with_reducible refine (cupolaref05_Only.calls kj34 _ _ l0 a3 a4 t143 _ ?side1 ?side2 A82.out).mono ?_); (case side1 => repeat (first | exact (Kd.C_below HR0.out HB.out) | (with_reducible refine Kd.C_alloc ?_ _) | (with_reducible refine Kd.C_drewN ?_ _) | (with_reducible refine Kd.C_drew ?_))); (case side2 => exact HC0.out); rintro e w90 ⟨v144, rfl, ho0, hb⟩; have n0_ := Aside0.mk (Kd.R_elder' (by (with_reducible repeat (first | apply Kd.R_alloc | apply Kd.R_drewN | apply Kd.R_drew)); exact HO_12.out) (Kd.R_base ho0) hb); have n1_ := Aside0.mk (Kd.R_elder' (by (with_reducible repeat (first | apply Kd.R_alloc | apply Kd.R_drewN | apply Kd.R_drew)); exact HO142.out) (Kd.R_base ho0) hb); have n2_ := Aside0.mk (Kd.R_lower (Kd.R_new' (Kd.R_new' ho0 (Kd.R_lt (by (with_reducible repeat (first | apply Kd.R_alloc | apply Kd.R_drewN | apply Kd.R_drew)); exact HO_12.out))) (Kd.R_lt (by (with_reducible repeat (first | apply Kd.R_alloc | apply Kd.R_drewN | apply Kd.R_drew)); exact HO142.out))) (below_size (by repeat (first | (with_reducible first | exact HB.out | apply below_alloc | apply pw_below_drewN | apply below_drew1) | exact HB.out)))); have n3_ := Aside0.mk (below_step (by repeat (first | (with_reducible first | exact HB.out | apply below_alloc | apply pw_below_drewN | apply below_drew1) | exact HB.out)) hb); clear HO_12; clear HO142; clear HB; have HO_12 := n0_; have HO142 := n1_; have HO145 := n2_; have HB := n3_; clear n0_ n1_ n2_ n3_; (try clear hb); (try clear hb2); (try clear hk); (try clear hi); (try clear ho0); obtain ⟨Ao91, co91, eo91⟩ := Kd.R_slice HO142.out; subst eo91; obtain ⟨Ao92, co92, eo92⟩ := Kd.R_slice HO145.out; subst eo92) | (go_at_call 48; (with_reducible refine (cupolaref05_Same.calls kj34 _ _ t140 _ _ t143 true _ ?side1 ?side2 ?side3 ?side4 A83.out).mono ?_); (case side1 => repeat (first | exact (Kd.R_reads' HO142.out).2.2 | (with_reducible refine Kd.C_alloc ?_ _) | (with_reducible refine Kd.C_drewN ?_ _) | (with_reducible refine Kd.C_drew ?_))); (case side2 => exact (Kd.R_reads' HO142.out).2.1); (case side3 => repeat (first | exact (Kd.R_reads' HO145.out).2.2 | (with_reducible refine Kd.C_alloc ?_ _) | (with_reducible refine Kd.C_drewN ?_ _) | (with_reducible refine Kd.C_drew ?_))); (case side4 => exact (Kd.R_reads' HO145.out).2.1); rintro e w93 ⟨rfl, hb⟩; have n0_ := Aside0.mk (Kd.R_below (by (with_reducible repeat (first | apply Kd.R_alloc | apply Kd.R_drewN | apply Kd.R_drew)); exact HO_12.out) hb); have n1_ := Aside0.mk (Kd.R_below (by (with_reducible repeat (first | apply Kd.R_alloc | apply Kd.R_drewN | apply Kd.R_drew)); exact HO142.out) hb); have n2_ := Aside0.mk (Kd.R_below (by (with_reducible repeat (first | apply Kd.R_alloc | apply Kd.R_drewN | apply Kd.R_drew)); exact HO145.out) hb); have n3_ := Aside0.mk (below_step (by repeat (first | (with_reducible first | exact HB.out | apply below_alloc | apply pw_below_drewN | apply below_drew1) | exact HB.out)) hb); clear HO_12; clear HO142; clear HO145; clear HB; have HO_12 := n0_; have HO142 := n1_; have HO145 := n2_; have HB := n3_; clear n0_ n1_ n2_ n3_; (try clear hb); (try clear hb2); (try clear hk); (try clear hi)) | (go_at_call 56; (with_reducible refine (rel_Cross.calls kj34 a1 a3 a4 t147 _ A85.out).mono ?_); rintro e w94 ⟨v148, rfl, ho0, hb⟩; have n0_ := Aside0.mk (Kd.R_elder' (by (with_reducible repeat (first | apply Kd.R_alloc | apply Kd.R_drewN | apply Kd.R_drew)); exact HO_12.out) (Kd.R_base ho0) hb); have n1_ := Aside0.mk (Kd.R_elder' (by (with_reducible repeat (first | apply Kd.R_alloc | apply Kd.R_drewN | apply Kd.R_drew)); exact HO142.out) (Kd.R_base ho0) hb); have n2_ := Aside0.mk (Kd.R_elder' (by (with_reducible repeat (first | apply Kd.R_alloc | apply Kd.R_drewN | apply Kd.R_drew)); exact HO145.out) (Kd.R_base ho0) hb); have n3_ := Aside0.mk (Kd.R_lower (Kd.R_new' (Kd.R_new' (Kd.R_new' ho0 (Kd.R_lt (by (with_reducible repeat (first | apply Kd.R_alloc | apply Kd.R_drewN | apply Kd.R_drew)); exact HO_12.out))) (Kd.R_lt (by (with_reducible repeat (first | apply Kd.R_alloc | apply Kd.R_drewN | apply Kd.R_drew)); exact HO142.out))) (Kd.R_lt (by (with_reducible repeat (first | apply Kd.R_alloc | apply Kd.R_drewN | apply Kd.R_drew)); exact HO145.out))) (below_size (by repeat (first | (with_reducible first | exact HB.out | apply below_alloc | apply pw_below_drewN | apply below_drew1) | exact HB.out)))); have n4_ := Aside0.mk (below_step (by repeat (first | (with_reducible first | exact HB.out | apply below_alloc | apply pw_below_drewN | apply below_drew1) | exact HB.out)) hb); clear HO_12; clear HO142; clear HO145; clear HB; have HO_12 := n0_; have HO142 := n1_; have HO145 := n2_; have HO149 := n3_; have HB := n4_; clear n0_ n1_ n2_ n3_ n4_; (try clear hb); (try clear hb2); (try clear hk); (try clear hi); (try clear ho0)) | (go_at_call 57; (with_reducible refine (cupolaref05_Cross.calls kj34 a1 a3 a4 t150 _ A86.out).mono ?_); rintro e w95 ⟨v151, rfl, ho0, hb⟩; have n0_ := Aside0.mk (Kd.R_elder' (by (with_reducible repeat (first | apply Kd.R_alloc | apply Kd.R_drewN | apply Kd.R_drew)); exact HO_12.out) (Kd.R_base ho0) hb); have n1_ := Aside0.mk (Kd.R_elder' (by (with_reducible repeat (first | apply Kd.R_alloc | apply Kd.R_drewN | apply Kd.R_drew)); exact HO142.out) (Kd.R_base ho0) hb); have n2_ := Aside0.mk (Kd.R_elder' (by (with_reducible repeat (first | apply Kd.R_alloc | apply Kd.R_drewN | apply Kd.R_drew)); exact HO145.out) (Kd.R_base ho0) hb); have n3_ := Aside0.mk (Kd.R_elder' (by (with_reducible repeat (first | apply Kd.R_alloc | apply Kd.R_drewN | apply Kd.R_drew)); exact HO149.out) (Kd.R_base ho0) hb); have n4_ := Aside0.mk (Kd.R_lower (Kd.R_new' (Kd.R_new' (Kd.R_new' (Kd.R_new' ho0 (Kd.R_lt (by (with_reducible repeat (first | apply Kd.R_alloc | apply Kd.R_drewN | apply Kd.R_drew)); exact HO_12.out))) (Kd.R_lt (by (with_reducible repeat (first | apply Kd.R_alloc | apply Kd.R_drewN | apply Kd.R_drew)); exact HO142.out))) (Kd.R_lt (by (with_reducible repeat (first | apply Kd.R_alloc | apply Kd.R_drewN | apply Kd.R_drew)); exact HO145.out))) (Kd.R_lt (by (with_reducible repeat (first | apply Kd.R_alloc | apply Kd.R_drewN | apply Kd.R_drew)); exact HO149.out))) (below_size (by repeat (first | (with_reducible first | exact HB.out | apply below_alloc | apply pw_below_drewN | apply below_drew1) | exact HB.out)))); have n5_ := Aside0.mk (below_step (by repeat (first | (with_reducible first | exact HB.out | apply below_alloc | apply pw_below_drewN | apply below_drew1) | exact HB.out)) hb); clear HO_12; clear HO142; clear HO145; clear HO149; clear HB; have HO_12 := n0_; have HO142 := n1_; have HO145 := n2_; have HO149 := n3_; have HO152 := n4_; have HB := n5_; clear n0_ n1_ n2_ n3_ n4_ n5_; (try clear hb); (try clear hb2); (try clear hk); (try clear hi); (try clear ho0); obtain ⟨Ao96, co96, eo96⟩ := Kd.R_slice HO149.out; subst eo96; obtain ⟨Ao97, co97, eo97⟩ := Kd.R_slice HO152.out; subst eo97) | (go_at_call 48; (with_reducible refine (cupolaref05_Same.calls kj34 _ _ t147 _ _ t150 t153 _ ?side1 ?side2 ?side3 ?side4 A87.out).mono ?_); (case side1 => repeat (first | exact (Kd.R_reads' HO149.out).2.2 | (with_reducible refine Kd.C_alloc ?_ _) | (with_reducible refine Kd.C_drewN ?_ _) | (with_reducible refine Kd.C_drew ?_))); (case side2 => exact (Kd.R_reads' HO149.out).2.1); (case side3 => repeat (first | exact (Kd.R_reads' HO152.out).2.2 | (with_reducible refine Kd.C_alloc ?_ _) | (with_reducible refine Kd.C_drewN ?_ _) | (with_reducible refine Kd.C_drew ?_))); (case side4 => exact (Kd.R_reads' HO152.out).2.1); rintro e w98 ⟨rfl, hb⟩; have n0_ := Aside0.mk (Kd.R_below (by (with_reducible repeat (first | apply Kd.R_alloc | apply Kd.R_drewN | apply Kd.R_drew)); exact HO_12.out) hb); have n1_ := Aside0.mk (Kd.R_below (by (with_reducible repeat (first | apply Kd.R_alloc | apply Kd.R_drewN | apply Kd.R_drew)); exact HO142.out) hb); have n2_ := Aside0.mk (Kd.R_below (by (with_reducible repeat (first | apply Kd.R_alloc | apply Kd.R_drewN | apply Kd.R_drew)); exact HO145.out) hb); have n3_ := Aside0.mk (Kd.R_below (by (with_reducible repeat (first | apply Kd.R_alloc | apply Kd.R_drewN | apply Kd.R_drew)); exact HO149.out) hb); have n4_ := Aside0.mk (Kd.R_below (by (with_reducible repeat (first | apply Kd.R_alloc | apply Kd.R_drewN | apply Kd.R_drew)); exact HO152.out) hb); have n5_ := Aside0.mk (below_step (by repeat (first | (with_reducible first | exact HB.out | apply below_alloc | apply pw_below_drewN | apply below_drew1) | exact HB.out)) hb); clear HO_12; clear HO142; clear HO145; clear HO149; clear HO152; clear HB; have HO_12 := n0_; have HO142 := n1_; have HO145 := n2_; have HO149 := n3_; have HO152 := n4_; have HB := n5_; clear n0_ n1_ n2_ n3_ n4_ n5_; (try clear hb); (try clear hb2); (try clear hk); (try clear hi)))
                  go_meet
                  case rel => exact ⟨_, (t153), (by first | rfl | (simp; done) | (simp [*]; done)), H', ⟨by have := HJ9.out; have := HJ34.out; first | omega | exact Nat.le_refl _⟩, ⟨by (with_reducible repeat (first | apply Kd.R_alloc | apply Kd.R_drewN | apply Kd.R_drew)); exact Kd.R_mono HO_12.out (fun _ hk => trivial)⟩, ⟨by repeat (first | (with_reducible first | exact HB.out | apply below_alloc | apply pw_below_drewN | apply below_drew1) | exact HB.out)⟩⟩
                · replace c84 := Bool.eq_false_iff.mpr c84
                  subst c84
                  have H1 : (cupolalaw05_RelOne.j2 kj34 l0 t101 y105 x13_9 x14_34 false) = some r := by rw [if_neg (show ¬ (false = true) by decide)] at H; exact H
                  clear H
                  have H := H1
                  clear H1
                  have H' := Aside0.mk H
                  clear H
                  obtain ⟨Ao99, co99, eo99⟩ := Kd.R_slice HO_12.out
                  subst eo99
                  go_wp2_with (first | (go_at_call 54; (with_reducible refine (rel_Only.calls kj34 _ _ y105 a3 a4 t140 _ ?side1 ?side2 A81.out).mono ?_); (case side1 => repeat (first | exact (Kd.R_reads' HO_12.out).2.2 | (with_reducible refine Kd.C_alloc ?_ _) | (with_reducible refine Kd.C_drewN ?_ _) | (with_reducible refine Kd.C_drew ?_))); (case side2 => exact (Kd.R_reads' HO_12.out).2.1); rintro e w100 ⟨v141, rfl, ho0, hb⟩; have n0_ := Aside0.mk (Kd.R_elder' (by (with_reducible repeat (first | apply Kd.R_alloc | apply Kd.R_drewN | apply Kd.R_drew)); exact HO_12.out) (Kd.R_base ho0) hb); have n1_ := Aside0.mk (Kd.R_lower (Kd.R_new' ho0 (Kd.R_lt (by (with_reducible repeat (first | apply Kd.R_alloc | apply Kd.R_drewN | apply Kd.R_drew)); exact HO_12.out))) (below_size (by repeat (first | (with_reducible first | exact HB.out | apply below_alloc | apply pw_below_drewN | apply below_drew1) | exact HB.out)))); have n2_ := Aside0.mk (below_step (by repeat (first | (with_reducible first | exact HB.out | apply below_alloc | apply pw_below_drewN | apply below_drew1) | exact HB.out)) hb); clear HO_12; clear HB; have HO_12 := n0_; have HO142 := n1_; have HB := n2_; clear n0_ n1_ n2_; (try clear hb); (try clear hb2); (try clear hk); (try clear hi); (try clear ho0)) | (go_at_call 55; (with_reducible refine (cupolaref05_Only.calls kj34 _ _ l0 a3 a4 t143 _ ?side1 ?side2 A82.out).mono ?_); (case side1 => repeat (first | exact (Kd.C_below HR0.out HB.out) | (with_reducible refine Kd.C_alloc ?_ _) | (with_reducible refine Kd.C_drewN ?_ _) | (with_reducible refine Kd.C_drew ?_))); (case side2 => exact HC0.out); rintro e w101 ⟨v144, rfl, ho0, hb⟩; have n0_ := Aside0.mk (Kd.R_elder' (by (with_reducible repeat (first | apply Kd.R_alloc | apply Kd.R_drewN | apply Kd.R_drew)); exact HO_12.out) (Kd.R_base ho0) hb); have n1_ := Aside0.mk (Kd.R_elder' (by (with_reducible repeat (first | apply Kd.R_alloc | apply Kd.R_drewN | apply Kd.R_drew)); exact HO142.out) (Kd.R_base ho0) hb); have n2_ := Aside0.mk (Kd.R_lower (Kd.R_new' (Kd.R_new' ho0 (Kd.R_lt (by (with_reducible repeat (first | apply Kd.R_alloc | apply Kd.R_drewN | apply Kd.R_drew)); exact HO_12.out))) (Kd.R_lt (by (with_reducible repeat (first | apply Kd.R_alloc | apply Kd.R_drewN | apply Kd.R_drew)); exact HO142.out))) (below_size (by repeat (first | (with_reducible first | exact HB.out | apply below_alloc | apply pw_below_drewN | apply below_drew1) | exact HB.out)))); have n3_ := Aside0.mk (below_step (by repeat (first | (with_reducible first | exact HB.out | apply below_alloc | apply pw_below_drewN | apply below_drew1) | exact HB.out)) hb); clear HO_12; clear HO142; clear HB; have HO_12 := n0_; have HO142 := n1_; have HO145 := n2_; have HB := n3_; clear n0_ n1_ n2_ n3_; (try clear hb); (try clear hb2); (try clear hk); (try clear hi); (try clear ho0); obtain ⟨Ao102, co102, eo102⟩ := Kd.R_slice HO142.out; subst eo102; obtain ⟨Ao103, co103, eo103⟩ := Kd.R_slice HO145.out; subst eo103) | (go_at_call 48; (with_reducible refine (cupolaref05_Same.calls kj34 _ _ t140 _ _ t143 false _ ?side1 ?side2 ?side3 ?side4 A83.out).mono ?_); (case side1 => repeat (first | exact (Kd.R_reads' HO142.out).2.2 | (with_reducible refine Kd.C_alloc ?_ _) | (with_reducible refine Kd.C_drewN ?_ _) | (with_reducible refine Kd.C_drew ?_))); (case side2 => exact (Kd.R_reads' HO142.out).2.1); (case side3 => repeat (first | exact (Kd.R_reads' HO145.out).2.2 | (with_reducible refine Kd.C_alloc ?_ _) | (with_reducible refine Kd.C_drewN ?_ _) | (with_reducible refine Kd.C_drew ?_))); (case side4 => exact (Kd.R_reads' HO145.out).2.1); rintro e w104 ⟨rfl, hb⟩; have n0_ := Aside0.mk (Kd.R_below (by (with_reducible repeat (first | apply Kd.R_alloc | apply Kd.R_drewN | apply Kd.R_drew)); exact HO_12.out) hb); have n1_ := Aside0.mk (Kd.R_below (by (with_reducible repeat (first | apply Kd.R_alloc | apply Kd.R_drewN | apply Kd.R_drew)); exact HO142.out) hb); have n2_ := Aside0.mk (Kd.R_below (by (with_reducible repeat (first | apply Kd.R_alloc | apply Kd.R_drewN | apply Kd.R_drew)); exact HO145.out) hb); have n3_ := Aside0.mk (below_step (by repeat (first | (with_reducible first | exact HB.out | apply below_alloc | apply pw_below_drewN | apply below_drew1) | exact HB.out)) hb); clear HO_12; clear HO142; clear HO145; clear HB; have HO_12 := n0_; have HO142 := n1_; have HO145 := n2_; have HB := n3_; clear n0_ n1_ n2_ n3_; (try clear hb); (try clear hb2); (try clear hk); (try clear hi)))
                  go_meet
                  case rel => exact ⟨_, (false), (by first | rfl | (simp; done) | (simp [*]; done)), H', ⟨by have := HJ9.out; have := HJ34.out; first | omega | exact Nat.le_refl _⟩, ⟨by (with_reducible repeat (first | apply Kd.R_alloc | apply Kd.R_drewN | apply Kd.R_drew)); exact Kd.R_mono HO_12.out (fun _ hk => trivial)⟩, ⟨by repeat (first | (with_reducible first | exact HB.out | apply below_alloc | apply pw_below_drewN | apply below_drew1) | exact HB.out)⟩⟩
              case rest =>
                clear HC80
                try clear c1
                try clear c2
                try clear p2
                try clear c3
                try clear c4
                try clear c7
                try clear c7b0
                try clear c7b1
                try clear c8
                try clear c9
                try clear c17
                try clear c17b0
                try clear c17b1
                try clear c17b2
                try clear c20
                try clear c20b0
                try clear c20b1
                try clear c20b2
                try clear c39
                try clear c43
                try clear c84
                try clear p2
                obtain ⟨kq, x15_79, rfl, HA, HJ79, HO_12, HB⟩ := hcut
                cases kq with
                | zero => exact absurd HA.out (by simp [cupolalaw05_RelOne.j2])
                | succ kj79 =>
                  have H := HA.out
                  clear HA
                  simp only [cupolalaw05_RelOne.j2] at H
                  have H' := Aside0.mk H
                  clear H
                  go_wp2
                  repeat (go_quiet (fail); try go_wp2)
                  go_loopg [16] kj79 (fun kq v16 w' => ∃ (x16_4 : Int), v16 = .int .i64 x16_4 ∧ Aside0 (cupolalaw05_RelOne.l0 kq l0 t101 y105 x13_9 x14_34 x15_79 x16_4 = some r) ∧ Aside0 (kq ≤ kj79) ∧ Aside0 (Kd.R (Kd.int .u32) 52 w' w.heap.size (fun _ => True) v106 y105) ∧ Aside0 (Below w.heap.size w w'))
                  case atStart => exact ⟨(0), (by first | rfl | (simp; done) | (simp [*]; done)), H', ⟨Nat.le_refl _⟩, ⟨by (with_reducible repeat (first | apply Kd.R_alloc | apply Kd.R_drewN | apply Kd.R_drew)); exact HO_12.out⟩, ⟨by repeat (first | (with_reducible first | exact HB.out | apply below_alloc | apply pw_below_drewN | apply below_drew1) | exact HB.out)⟩⟩
                  case round =>
                    clear H'
                    try clear c1
                    try clear c2
                    try clear p2
                    try clear c3
                    try clear c4
                    try clear c7
                    try clear c7b0
                    try clear c7b1
                    try clear c8
                    try clear c9
                    try clear c17
                    try clear c17b0
                    try clear c17b1
                    try clear c17b2
                    try clear c20
                    try clear c20b0
                    try clear c20b1
                    try clear c20b2
                    try clear c39
                    try clear c43
                    try clear c84
                    try clear p2
                    obtain ⟨x16_4, rfl, HA, HK4, HO_12, HB⟩ := hrel
                    cases gk with
                    | zero => exact absurd HA.out (by simp [cupolalaw05_RelOne.l0])
                    | succ k4 =>
                      have H := HA.out
                      clear HA
                      simp only [cupolalaw05_RelOne.l0] at H
                      by_cases c105 : x16_4 < (l0.length : Int)
                      · rw [if_pos c105] at H
                        have c105b0 : decide (x16_4 < (l0.length : Int)) = true := decide_eq_true c105
                        clear c105
                        by_cases c106 : 0 ≤ x16_4
                        · rw [if_pos c106] at H
                          have c106b0 : decide (0 ≤ x16_4) = true := decide_eq_true c106
                          clear c106
                          by_cases c107 : x16_4 < (y105.length : Int)
                          · rw [if_pos c107] at H
                            have c107b0 : decide (x16_4 < (y105.length : Int)) = true := decide_eq_true c107
                            clear c107
                            by_cases c108 : (rd y105 x16_4) = (rd l0 x16_4)
                            · rw [if_pos c108] at H
                              have c108b0 : ((rd y105 x16_4) == (rd l0 x16_4)) = true := beq_iff_eq.mpr c108
                              have c108b1 : ((rd y105 x16_4) != (rd l0 x16_4)) = false := bne_eq_false_iff_eq.mpr c108
                              clear c108
                              have H' := Aside0.mk H
                              clear H
                              obtain ⟨Ao109, co109, eo109⟩ := Kd.R_slice HO_12.out
                              subst eo109
                              have p154 : 0 ≤ (x16_4 : Int) := of_decide_eq_true (by first | (with_reducible assumption) | assumption)
                              have q154 : x16_4 < (y105.length : Int) := of_decide_eq_true (by first | (with_reducible assumption) | assumption)
                              obtain ⟨ad154, e154, hx154_0⟩ := Kd.at_int (Kd.R_reads' HO_12.out).2.2 x16_4 p154 q154
                              cases e154
                              replace p154 := eq_true p154
                              replace q154 := eq_true q154
                              have p155 : 0 ≤ (x16_4 : Int) := of_decide_eq_true (by first | (with_reducible assumption) | assumption)
                              have q155 : x16_4 < (l0.length : Int) := of_decide_eq_true (by first | (with_reducible assumption) | assumption)
                              obtain ⟨ad155, e155, hx155_0⟩ := Kd.at_int HR0.out x16_4 p155 q155
                              cases e155
                              replace hx155_0 := (HB.out.cell (World.block_lt_of_cell? w _ hx155_0)).trans hx155_0
                              replace p155 := eq_true p155
                              replace q155 := eq_true q155
                              go_wp2
                              repeat (go_quiet (fail); try go_wp2)
                              go_roundg k4
                              case measure => have := HJ9.out; have := HJ34.out; have := HJ79.out; have := HK4.out; omega
                              case rel => exact ⟨(wrap64 (x16_4 + 1)), (by first | rfl | (simp; done) | (simp [*]; done)), H', ⟨by have := HJ9.out; have := HJ34.out; have := HJ79.out; have := HK4.out; omega⟩, ⟨by (with_reducible repeat (first | apply Kd.R_alloc | apply Kd.R_drewN | apply Kd.R_drew)); exact HO_12.out⟩, ⟨by repeat (first | (with_reducible first | exact HB.out | apply below_alloc | apply pw_below_drewN | apply below_drew1) | exact HB.out)⟩⟩
                            · rw [if_neg c108] at H
                              have c108b0 : ((rd y105 x16_4) == (rd l0 x16_4)) = false := beq_eq_false_iff_ne.mpr c108
                              have c108b1 : ((rd y105 x16_4) != (rd l0 x16_4)) = true := bne_iff_ne.mpr c108
                              obtain rfl := Option.some.inj H
                              obtain ⟨Ao110, co110, eo110⟩ := Kd.R_slice HO_12.out
                              subst eo110
                              have p154 : 0 ≤ (x16_4 : Int) := of_decide_eq_true (by first | (with_reducible assumption) | assumption)
                              have q154 : x16_4 < (y105.length : Int) := of_decide_eq_true (by first | (with_reducible assumption) | assumption)
                              obtain ⟨ad154, e154, hx154_0⟩ := Kd.at_int (Kd.R_reads' HO_12.out).2.2 x16_4 p154 q154
                              cases e154
                              replace p154 := eq_true p154
                              replace q154 := eq_true q154
                              have p155 : 0 ≤ (x16_4 : Int) := of_decide_eq_true (by first | (with_reducible assumption) | assumption)
                              have q155 : x16_4 < (l0.length : Int) := of_decide_eq_true (by first | (with_reducible assumption) | assumption)
                              obtain ⟨ad155, e155, hx155_0⟩ := Kd.at_int HR0.out x16_4 p155 q155
                              cases e155
                              replace hx155_0 := (HB.out.cell (World.block_lt_of_cell? w _ hx155_0)).trans hx155_0
                              replace p155 := eq_true p155
                              replace q155 := eq_true q155
                              go_wp2
                              repeat (go_quiet (fail); try go_wp2)
                              go_ret
                              exact ⟨by first | rfl | (simp [errW_none, errW_some] <;> rfl) | (simp [*, errW_none, errW_some] <;> rfl), by repeat (first | (with_reducible first | exact HB.out | apply below_alloc | apply pw_below_drewN | apply below_drew1) | exact HB.out)⟩
                          · rw [if_neg c107] at H
                            exact absurd H (by simp)
                        · rw [if_neg c106] at H
                          exact absurd H (by simp)
                      · rw [if_neg c105] at H
                        have c105b0 : decide (x16_4 < (l0.length : Int)) = false := decide_eq_false c105
                        clear c105
                        by_cases c111 : t101 = true
                        · subst c111
                          have H1 : (if x13_9 = true then (if x14_34 = true then (some x15_79) else (some false)) else (some false)) = some r := by rw [if_pos rfl] at H; exact H
                          clear H
                          have H := H1
                          clear H1
                          by_cases c112 : x13_9 = true
                          · subst c112
                            have H1 : (if x14_34 = true then (some x15_79) else (some false)) = some r := by rw [if_pos rfl] at H; exact H
                            clear H
                            have H := H1
                            clear H1
                            by_cases c113 : x14_34 = true
                            · subst c113
                              have H1 : (some x15_79) = some r := by rw [if_pos rfl] at H; exact H
                              clear H
                              have H := H1
                              clear H1
                              obtain rfl := Option.some.inj H
                              go_wp2
                              repeat (go_quiet (fail); try go_wp2)
                              go_ret
                              exact ⟨by first | rfl | (simp [errW_none, errW_some] <;> rfl) | (simp [*, errW_none, errW_some] <;> rfl), by repeat (first | (with_reducible first | exact HB.out | apply below_alloc | apply pw_below_drewN | apply below_drew1) | exact HB.out)⟩
                            · replace c113 := Bool.eq_false_iff.mpr c113
                              subst c113
                              have H1 : (some false) = some r := by rw [if_neg (show ¬ (false = true) by decide)] at H; exact H
                              clear H
                              have H := H1
                              clear H1
                              obtain rfl := Option.some.inj H
                              go_wp2
                              repeat (go_quiet (fail); try go_wp2)
                              go_ret
                              exact ⟨by first | rfl | (simp [errW_none, errW_some] <;> rfl) | (simp [*, errW_none, errW_some] <;> rfl), by repeat (first | (with_reducible first | exact HB.out | apply below_alloc | apply pw_below_drewN | apply below_drew1) | exact HB.out)⟩
                          · replace c112 := Bool.eq_false_iff.mpr c112
                            subst c112
                            have H1 : (some false) = some r := by rw [if_neg (show ¬ (false = true) by decide)] at H; exact H
                            clear H
                            have H := H1
                            clear H1
                            obtain rfl := Option.some.inj H
                            go_wp2
                            repeat (go_quiet (fail); try go_wp2)
                            go_ret
                            exact ⟨by first | rfl | (simp [errW_none, errW_some] <;> rfl) | (simp [*, errW_none, errW_some] <;> rfl), by repeat (first | (with_reducible first | exact HB.out | apply below_alloc | apply pw_below_drewN | apply below_drew1) | exact HB.out)⟩
                        · replace c111 := Bool.eq_false_iff.mpr c111
                          subst c111
                          have H1 : (some false) = some r := by rw [if_neg (show ¬ (false = true) by decide)] at H; exact H
                          clear H
                          have H := H1
                          clear H1
                          obtain rfl := Option.some.inj H
                          go_wp2
                          repeat (go_quiet (fail); try go_wp2)
                          go_ret
                          exact ⟨by first | rfl | (simp [errW_none, errW_some] <;> rfl) | (simp [*, errW_none, errW_some] <;> rfl), by repeat (first | (with_reducible first | exact HB.out | apply below_alloc | apply pw_below_drewN | apply below_drew1) | exact HB.out)⟩
    · rw [if_neg c9] at H
      exact absurd H (by simp)

/-- THE ONE PURE STATEMENT of cupolalaw05_RelOne: yours. -/
def cupolalaw05_RelOne.Pure : Prop := ∀ (l0 : List Int) (a1 : Int) (a2 : Int) (a3 : Int) (a4 : Int), l0.length ≤ maxLen → l0.length * 4 ≤ 140737488351232 → (∀ x ∈ l0, (Lit.int .u32 x).wf = true) → (Lit.int .i64 a1).wf = true → (Lit.int .i64 a2).wf = true → (Lit.int .u32 a3).wf = true → (Lit.int .u32 a4).wf = true → ∃ k, cupolalaw05_RelOne.f k l0 a1 a2 a3 a4 = some true
theorem cupolalaw05_RelOne.walk (P : cupolalaw05_RelOne.Pure) (a0 : Option Addr) (len0 cap0 : Nat) (z0 : List Int) (a1 : Int) (a2 : Int) (a3 : Int) (a4 : Int) (w : World) (w0 : (a0 = none ∧ len0 = 0 ∧ cap0 = 0 ∧ z0 = []) ∨ ∃ x, a0 = some x ∧ len0 ≤ cap0 ∧ cap0 ≤ maxLen ∧ z0.length = cap0 ∧ (∀ i, i < z0.length → w.cell? (x.add i) = some (.int .u32 (z0.getD i 0))) ∧ ∀ n ∈ z0, (Lit.int .u32 n).wf = true) (y0 : len0 * 4 ≤ 140737488351232) (w1 : (Lit.int .i64 a1).wf = true) (w2 : (Lit.int .i64 a2).wf = true) (w3 : (Lit.int .u32 a3).wf = true) (w4 : (Lit.int .u32 a4).wf = true) :
    Calls Try.prog 8 #[.slice a0 len0 cap0, .int .i64 a1, .int .i64 a2, .int .u32 a3, .int .u32 a4] w fun e w' => e = .returned (.bool true) ∧ Below w.heap.size w w' := by
  obtain ⟨l0, rfl, hr0, hm0, hw0, hc0⟩ := ReadsInt.ofRowC w0
  obtain ⟨k, h⟩ := P l0 a1 a2 a3 a4 hm0 y0 hw0 w1 w2 w3 w4
  refine (cupolalaw05_RelOne.calls k _ _ l0 a1 a2 a3 a4 true w (Kd.C_of_reads (d := (0 : Int)) (h1 := fun _ => rfl) hr0) hc0 h).mono ?_
  rintro e w' ⟨rfl, hd⟩
  exact ⟨rfl, hd⟩

end Go.Proofs.Ytbamkkdikeedoaa.G
