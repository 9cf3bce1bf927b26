-- Written by drive.py, a program of this seat's session, out of the translation.
import Derived.Test.YtbamkkdikeedoaaG0
import Derived.Test.YtbamkkdikeedoaaGCupolalaw11
import Derived.Test.YtbamkkdikeedoaaGCupolaref01
import Derived.Test.YtbamkkdikeedoaaGSource
import Derived.Test.YtbamkkdikeedoaaHandMade
import Derived.Test.YtbamkkdikeedoaaHandCz
namespace Go.Proofs.Ytbamkkdikeedoaa.G
open Go.RowKit Go.Proofs.YtbamkkdikeedoaaW.PrintWords Go.Proofs.YtbamkkdikeedoaaW.PrintLast Go.Proofs.YtbamkkdikeedoaaW.PrintMore
set_option linter.unusedVariables false
set_option linter.unusedSimpArgs false
theorem cupolalaw11_SourceMore.far9 {w w0 : World} {g j : Nat} {a : Addr} {u v : Value} (hw : w0.cell? a = some u) (hg : w0.heap.size ≤ g) : (w.setCell ⟨g, j, none⟩ v).cell? a = w.cell? a :=
 cell_far (p := ⟨g, j, none⟩) (Nat.ne_of_lt (Nat.lt_of_lt_of_le (World.block_lt_of_cell? _ _ hw) hg)) _
mutual
def cupolalaw11_SourceMore.j0 : Nat → List (S26) → List Int → Int → Int → Bool → Bool → Option (Bool)
 | 0, _, _, _, _, _, _ => none
 | k + 1, x0, x1, x2, x3, x9, x28 => if x28 = true then (some x9) else (if (x0.length : Int) = 0 then (none) else (if 0 ≤ (Int.tmod (wrap64 (x2)) (x0.length : Int)) then (if (Int.tmod (wrap64 (x2)) (x0.length : Int)) < (x0.length : Int) then ((cupolalaw11_made.f x0).bind fun _ => ((some (([] : List (S26)) : List (S26))).bind fun y106 => (if y106.length + x0.length < 3518437208883 then ((some (y106 ++ x0 : List (S26))).bind fun y109 => ((some (([(⟨0, 2, (rd_T26 x0 (Int.tmod (wrap64 (x2)) (x0.length : Int))).f2, (rd_T26 x0 (Int.tmod (wrap64 (x2)) (x0.length : Int))).f3, false, false, false⟩ : S26)] : List (S26)) : List (S26))).bind fun y112 => (if y109.length + y112.length < 3518437208883 then ((some (y109 ++ y112 : List (S26))).bind fun y115 => ((cupolalaw11_made.f y115).bind fun _ => ((source_May.f k x0 ([] : List Int) ([] : List Int) ([] : List Int) ([] : List Int) ([] : List Int) ([] : List (List Int)) x1 (Int.tmod (wrap64 (x2)) (x0.length : Int))).bind fun t119 => ((source_May.f k y115 ([] : List Int) ([] : List Int) ([] : List Int) ([] : List Int) ([] : List Int) ([] : List (List Int)) x1 (Int.tmod (wrap64 (x2)) (x0.length : Int))).bind fun t122 => ((source_May.f k x0 ([] : List Int) ([] : List Int) ([] : List Int) ([] : List Int) ([] : List Int) ([] : List (List Int)) x1 (Int.tmod (wrap64 (x3)) (x0.length : Int))).bind fun t125 => ((source_May.f k y115 ([] : List Int) ([] : List Int) ([] : List Int) ([] : List Int) ([] : List Int) ([] : List (List Int)) x1 (Int.tmod (wrap64 (x3)) (x0.length : Int))).bind fun t128 => (if ((rd_T26 x0 (Int.tmod (wrap64 (x2)) (x0.length : Int))).f1) = 1 then (if (t122.length : Int) = (wrap64 ((t119.length : Int) + 1)) then (if 0 ≤ (wrap64 ((t122.length : Int) - 1)) then (if (wrap64 ((t122.length : Int) - 1)) < (t122.length : Int) then (cupolalaw11_SourceMore.j1 k x0 x9 (Int.tmod (wrap64 (x3)) (x0.length : Int)) t125 t128 ((rd t122 (wrap64 ((t122.length : Int) - 1))) != (x0.length : Int)) 0 2 ((rd_T26 x0 (Int.tmod (wrap64 (x2)) (x0.length : Int))).f2) ((rd_T26 x0 (Int.tmod (wrap64 (x2)) (x0.length : Int))).f3) false false false) else (none)) else (none)) else (cupolalaw11_SourceMore.j1 k x0 x9 (Int.tmod (wrap64 (x3)) (x0.length : Int)) t125 t128 true 0 2 ((rd_T26 x0 (Int.tmod (wrap64 (x2)) (x0.length : Int))).f2) ((rd_T26 x0 (Int.tmod (wrap64 (x2)) (x0.length : Int))).f3) false false false)) else (cupolalaw11_SourceMore.j1 k x0 x9 (Int.tmod (wrap64 (x3)) (x0.length : Int)) t125 t128 false 0 2 ((rd_T26 x0 (Int.tmod (wrap64 (x2)) (x0.length : Int))).f2) ((rd_T26 x0 (Int.tmod (wrap64 (x2)) (x0.length : Int))).f3) false false false)))))))) else (none)))) else (none)))) else (none)) else (none)))
def cupolalaw11_SourceMore.j1 : Nat → List (S26) → Bool → Int → List Int → List Int → Bool → Int → Int → Int → Int → Bool → Bool → Bool → Option (Bool)
 | 0, _, _, _, _, _, _, _, _, _, _, _, _, _ => none
 | k + 1, x0, x9, x11, x17, x18, x100, x105000, x105001, x105002, x105003, x105004, x105005, x105006 => if x100 = true then (some false) else (if 0 ≤ x11 then (if x11 < (x0.length : Int) then (if ((rd_T26 x0 x11).f1) = 1 then (if ((rd_T26 x0 x11).f2) = x105002 then (cupolalaw11_SourceMore.j2 k x9 x17 x18 (((rd_T26 x0 x11).f3) == x105003)) else (cupolalaw11_SourceMore.j2 k x9 x17 x18 false)) else (cupolalaw11_SourceMore.j2 k x9 x17 x18 false)) else (none)) else (none))
def cupolalaw11_SourceMore.j2 : Nat → Bool → List Int → List Int → Bool → Option (Bool)
 | 0, _, _, _, _ => none
 | k + 1, x9, x17, x18, x19 => if x9 = true then (if x19 = true then (some (decide ((x18.length : Int) ≥ (x17.length : Int)))) else ((cupolaref01_Ints.f k x17 x18).bind fun t136 => (if t136 = true then (some (decide ((x18.length : Int) ≥ (x17.length : Int)))) else (some false)))) else (some false)
end
def cupolalaw11_SourceMore.f (k : Nat) (l0 : List (S26)) (l1 : List Int) (a2 : Int) (a3 : Int) : Option (Bool) := (cupolalaw11_shown.f k).bind fun t101 => (if (l0.length : Int) > 20 then (cupolalaw11_SourceMore.j0 k l0 l1 a2 a3 t101 true) else (cupolalaw11_SourceMore.j0 k l0 l1 a2 a3 t101 ((l0.length : Int) == 0)))
def cupolalaw11_SourceMore.T6 : Bool × List (List Nat × List Nat) := (true, [([], []), ([], []), ([0, 1], [0, 1]), ([2], [2]), ([3], [3]), ([], []), ([], []), ([5, 6], [5, 6]), ([7], [7]), ([8], [8]), ([4, 9], [4, 9]), ([], []), ([11, 10, 0, 1, 2, 3, 4, 5, 6, 7, 8, 9, 10, 11], [10, 11])])
def cupolalaw11_SourceMore.B6 : List Nat := [0, 0, 3, 7, 15, 0, 0, 96, 224, 480, 1023, 0, 4095]
theorem cupolalaw11_SourceMore.tab6 : rtab .any (opsOf Try.f4 6) = cupolalaw11_SourceMore.T6 := by kernel_rfl
theorem cupolalaw11_SourceMore.bits6 : waitsOk cupolalaw11_SourceMore.T6.2 cupolalaw11_SourceMore.B6 = true := by kernel_rfl
def cupolalaw11_SourceMore.T8 : Bool × List (List Nat × List Nat) := (true, [([], []), ([], []), ([0, 1], [0, 1]), ([], []), ([3], [3]), ([2, 4, 2], [2, 4]), ([5, 5], [5]), ([], []), ([7, 6, 6, 0, 1, 2, 3, 4, 5, 6, 7], [6, 7])])
def cupolalaw11_SourceMore.B8 : List Nat := [0, 0, 3, 0, 8, 31, 63, 0, 255]
theorem cupolalaw11_SourceMore.tab8 : rtab .any (opsOf Try.f4 8) = cupolalaw11_SourceMore.T8 := by kernel_rfl
theorem cupolalaw11_SourceMore.bits8 : waitsOk cupolalaw11_SourceMore.T8.2 cupolalaw11_SourceMore.B8 = true := by kernel_rfl
def cupolalaw11_SourceMore.T15 : Bool × List (List Nat × List Nat) := (true, [([], []), ([], []), ([0, 1], [0, 1]), ([2], [2]), ([3], [3]), ([4], [4]), ([5], [5]), ([6], [6]), ([6], [6]), ([7, 8, 6], [6, 7, 8]), ([9, 6], [6, 9]), ([10, 6], [6, 10]), ([6], [6]), ([12, 6], [6, 12]), ([11, 13, 6], [6, 11, 13]), ([6, 14], [6, 14]), ([15, 6], [15]), ([16], [16]), ([16], [16]), ([17, 18, 16], [16, 17, 18]), ([19, 16], [16, 19]), ([20, 16], [16, 20]), ([16], [16]), ([22, 16], [16, 22]), ([21, 23, 16], [16, 21, 23]), ([16, 24], [16, 24]), ([25, 16, 0, 1, 2, 3, 4, 5, 6, 7, 8, 9, 10, 11, 12, 13, 14, 15, 16, 17, 18, 19, 20, 21, 22, 23, 24, 25], [25])])
def cupolalaw11_SourceMore.B15 : List Nat := [0, 0, 3, 7, 15, 31, 63, 127, 127, 511, 1023, 2047, 127, 4223, 16383, 32767, 65535, 131071, 131071, 524287, 1048575, 2097151, 131071, 4325375, 16777215, 33554431, 67108863]
theorem cupolalaw11_SourceMore.tab15 : rtab .any (opsOf Try.f4 15) = cupolalaw11_SourceMore.T15 := by kernel_rfl
theorem cupolalaw11_SourceMore.bits15 : waitsOk cupolalaw11_SourceMore.T15.2 cupolalaw11_SourceMore.B15 = true := by kernel_rfl
set_option maxHeartbeats 8000000 in
set_option maxRecDepth 100000 in
theorem cupolalaw11_SourceMore.calls (k : Nat) (A0 : Option Addr) (c0 : Nat) (l0 : List (S26)) (A1 : Option Addr) (c1 : Nat) (l1 : List Int) (a2 : Int) (a3 : Int) (r : Bool) (hT : r = true) (w : World) (hr0 : Kd.C k26 w A0 l0.length l0) (hc0 : l0.length ≤ c0) (hr1 : Kd.C (Kd.int .i64) w A1 l1.length l1) (hc1 : l1.length ≤ c1) (h : cupolalaw11_SourceMore.f k l0 l1 a2 a3 = some r) :
  Calls Try.prog 4 #[.slice A0 l0.length c0, .slice A1 l1.length c1, .int .u8 a2, .int .u8 a3] w fun e w' => e = .returned (.bool r) ∧ Below w.heap.size w w' := by
 have HT9 := a9_ hT
 clear hT
 have hu26 := Try.underlying26
 have hu31 := Try.underlying31
 have HR0 := a9_ hr0
 have HC0 := a9_ hc0
 clear hr0 hc0
 have HR1 := a9_ hr1
 have HC1 := a9_ hc1
 clear hr1 hc1
 have HB := a9_ (Below.refl w.heap.size w)
 have H : ((cupolalaw11_shown.f k).bind fun t101 => (if (l0.length : Int) > 20 then (cupolalaw11_SourceMore.j0 k l0 l1 a2 a3 t101 true) else (cupolalaw11_SourceMore.j0 k l0 l1 a2 a3 t101 ((l0.length : Int) == 0)))) = some r := h
 clear h
 replace H := Option.bind_eq_some_iff.mp H
 obtain ⟨t101, A50, H⟩ := H
 have A5 := a9_ A50
 clear A50
 have HC6 := a9_ H
 clear H
 go_enter Try.func4, Try.ntmps4
 go_upto_region 2 with (first | ((with_reducible refine gate_callee (f := 30) rfl ?_); (with_reducible refine gate_dst (N := 20) rfl ?_); refine goesL9 (some 20) rfl rfl Try.func30 (by kernel_rfl) rfl #[] rfl ?_; (with_reducible refine (cupolalaw11_shown.calls k  t101 _ A5.out).mono ?_); rintro e w7 ⟨rfl, hb⟩; refine ⟨_, rfl, ?_⟩; have n0_ := a9_ (below_step (bp9 HB.out) hb); clear HB; have HB := n0_; clear n0_; (try clear hb); (try clear hi)))
 (try simp only [Act.put, List.setIfInBounds_toArray, List.set_cons_zero, List.set_cons_succ])
 go_cut [28] (fun v28 wc => ∃ (kq : Nat) (x28_5 : Bool), v28 = .bool x28_5 ∧ Aside0 (cupolalaw11_SourceMore.j0 kq l0 l1 a2 a3 t101 x28_5 = some r) ∧ Aside0 (kq ≤ k) ∧ Aside0 (Below w.heap.size w wc))
 case first =>
  have H := HC6.out
  clear HC6
  by_cases c8 : (l0.length : Int) > 20
  ·rw [if_pos c8] at H
   have c8b0 : decide (20 < (l0.length : Int)) = true := decide_eq_true c8
   have c8b1 : decide (20 < l0.length) = true := decide_eq_true (by omega)
   clear c8
   (first | rw [c8b0] | (simp only [i64_w, i32_w]; rw [c8b0]) | skip)
   have H' := a9_ H
   clear H
   go_wp2
   go_meet
   case rel => exact ⟨_, (true), rs9, H', ⟨by first | omega | exact Nat.le_refl _⟩, ⟨bp9 HB.out⟩⟩
  ·rw [if_neg c8] at H
   have c8b0 : decide (20 < (l0.length : Int)) = false := decide_eq_false c8
   have c8b1 : decide (20 < l0.length) = false := decide_eq_false (by omega)
   clear c8
   (first | rw [c8b0] | (simp only [i64_w, i32_w]; rw [c8b0]) | skip)
   have H' := a9_ H
   clear H
   go_wp2
   go_meet
   case rel => exact ⟨_, (((l0.length : Int) == 0)), rs9, H', ⟨by first | omega | exact Nat.le_refl _⟩, ⟨bp9 HB.out⟩⟩
 case rest =>
  clear HC6
  try clear c1
  try clear p2
  try clear c3
  try clear c4
  try clear c8
  try clear c8b0
  try clear c8b1
  obtain ⟨kq, x28_5, rfl, HA, HJ5, HB⟩ := hcut
  cases kq with
  | zero => exact absurd HA.out (by simp [cupolalaw11_SourceMore.j0])
  | succ kj5 =>
   have H := HA.out
   clear HA
   simp only [cupolalaw11_SourceMore.j0] at H
   by_cases c9 : x28_5 = true
   ·subst c9
    rw [if_pos rfl] at H
    obtain rfl := Option.some.inj H
    go_wp2
    go_ret
    exact ⟨by first | rfl | (simp [errW_none, errW_some] <;> rfl) | (simp [*, errW_none, errW_some] <;> rfl), bp9 HB.out⟩
   ·replace c9 := Bool.eq_false_iff.mpr c9
    subst c9
    rw [if_neg (show ¬ (false = true) by decide)] at H
    by_cases c10 : (l0.length : Int) = 0
    ·rw [if_pos c10] at H
     exact absurd H (by simp)
    ·rw [if_neg c10] at H
     have c10b0 : ((l0.length : Int) == 0) = false := beq_eq_false_iff_ne.mpr c10
     have c10b1 : ((l0.length : Int) != 0) = true := bne_iff_ne.mpr c10
     have c10b2 : ¬ (l0 = []) := fun h_ => c10 (by rw [h_]; rfl)
     obtain ⟨ji11, hji11⟩ : ∃ j_ : Int, (Int.tmod (wrap64 (a2)) (l0.length : Int)) = j_ := ⟨_, rfl⟩
     replace H : (if 0 ≤ (ji11) then (if (ji11) < (l0.length : Int) then ((cupolalaw11_made.f l0).bind fun _ => ((some (([] : List (S26)) : List (S26))).bind fun y106 => (if y106.length + l0.length < 3518437208883 then ((some (y106 ++ l0 : List (S26))).bind fun y109 => ((some (([(⟨0, 2, (rd_T26 l0 (ji11)).f2, (rd_T26 l0 (ji11)).f3, false, false, false⟩ : S26)] : List (S26)) : List (S26))).bind fun y112 => (if y109.length + y112.length < 3518437208883 then ((some (y109 ++ y112 : List (S26))).bind fun y115 => ((cupolalaw11_made.f y115).bind fun _ => ((source_May.f kj5 l0 ([] : List Int) ([] : List Int) ([] : List Int) ([] : List Int) ([] : List Int) ([] : List (List Int)) l1 (ji11)).bind fun t119 => ((source_May.f kj5 y115 ([] : List Int) ([] : List Int) ([] : List Int) ([] : List Int) ([] : List Int) ([] : List (List Int)) l1 (ji11)).bind fun t122 => ((source_May.f kj5 l0 ([] : List Int) ([] : List Int) ([] : List Int) ([] : List Int) ([] : List Int) ([] : List (List Int)) l1 (Int.tmod (wrap64 (a3)) (l0.length : Int))).bind fun t125 => ((source_May.f kj5 y115 ([] : List Int) ([] : List Int) ([] : List Int) ([] : List Int) ([] : List Int) ([] : List (List Int)) l1 (Int.tmod (wrap64 (a3)) (l0.length : Int))).bind fun t128 => (if ((rd_T26 l0 (ji11)).f1) = 1 then (if (t122.length : Int) = (wrap64 ((t119.length : Int) + 1)) then (if 0 ≤ (wrap64 ((t122.length : Int) - 1)) then (if (wrap64 ((t122.length : Int) - 1)) < (t122.length : Int) then (cupolalaw11_SourceMore.j1 kj5 l0 t101 (Int.tmod (wrap64 (a3)) (l0.length : Int)) t125 t128 ((rd t122 (wrap64 ((t122.length : Int) - 1))) != (l0.length : Int)) 0 2 ((rd_T26 l0 (ji11)).f2) ((rd_T26 l0 (ji11)).f3) false false false) else (none)) else (none)) else (cupolalaw11_SourceMore.j1 kj5 l0 t101 (Int.tmod (wrap64 (a3)) (l0.length : Int)) t125 t128 true 0 2 ((rd_T26 l0 (ji11)).f2) ((rd_T26 l0 (ji11)).f3) false false false)) else (cupolalaw11_SourceMore.j1 kj5 l0 t101 (Int.tmod (wrap64 (a3)) (l0.length : Int)) t125 t128 false 0 2 ((rd_T26 l0 (ji11)).f2) ((rd_T26 l0 (ji11)).f3) false false false)))))))) else (none)))) else (none)))) else (none)) else (none)) = some r := by first | (rw [hji11] at H; exact H) | (simp only [hji11] at H ⊢; exact H)
     by_cases c12 : 0 ≤ (ji11)
     ·rw [if_pos c12] at H
      have c12b0 : decide (0 ≤ (ji11)) = true := decide_eq_true c12
      clear c12
      by_cases c13 : (ji11) < (l0.length : Int)
      ·rw [if_pos c13] at H
       have c13b0 : decide ((ji11) < (l0.length : Int)) = true := decide_eq_true c13
       clear c13
       replace H := Option.bind_eq_some_iff.mp H
       obtain ⟨_, A140, H⟩ := H
       replace H : ((some (([] : List (S26)) : List (S26))).bind fun y106 => (if y106.length + l0.length < 3518437208883 then ((some (y106 ++ l0 : List (S26))).bind fun y109 => ((some (([(⟨0, 2, (rd_T26 l0 (ji11)).f2, (rd_T26 l0 (ji11)).f3, false, false, false⟩ : S26)] : List (S26)) : List (S26))).bind fun y112 => (if y109.length + y112.length < 3518437208883 then ((some (y109 ++ y112 : List (S26))).bind fun y115 => ((cupolalaw11_made.f y115).bind fun _ => ((source_May.f kj5 l0 ([] : List Int) ([] : List Int) ([] : List Int) ([] : List Int) ([] : List Int) ([] : List (List Int)) l1 (ji11)).bind fun t119 => ((source_May.f kj5 y115 ([] : List Int) ([] : List Int) ([] : List Int) ([] : List Int) ([] : List Int) ([] : List (List Int)) l1 (ji11)).bind fun t122 => ((source_May.f kj5 l0 ([] : List Int) ([] : List Int) ([] : List Int) ([] : List Int) ([] : List Int) ([] : List (List Int)) l1 (Int.tmod (wrap64 (a3)) (l0.length : Int))).bind fun t125 => ((source_May.f kj5 y115 ([] : List Int) ([] : List Int) ([] : List Int) ([] : List Int) ([] : List Int) ([] : List (List Int)) l1 (Int.tmod (wrap64 (a3)) (l0.length : Int))).bind fun t128 => (if ((rd_T26 l0 (ji11)).f1) = 1 then (if (t122.length : Int) = (wrap64 ((t119.length : Int) + 1)) then (if 0 ≤ (wrap64 ((t122.length : Int) - 1)) then (if (wrap64 ((t122.length : Int) - 1)) < (t122.length : Int) then (cupolalaw11_SourceMore.j1 kj5 l0 t101 (Int.tmod (wrap64 (a3)) (l0.length : Int)) t125 t128 ((rd t122 (wrap64 ((t122.length : Int) - 1))) != (l0.length : Int)) 0 2 ((rd_T26 l0 (ji11)).f2) ((rd_T26 l0 (ji11)).f3) false false false) else (none)) else (none)) else (cupolalaw11_SourceMore.j1 kj5 l0 t101 (Int.tmod (wrap64 (a3)) (l0.length : Int)) t125 t128 true 0 2 ((rd_T26 l0 (ji11)).f2) ((rd_T26 l0 (ji11)).f3) false false false)) else (cupolalaw11_SourceMore.j1 kj5 l0 t101 (Int.tmod (wrap64 (a3)) (l0.length : Int)) t125 t128 false 0 2 ((rd_T26 l0 (ji11)).f2) ((rd_T26 l0 (ji11)).f3) false false false)))))))) else (none)))) else (none))) = some r := H
       have A14 := a9_ A140
       clear A140
       obtain ⟨y106, hy106⟩ : ∃ y_ : List (S26), y_ = (([] : List (S26))) := ⟨_, rfl⟩
       replace H : (if y106.length + l0.length < 3518437208883 then ((some (y106 ++ l0 : List (S26))).bind fun y109 => ((some (([(⟨0, 2, (rd_T26 l0 (ji11)).f2, (rd_T26 l0 (ji11)).f3, false, false, false⟩ : S26)] : List (S26)) : List (S26))).bind fun y112 => (if y109.length + y112.length < 3518437208883 then ((some (y109 ++ y112 : List (S26))).bind fun y115 => ((cupolalaw11_made.f y115).bind fun _ => ((source_May.f kj5 l0 ([] : List Int) ([] : List Int) ([] : List Int) ([] : List Int) ([] : List Int) ([] : List (List Int)) l1 (ji11)).bind fun t119 => ((source_May.f kj5 y115 ([] : List Int) ([] : List Int) ([] : List Int) ([] : List Int) ([] : List Int) ([] : List (List Int)) l1 (ji11)).bind fun t122 => ((source_May.f kj5 l0 ([] : List Int) ([] : List Int) ([] : List Int) ([] : List Int) ([] : List Int) ([] : List (List Int)) l1 (Int.tmod (wrap64 (a3)) (l0.length : Int))).bind fun t125 => ((source_May.f kj5 y115 ([] : List Int) ([] : List Int) ([] : List Int) ([] : List Int) ([] : List Int) ([] : List (List Int)) l1 (Int.tmod (wrap64 (a3)) (l0.length : Int))).bind fun t128 => (if ((rd_T26 l0 (ji11)).f1) = 1 then (if (t122.length : Int) = (wrap64 ((t119.length : Int) + 1)) then (if 0 ≤ (wrap64 ((t122.length : Int) - 1)) then (if (wrap64 ((t122.length : Int) - 1)) < (t122.length : Int) then (cupolalaw11_SourceMore.j1 kj5 l0 t101 (Int.tmod (wrap64 (a3)) (l0.length : Int)) t125 t128 ((rd t122 (wrap64 ((t122.length : Int) - 1))) != (l0.length : Int)) 0 2 ((rd_T26 l0 (ji11)).f2) ((rd_T26 l0 (ji11)).f3) false false false) else (none)) else (none)) else (cupolalaw11_SourceMore.j1 kj5 l0 t101 (Int.tmod (wrap64 (a3)) (l0.length : Int)) t125 t128 true 0 2 ((rd_T26 l0 (ji11)).f2) ((rd_T26 l0 (ji11)).f3) false false false)) else (cupolalaw11_SourceMore.j1 kj5 l0 t101 (Int.tmod (wrap64 (a3)) (l0.length : Int)) t125 t128 false 0 2 ((rd_T26 l0 (ji11)).f2) ((rd_T26 l0 (ji11)).f3) false false false)))))))) else (none)))) else (none)) = some r := by first | (rw [hy106]; with_reducible exact H) | (have H2_ := (Option.bind_some _ _).symm.trans H; rw [hy106]; with_reducible exact H2_) | (have H2_ := (Option.bind_some _ _).symm.trans H; with_reducible exact H2_) | with_reducible exact H | (rw [hy106]; exact H) | exact H
       have Ny106 := a9_ hy106
       clear hy106
       by_cases c15 : y106.length + l0.length < 3518437208883
       ·rw [if_pos c15] at H
        have LMc15 := a9_ c15
        clear c15
        obtain ⟨y109, hy109⟩ : ∃ y_ : List (S26), y_ = (y106 ++ l0) := ⟨_, rfl⟩
        replace H : ((some (([(⟨0, 2, (rd_T26 l0 (ji11)).f2, (rd_T26 l0 (ji11)).f3, false, false, false⟩ : S26)] : List (S26)) : List (S26))).bind fun y112 => (if y109.length + y112.length < 3518437208883 then ((some (y109 ++ y112 : List (S26))).bind fun y115 => ((cupolalaw11_made.f y115).bind fun _ => ((source_May.f kj5 l0 ([] : List Int) ([] : List Int) ([] : List Int) ([] : List Int) ([] : List Int) ([] : List (List Int)) l1 (ji11)).bind fun t119 => ((source_May.f kj5 y115 ([] : List Int) ([] : List Int) ([] : List Int) ([] : List Int) ([] : List Int) ([] : List (List Int)) l1 (ji11)).bind fun t122 => ((source_May.f kj5 l0 ([] : List Int) ([] : List Int) ([] : List Int) ([] : List Int) ([] : List Int) ([] : List (List Int)) l1 (Int.tmod (wrap64 (a3)) (l0.length : Int))).bind fun t125 => ((source_May.f kj5 y115 ([] : List Int) ([] : List Int) ([] : List Int) ([] : List Int) ([] : List Int) ([] : List (List Int)) l1 (Int.tmod (wrap64 (a3)) (l0.length : Int))).bind fun t128 => (if ((rd_T26 l0 (ji11)).f1) = 1 then (if (t122.length : Int) = (wrap64 ((t119.length : Int) + 1)) then (if 0 ≤ (wrap64 ((t122.length : Int) - 1)) then (if (wrap64 ((t122.length : Int) - 1)) < (t122.length : Int) then (cupolalaw11_SourceMore.j1 kj5 l0 t101 (Int.tmod (wrap64 (a3)) (l0.length : Int)) t125 t128 ((rd t122 (wrap64 ((t122.length : Int) - 1))) != (l0.length : Int)) 0 2 ((rd_T26 l0 (ji11)).f2) ((rd_T26 l0 (ji11)).f3) false false false) else (none)) else (none)) else (cupolalaw11_SourceMore.j1 kj5 l0 t101 (Int.tmod (wrap64 (a3)) (l0.length : Int)) t125 t128 true 0 2 ((rd_T26 l0 (ji11)).f2) ((rd_T26 l0 (ji11)).f3) false false false)) else (cupolalaw11_SourceMore.j1 kj5 l0 t101 (Int.tmod (wrap64 (a3)) (l0.length : Int)) t125 t128 false 0 2 ((rd_T26 l0 (ji11)).f2) ((rd_T26 l0 (ji11)).f3) false false false)))))))) else (none))) = some r := by first | (rw [hy109]; with_reducible exact H) | (have H2_ := (Option.bind_some _ _).symm.trans H; rw [hy109]; with_reducible exact H2_) | (have H2_ := (Option.bind_some _ _).symm.trans H; with_reducible exact H2_) | with_reducible exact H | (rw [hy109]; exact H) | exact H
        have Ny109 := a9_ hy109
        clear hy109
        obtain ⟨y112, hy112⟩ : ∃ y_ : List (S26), y_ = (([(⟨0, 2, (rd_T26 l0 (ji11)).f2, (rd_T26 l0 (ji11)).f3, false, false, false⟩ : S26)] : List (S26))) := ⟨_, rfl⟩
        replace H : (if y109.length + y112.length < 3518437208883 then ((some (y109 ++ y112 : List (S26))).bind fun y115 => ((cupolalaw11_made.f y115).bind fun _ => ((source_May.f kj5 l0 ([] : List Int) ([] : List Int) ([] : List Int) ([] : List Int) ([] : List Int) ([] : List (List Int)) l1 (ji11)).bind fun t119 => ((source_May.f kj5 y115 ([] : List Int) ([] : List Int) ([] : List Int) ([] : List Int) ([] : List Int) ([] : List (List Int)) l1 (ji11)).bind fun t122 => ((source_May.f kj5 l0 ([] : List Int) ([] : List Int) ([] : List Int) ([] : List Int) ([] : List Int) ([] : List (List Int)) l1 (Int.tmod (wrap64 (a3)) (l0.length : Int))).bind fun t125 => ((source_May.f kj5 y115 ([] : List Int) ([] : List Int) ([] : List Int) ([] : List Int) ([] : List Int) ([] : List (List Int)) l1 (Int.tmod (wrap64 (a3)) (l0.length : Int))).bind fun t128 => (if ((rd_T26 l0 (ji11)).f1) = 1 then (if (t122.length : Int) = (wrap64 ((t119.length : Int) + 1)) then (if 0 ≤ (wrap64 ((t122.length : Int) - 1)) then (if (wrap64 ((t122.length : Int) - 1)) < (t122.length : Int) then (cupolalaw11_SourceMore.j1 kj5 l0 t101 (Int.tmod (wrap64 (a3)) (l0.length : Int)) t125 t128 ((rd t122 (wrap64 ((t122.length : Int) - 1))) != (l0.length : Int)) 0 2 ((rd_T26 l0 (ji11)).f2) ((rd_T26 l0 (ji11)).f3) false false false) else (none)) else (none)) else (cupolalaw11_SourceMore.j1 kj5 l0 t101 (Int.tmod (wrap64 (a3)) (l0.length : Int)) t125 t128 true 0 2 ((rd_T26 l0 (ji11)).f2) ((rd_T26 l0 (ji11)).f3) false false false)) else (cupolalaw11_SourceMore.j1 kj5 l0 t101 (Int.tmod (wrap64 (a3)) (l0.length : Int)) t125 t128 false 0 2 ((rd_T26 l0 (ji11)).f2) ((rd_T26 l0 (ji11)).f3) false false false)))))))) else (none)) = some r := by first | (rw [hy112]; with_reducible exact H) | (have H2_ := (Option.bind_some _ _).symm.trans H; rw [hy112]; with_reducible exact H2_) | (have H2_ := (Option.bind_some _ _).symm.trans H; with_reducible exact H2_) | with_reducible exact H | (rw [hy112]; exact H) | exact H
        have Ny112 := a9_ hy112
        clear hy112
        by_cases c16 : y109.length + y112.length < 3518437208883
        ·rw [if_pos c16] at H
         have LMc16 := a9_ c16
         clear c16
         obtain ⟨y115, hy115⟩ : ∃ y_ : List (S26), y_ = (y109 ++ y112) := ⟨_, rfl⟩
         replace H : ((cupolalaw11_made.f y115).bind fun _ => ((source_May.f kj5 l0 ([] : List Int) ([] : List Int) ([] : List Int) ([] : List Int) ([] : List Int) ([] : List (List Int)) l1 (ji11)).bind fun t119 => ((source_May.f kj5 y115 ([] : List Int) ([] : List Int) ([] : List Int) ([] : List Int) ([] : List Int) ([] : List (List Int)) l1 (ji11)).bind fun t122 => ((source_May.f kj5 l0 ([] : List Int) ([] : List Int) ([] : List Int) ([] : List Int) ([] : List Int) ([] : List (List Int)) l1 (Int.tmod (wrap64 (a3)) (l0.length : Int))).bind fun t125 => ((source_May.f kj5 y115 ([] : List Int) ([] : List Int) ([] : List Int) ([] : List Int) ([] : List Int) ([] : List (List Int)) l1 (Int.tmod (wrap64 (a3)) (l0.length : Int))).bind fun t128 => (if ((rd_T26 l0 (ji11)).f1) = 1 then (if (t122.length : Int) = (wrap64 ((t119.length : Int) + 1)) then (if 0 ≤ (wrap64 ((t122.length : Int) - 1)) then (if (wrap64 ((t122.length : Int) - 1)) < (t122.length : Int) then (cupolalaw11_SourceMore.j1 kj5 l0 t101 (Int.tmod (wrap64 (a3)) (l0.length : Int)) t125 t128 ((rd t122 (wrap64 ((t122.length : Int) - 1))) != (l0.length : Int)) 0 2 ((rd_T26 l0 (ji11)).f2) ((rd_T26 l0 (ji11)).f3) false false false) else (none)) else (none)) else (cupolalaw11_SourceMore.j1 kj5 l0 t101 (Int.tmod (wrap64 (a3)) (l0.length : Int)) t125 t128 true 0 2 ((rd_T26 l0 (ji11)).f2) ((rd_T26 l0 (ji11)).f3) false false false)) else (cupolalaw11_SourceMore.j1 kj5 l0 t101 (Int.tmod (wrap64 (a3)) (l0.length : Int)) t125 t128 false 0 2 ((rd_T26 l0 (ji11)).f2) ((rd_T26 l0 (ji11)).f3) false false false))))))) = some r := by first | (rw [hy115]; with_reducible exact H) | (have H2_ := (Option.bind_some _ _).symm.trans H; rw [hy115]; with_reducible exact H2_) | (have H2_ := (Option.bind_some _ _).symm.trans H; with_reducible exact H2_) | with_reducible exact H | (rw [hy115]; exact H) | exact H
         have Ny115 := a9_ hy115
         clear hy115
         replace H := Option.bind_eq_some_iff.mp H
         obtain ⟨_, A170, H⟩ := H
         replace H : ((source_May.f kj5 l0 ([] : List Int) ([] : List Int) ([] : List Int) ([] : List Int) ([] : List Int) ([] : List (List Int)) l1 (ji11)).bind fun t119 => ((source_May.f kj5 y115 ([] : List Int) ([] : List Int) ([] : List Int) ([] : List Int) ([] : List Int) ([] : List (List Int)) l1 (ji11)).bind fun t122 => ((source_May.f kj5 l0 ([] : List Int) ([] : List Int) ([] : List Int) ([] : List Int) ([] : List Int) ([] : List (List Int)) l1 (Int.tmod (wrap64 (a3)) (l0.length : Int))).bind fun t125 => ((source_May.f kj5 y115 ([] : List Int) ([] : List Int) ([] : List Int) ([] : List Int) ([] : List Int) ([] : List (List Int)) l1 (Int.tmod (wrap64 (a3)) (l0.length : Int))).bind fun t128 => (if ((rd_T26 l0 (ji11)).f1) = 1 then (if (t122.length : Int) = (wrap64 ((t119.length : Int) + 1)) then (if 0 ≤ (wrap64 ((t122.length : Int) - 1)) then (if (wrap64 ((t122.length : Int) - 1)) < (t122.length : Int) then (cupolalaw11_SourceMore.j1 kj5 l0 t101 (Int.tmod (wrap64 (a3)) (l0.length : Int)) t125 t128 ((rd t122 (wrap64 ((t122.length : Int) - 1))) != (l0.length : Int)) 0 2 ((rd_T26 l0 (ji11)).f2) ((rd_T26 l0 (ji11)).f3) false false false) else (none)) else (none)) else (cupolalaw11_SourceMore.j1 kj5 l0 t101 (Int.tmod (wrap64 (a3)) (l0.length : Int)) t125 t128 true 0 2 ((rd_T26 l0 (ji11)).f2) ((rd_T26 l0 (ji11)).f3) false false false)) else (cupolalaw11_SourceMore.j1 kj5 l0 t101 (Int.tmod (wrap64 (a3)) (l0.length : Int)) t125 t128 false 0 2 ((rd_T26 l0 (ji11)).f2) ((rd_T26 l0 (ji11)).f3) false false false)))))) = some r := H
         have A17 := a9_ A170
         clear A170
         replace H := Option.bind_eq_some_iff.mp H
         obtain ⟨t119, A180, H⟩ := H
         have A18 := a9_ A180
         clear A180
         replace H := Option.bind_eq_some_iff.mp H
         obtain ⟨t122, A190, H⟩ := H
         have A19 := a9_ A190
         clear A190
         replace H := Option.bind_eq_some_iff.mp H
         obtain ⟨t125, A200, H⟩ := H
         have A20 := a9_ A200
         clear A200
         replace H := Option.bind_eq_some_iff.mp H
         obtain ⟨t128, A210, H⟩ := H
         have A21 := a9_ A210
         clear A210
         have HC22 := a9_ H
         clear H
         try go_wp2
         have n0_ := a9_ (below_drew1 HB.out)
         clear HB
         revert n0_; intro HB
         have p102 : 0 ≤ ((ji11) : Int) := of_decide_eq_true (by first | (with_reducible assumption) | assumption)
         have q102 : (ji11) < (l0.length : Int) := of_decide_eq_true (by first | (with_reducible assumption) | assumption)
         obtain ⟨ad102, e102, hx102_0, hx102_1, hx102_2, hx102_3, hx102_4, hx102_5, hx102_6⟩ := at_T26 HR0.out (ji11) p102 q102
         have hw102_6 := hx102_6
         have hw102_5 := hx102_5
         have hw102_4 := hx102_4
         have hw102_3 := hx102_3
         have hw102_2 := hx102_2
         have hw102_1 := hx102_1
         have hw102_0 := hx102_0
         cases e102
         replace hx102_0 := hb9 HB.out hx102_0
         replace hx102_1 := hb9 HB.out hx102_1
         replace hx102_2 := hb9 HB.out hx102_2
         replace hx102_3 := hb9 HB.out hx102_3
         replace hx102_4 := hb9 HB.out hx102_4
         replace hx102_5 := hb9 HB.out hx102_5
         replace hx102_6 := hb9 HB.out hx102_6
         replace p102 := eq_true p102
         replace q102 := eq_true q102
         have p103 : 0 ≤ ((ji11) : Int) := of_decide_eq_true (by first | (with_reducible assumption) | assumption)
         have q103 : (ji11) < (l0.length : Int) := of_decide_eq_true (by first | (with_reducible assumption) | assumption)
         obtain ⟨ad103, e103, hx103_0, hx103_1, hx103_2, hx103_3, hx103_4, hx103_5, hx103_6⟩ := at_T26 HR0.out (ji11) p103 q103
         have hw103_6 := hx103_6
         have hw103_5 := hx103_5
         have hw103_4 := hx103_4
         have hw103_3 := hx103_3
         have hw103_2 := hx103_2
         have hw103_1 := hx103_1
         have hw103_0 := hx103_0
         obtain rfl : ad102 = ad103 := (by injection e103)
         replace hx103_0 := hb9 HB.out hx103_0
         replace hx103_1 := hb9 HB.out hx103_1
         replace hx103_2 := hb9 HB.out hx103_2
         replace hx103_3 := hb9 HB.out hx103_3
         replace hx103_4 := hb9 HB.out hx103_4
         replace hx103_5 := hb9 HB.out hx103_5
         replace hx103_6 := hb9 HB.out hx103_6
         replace p103 := eq_true p103
         replace q103 := eq_true q103
         refine start_ (n := 13) (S := fun w' => w'.cell? (ad102.add (((ji11)).toNat * 7)) = some (.int .i64 ((rd_T26 l0 (ji11)).f0)) ∧ w'.cell? ⟨(ad102.add (((ji11)).toNat * 7)).block, (ad102.add (((ji11)).toNat * 7)).off + 1, none⟩ = some (.int .i64 ((rd_T26 l0 (ji11)).f1)) ∧ w'.cell? ⟨(ad102.add (((ji11)).toNat * 7)).block, (ad102.add (((ji11)).toNat * 7)).off + 2, none⟩ = some (.int .i64 ((rd_T26 l0 (ji11)).f2)) ∧ w'.cell? ⟨(ad102.add (((ji11)).toNat * 7)).block, (ad102.add (((ji11)).toNat * 7)).off + 3, none⟩ = some (.int .i64 ((rd_T26 l0 (ji11)).f3)) ∧ w'.cell? ⟨(ad102.add (((ji11)).toNat * 7)).block, (ad102.add (((ji11)).toNat * 7)).off + 4, none⟩ = some (.bool ((rd_T26 l0 (ji11)).f4)) ∧ w'.cell? ⟨(ad102.add (((ji11)).toNat * 7)).block, (ad102.add (((ji11)).toNat * 7)).off + 5, none⟩ = some (.bool ((rd_T26 l0 (ji11)).f5)) ∧ w'.cell? ⟨(ad102.add (((ji11)).toNat * 7)).block, (ad102.add (((ji11)).toNat * 7)).off + 6, none⟩ = some (.bool ((rd_T26 l0 (ji11)).f6)) ∧ w'.cell? (ad102.add (((ji11)).toNat * 7)) = some (.int .i64 ((rd_T26 l0 (ji11)).f0)) ∧ w'.cell? ⟨(ad102.add (((ji11)).toNat * 7)).block, (ad102.add (((ji11)).toNat * 7)).off + 1, none⟩ = some (.int .i64 ((rd_T26 l0 (ji11)).f1)) ∧ w'.cell? ⟨(ad102.add (((ji11)).toNat * 7)).block, (ad102.add (((ji11)).toNat * 7)).off + 2, none⟩ = some (.int .i64 ((rd_T26 l0 (ji11)).f2)) ∧ w'.cell? ⟨(ad102.add (((ji11)).toNat * 7)).block, (ad102.add (((ji11)).toNat * 7)).off + 3, none⟩ = some (.int .i64 ((rd_T26 l0 (ji11)).f3)) ∧ w'.cell? ⟨(ad102.add (((ji11)).toNat * 7)).block, (ad102.add (((ji11)).toNat * 7)).off + 4, none⟩ = some (.bool ((rd_T26 l0 (ji11)).f4)) ∧ w'.cell? ⟨(ad102.add (((ji11)).toNat * 7)).block, (ad102.add (((ji11)).toNat * 7)).off + 5, none⟩ = some (.bool ((rd_T26 l0 (ji11)).f5)) ∧ w'.cell? ⟨(ad102.add (((ji11)).toNat * 7)).block, (ad102.add (((ji11)).toNat * 7)).off + 6, none⟩ = some (.bool ((rd_T26 l0 (ji11)).f6))) (ds := []) #[o9, o9, o9, o9, o9, o9, o9, o9, o9, o9, o9, o9, o9] (by kernel_rfl) rfl rfl ⟨((HB.out.cell (World.block_lt_of_cell? w _ hw102_0)).trans hw102_0), ((HB.out.cell (World.block_lt_of_cell? w _ hw102_1)).trans hw102_1), ((HB.out.cell (World.block_lt_of_cell? w _ hw102_2)).trans hw102_2), ((HB.out.cell (World.block_lt_of_cell? w _ hw102_3)).trans hw102_3), ((HB.out.cell (World.block_lt_of_cell? w _ hw102_4)).trans hw102_4), ((HB.out.cell (World.block_lt_of_cell? w _ hw102_5)).trans hw102_5), ((HB.out.cell (World.block_lt_of_cell? w _ hw102_6)).trans hw102_6), ((HB.out.cell (World.block_lt_of_cell? w _ hw103_0)).trans hw103_0), ((HB.out.cell (World.block_lt_of_cell? w _ hw103_1)).trans hw103_1), ((HB.out.cell (World.block_lt_of_cell? w _ hw103_2)).trans hw103_2), ((HB.out.cell (World.block_lt_of_cell? w _ hw103_3)).trans hw103_3), ((HB.out.cell (World.block_lt_of_cell? w _ hw103_4)).trans hw103_4), ((HB.out.cell (World.block_lt_of_cell? w _ hw103_5)).trans hw103_5), ((HB.out.cell (World.block_lt_of_cell? w _ hw103_6)).trans hw103_6)⟩ (fun hHeld => ?_); refine with_tabW cupolalaw11_SourceMore.tab6 cupolalaw11_SourceMore.bits6 (fun HT_ HW_ => ?_)
         generalize wc.drew = w23 at HB hx102_0 hx102_1 hx102_2 hx102_3 hx102_4 hx102_5 hx102_6 hx103_0 hx103_1 hx103_2 hx103_3 hx103_4 hx103_5 hx103_6 hHeld ⊢
         refine pureA 0 (some 40) ?_ #[i9, o9, o9, o9, o9, o9, o9, o9, o9, o9, o9, o9, o9] rfl rfl (any_of HT_.out (by kernel_rfl)) ?_ ?_ ?_ ?_
         rotate_left
         ·intro w'; go_simp; with_reducible rfl
         rotate_left
         ·exact put9
         refine pureA 1 (some 41) ?_ #[i9, i9, o9, o9, o9, o9, o9, o9, o9, o9, o9, o9, o9] rfl rfl (any_of HT_.out (by kernel_rfl)) ?_ ?_ ?_ ?_
         rotate_left
         ·intro w'; go_simp; with_reducible rfl
         rotate_left
         ·exact put9
         refine pureA 2 (some 42) ?_ #[i9, i9, i9, o9, o9, o9, o9, o9, o9, o9, o9, o9, o9] rfl rfl (any_of HT_.out (by kernel_rfl)) ?_ ?_ ?_ ?_
         rotate_left
         ·intro w'; go_simp; with_reducible rfl
         rotate_left
         ·exact put9
         refine pureA 3 (some 43) ?_ #[i9, i9, i9, i9, o9, o9, o9, o9, o9, o9, o9, o9, o9] rfl rfl (any_of HT_.out (by kernel_rfl)) ?_ ?_ ?_ ?_
         rotate_left
         ·intro w'; go_simp; with_reducible rfl
         rotate_left
         ·exact put9
         refine pureA 5 (some 45) ?_ #[i9, i9, i9, i9, o9, i9, o9, o9, o9, o9, o9, o9, o9] rfl rfl (any_of HT_.out (by kernel_rfl)) ?_ ?_ ?_ ?_
         rotate_left
         ·intro w'; go_simp; with_reducible rfl
         rotate_left
         ·exact put9
         refine pureA 6 (some 46) ?_ #[i9, i9, i9, i9, o9, i9, i9, o9, o9, o9, o9, o9, o9] rfl rfl (any_of HT_.out (by kernel_rfl)) ?_ ?_ ?_ ?_
         rotate_left
         ·intro w'; go_simp; with_reducible rfl
         rotate_left
         ·exact put9
         refine pureA 7 (some 47) ?_ #[i9, i9, i9, i9, o9, i9, i9, i9, o9, o9, o9, o9, o9] rfl rfl (any_of HT_.out (by kernel_rfl)) ?_ ?_ ?_ ?_
         rotate_left
         ·intro w'; go_simp; with_reducible rfl
         rotate_left
         ·exact put9
         refine pureA 8 (some 48) ?_ #[i9, i9, i9, i9, o9, i9, i9, i9, i9, o9, o9, o9, o9] rfl rfl (any_of HT_.out (by kernel_rfl)) ?_ ?_ ?_ ?_
         rotate_left
         ·intro w'; go_simp; with_reducible rfl
         rotate_left
         ·exact put9
         refine take_ (i := 4) (N := some 44) (v := ?_) (a' := ?_) #[i9, i9, i9, i9, i9, i9, i9, i9, i9, o9, o9, o9, o9] rfl rfl (take_ofW HT_.out HW_.out (by kernel_rfl)) (fun _ _ _ h => h) (Or.inl ⟨by rfl, ?_⟩) hHeld ?_ ?_
         rotate_left
         ·rintro w' ⟨s0, s1, s2, s3, s4, s5, s6, s7, s8, s9, s10, s11, s12, s13⟩
          go_simp
          with_reducible rfl
         rotate_left
         ·exact put9
         refine take_ (i := 9) (N := some 49) (v := ?_) (a' := ?_) #[i9, i9, i9, i9, i9, i9, i9, i9, i9, i9, o9, o9, o9] rfl rfl (take_ofW HT_.out HW_.out (by kernel_rfl)) (fun _ _ _ h => h) (Or.inl ⟨by rfl, ?_⟩) hHeld ?_ ?_
         rotate_left
         ·rintro w' ⟨s0, s1, s2, s3, s4, s5, s6, s7, s8, s9, s10, s11, s12, s13⟩
          go_simp
          with_reducible rfl
         rotate_left
         ·exact put9
         refine pureA 10 (some 50) ?_ #[i9, i9, i9, i9, i9, i9, i9, i9, i9, i9, i9, o9, o9] rfl rfl (any_of HT_.out (by kernel_rfl)) ?_ ?_ ?_ ?_
         rotate_left
         ·intro w'; go_simp; with_reducible rfl
         rotate_left
         ·exact put9
         refine one_ (i := 11) (N := some 12) #[i9, i9, i9, i9, i9, i9, i9, i9, i9, i9, i9, i9, o9] rfl rfl (one_of HT_.out (by kernel_rfl)) (by decide) (fun K hK => ?_)
         refine box_step ?hg (N := 12) ?hd (cs := #[.int .i64 0, .int .i64 0, .int .i64 0, .int .i64 0, .bool false, .bool false, .bool false]) (t := 26) ?hr ?_; (case hd => rfl); (case hg => rfl); (case hr => first | (go_simp; done) | (go_simp; rfl))
         intro gb104 hg w24 hbox hb
         have n0_ := a9_ (below_step (bp9 HB.out) hb)
         have n1_ := a9_ (hbox)
         have n2_ := a9_ ((by rw [hg]; exact (below_size (bp9 HB.out)) : w.heap.size ≤ gb104))
         have n3_ := n2_
         clear HB
         revert n0_ n1_ n2_ n3_; intro HB BK104 GW104 GE104
         clear hb hbox hg
         refine hK.out _ _ ⟨((HB.out.cell (World.block_lt_of_cell? w _ hw102_0)).trans hw102_0), ((HB.out.cell (World.block_lt_of_cell? w _ hw102_1)).trans hw102_1), ((HB.out.cell (World.block_lt_of_cell? w _ hw102_2)).trans hw102_2), ((HB.out.cell (World.block_lt_of_cell? w _ hw102_3)).trans hw102_3), ((HB.out.cell (World.block_lt_of_cell? w _ hw102_4)).trans hw102_4), ((HB.out.cell (World.block_lt_of_cell? w _ hw102_5)).trans hw102_5), ((HB.out.cell (World.block_lt_of_cell? w _ hw102_6)).trans hw102_6), ((HB.out.cell (World.block_lt_of_cell? w _ hw103_0)).trans hw103_0), ((HB.out.cell (World.block_lt_of_cell? w _ hw103_1)).trans hw103_1), ((HB.out.cell (World.block_lt_of_cell? w _ hw103_2)).trans hw103_2), ((HB.out.cell (World.block_lt_of_cell? w _ hw103_3)).trans hw103_3), ((HB.out.cell (World.block_lt_of_cell? w _ hw103_4)).trans hw103_4), ((HB.out.cell (World.block_lt_of_cell? w _ hw103_5)).trans hw103_5), ((HB.out.cell (World.block_lt_of_cell? w _ hw103_6)).trans hw103_6)⟩ (fun hHeld => ?_)
         clear hK K
         refine norm_ (a' := ?_) ?_ ?_
         rotate_left
         ·show Act.put _ (some 12) _ = _
          exact put9
         refine one_ (i := 12) (N := none) #[i9, i9, i9, i9, i9, i9, i9, i9, i9, i9, i9, i9, i9] rfl rfl (one_of HT_.out (by kernel_rfl)) (by decide) (fun K hK => ?_)
         have hs25 : w24.cell? ⟨gb104, 0, none⟩ = some (.int .i64 0) := (blk_cell BK104.out 0).trans rfl
         have hfs25 := blk_frozen BK104.out 0
         have hs26 : w24.cell? ⟨gb104, 1, none⟩ = some (.int .i64 0) := (blk_cell BK104.out 1).trans rfl
         have hfs26 := blk_frozen BK104.out 1
         have hs27 : w24.cell? ⟨gb104, 2, none⟩ = some (.int .i64 0) := (blk_cell BK104.out 2).trans rfl
         have hfs27 := blk_frozen BK104.out 2
         have hs28 : w24.cell? ⟨gb104, 3, none⟩ = some (.int .i64 0) := (blk_cell BK104.out 3).trans rfl
         have hfs28 := blk_frozen BK104.out 3
         have hs29 : w24.cell? ⟨gb104, 4, none⟩ = some (.bool false) := (blk_cell BK104.out 4).trans rfl
         have hfs29 := blk_frozen BK104.out 4
         have hs30 : w24.cell? ⟨gb104, 5, none⟩ = some (.bool false) := (blk_cell BK104.out 5).trans rfl
         have hfs30 := blk_frozen BK104.out 5
         have hs31 : w24.cell? ⟨gb104, 6, none⟩ = some (.bool false) := (blk_cell BK104.out 6).trans rfl
         have hfs31 := blk_frozen BK104.out 6
         refine skip_ (w1 := ?_) (by rfl) rfl ?_ ?_
         rotate_left
         ·go_simp
          rfl
         refine hK.out _ _ ⟨((cupolalaw11_SourceMore.far9 hw102_0 GW104.out).trans (((cupolalaw11_SourceMore.far9 hw102_0 GW104.out).trans (((cupolalaw11_SourceMore.far9 hw102_0 GW104.out).trans (((cupolalaw11_SourceMore.far9 hw102_0 GW104.out).trans (((cupolalaw11_SourceMore.far9 hw102_0 GW104.out).trans (((cupolalaw11_SourceMore.far9 hw102_0 GW104.out).trans (((cupolalaw11_SourceMore.far9 hw102_0 GW104.out).trans (hHeld.1)))))))))))))), ((cupolalaw11_SourceMore.far9 hw102_1 GW104.out).trans (((cupolalaw11_SourceMore.far9 hw102_1 GW104.out).trans (((cupolalaw11_SourceMore.far9 hw102_1 GW104.out).trans (((cupolalaw11_SourceMore.far9 hw102_1 GW104.out).trans (((cupolalaw11_SourceMore.far9 hw102_1 GW104.out).trans (((cupolalaw11_SourceMore.far9 hw102_1 GW104.out).trans (((cupolalaw11_SourceMore.far9 hw102_1 GW104.out).trans (hHeld.2.1)))))))))))))), ((cupolalaw11_SourceMore.far9 hw102_2 GW104.out).trans (((cupolalaw11_SourceMore.far9 hw102_2 GW104.out).trans (((cupolalaw11_SourceMore.far9 hw102_2 GW104.out).trans (((cupolalaw11_SourceMore.far9 hw102_2 GW104.out).trans (((cupolalaw11_SourceMore.far9 hw102_2 GW104.out).trans (((cupolalaw11_SourceMore.far9 hw102_2 GW104.out).trans (((cupolalaw11_SourceMore.far9 hw102_2 GW104.out).trans (hHeld.2.2.1)))))))))))))), ((cupolalaw11_SourceMore.far9 hw102_3 GW104.out).trans (((cupolalaw11_SourceMore.far9 hw102_3 GW104.out).trans (((cupolalaw11_SourceMore.far9 hw102_3 GW104.out).trans (((cupolalaw11_SourceMore.far9 hw102_3 GW104.out).trans (((cupolalaw11_SourceMore.far9 hw102_3 GW104.out).trans (((cupolalaw11_SourceMore.far9 hw102_3 GW104.out).trans (((cupolalaw11_SourceMore.far9 hw102_3 GW104.out).trans (hHeld.2.2.2.1)))))))))))))), ((cupolalaw11_SourceMore.far9 hw102_4 GW104.out).trans (((cupolalaw11_SourceMore.far9 hw102_4 GW104.out).trans (((cupolalaw11_SourceMore.far9 hw102_4 GW104.out).trans (((cupolalaw11_SourceMore.far9 hw102_4 GW104.out).trans (((cupolalaw11_SourceMore.far9 hw102_4 GW104.out).trans (((cupolalaw11_SourceMore.far9 hw102_4 GW104.out).trans (((cupolalaw11_SourceMore.far9 hw102_4 GW104.out).trans (hHeld.2.2.2.2.1)))))))))))))), ((cupolalaw11_SourceMore.far9 hw102_5 GW104.out).trans (((cupolalaw11_SourceMore.far9 hw102_5 GW104.out).trans (((cupolalaw11_SourceMore.far9 hw102_5 GW104.out).trans (((cupolalaw11_SourceMore.far9 hw102_5 GW104.out).trans (((cupolalaw11_SourceMore.far9 hw102_5 GW104.out).trans (((cupolalaw11_SourceMore.far9 hw102_5 GW104.out).trans (((cupolalaw11_SourceMore.far9 hw102_5 GW104.out).trans (hHeld.2.2.2.2.2.1)))))))))))))), ((cupolalaw11_SourceMore.far9 hw102_6 GW104.out).trans (((cupolalaw11_SourceMore.far9 hw102_6 GW104.out).trans (((cupolalaw11_SourceMore.far9 hw102_6 GW104.out).trans (((cupolalaw11_SourceMore.far9 hw102_6 GW104.out).trans (((cupolalaw11_SourceMore.far9 hw102_6 GW104.out).trans (((cupolalaw11_SourceMore.far9 hw102_6 GW104.out).trans (((cupolalaw11_SourceMore.far9 hw102_6 GW104.out).trans (hHeld.2.2.2.2.2.2.1)))))))))))))), ((cupolalaw11_SourceMore.far9 hw103_0 GW104.out).trans (((cupolalaw11_SourceMore.far9 hw103_0 GW104.out).trans (((cupolalaw11_SourceMore.far9 hw103_0 GW104.out).trans (((cupolalaw11_SourceMore.far9 hw103_0 GW104.out).trans (((cupolalaw11_SourceMore.far9 hw103_0 GW104.out).trans (((cupolalaw11_SourceMore.far9 hw103_0 GW104.out).trans (((cupolalaw11_SourceMore.far9 hw103_0 GW104.out).trans (hHeld.2.2.2.2.2.2.2.1)))))))))))))), ((cupolalaw11_SourceMore.far9 hw103_1 GW104.out).trans (((cupolalaw11_SourceMore.far9 hw103_1 GW104.out).trans (((cupolalaw11_SourceMore.far9 hw103_1 GW104.out).trans (((cupolalaw11_SourceMore.far9 hw103_1 GW104.out).trans (((cupolalaw11_SourceMore.far9 hw103_1 GW104.out).trans (((cupolalaw11_SourceMore.far9 hw103_1 GW104.out).trans (((cupolalaw11_SourceMore.far9 hw103_1 GW104.out).trans (hHeld.2.2.2.2.2.2.2.2.1)))))))))))))), ((cupolalaw11_SourceMore.far9 hw103_2 GW104.out).trans (((cupolalaw11_SourceMore.far9 hw103_2 GW104.out).trans (((cupolalaw11_SourceMore.far9 hw103_2 GW104.out).trans (((cupolalaw11_SourceMore.far9 hw103_2 GW104.out).trans (((cupolalaw11_SourceMore.far9 hw103_2 GW104.out).trans (((cupolalaw11_SourceMore.far9 hw103_2 GW104.out).trans (((cupolalaw11_SourceMore.far9 hw103_2 GW104.out).trans (hHeld.2.2.2.2.2.2.2.2.2.1)))))))))))))), ((cupolalaw11_SourceMore.far9 hw103_3 GW104.out).trans (((cupolalaw11_SourceMore.far9 hw103_3 GW104.out).trans (((cupolalaw11_SourceMore.far9 hw103_3 GW104.out).trans (((cupolalaw11_SourceMore.far9 hw103_3 GW104.out).trans (((cupolalaw11_SourceMore.far9 hw103_3 GW104.out).trans (((cupolalaw11_SourceMore.far9 hw103_3 GW104.out).trans (((cupolalaw11_SourceMore.far9 hw103_3 GW104.out).trans (hHeld.2.2.2.2.2.2.2.2.2.2.1)))))))))))))), ((cupolalaw11_SourceMore.far9 hw103_4 GW104.out).trans (((cupolalaw11_SourceMore.far9 hw103_4 GW104.out).trans (((cupolalaw11_SourceMore.far9 hw103_4 GW104.out).trans (((cupolalaw11_SourceMore.far9 hw103_4 GW104.out).trans (((cupolalaw11_SourceMore.far9 hw103_4 GW104.out).trans (((cupolalaw11_SourceMore.far9 hw103_4 GW104.out).trans (((cupolalaw11_SourceMore.far9 hw103_4 GW104.out).trans (hHeld.2.2.2.2.2.2.2.2.2.2.2.1)))))))))))))), ((cupolalaw11_SourceMore.far9 hw103_5 GW104.out).trans (((cupolalaw11_SourceMore.far9 hw103_5 GW104.out).trans (((cupolalaw11_SourceMore.far9 hw103_5 GW104.out).trans (((cupolalaw11_SourceMore.far9 hw103_5 GW104.out).trans (((cupolalaw11_SourceMore.far9 hw103_5 GW104.out).trans (((cupolalaw11_SourceMore.far9 hw103_5 GW104.out).trans (((cupolalaw11_SourceMore.far9 hw103_5 GW104.out).trans (hHeld.2.2.2.2.2.2.2.2.2.2.2.2.1)))))))))))))), ((cupolalaw11_SourceMore.far9 hw103_6 GW104.out).trans (((cupolalaw11_SourceMore.far9 hw103_6 GW104.out).trans (((cupolalaw11_SourceMore.far9 hw103_6 GW104.out).trans (((cupolalaw11_SourceMore.far9 hw103_6 GW104.out).trans (((cupolalaw11_SourceMore.far9 hw103_6 GW104.out).trans (((cupolalaw11_SourceMore.far9 hw103_6 GW104.out).trans (((cupolalaw11_SourceMore.far9 hw103_6 GW104.out).trans (hHeld.2.2.2.2.2.2.2.2.2.2.2.2.2))))))))))))))⟩ (fun hHeld => ?_)
         clear hK K
         refine done_ (done_of HT_.out (by kernel_rfl)) ?_
         try go_wp2_with (first | ((with_reducible refine gate_callee (f := 31) rfl ?_); (with_reducible refine gate_dst (N := 52) rfl ?_); refine goesL9 (some 52) rfl rfl Try.func31 (by kernel_rfl) rfl #[.slice (some ad102) l0.length c0] rfl ?_; (with_reducible refine (cupolalaw11_made.calls _ _ l0  _ ?side1 ?side2 A14.out).mono ?_); (case side1 => exact Kd.C_below HR0.out (bp9 HB.out)); (case side2 => exact HC0.out); rintro e w32 ⟨rfl, hb⟩; refine ⟨_, rfl, ?_⟩; have n0_ := a9_ (blk_below (g := gb104) (o := .cells #[.int .i64 0, .int .i64 2, .int .i64 ((rd_T26 l0 (ji11)).f2), .int .i64 ((rd_T26 l0 (ji11)).f3), .bool false, .bool false, .bool false] 26 (0, 0)) (by (with_reducible repeat (first | refine blk_drewN ?_ _ | refine blk_drew ?_ | refine blk_alloc ?_ _)); refine blk_put (cs := #[.int .i64 0, .int .i64 2, .int .i64 ((rd_T26 l0 (ji11)).f2), .int .i64 ((rd_T26 l0 (ji11)).f3), .bool false, .bool false, .bool false]) ?_ 6 _ rfl; (with_reducible repeat (first | refine blk_drewN ?_ _ | refine blk_drew ?_ | refine blk_alloc ?_ _)); refine blk_put (cs := #[.int .i64 0, .int .i64 2, .int .i64 ((rd_T26 l0 (ji11)).f2), .int .i64 ((rd_T26 l0 (ji11)).f3), .bool false, .bool false, .bool false]) ?_ 5 _ rfl; (with_reducible repeat (first | refine blk_drewN ?_ _ | refine blk_drew ?_ | refine blk_alloc ?_ _)); refine blk_put (cs := #[.int .i64 0, .int .i64 2, .int .i64 ((rd_T26 l0 (ji11)).f2), .int .i64 ((rd_T26 l0 (ji11)).f3), .bool false, .bool false, .bool false]) ?_ 4 _ rfl; (with_reducible repeat (first | refine blk_drewN ?_ _ | refine blk_drew ?_ | refine blk_alloc ?_ _)); refine blk_put (cs := #[.int .i64 0, .int .i64 2, .int .i64 ((rd_T26 l0 (ji11)).f2), .int .i64 0, .bool false, .bool false, .bool false]) ?_ 3 _ rfl; (with_reducible repeat (first | refine blk_drewN ?_ _ | refine blk_drew ?_ | refine blk_alloc ?_ _)); refine blk_put (cs := #[.int .i64 0, .int .i64 2, .int .i64 0, .int .i64 0, .bool false, .bool false, .bool false]) ?_ 2 _ rfl; (with_reducible repeat (first | refine blk_drewN ?_ _ | refine blk_drew ?_ | refine blk_alloc ?_ _)); refine blk_put (cs := #[.int .i64 0, .int .i64 0, .int .i64 0, .int .i64 0, .bool false, .bool false, .bool false]) ?_ 1 _ rfl; (with_reducible repeat (first | refine blk_drewN ?_ _ | refine blk_drew ?_ | refine blk_alloc ?_ _)); refine blk_put (cs := #[.int .i64 0, .int .i64 0, .int .i64 0, .int .i64 0, .bool false, .bool false, .bool false]) ?_ 0 _ rfl; (with_reducible repeat (first | refine blk_drewN ?_ _ | refine blk_drew ?_ | refine blk_alloc ?_ _)); exact BK104.out) hb); have n1_ := a9_ (below_step (bp9 HB.out) hb); clear BK104; clear HB; have BK104 := n0_; have HB := n1_; clear n0_ n1_; (try clear hb); (try clear hi)) | ((with_reducible refine gate_dst (N := 13) rfl ?_); (try (refine gate_guard (by rfl) ?_; dsimp only)); refine box9 (N := 13) (cs := #[.slice none 0 0, .slice none 0 0, .slice none 0 0, .slice none 0 0, .slice none 0 0, .slice none 0 0, .slice none 0 0]) (t := 31) ?_; intro gb105 hg w33 hbox hb; have n0_ := a9_ (blk_below (kp9 BK104.out) hb); have n1_ := a9_ (below_step (bp9 HB.out) hb); have n2_ := a9_ (hbox); have n3_ := a9_ ((by rw [hg]; exact (below_size (bp9 HB.out)) : w.heap.size ≤ gb105)); have n4_ := n3_; have n5_ := a9_ ((by rw [hg]; exact Nat.ne_of_lt (blk_lt (g := gb104) (o := .cells #[.int .i64 0, .int .i64 2, .int .i64 ((rd_T26 l0 (ji11)).f2), .int .i64 ((rd_T26 l0 (ji11)).f3), .bool false, .bool false, .bool false] 26 (0, 0)) (kp9 BK104.out)) : gb104 ≠ gb105)); have n6_ := a9_ ((by rw [hg]; exact Nat.ne_of_gt (blk_lt (g := gb104) (o := .cells #[.int .i64 0, .int .i64 2, .int .i64 ((rd_T26 l0 (ji11)).f2), .int .i64 ((rd_T26 l0 (ji11)).f3), .bool false, .bool false, .bool false] 26 (0, 0)) (kp9 BK104.out)) : gb105 ≠ gb104)); clear BK104; clear HB; have BK104 := n0_; have HB := n1_; have BK105 := n2_; have GW105 := n3_; have GE105 := n4_; have NB104_105 := n5_; have NB105_104 := n6_; clear n0_ n1_ n2_ n3_ n4_ n5_ n6_; clear hb hbox hg; have hnb34 := NB105_104.out; have hnc34 := NB104_105.out; obtain ⟨hcz35_0, hcz35_1, hcz35_2, hcz35_3, hcz35_4, hcz35_5, hcz35_6, hfz35_0, hfz35_1, hfz35_2, hfz35_3, hfz35_4, hfz35_5, hfz35_6⟩ := cz7 BK105.out))
         have n0_ : Aside0 ((((((((w33.setCell ⟨gb105, 0, none⟩ (.slice (some ad102) l0.length c0)).setCell ⟨gb105, 1, none⟩ (.slice none 0 0)).setCell ⟨gb105, 2, none⟩ (.slice none 0 0)).setCell ⟨gb105, 3, none⟩ (.slice none 0 0)).setCell ⟨gb105, 4, none⟩ (.slice none 0 0)).setCell ⟨gb105, 5, none⟩ (.slice none 0 0)).setCell ⟨gb105, 6, none⟩ (.slice none 0 0)).heap[gb104]? = some (.cells #[.int .i64 0, .int .i64 2, .int .i64 ((rd_T26 l0 (ji11)).f2), .int .i64 ((rd_T26 l0 (ji11)).f3), .bool false, .bool false, .bool false] 26 (0, 0))) := ⟨by (with_reducible repeat (first | refine blk_drewN ?_ _ | refine blk_drew ?_ | refine blk_alloc ?_ _)); refine blk_far ?_ NB104_105.out _; (with_reducible repeat (first | refine blk_drewN ?_ _ | refine blk_drew ?_ | refine blk_alloc ?_ _)); refine blk_far ?_ NB104_105.out _; (with_reducible repeat (first | refine blk_drewN ?_ _ | refine blk_drew ?_ | refine blk_alloc ?_ _)); refine blk_far ?_ NB104_105.out _; (with_reducible repeat (first | refine blk_drewN ?_ _ | refine blk_drew ?_ | refine blk_alloc ?_ _)); refine blk_far ?_ NB104_105.out _; (with_reducible repeat (first | refine blk_drewN ?_ _ | refine blk_drew ?_ | refine blk_alloc ?_ _)); refine blk_far ?_ NB104_105.out _; (with_reducible repeat (first | refine blk_drewN ?_ _ | refine blk_drew ?_ | refine blk_alloc ?_ _)); refine blk_far ?_ NB104_105.out _; (with_reducible repeat (first | refine blk_drewN ?_ _ | refine blk_drew ?_ | refine blk_alloc ?_ _)); refine blk_far ?_ NB104_105.out _; (with_reducible repeat (first | refine blk_drewN ?_ _ | refine blk_drew ?_ | refine blk_alloc ?_ _)); exact BK104.out⟩
         have n1_ : Aside0 ((((((((w33.setCell ⟨gb105, 0, none⟩ (.slice (some ad102) l0.length c0)).setCell ⟨gb105, 1, none⟩ (.slice none 0 0)).setCell ⟨gb105, 2, none⟩ (.slice none 0 0)).setCell ⟨gb105, 3, none⟩ (.slice none 0 0)).setCell ⟨gb105, 4, none⟩ (.slice none 0 0)).setCell ⟨gb105, 5, none⟩ (.slice none 0 0)).setCell ⟨gb105, 6, none⟩ (.slice none 0 0)).heap[gb105]? = some (.cells #[.slice (some ad102) l0.length c0, .slice none 0 0, .slice none 0 0, .slice none 0 0, .slice none 0 0, .slice none 0 0, .slice none 0 0] 31 (0, 0))) := ⟨by (with_reducible repeat (first | refine blk_drewN ?_ _ | refine blk_drew ?_ | refine blk_alloc ?_ _)); refine blk_put (cs := #[.slice (some ad102) l0.length c0, .slice none 0 0, .slice none 0 0, .slice none 0 0, .slice none 0 0, .slice none 0 0, .slice none 0 0]) ?_ 6 _ rfl; (with_reducible repeat (first | refine blk_drewN ?_ _ | refine blk_drew ?_ | refine blk_alloc ?_ _)); refine blk_put (cs := #[.slice (some ad102) l0.length c0, .slice none 0 0, .slice none 0 0, .slice none 0 0, .slice none 0 0, .slice none 0 0, .slice none 0 0]) ?_ 5 _ rfl; (with_reducible repeat (first | refine blk_drewN ?_ _ | refine blk_drew ?_ | refine blk_alloc ?_ _)); refine blk_put (cs := #[.slice (some ad102) l0.length c0, .slice none 0 0, .slice none 0 0, .slice none 0 0, .slice none 0 0, .slice none 0 0, .slice none 0 0]) ?_ 4 _ rfl; (with_reducible repeat (first | refine blk_drewN ?_ _ | refine blk_drew ?_ | refine blk_alloc ?_ _)); refine blk_put (cs := #[.slice (some ad102) l0.length c0, .slice none 0 0, .slice none 0 0, .slice none 0 0, .slice none 0 0, .slice none 0 0, .slice none 0 0]) ?_ 3 _ rfl; (with_reducible repeat (first | refine blk_drewN ?_ _ | refine blk_drew ?_ | refine blk_alloc ?_ _)); refine blk_put (cs := #[.slice (some ad102) l0.length c0, .slice none 0 0, .slice none 0 0, .slice none 0 0, .slice none 0 0, .slice none 0 0, .slice none 0 0]) ?_ 2 _ rfl; (with_reducible repeat (first | refine blk_drewN ?_ _ | refine blk_drew ?_ | refine blk_alloc ?_ _)); refine blk_put (cs := #[.slice (some ad102) l0.length c0, .slice none 0 0, .slice none 0 0, .slice none 0 0, .slice none 0 0, .slice none 0 0, .slice none 0 0]) ?_ 1 _ rfl; (with_reducible repeat (first | refine blk_drewN ?_ _ | refine blk_drew ?_ | refine blk_alloc ?_ _)); refine blk_put (cs := #[.slice none 0 0, .slice none 0 0, .slice none 0 0, .slice none 0 0, .slice none 0 0, .slice none 0 0, .slice none 0 0]) ?_ 0 _ rfl; (with_reducible repeat (first | refine blk_drewN ?_ _ | refine blk_drew ?_ | refine blk_alloc ?_ _)); exact BK105.out⟩
         have n2_ : Aside0 (Below w.heap.size w (((((((w33.setCell ⟨gb105, 0, none⟩ (.slice (some ad102) l0.length c0)).setCell ⟨gb105, 1, none⟩ (.slice none 0 0)).setCell ⟨gb105, 2, none⟩ (.slice none 0 0)).setCell ⟨gb105, 3, none⟩ (.slice none 0 0)).setCell ⟨gb105, 4, none⟩ (.slice none 0 0)).setCell ⟨gb105, 5, none⟩ (.slice none 0 0)).setCell ⟨gb105, 6, none⟩ (.slice none 0 0))) := ⟨bp9 HB.out⟩
         (try clear BK104)
         (try clear BK105)
         (try clear HB)
         generalize (((((((w33.setCell ⟨gb105, 0, none⟩ (.slice (some ad102) l0.length c0)).setCell ⟨gb105, 1, none⟩ (.slice none 0 0)).setCell ⟨gb105, 2, none⟩ (.slice none 0 0)).setCell ⟨gb105, 3, none⟩ (.slice none 0 0)).setCell ⟨gb105, 4, none⟩ (.slice none 0 0)).setCell ⟨gb105, 5, none⟩ (.slice none 0 0)).setCell ⟨gb105, 6, none⟩ (.slice none 0 0)) = w36 at n0_ n1_ n2_ ⊢
         revert n0_ n1_ n2_; intro BK104 BK105 HB
         have n0_ := a9_ (blk_drew BK104.out)
         have n1_ := a9_ (blk_drew BK105.out)
         have n2_ := a9_ (below_drew1 HB.out)
         clear BK104 BK105 HB
         revert n0_ n1_ n2_; intro BK104 BK105 HB
         refine start_ (n := 9) (S := fun w' => w'.cell? ⟨gb104, 0, none⟩ = some (.int .i64 0) ∧ w'.cell? ⟨gb104, 1, none⟩ = some (.int .i64 2) ∧ w'.cell? ⟨gb104, 2, none⟩ = some (.int .i64 ((rd_T26 l0 (ji11)).f2)) ∧ w'.cell? ⟨gb104, 3, none⟩ = some (.int .i64 ((rd_T26 l0 (ji11)).f3)) ∧ w'.cell? ⟨gb104, 4, none⟩ = some (.bool false) ∧ w'.cell? ⟨gb104, 5, none⟩ = some (.bool false) ∧ w'.cell? ⟨gb104, 6, none⟩ = some (.bool false)) (ds := []) #[o9, o9, o9, o9, o9, o9, o9, o9, o9] (by kernel_rfl) rfl rfl ⟨(blk_cell BK104.out 0).trans rfl, (blk_cell BK104.out 1).trans rfl, (blk_cell BK104.out 2).trans rfl, (blk_cell BK104.out 3).trans rfl, (blk_cell BK104.out 4).trans rfl, (blk_cell BK104.out 5).trans rfl, (blk_cell BK104.out 6).trans rfl⟩ (fun hHeld => ?_); refine with_tabW cupolalaw11_SourceMore.tab8 cupolalaw11_SourceMore.bits8 (fun HT_ HW_ => ?_)
         generalize w36.drew = w37 at BK104 BK105 HB hHeld ⊢
         refine pureA 1 (some 54) ?_ #[o9, i9, o9, o9, o9, o9, o9, o9, o9] rfl rfl (any_of HT_.out (by kernel_rfl)) ?_ ?_ ?_ ?_
         rotate_left
         ·intro w'; go_simp; with_reducible rfl
         rotate_left
         ·exact put9
         refine take_ (i := 3) (N := some 56) (v := ?_) (a' := ?_) #[o9, i9, o9, i9, o9, o9, o9, o9, o9] rfl rfl (take_ofW HT_.out HW_.out (by kernel_rfl)) (fun _ _ _ h => h) (Or.inl ⟨by rfl, ?_⟩) hHeld ?_ ?_
         rotate_left
         ·rintro w' ⟨s0, s1, s2, s3, s4, s5, s6⟩
          go_simp
          with_reducible rfl
         rotate_left
         ·exact put9
         refine join_ (σ := Value × Value × Value × Value × Nat) 1 #[true, true, true, true, true, true, true, true, false] (fun s_ => [(53, s_.1), (55, s_.2.1), (57, s_.2.2.1), (58, s_.2.2.2.1), (59, .agg #[s_.2.2.2.1, .slice none 0 0, .slice none 0 0, .slice none 0 0, .slice none 0 0, .slice none 0 0, .slice none 0 0]), (14, .pointer (some ⟨s_.2.2.2.2, 0, none⟩))]) (fun s_ w' => (w'.cell? ⟨gb104, 0, none⟩ = some (.int .i64 0) ∧ w'.cell? ⟨gb104, 1, none⟩ = some (.int .i64 2) ∧ w'.cell? ⟨gb104, 2, none⟩ = some (.int .i64 ((rd_T26 l0 (ji11)).f2)) ∧ w'.cell? ⟨gb104, 3, none⟩ = some (.int .i64 ((rd_T26 l0 (ji11)).f3)) ∧ w'.cell? ⟨gb104, 4, none⟩ = some (.bool false) ∧ w'.cell? ⟨gb104, 5, none⟩ = some (.bool false) ∧ w'.cell? ⟨gb104, 6, none⟩ = some (.bool false)) ∧ (Kd.R k26 26 w' w.heap.size (fun k_ => some k_ ≠ (s_.2.2.2.1 : Value).ownBlock ∧ k_ ≠ gb104) s_.2.2.1 y112) ∧ (Kd.R k26 26 w' w.heap.size (fun k_ => some k_ ≠ (s_.2.2.1 : Value).ownBlock ∧ k_ ≠ gb104) s_.2.2.2.1 y115) ∧ (w'.heap[gb104]? = some (.cells #[.int .i64 0, .int .i64 2, .int .i64 ((rd_T26 l0 (ji11)).f2), .int .i64 ((rd_T26 l0 (ji11)).f3), .bool false, .bool false, .bool false] 26 (0, 0))) ∧ (w'.heap[gb105]? = some (.cells #[.slice (some ad102) l0.length c0, .slice none 0 0, .slice none 0 0, .slice none 0 0, .slice none 0 0, .slice none 0 0, .slice none 0 0] 31 (0, 0))) ∧ (w'.heap[s_.2.2.2.2]? = some (.cells #[.slice none 0 0, .slice none 0 0, .slice none 0 0, .slice none 0 0, .slice none 0 0, .slice none 0 0, .slice none 0 0] 31 (0, 0))) ∧ (w.heap.size ≤ s_.2.2.2.2) ∧ (w.heap.size ≤ s_.2.2.2.2) ∧ (gb104 ≠ s_.2.2.2.2) ∧ (s_.2.2.2.2 ≠ gb104) ∧ (gb105 ≠ s_.2.2.2.2) ∧ (s_.2.2.2.2 ≠ gb105) ∧ (Below w.heap.size w w')) ?_ ?_
         rotate_left
         ·intro hJ0_2_4_5_6_7
          refine join_ (σ := Value × Value × Value × Value) 2 #[true, true, true, true, true, true, true, false, false] (fun s_ => [(53, s_.1), (55, s_.2.1), (57, s_.2.2.1), (58, s_.2.2.2), (59, .agg #[s_.2.2.2, .slice none 0 0, .slice none 0 0, .slice none 0 0, .slice none 0 0, .slice none 0 0, .slice none 0 0])]) (fun s_ w' => (w'.cell? ⟨gb104, 0, none⟩ = some (.int .i64 0) ∧ w'.cell? ⟨gb104, 1, none⟩ = some (.int .i64 2) ∧ w'.cell? ⟨gb104, 2, none⟩ = some (.int .i64 ((rd_T26 l0 (ji11)).f2)) ∧ w'.cell? ⟨gb104, 3, none⟩ = some (.int .i64 ((rd_T26 l0 (ji11)).f3)) ∧ w'.cell? ⟨gb104, 4, none⟩ = some (.bool false) ∧ w'.cell? ⟨gb104, 5, none⟩ = some (.bool false) ∧ w'.cell? ⟨gb104, 6, none⟩ = some (.bool false)) ∧ (Kd.R k26 26 w' w.heap.size (fun k_ => some k_ ≠ (s_.2.2.2 : Value).ownBlock ∧ k_ ≠ gb104) s_.2.2.1 y112) ∧ (Kd.R k26 26 w' w.heap.size (fun k_ => some k_ ≠ (s_.2.2.1 : Value).ownBlock ∧ k_ ≠ gb104) s_.2.2.2 y115) ∧ (w'.heap[gb104]? = some (.cells #[.int .i64 0, .int .i64 2, .int .i64 ((rd_T26 l0 (ji11)).f2), .int .i64 ((rd_T26 l0 (ji11)).f3), .bool false, .bool false, .bool false] 26 (0, 0))) ∧ (w'.heap[gb105]? = some (.cells #[.slice (some ad102) l0.length c0, .slice none 0 0, .slice none 0 0, .slice none 0 0, .slice none 0 0, .slice none 0 0, .slice none 0 0] 31 (0, 0))) ∧ (Below w.heap.size w w')) ?_ ?_
          rotate_left
          ·intro hJ0_2_4_5_6
           refine join_ (σ := Value × Value × Value × Value × Nat) 2 #[true, true, true, true, true, true, false, true, false] (fun s_ => [(53, s_.1), (55, s_.2.1), (57, s_.2.2.1), (58, s_.2.2.2.1), (14, .pointer (some ⟨s_.2.2.2.2, 0, none⟩))]) (fun s_ w' => (w'.cell? ⟨gb104, 0, none⟩ = some (.int .i64 0) ∧ w'.cell? ⟨gb104, 1, none⟩ = some (.int .i64 2) ∧ w'.cell? ⟨gb104, 2, none⟩ = some (.int .i64 ((rd_T26 l0 (ji11)).f2)) ∧ w'.cell? ⟨gb104, 3, none⟩ = some (.int .i64 ((rd_T26 l0 (ji11)).f3)) ∧ w'.cell? ⟨gb104, 4, none⟩ = some (.bool false) ∧ w'.cell? ⟨gb104, 5, none⟩ = some (.bool false) ∧ w'.cell? ⟨gb104, 6, none⟩ = some (.bool false)) ∧ (Kd.R k26 26 w' w.heap.size (fun k_ => some k_ ≠ (s_.2.2.2.1 : Value).ownBlock ∧ k_ ≠ gb104) s_.2.2.1 y112) ∧ (Kd.R k26 26 w' w.heap.size (fun k_ => some k_ ≠ (s_.2.2.1 : Value).ownBlock ∧ k_ ≠ gb104) s_.2.2.2.1 y115) ∧ (w'.heap[gb104]? = some (.cells #[.int .i64 0, .int .i64 2, .int .i64 ((rd_T26 l0 (ji11)).f2), .int .i64 ((rd_T26 l0 (ji11)).f3), .bool false, .bool false, .bool false] 26 (0, 0))) ∧ (w'.heap[gb105]? = some (.cells #[.slice (some ad102) l0.length c0, .slice none 0 0, .slice none 0 0, .slice none 0 0, .slice none 0 0, .slice none 0 0, .slice none 0 0] 31 (0, 0))) ∧ (w'.heap[s_.2.2.2.2]? = some (.cells #[.slice none 0 0, .slice none 0 0, .slice none 0 0, .slice none 0 0, .slice none 0 0, .slice none 0 0, .slice none 0 0] 31 (0, 0))) ∧ (w.heap.size ≤ s_.2.2.2.2) ∧ (w.heap.size ≤ s_.2.2.2.2) ∧ (gb104 ≠ s_.2.2.2.2) ∧ (s_.2.2.2.2 ≠ gb104) ∧ (gb105 ≠ s_.2.2.2.2) ∧ (s_.2.2.2.2 ≠ gb105) ∧ (Below w.heap.size w w')) ?_ ?_
           rotate_left
           ·intro hJ0_2_4_5_7
            refine join_ (σ := Value × Value × Value × Value) 3 #[true, true, true, true, true, true, false, false, false] (fun s_ => [(53, s_.1), (55, s_.2.1), (57, s_.2.2.1), (58, s_.2.2.2)]) (fun s_ w' => (w'.cell? ⟨gb104, 0, none⟩ = some (.int .i64 0) ∧ w'.cell? ⟨gb104, 1, none⟩ = some (.int .i64 2) ∧ w'.cell? ⟨gb104, 2, none⟩ = some (.int .i64 ((rd_T26 l0 (ji11)).f2)) ∧ w'.cell? ⟨gb104, 3, none⟩ = some (.int .i64 ((rd_T26 l0 (ji11)).f3)) ∧ w'.cell? ⟨gb104, 4, none⟩ = some (.bool false) ∧ w'.cell? ⟨gb104, 5, none⟩ = some (.bool false) ∧ w'.cell? ⟨gb104, 6, none⟩ = some (.bool false)) ∧ (Kd.R k26 26 w' w.heap.size (fun k_ => some k_ ≠ (s_.2.2.2 : Value).ownBlock ∧ k_ ≠ gb104) s_.2.2.1 y112) ∧ (Kd.R k26 26 w' w.heap.size (fun k_ => some k_ ≠ (s_.2.2.1 : Value).ownBlock ∧ k_ ≠ gb104) s_.2.2.2 y115) ∧ (w'.heap[gb104]? = some (.cells #[.int .i64 0, .int .i64 2, .int .i64 ((rd_T26 l0 (ji11)).f2), .int .i64 ((rd_T26 l0 (ji11)).f3), .bool false, .bool false, .bool false] 26 (0, 0))) ∧ (w'.heap[gb105]? = some (.cells #[.slice (some ad102) l0.length c0, .slice none 0 0, .slice none 0 0, .slice none 0 0, .slice none 0 0, .slice none 0 0, .slice none 0 0] 31 (0, 0))) ∧ (Below w.heap.size w w')) ?_ ?_
            rotate_left
            ·intro hJ0_2_4_5
             refine join_ (σ := Value × Value × Value × Nat) 3 #[true, true, true, true, true, false, false, true, false] (fun s_ => [(53, s_.1), (55, s_.2.1), (57, s_.2.2.1), (14, .pointer (some ⟨s_.2.2.2, 0, none⟩))]) (fun s_ w' => (w'.cell? ⟨gb104, 0, none⟩ = some (.int .i64 0) ∧ w'.cell? ⟨gb104, 1, none⟩ = some (.int .i64 2) ∧ w'.cell? ⟨gb104, 2, none⟩ = some (.int .i64 ((rd_T26 l0 (ji11)).f2)) ∧ w'.cell? ⟨gb104, 3, none⟩ = some (.int .i64 ((rd_T26 l0 (ji11)).f3)) ∧ w'.cell? ⟨gb104, 4, none⟩ = some (.bool false) ∧ w'.cell? ⟨gb104, 5, none⟩ = some (.bool false) ∧ w'.cell? ⟨gb104, 6, none⟩ = some (.bool false)) ∧ (Kd.R k26 26 w' w.heap.size (fun k_ => some k_ ≠ (s_.2.2.1 : Value).ownBlock ∧ k_ ≠ gb104) s_.2.1 y109) ∧ (Kd.R k26 26 w' w.heap.size (fun k_ => some k_ ≠ (s_.2.1 : Value).ownBlock ∧ k_ ≠ gb104) s_.2.2.1 y112) ∧ (w'.heap[gb104]? = some (.cells #[.int .i64 0, .int .i64 2, .int .i64 ((rd_T26 l0 (ji11)).f2), .int .i64 ((rd_T26 l0 (ji11)).f3), .bool false, .bool false, .bool false] 26 (0, 0))) ∧ (w'.heap[gb105]? = some (.cells #[.slice (some ad102) l0.length c0, .slice none 0 0, .slice none 0 0, .slice none 0 0, .slice none 0 0, .slice none 0 0, .slice none 0 0] 31 (0, 0))) ∧ (w'.heap[s_.2.2.2]? = some (.cells #[.slice none 0 0, .slice none 0 0, .slice none 0 0, .slice none 0 0, .slice none 0 0, .slice none 0 0, .slice none 0 0] 31 (0, 0))) ∧ (w.heap.size ≤ s_.2.2.2) ∧ (w.heap.size ≤ s_.2.2.2) ∧ (gb104 ≠ s_.2.2.2) ∧ (s_.2.2.2 ≠ gb104) ∧ (gb105 ≠ s_.2.2.2) ∧ (s_.2.2.2 ≠ gb105) ∧ (Below w.heap.size w w')) ?_ ?_
             rotate_left
             ·intro hJ0_2_4_7
              refine join_ (σ := Value × Value × Value) 4 #[true, true, true, true, true, false, false, false, false] (fun s_ => [(53, s_.1), (55, s_.2.1), (57, s_.2.2)]) (fun s_ w' => (w'.cell? ⟨gb104, 0, none⟩ = some (.int .i64 0) ∧ w'.cell? ⟨gb104, 1, none⟩ = some (.int .i64 2) ∧ w'.cell? ⟨gb104, 2, none⟩ = some (.int .i64 ((rd_T26 l0 (ji11)).f2)) ∧ w'.cell? ⟨gb104, 3, none⟩ = some (.int .i64 ((rd_T26 l0 (ji11)).f3)) ∧ w'.cell? ⟨gb104, 4, none⟩ = some (.bool false) ∧ w'.cell? ⟨gb104, 5, none⟩ = some (.bool false) ∧ w'.cell? ⟨gb104, 6, none⟩ = some (.bool false)) ∧ (Kd.R k26 26 w' w.heap.size (fun k_ => some k_ ≠ (s_.2.2 : Value).ownBlock ∧ k_ ≠ gb104) s_.2.1 y109) ∧ (Kd.R k26 26 w' w.heap.size (fun k_ => some k_ ≠ (s_.2.1 : Value).ownBlock ∧ k_ ≠ gb104) s_.2.2 y112) ∧ (w'.heap[gb104]? = some (.cells #[.int .i64 0, .int .i64 2, .int .i64 ((rd_T26 l0 (ji11)).f2), .int .i64 ((rd_T26 l0 (ji11)).f3), .bool false, .bool false, .bool false] 26 (0, 0))) ∧ (w'.heap[gb105]? = some (.cells #[.slice (some ad102) l0.length c0, .slice none 0 0, .slice none 0 0, .slice none 0 0, .slice none 0 0, .slice none 0 0, .slice none 0 0] 31 (0, 0))) ∧ (Below w.heap.size w w')) ?_ ?_
              rotate_left
              ·intro hJ0_2_4
               refine join_ (σ := Value × Value × Nat) 4 #[true, true, true, true, false, false, false, true, false] (fun s_ => [(53, s_.1), (55, s_.2.1), (14, .pointer (some ⟨s_.2.2, 0, none⟩))]) (fun s_ w' => (w'.cell? ⟨gb104, 0, none⟩ = some (.int .i64 0) ∧ w'.cell? ⟨gb104, 1, none⟩ = some (.int .i64 2) ∧ w'.cell? ⟨gb104, 2, none⟩ = some (.int .i64 ((rd_T26 l0 (ji11)).f2)) ∧ w'.cell? ⟨gb104, 3, none⟩ = some (.int .i64 ((rd_T26 l0 (ji11)).f3)) ∧ w'.cell? ⟨gb104, 4, none⟩ = some (.bool false) ∧ w'.cell? ⟨gb104, 5, none⟩ = some (.bool false) ∧ w'.cell? ⟨gb104, 6, none⟩ = some (.bool false)) ∧ (Kd.R k26 26 w' w.heap.size (fun k_ => k_ ≠ gb104) s_.2.1 y109) ∧ (w'.heap[gb104]? = some (.cells #[.int .i64 0, .int .i64 2, .int .i64 ((rd_T26 l0 (ji11)).f2), .int .i64 ((rd_T26 l0 (ji11)).f3), .bool false, .bool false, .bool false] 26 (0, 0))) ∧ (w'.heap[gb105]? = some (.cells #[.slice (some ad102) l0.length c0, .slice none 0 0, .slice none 0 0, .slice none 0 0, .slice none 0 0, .slice none 0 0, .slice none 0 0] 31 (0, 0))) ∧ (w'.heap[s_.2.2]? = some (.cells #[.slice none 0 0, .slice none 0 0, .slice none 0 0, .slice none 0 0, .slice none 0 0, .slice none 0 0, .slice none 0 0] 31 (0, 0))) ∧ (w.heap.size ≤ s_.2.2) ∧ (w.heap.size ≤ s_.2.2) ∧ (gb104 ≠ s_.2.2) ∧ (s_.2.2 ≠ gb104) ∧ (gb105 ≠ s_.2.2) ∧ (s_.2.2 ≠ gb105) ∧ (Below w.heap.size w w')) ?_ ?_
               rotate_left
               ·intro hJ0_2_7
                refine join_ (σ := Value × Value × Nat) 4 #[true, true, false, true, true, false, false, true, false] (fun s_ => [(53, s_.1), (57, s_.2.1), (14, .pointer (some ⟨s_.2.2, 0, none⟩))]) (fun s_ w' => (w'.cell? ⟨gb104, 0, none⟩ = some (.int .i64 0) ∧ w'.cell? ⟨gb104, 1, none⟩ = some (.int .i64 2) ∧ w'.cell? ⟨gb104, 2, none⟩ = some (.int .i64 ((rd_T26 l0 (ji11)).f2)) ∧ w'.cell? ⟨gb104, 3, none⟩ = some (.int .i64 ((rd_T26 l0 (ji11)).f3)) ∧ w'.cell? ⟨gb104, 4, none⟩ = some (.bool false) ∧ w'.cell? ⟨gb104, 5, none⟩ = some (.bool false) ∧ w'.cell? ⟨gb104, 6, none⟩ = some (.bool false)) ∧ (Kd.R k26 26 w' w.heap.size (fun k_ => some k_ ≠ (s_.2.1 : Value).ownBlock ∧ k_ ≠ gb104) s_.1 y106) ∧ (Kd.R k26 26 w' w.heap.size (fun k_ => some k_ ≠ (s_.1 : Value).ownBlock ∧ k_ ≠ gb104) s_.2.1 y112) ∧ (w'.heap[gb104]? = some (.cells #[.int .i64 0, .int .i64 2, .int .i64 ((rd_T26 l0 (ji11)).f2), .int .i64 ((rd_T26 l0 (ji11)).f3), .bool false, .bool false, .bool false] 26 (0, 0))) ∧ (w'.heap[gb105]? = some (.cells #[.slice (some ad102) l0.length c0, .slice none 0 0, .slice none 0 0, .slice none 0 0, .slice none 0 0, .slice none 0 0, .slice none 0 0] 31 (0, 0))) ∧ (w'.heap[s_.2.2]? = some (.cells #[.slice none 0 0, .slice none 0 0, .slice none 0 0, .slice none 0 0, .slice none 0 0, .slice none 0 0, .slice none 0 0] 31 (0, 0))) ∧ (w.heap.size ≤ s_.2.2) ∧ (w.heap.size ≤ s_.2.2) ∧ (gb104 ≠ s_.2.2) ∧ (s_.2.2 ≠ gb104) ∧ (gb105 ≠ s_.2.2) ∧ (s_.2.2 ≠ gb105) ∧ (Below w.heap.size w w')) ?_ ?_
                rotate_left
                ·intro hJ0_4_7
                 refine join_ (σ := Value × Value) 5 #[true, true, true, true, false, false, false, false, false] (fun s_ => [(53, s_.1), (55, s_.2)]) (fun s_ w' => (w'.cell? ⟨gb104, 0, none⟩ = some (.int .i64 0) ∧ w'.cell? ⟨gb104, 1, none⟩ = some (.int .i64 2) ∧ w'.cell? ⟨gb104, 2, none⟩ = some (.int .i64 ((rd_T26 l0 (ji11)).f2)) ∧ w'.cell? ⟨gb104, 3, none⟩ = some (.int .i64 ((rd_T26 l0 (ji11)).f3)) ∧ w'.cell? ⟨gb104, 4, none⟩ = some (.bool false) ∧ w'.cell? ⟨gb104, 5, none⟩ = some (.bool false) ∧ w'.cell? ⟨gb104, 6, none⟩ = some (.bool false)) ∧ (Kd.R k26 26 w' w.heap.size (fun k_ => k_ ≠ gb104) s_.2 y109) ∧ (w'.heap[gb104]? = some (.cells #[.int .i64 0, .int .i64 2, .int .i64 ((rd_T26 l0 (ji11)).f2), .int .i64 ((rd_T26 l0 (ji11)).f3), .bool false, .bool false, .bool false] 26 (0, 0))) ∧ (w'.heap[gb105]? = some (.cells #[.slice (some ad102) l0.length c0, .slice none 0 0, .slice none 0 0, .slice none 0 0, .slice none 0 0, .slice none 0 0, .slice none 0 0] 31 (0, 0))) ∧ (Below w.heap.size w w')) ?_ ?_
                 rotate_left
                 ·intro hJ0_2
                  refine join_ (σ := Value × Value) 5 #[true, true, false, true, true, false, false, false, false] (fun s_ => [(53, s_.1), (57, s_.2)]) (fun s_ w' => (w'.cell? ⟨gb104, 0, none⟩ = some (.int .i64 0) ∧ w'.cell? ⟨gb104, 1, none⟩ = some (.int .i64 2) ∧ w'.cell? ⟨gb104, 2, none⟩ = some (.int .i64 ((rd_T26 l0 (ji11)).f2)) ∧ w'.cell? ⟨gb104, 3, none⟩ = some (.int .i64 ((rd_T26 l0 (ji11)).f3)) ∧ w'.cell? ⟨gb104, 4, none⟩ = some (.bool false) ∧ w'.cell? ⟨gb104, 5, none⟩ = some (.bool false) ∧ w'.cell? ⟨gb104, 6, none⟩ = some (.bool false)) ∧ (Kd.R k26 26 w' w.heap.size (fun k_ => some k_ ≠ (s_.2 : Value).ownBlock ∧ k_ ≠ gb104) s_.1 y106) ∧ (Kd.R k26 26 w' w.heap.size (fun k_ => some k_ ≠ (s_.1 : Value).ownBlock ∧ k_ ≠ gb104) s_.2 y112) ∧ (w'.heap[gb104]? = some (.cells #[.int .i64 0, .int .i64 2, .int .i64 ((rd_T26 l0 (ji11)).f2), .int .i64 ((rd_T26 l0 (ji11)).f3), .bool false, .bool false, .bool false] 26 (0, 0))) ∧ (w'.heap[gb105]? = some (.cells #[.slice (some ad102) l0.length c0, .slice none 0 0, .slice none 0 0, .slice none 0 0, .slice none 0 0, .slice none 0 0, .slice none 0 0] 31 (0, 0))) ∧ (Below w.heap.size w w')) ?_ ?_
                  rotate_left
                  ·intro hJ0_4
                   refine join_ (σ := Value × Nat) 5 #[true, true, false, true, false, false, false, true, false] (fun s_ => [(53, s_.1), (14, .pointer (some ⟨s_.2, 0, none⟩))]) (fun s_ w' => (w'.cell? ⟨gb104, 0, none⟩ = some (.int .i64 0) ∧ w'.cell? ⟨gb104, 1, none⟩ = some (.int .i64 2) ∧ w'.cell? ⟨gb104, 2, none⟩ = some (.int .i64 ((rd_T26 l0 (ji11)).f2)) ∧ w'.cell? ⟨gb104, 3, none⟩ = some (.int .i64 ((rd_T26 l0 (ji11)).f3)) ∧ w'.cell? ⟨gb104, 4, none⟩ = some (.bool false) ∧ w'.cell? ⟨gb104, 5, none⟩ = some (.bool false) ∧ w'.cell? ⟨gb104, 6, none⟩ = some (.bool false)) ∧ (Kd.R k26 26 w' w.heap.size (fun k_ => k_ ≠ gb104) s_.1 y106) ∧ (w'.heap[gb104]? = some (.cells #[.int .i64 0, .int .i64 2, .int .i64 ((rd_T26 l0 (ji11)).f2), .int .i64 ((rd_T26 l0 (ji11)).f3), .bool false, .bool false, .bool false] 26 (0, 0))) ∧ (w'.heap[gb105]? = some (.cells #[.slice (some ad102) l0.length c0, .slice none 0 0, .slice none 0 0, .slice none 0 0, .slice none 0 0, .slice none 0 0, .slice none 0 0] 31 (0, 0))) ∧ (w'.heap[s_.2]? = some (.cells #[.slice none 0 0, .slice none 0 0, .slice none 0 0, .slice none 0 0, .slice none 0 0, .slice none 0 0, .slice none 0 0] 31 (0, 0))) ∧ (w.heap.size ≤ s_.2) ∧ (w.heap.size ≤ s_.2) ∧ (gb104 ≠ s_.2) ∧ (s_.2 ≠ gb104) ∧ (gb105 ≠ s_.2) ∧ (s_.2 ≠ gb105) ∧ (Below w.heap.size w w')) ?_ ?_
                   rotate_left
                   ·intro hJ0_7
                    refine join_ (σ := Value × Nat) 5 #[false, true, false, true, true, false, false, true, false] (fun s_ => [(57, s_.1), (14, .pointer (some ⟨s_.2, 0, none⟩))]) (fun s_ w' => (w'.cell? ⟨gb104, 0, none⟩ = some (.int .i64 0) ∧ w'.cell? ⟨gb104, 1, none⟩ = some (.int .i64 2) ∧ w'.cell? ⟨gb104, 2, none⟩ = some (.int .i64 ((rd_T26 l0 (ji11)).f2)) ∧ w'.cell? ⟨gb104, 3, none⟩ = some (.int .i64 ((rd_T26 l0 (ji11)).f3)) ∧ w'.cell? ⟨gb104, 4, none⟩ = some (.bool false) ∧ w'.cell? ⟨gb104, 5, none⟩ = some (.bool false) ∧ w'.cell? ⟨gb104, 6, none⟩ = some (.bool false)) ∧ (Kd.R k26 26 w' w.heap.size (fun k_ => k_ ≠ gb104) s_.1 y112) ∧ (w'.heap[gb104]? = some (.cells #[.int .i64 0, .int .i64 2, .int .i64 ((rd_T26 l0 (ji11)).f2), .int .i64 ((rd_T26 l0 (ji11)).f3), .bool false, .bool false, .bool false] 26 (0, 0))) ∧ (w'.heap[gb105]? = some (.cells #[.slice (some ad102) l0.length c0, .slice none 0 0, .slice none 0 0, .slice none 0 0, .slice none 0 0, .slice none 0 0, .slice none 0 0] 31 (0, 0))) ∧ (w'.heap[s_.2]? = some (.cells #[.slice none 0 0, .slice none 0 0, .slice none 0 0, .slice none 0 0, .slice none 0 0, .slice none 0 0, .slice none 0 0] 31 (0, 0))) ∧ (w.heap.size ≤ s_.2) ∧ (w.heap.size ≤ s_.2) ∧ (gb104 ≠ s_.2) ∧ (s_.2 ≠ gb104) ∧ (gb105 ≠ s_.2) ∧ (s_.2 ≠ gb105) ∧ (Below w.heap.size w w')) ?_ ?_
                    rotate_left
                    ·intro hJ4_7
                     refine join_ (σ := Value) 6 #[true, true, false, true, false, false, false, false, false] (fun s_ => [(53, s_)]) (fun s_ w' => (w'.cell? ⟨gb104, 0, none⟩ = some (.int .i64 0) ∧ w'.cell? ⟨gb104, 1, none⟩ = some (.int .i64 2) ∧ w'.cell? ⟨gb104, 2, none⟩ = some (.int .i64 ((rd_T26 l0 (ji11)).f2)) ∧ w'.cell? ⟨gb104, 3, none⟩ = some (.int .i64 ((rd_T26 l0 (ji11)).f3)) ∧ w'.cell? ⟨gb104, 4, none⟩ = some (.bool false) ∧ w'.cell? ⟨gb104, 5, none⟩ = some (.bool false) ∧ w'.cell? ⟨gb104, 6, none⟩ = some (.bool false)) ∧ (Kd.R k26 26 w' w.heap.size (fun k_ => k_ ≠ gb104) s_ y106) ∧ (w'.heap[gb104]? = some (.cells #[.int .i64 0, .int .i64 2, .int .i64 ((rd_T26 l0 (ji11)).f2), .int .i64 ((rd_T26 l0 (ji11)).f3), .bool false, .bool false, .bool false] 26 (0, 0))) ∧ (w'.heap[gb105]? = some (.cells #[.slice (some ad102) l0.length c0, .slice none 0 0, .slice none 0 0, .slice none 0 0, .slice none 0 0, .slice none 0 0, .slice none 0 0] 31 (0, 0))) ∧ (Below w.heap.size w w')) ?_ ?_
                     rotate_left
                     ·intro hJ0
                      refine join_ (σ := Value) 6 #[false, true, false, true, true, false, false, false, false] (fun s_ => [(57, s_)]) (fun s_ w' => (w'.cell? ⟨gb104, 0, none⟩ = some (.int .i64 0) ∧ w'.cell? ⟨gb104, 1, none⟩ = some (.int .i64 2) ∧ w'.cell? ⟨gb104, 2, none⟩ = some (.int .i64 ((rd_T26 l0 (ji11)).f2)) ∧ w'.cell? ⟨gb104, 3, none⟩ = some (.int .i64 ((rd_T26 l0 (ji11)).f3)) ∧ w'.cell? ⟨gb104, 4, none⟩ = some (.bool false) ∧ w'.cell? ⟨gb104, 5, none⟩ = some (.bool false) ∧ w'.cell? ⟨gb104, 6, none⟩ = some (.bool false)) ∧ (Kd.R k26 26 w' w.heap.size (fun k_ => k_ ≠ gb104) s_ y112) ∧ (w'.heap[gb104]? = some (.cells #[.int .i64 0, .int .i64 2, .int .i64 ((rd_T26 l0 (ji11)).f2), .int .i64 ((rd_T26 l0 (ji11)).f3), .bool false, .bool false, .bool false] 26 (0, 0))) ∧ (w'.heap[gb105]? = some (.cells #[.slice (some ad102) l0.length c0, .slice none 0 0, .slice none 0 0, .slice none 0 0, .slice none 0 0, .slice none 0 0, .slice none 0 0] 31 (0, 0))) ∧ (Below w.heap.size w w')) ?_ ?_
                      rotate_left
                      ·intro hJ4
                       refine join_ (σ := Nat) 6 #[false, true, false, true, false, false, false, true, false] (fun s_ => [(14, .pointer (some ⟨s_, 0, none⟩))]) (fun s_ w' => (w'.cell? ⟨gb104, 0, none⟩ = some (.int .i64 0) ∧ w'.cell? ⟨gb104, 1, none⟩ = some (.int .i64 2) ∧ w'.cell? ⟨gb104, 2, none⟩ = some (.int .i64 ((rd_T26 l0 (ji11)).f2)) ∧ w'.cell? ⟨gb104, 3, none⟩ = some (.int .i64 ((rd_T26 l0 (ji11)).f3)) ∧ w'.cell? ⟨gb104, 4, none⟩ = some (.bool false) ∧ w'.cell? ⟨gb104, 5, none⟩ = some (.bool false) ∧ w'.cell? ⟨gb104, 6, none⟩ = some (.bool false)) ∧ (w'.heap[gb104]? = some (.cells #[.int .i64 0, .int .i64 2, .int .i64 ((rd_T26 l0 (ji11)).f2), .int .i64 ((rd_T26 l0 (ji11)).f3), .bool false, .bool false, .bool false] 26 (0, 0))) ∧ (w'.heap[gb105]? = some (.cells #[.slice (some ad102) l0.length c0, .slice none 0 0, .slice none 0 0, .slice none 0 0, .slice none 0 0, .slice none 0 0, .slice none 0 0] 31 (0, 0))) ∧ (w'.heap[s_]? = some (.cells #[.slice none 0 0, .slice none 0 0, .slice none 0 0, .slice none 0 0, .slice none 0 0, .slice none 0 0, .slice none 0 0] 31 (0, 0))) ∧ (w.heap.size ≤ s_) ∧ (w.heap.size ≤ s_) ∧ (gb104 ≠ s_) ∧ (s_ ≠ gb104) ∧ (gb105 ≠ s_) ∧ (s_ ≠ gb105) ∧ (Below w.heap.size w w')) ?_ ?_
                       rotate_left
                       ·intro hJ7
                        refine three_ (i := 0) (j := 4) (k := 7) (Ni := some 53) (Nj := some 57) (Nk := some 14) #[true, true, false, true, false, false, false, false, false] #[false, true, false, true, true, false, false, false, false] #[false, true, false, true, false, false, false, true, false] rfl rfl rfl rfl rfl rfl (three_of HT_.out (by kernel_rfl)) (by decide) (by decide) (by decide) (fun K hK => ?_) (fun K hK => ?_) (fun K hK => ?_)
                        ·skip
                         refine Kd.R_lit_step k26 _ 26 ?hg (N := 53) ?hd (xs := ([] : List (S26))) (inner := []) (ok := fun _ => True) (okp := fun _ => True) ?hr ?hp (fun _ hk => hk) trivial (Below.refl _ _) (Nat.le_refl _) (by simp) ?_; (case hd => rfl); (case hg => rfl); (case hr => first | (go_simp; done) | (go_simp; rfl)); (case hp => exact (Reps.none _ _))
                         intro v107 w38 ho39 hb hg_ hnew_
                         clear hg_ hnew_
                         (first | rw [← Ny106.out] at ho39 | (simp only [Int.reduceToNat] at ho39; rw [← Ny106.out] at ho39))
                         have n0_ := a9_ (Kd.R_lower (Kd.R_newB ho39 (g := gb104) (o := .cells #[.int .i64 0, .int .i64 2, .int .i64 ((rd_T26 l0 (ji11)).f2), .int .i64 ((rd_T26 l0 (ji11)).f3), .bool false, .bool false, .bool false] 26 (0, 0)) (kp9 BK104.out)) (below_size (bp9 HB.out)))
                         have n1_ := a9_ (blk_below (kp9 BK104.out) hb)
                         have n2_ := a9_ (blk_below (kp9 BK105.out) hb)
                         have n3_ := a9_ (below_step (bp9 HB.out) hb)
                         clear BK104 BK105 HB
                         revert n0_ n1_ n2_ n3_; intro HO108 BK104 BK105 HB
                         clear hb ho39
                         refine hK.out _ _ ⟨(blk_cell BK104.out 0).trans rfl, (blk_cell BK104.out 1).trans rfl, (blk_cell BK104.out 2).trans rfl, (blk_cell BK104.out 3).trans rfl, (blk_cell BK104.out 4).trans rfl, (blk_cell BK104.out 5).trans rfl, (blk_cell BK104.out 6).trans rfl⟩ (fun hHeld => ?_)
                         clear hK K
                         refine norm_ (a' := ?_) ?_ ?_
                         rotate_left
                         ·show Act.put _ (some 53) _ = _
                          exact put9
                         exact norm_ (by first | (simp only [putAll, Act.put, List.setIfInBounds_toArray, List.set_cons_zero, List.set_cons_succ]; done) | (simp only [putAll, Act.put, List.setIfInBounds_toArray, List.set_cons_zero, List.set_cons_succ]; rfl)) (hJ0 (v107) _ ⟨hHeld, (by (with_reducible repeat (first | apply Kd.R_alloc | apply Kd.R_drewN | apply Kd.R_drew)); exact Kd.R_mono HO108.out (fun _ hk => hk.2)), (kp9 BK104.out), (kp9 BK105.out), (bp9 HB.out)⟩)
                        ·skip
                         refine Kd.R_lit_step k26 _ 26 ?hg (N := 57) ?hd (xs := ([(⟨0, 2, (rd_T26 l0 (ji11)).f2, (rd_T26 l0 (ji11)).f3, false, false, false⟩ : S26)] : List (S26))) (inner := [.int .i64 0, .int .i64 2, .int .i64 ((rd_T26 l0 (ji11)).f2), .int .i64 ((rd_T26 l0 (ji11)).f3), .bool false, .bool false, .bool false]) (ok := fun _ => True) (okp := fun _ => True) ?hr ?hp (fun _ hk => hk) trivial (Below.refl _ _) (Nat.le_refl _) (by simp) ?_; (case hd => rfl); (case hg => rfl); (case hr => first | (go_simp; done) | (go_simp; rfl)); (case hp => exact (Reps.c7 (show Kd.M k26 _ _ _ (⟨0, 2, (rd_T26 l0 (ji11)).f2, (rd_T26 l0 (ji11)).f3, false, false, false⟩ : S26) [.int .i64 0, .int .i64 2, .int .i64 ((rd_T26 l0 (ji11)).f2), .int .i64 ((rd_T26 l0 (ji11)).f3), .bool false, .bool false, .bool false] from (k26_mkM _ _ _ (⟨0, 2, (rd_T26 l0 (ji11)).f2, (rd_T26 l0 (ji11)).f3, false, false, false⟩ : S26) )) (Reps.none _ _)))
                         intro v113 w38 ho39 hb hg_ hnew_
                         clear hg_ hnew_
                         (first | rw [← Ny112.out] at ho39 | (simp only [Int.reduceToNat] at ho39; rw [← Ny112.out] at ho39))
                         have n0_ := a9_ (Kd.R_lower (Kd.R_newB ho39 (g := gb104) (o := .cells #[.int .i64 0, .int .i64 2, .int .i64 ((rd_T26 l0 (ji11)).f2), .int .i64 ((rd_T26 l0 (ji11)).f3), .bool false, .bool false, .bool false] 26 (0, 0)) (kp9 BK104.out)) (below_size (bp9 HB.out)))
                         have n1_ := a9_ (blk_below (kp9 BK104.out) hb)
                         have n2_ := a9_ (blk_below (kp9 BK105.out) hb)
                         have n3_ := a9_ (below_step (bp9 HB.out) hb)
                         clear BK104 BK105 HB
                         revert n0_ n1_ n2_ n3_; intro HO114 BK104 BK105 HB
                         clear hb ho39
                         refine hK.out _ _ ⟨(blk_cell BK104.out 0).trans rfl, (blk_cell BK104.out 1).trans rfl, (blk_cell BK104.out 2).trans rfl, (blk_cell BK104.out 3).trans rfl, (blk_cell BK104.out 4).trans rfl, (blk_cell BK104.out 5).trans rfl, (blk_cell BK104.out 6).trans rfl⟩ (fun hHeld => ?_)
                         clear hK K
                         refine norm_ (a' := ?_) ?_ ?_
                         rotate_left
                         ·show Act.put _ (some 57) _ = _
                          exact put9
                         exact norm_ (by first | (simp only [putAll, Act.put, List.setIfInBounds_toArray, List.set_cons_zero, List.set_cons_succ]; done) | (simp only [putAll, Act.put, List.setIfInBounds_toArray, List.set_cons_zero, List.set_cons_succ]; rfl)) (hJ4 (v113) _ ⟨hHeld, (by (with_reducible repeat (first | apply Kd.R_alloc | apply Kd.R_drewN | apply Kd.R_drew)); exact Kd.R_mono HO114.out (fun _ hk => hk.2)), (kp9 BK104.out), (kp9 BK105.out), (bp9 HB.out)⟩)
                        ·skip
                         refine box_step ?hg (N := 14) ?hd (cs := #[.slice none 0 0, .slice none 0 0, .slice none 0 0, .slice none 0 0, .slice none 0 0, .slice none 0 0, .slice none 0 0]) (t := 31) ?hr ?_; (case hd => rfl); (case hg => rfl); (case hr => first | (go_simp; done) | (go_simp; rfl))
                         intro gb118 hg w38 hbox hb
                         have n0_ := a9_ (blk_below (kp9 BK104.out) hb)
                         have n1_ := a9_ (blk_below (kp9 BK105.out) hb)
                         have n2_ := a9_ (below_step (bp9 HB.out) hb)
                         have n3_ := a9_ (hbox)
                         have n4_ := a9_ ((by rw [hg]; exact (below_size (bp9 HB.out)) : w.heap.size ≤ gb118))
                         have n5_ := n4_
                         have n6_ := a9_ ((by rw [hg]; exact Nat.ne_of_lt (blk_lt (g := gb104) (o := .cells #[.int .i64 0, .int .i64 2, .int .i64 ((rd_T26 l0 (ji11)).f2), .int .i64 ((rd_T26 l0 (ji11)).f3), .bool false, .bool false, .bool false] 26 (0, 0)) (kp9 BK104.out)) : gb104 ≠ gb118))
                         have n7_ := a9_ ((by rw [hg]; exact Nat.ne_of_gt (blk_lt (g := gb104) (o := .cells #[.int .i64 0, .int .i64 2, .int .i64 ((rd_T26 l0 (ji11)).f2), .int .i64 ((rd_T26 l0 (ji11)).f3), .bool false, .bool false, .bool false] 26 (0, 0)) (kp9 BK104.out)) : gb118 ≠ gb104))
                         have n8_ := a9_ ((by rw [hg]; exact Nat.ne_of_lt (blk_lt (g := gb105) (o := .cells #[.slice (some ad102) l0.length c0, .slice none 0 0, .slice none 0 0, .slice none 0 0, .slice none 0 0, .slice none 0 0, .slice none 0 0] 31 (0, 0)) (kp9 BK105.out)) : gb105 ≠ gb118))
                         have n9_ := a9_ ((by rw [hg]; exact Nat.ne_of_gt (blk_lt (g := gb105) (o := .cells #[.slice (some ad102) l0.length c0, .slice none 0 0, .slice none 0 0, .slice none 0 0, .slice none 0 0, .slice none 0 0, .slice none 0 0] 31 (0, 0)) (kp9 BK105.out)) : gb118 ≠ gb105))
                         clear BK104 BK105 HB
                         revert n0_ n1_ n2_ n3_ n4_ n5_ n6_ n7_ n8_ n9_; intro BK104 BK105 HB BK118 GW118 GE118 NB104_118 NB118_104 NB105_118 NB118_105
                         clear hb hbox hg
                         refine hK.out _ _ ⟨(blk_cell BK104.out 0).trans rfl, (blk_cell BK104.out 1).trans rfl, (blk_cell BK104.out 2).trans rfl, (blk_cell BK104.out 3).trans rfl, (blk_cell BK104.out 4).trans rfl, (blk_cell BK104.out 5).trans rfl, (blk_cell BK104.out 6).trans rfl⟩ (fun hHeld => ?_)
                         clear hK K
                         refine norm_ (a' := ?_) ?_ ?_
                         rotate_left
                         ·show Act.put _ (some 14) _ = _
                          exact put9
                         exact norm_ (by first | (simp only [putAll, Act.put, List.setIfInBounds_toArray, List.set_cons_zero, List.set_cons_succ]; done) | (simp only [putAll, Act.put, List.setIfInBounds_toArray, List.set_cons_zero, List.set_cons_succ]; rfl)) (hJ7 (gb118) _ ⟨hHeld, (kp9 BK104.out), (kp9 BK105.out), (kp9 BK118.out), GW118.out, GE118.out, NB104_118.out, NB118_104.out, NB105_118.out, NB118_105.out, (bp9 HB.out)⟩)
                       ·skip
                        rintro gb118 w39 ⟨hS_, h0_, h1_, h2_, h3_, h4_, h5_, h6_, h7_, h8_, h9_⟩
                        have n0_ : Aside0 (w39.heap[gb104]? = some (.cells #[.int .i64 0, .int .i64 2, .int .i64 ((rd_T26 l0 (ji11)).f2), .int .i64 ((rd_T26 l0 (ji11)).f3), .bool false, .bool false, .bool false] 26 (0, 0))) := ⟨h0_⟩
                        have n1_ : Aside0 (w39.heap[gb105]? = some (.cells #[.slice (some ad102) l0.length c0, .slice none 0 0, .slice none 0 0, .slice none 0 0, .slice none 0 0, .slice none 0 0, .slice none 0 0] 31 (0, 0))) := ⟨h1_⟩
                        have n2_ : Aside0 (w39.heap[gb118]? = some (.cells #[.slice none 0 0, .slice none 0 0, .slice none 0 0, .slice none 0 0, .slice none 0 0, .slice none 0 0, .slice none 0 0] 31 (0, 0))) := ⟨h2_⟩
                        have n3_ : Aside0 (w.heap.size ≤ gb118) := ⟨h3_⟩
                        have n4_ : Aside0 (w.heap.size ≤ gb118) := ⟨h4_⟩
                        have n5_ : Aside0 (gb104 ≠ gb118) := ⟨h5_⟩
                        have n6_ : Aside0 (gb118 ≠ gb104) := ⟨h6_⟩
                        have n7_ : Aside0 (gb105 ≠ gb118) := ⟨h7_⟩
                        have n8_ : Aside0 (gb118 ≠ gb105) := ⟨h8_⟩
                        have n9_ : Aside0 (Below w.heap.size w w39) := ⟨h9_⟩
                        clear BK104 BK105 HB
                        clear h0_ h1_ h2_ h3_ h4_ h5_ h6_ h7_ h8_ h9_
                        revert n0_ n1_ n2_ n3_ n4_ n5_ n6_ n7_ n8_ n9_; intro BK104 BK105 BK118 GW118 GE118 NB104_118 NB118_104 NB105_118 NB118_105 HB
                        have hHeld : w39.cell? ⟨gb104, 0, none⟩ = some (.int .i64 0) ∧ w39.cell? ⟨gb104, 1, none⟩ = some (.int .i64 2) ∧ w39.cell? ⟨gb104, 2, none⟩ = some (.int .i64 ((rd_T26 l0 (ji11)).f2)) ∧ w39.cell? ⟨gb104, 3, none⟩ = some (.int .i64 ((rd_T26 l0 (ji11)).f3)) ∧ w39.cell? ⟨gb104, 4, none⟩ = some (.bool false) ∧ w39.cell? ⟨gb104, 5, none⟩ = some (.bool false) ∧ w39.cell? ⟨gb104, 6, none⟩ = some (.bool false) := hS_
                        refine norm_ (a' := ?_) ?_ ?_
                        rotate_left
                        ·simp only [putAll, Act.put, List.setIfInBounds_toArray, List.set_cons_zero, List.set_cons_succ]
                         rfl
                        refine two_ (i := 0) (j := 4) (Ni := some 53) (Nj := some 57) #[true, true, false, true, false, false, false, true, false] #[false, true, false, true, true, false, false, true, false] rfl rfl rfl rfl (two_of HT_.out (by kernel_rfl)) (by decide) (by decide) (fun K hK => ?_) (fun K hK => ?_)
                        ·skip
                         refine Kd.R_lit_step k26 _ 26 ?hg (N := 53) ?hd (xs := ([] : List (S26))) (inner := []) (ok := fun _ => True) (okp := fun _ => True) ?hr ?hp (fun _ hk => hk) trivial (Below.refl _ _) (Nat.le_refl _) (by simp) ?_; (case hd => rfl); (case hg => rfl); (case hr => first | (go_simp; done) | (go_simp; rfl)); (case hp => exact (Reps.none _ _))
                         intro v107 w40 ho41 hb hg_ hnew_
                         clear hg_ hnew_
                         (first | rw [← Ny106.out] at ho41 | (simp only [Int.reduceToNat] at ho41; rw [← Ny106.out] at ho41))
                         have n0_ := a9_ (Kd.R_lower (Kd.R_newB ho41 (g := gb104) (o := .cells #[.int .i64 0, .int .i64 2, .int .i64 ((rd_T26 l0 (ji11)).f2), .int .i64 ((rd_T26 l0 (ji11)).f3), .bool false, .bool false, .bool false] 26 (0, 0)) (kp9 BK104.out)) (below_size (bp9 HB.out)))
                         have n1_ := a9_ (blk_below (kp9 BK104.out) hb)
                         have n2_ := a9_ (blk_below (kp9 BK105.out) hb)
                         have n3_ := a9_ (blk_below (kp9 BK118.out) hb)
                         have n4_ := a9_ (below_step (bp9 HB.out) hb)
                         clear BK104 BK105 BK118 HB
                         revert n0_ n1_ n2_ n3_ n4_; intro HO108 BK104 BK105 BK118 HB
                         clear hb ho41
                         refine hK.out _ _ ⟨(blk_cell BK104.out 0).trans rfl, (blk_cell BK104.out 1).trans rfl, (blk_cell BK104.out 2).trans rfl, (blk_cell BK104.out 3).trans rfl, (blk_cell BK104.out 4).trans rfl, (blk_cell BK104.out 5).trans rfl, (blk_cell BK104.out 6).trans rfl⟩ (fun hHeld => ?_)
                         clear hK K
                         refine norm_ (a' := ?_) ?_ ?_
                         rotate_left
                         ·show Act.put _ (some 53) _ = _
                          exact put9
                         exact norm_ (by first | (simp only [putAll, Act.put, List.setIfInBounds_toArray, List.set_cons_zero, List.set_cons_succ]; done) | (simp only [putAll, Act.put, List.setIfInBounds_toArray, List.set_cons_zero, List.set_cons_succ]; rfl)) (hJ0_7 (v107, gb118) _ ⟨hHeld, (by (with_reducible repeat (first | apply Kd.R_alloc | apply Kd.R_drewN | apply Kd.R_drew)); exact Kd.R_mono HO108.out (fun _ hk => hk.2)), (kp9 BK104.out), (kp9 BK105.out), (kp9 BK118.out), GW118.out, GE118.out, NB104_118.out, NB118_104.out, NB105_118.out, NB118_105.out, (bp9 HB.out)⟩)
                        ·skip
                         refine Kd.R_lit_step k26 _ 26 ?hg (N := 57) ?hd (xs := ([(⟨0, 2, (rd_T26 l0 (ji11)).f2, (rd_T26 l0 (ji11)).f3, false, false, false⟩ : S26)] : List (S26))) (inner := [.int .i64 0, .int .i64 2, .int .i64 ((rd_T26 l0 (ji11)).f2), .int .i64 ((rd_T26 l0 (ji11)).f3), .bool false, .bool false, .bool false]) (ok := fun _ => True) (okp := fun _ => True) ?hr ?hp (fun _ hk => hk) trivial (Below.refl _ _) (Nat.le_refl _) (by simp) ?_; (case hd => rfl); (case hg => rfl); (case hr => first | (go_simp; done) | (go_simp; rfl)); (case hp => exact (Reps.c7 (show Kd.M k26 _ _ _ (⟨0, 2, (rd_T26 l0 (ji11)).f2, (rd_T26 l0 (ji11)).f3, false, false, false⟩ : S26) [.int .i64 0, .int .i64 2, .int .i64 ((rd_T26 l0 (ji11)).f2), .int .i64 ((rd_T26 l0 (ji11)).f3), .bool false, .bool false, .bool false] from (k26_mkM _ _ _ (⟨0, 2, (rd_T26 l0 (ji11)).f2, (rd_T26 l0 (ji11)).f3, false, false, false⟩ : S26) )) (Reps.none _ _)))
                         intro v113 w40 ho41 hb hg_ hnew_
                         clear hg_ hnew_
                         (first | rw [← Ny112.out] at ho41 | (simp only [Int.reduceToNat] at ho41; rw [← Ny112.out] at ho41))
                         have n0_ := a9_ (Kd.R_lower (Kd.R_newB ho41 (g := gb104) (o := .cells #[.int .i64 0, .int .i64 2, .int .i64 ((rd_T26 l0 (ji11)).f2), .int .i64 ((rd_T26 l0 (ji11)).f3), .bool false, .bool false, .bool false] 26 (0, 0)) (kp9 BK104.out)) (below_size (bp9 HB.out)))
                         have n1_ := a9_ (blk_below (kp9 BK104.out) hb)
                         have n2_ := a9_ (blk_below (kp9 BK105.out) hb)
                         have n3_ := a9_ (blk_below (kp9 BK118.out) hb)
                         have n4_ := a9_ (below_step (bp9 HB.out) hb)
                         clear BK104 BK105 BK118 HB
                         revert n0_ n1_ n2_ n3_ n4_; intro HO114 BK104 BK105 BK118 HB
                         clear hb ho41
                         refine hK.out _ _ ⟨(blk_cell BK104.out 0).trans rfl, (blk_cell BK104.out 1).trans rfl, (blk_cell BK104.out 2).trans rfl, (blk_cell BK104.out 3).trans rfl, (blk_cell BK104.out 4).trans rfl, (blk_cell BK104.out 5).trans rfl, (blk_cell BK104.out 6).trans rfl⟩ (fun hHeld => ?_)
                         clear hK K
                         refine norm_ (a' := ?_) ?_ ?_
                         rotate_left
                         ·show Act.put _ (some 57) _ = _
                          exact put9
                         exact norm_ (by first | (simp only [putAll, Act.put, List.setIfInBounds_toArray, List.set_cons_zero, List.set_cons_succ]; done) | (simp only [putAll, Act.put, List.setIfInBounds_toArray, List.set_cons_zero, List.set_cons_succ]; rfl)) (hJ4_7 (v113, gb118) _ ⟨hHeld, (by (with_reducible repeat (first | apply Kd.R_alloc | apply Kd.R_drewN | apply Kd.R_drew)); exact Kd.R_mono HO114.out (fun _ hk => hk.2)), (kp9 BK104.out), (kp9 BK105.out), (kp9 BK118.out), GW118.out, GE118.out, NB104_118.out, NB118_104.out, NB105_118.out, NB118_105.out, (bp9 HB.out)⟩)
                      ·skip
                       rintro v113 w40 ⟨hS_, h0_, h1_, h2_, h3_⟩
                       have n0_ : Aside0 (Kd.R k26 26 w40 w.heap.size (fun k_ => k_ ≠ gb104) v113 y112) := ⟨h0_⟩
                       have n1_ : Aside0 (w40.heap[gb104]? = some (.cells #[.int .i64 0, .int .i64 2, .int .i64 ((rd_T26 l0 (ji11)).f2), .int .i64 ((rd_T26 l0 (ji11)).f3), .bool false, .bool false, .bool false] 26 (0, 0))) := ⟨h1_⟩
                       have n2_ : Aside0 (w40.heap[gb105]? = some (.cells #[.slice (some ad102) l0.length c0, .slice none 0 0, .slice none 0 0, .slice none 0 0, .slice none 0 0, .slice none 0 0, .slice none 0 0] 31 (0, 0))) := ⟨h2_⟩
                       have n3_ : Aside0 (Below w.heap.size w w40) := ⟨h3_⟩
                       clear BK104 BK105 HB
                       clear h0_ h1_ h2_ h3_
                       revert n0_ n1_ n2_ n3_; intro HO114 BK104 BK105 HB
                       have hHeld : w40.cell? ⟨gb104, 0, none⟩ = some (.int .i64 0) ∧ w40.cell? ⟨gb104, 1, none⟩ = some (.int .i64 2) ∧ w40.cell? ⟨gb104, 2, none⟩ = some (.int .i64 ((rd_T26 l0 (ji11)).f2)) ∧ w40.cell? ⟨gb104, 3, none⟩ = some (.int .i64 ((rd_T26 l0 (ji11)).f3)) ∧ w40.cell? ⟨gb104, 4, none⟩ = some (.bool false) ∧ w40.cell? ⟨gb104, 5, none⟩ = some (.bool false) ∧ w40.cell? ⟨gb104, 6, none⟩ = some (.bool false) := hS_
                       refine norm_ (a' := ?_) ?_ ?_
                       rotate_left
                       ·simp only [putAll, Act.put, List.setIfInBounds_toArray, List.set_cons_zero, List.set_cons_succ]
                        rfl
                       refine two_ (i := 0) (j := 7) (Ni := some 53) (Nj := some 14) #[true, true, false, true, true, false, false, false, false] #[false, true, false, true, true, false, false, true, false] rfl rfl rfl rfl (two_of HT_.out (by kernel_rfl)) (by decide) (by decide) (fun K hK => ?_) (fun K hK => ?_)
                       ·skip
                        refine Kd.R_lit_step k26 _ 26 ?hg (N := 53) ?hd (xs := ([] : List (S26))) (inner := []) (ok := fun _ => True) (okp := fun _ => True) ?hr ?hp (fun _ hk => hk) trivial (Below.refl _ _) (Nat.le_refl _) (by simp) ?_; (case hd => rfl); (case hg => rfl); (case hr => first | (go_simp; done) | (go_simp; rfl)); (case hp => exact (Reps.none _ _))
                        intro v107 w41 ho42 hb hg_ hnew_
                        clear hg_ hnew_
                        (first | rw [← Ny106.out] at ho42 | (simp only [Int.reduceToNat] at ho42; rw [← Ny106.out] at ho42))
                        have n0_ := a9_ (Kd.R_elder' (rp9 HO114.out) (Kd.R_base ho42) hb)
                        have n1_ := a9_ (Kd.R_lower (Kd.R_newB (Kd.R_new' ho42 (Kd.R_lt (rp9 HO114.out))) (g := gb104) (o := .cells #[.int .i64 0, .int .i64 2, .int .i64 ((rd_T26 l0 (ji11)).f2), .int .i64 ((rd_T26 l0 (ji11)).f3), .bool false, .bool false, .bool false] 26 (0, 0)) (kp9 BK104.out)) (below_size (bp9 HB.out)))
                        have n2_ := a9_ (blk_below (kp9 BK104.out) hb)
                        have n3_ := a9_ (blk_below (kp9 BK105.out) hb)
                        have n4_ := a9_ (below_step (bp9 HB.out) hb)
                        clear HO114 BK104 BK105 HB
                        revert n0_ n1_ n2_ n3_ n4_; intro HO114 HO108 BK104 BK105 HB
                        clear hb ho42
                        refine hK.out _ _ ⟨(blk_cell BK104.out 0).trans rfl, (blk_cell BK104.out 1).trans rfl, (blk_cell BK104.out 2).trans rfl, (blk_cell BK104.out 3).trans rfl, (blk_cell BK104.out 4).trans rfl, (blk_cell BK104.out 5).trans rfl, (blk_cell BK104.out 6).trans rfl⟩ (fun hHeld => ?_)
                        clear hK K
                        refine norm_ (a' := ?_) ?_ ?_
                        rotate_left
                        ·show Act.put _ (some 53) _ = _
                         exact put9
                        exact norm_ (by first | (simp only [putAll, Act.put, List.setIfInBounds_toArray, List.set_cons_zero, List.set_cons_succ]; done) | (simp only [putAll, Act.put, List.setIfInBounds_toArray, List.set_cons_zero, List.set_cons_succ]; rfl)) (hJ0_4 (v107, v113) _ ⟨hHeld, (by (with_reducible repeat (first | apply Kd.R_alloc | apply Kd.R_drewN | apply Kd.R_drew)); exact Kd.R_mono HO108.out (fun _ hk => ⟨hk.1.2, hk.2⟩)), (by (with_reducible repeat (first | apply Kd.R_alloc | apply Kd.R_drewN | apply Kd.R_drew)); exact Kd.R_mono HO114.out (fun _ hk => ⟨hk.2, hk.1⟩)), (kp9 BK104.out), (kp9 BK105.out), (bp9 HB.out)⟩)
                       ·skip
                        refine box_step ?hg (N := 14) ?hd (cs := #[.slice none 0 0, .slice none 0 0, .slice none 0 0, .slice none 0 0, .slice none 0 0, .slice none 0 0, .slice none 0 0]) (t := 31) ?hr ?_; (case hd => rfl); (case hg => rfl); (case hr => first | (go_simp; done) | (go_simp; rfl))
                        intro gb118 hg w41 hbox hb
                        have n0_ := a9_ (Kd.R_below (rp9 HO114.out) hb)
                        have n1_ := a9_ (blk_below (kp9 BK104.out) hb)
                        have n2_ := a9_ (blk_below (kp9 BK105.out) hb)
                        have n3_ := a9_ (below_step (bp9 HB.out) hb)
                        have n4_ := a9_ (hbox)
                        have n5_ := a9_ ((by rw [hg]; exact (below_size (bp9 HB.out)) : w.heap.size ≤ gb118))
                        have n6_ := n5_
                        have n7_ := a9_ ((by rw [hg]; exact Nat.ne_of_lt (blk_lt (g := gb104) (o := .cells #[.int .i64 0, .int .i64 2, .int .i64 ((rd_T26 l0 (ji11)).f2), .int .i64 ((rd_T26 l0 (ji11)).f3), .bool false, .bool false, .bool false] 26 (0, 0)) (kp9 BK104.out)) : gb104 ≠ gb118))
                        have n8_ := a9_ ((by rw [hg]; exact Nat.ne_of_gt (blk_lt (g := gb104) (o := .cells #[.int .i64 0, .int .i64 2, .int .i64 ((rd_T26 l0 (ji11)).f2), .int .i64 ((rd_T26 l0 (ji11)).f3), .bool false, .bool false, .bool false] 26 (0, 0)) (kp9 BK104.out)) : gb118 ≠ gb104))
                        have n9_ := a9_ ((by rw [hg]; exact Nat.ne_of_lt (blk_lt (g := gb105) (o := .cells #[.slice (some ad102) l0.length c0, .slice none 0 0, .slice none 0 0, .slice none 0 0, .slice none 0 0, .slice none 0 0, .slice none 0 0] 31 (0, 0)) (kp9 BK105.out)) : gb105 ≠ gb118))
                        have n10_ := a9_ ((by rw [hg]; exact Nat.ne_of_gt (blk_lt (g := gb105) (o := .cells #[.slice (some ad102) l0.length c0, .slice none 0 0, .slice none 0 0, .slice none 0 0, .slice none 0 0, .slice none 0 0, .slice none 0 0] 31 (0, 0)) (kp9 BK105.out)) : gb118 ≠ gb105))
                        clear HO114 BK104 BK105 HB
                        revert n0_ n1_ n2_ n3_ n4_ n5_ n6_ n7_ n8_ n9_ n10_; intro HO114 BK104 BK105 HB BK118 GW118 GE118 NB104_118 NB118_104 NB105_118 NB118_105
                        clear hb hbox hg
                        refine hK.out _ _ ⟨(blk_cell BK104.out 0).trans rfl, (blk_cell BK104.out 1).trans rfl, (blk_cell BK104.out 2).trans rfl, (blk_cell BK104.out 3).trans rfl, (blk_cell BK104.out 4).trans rfl, (blk_cell BK104.out 5).trans rfl, (blk_cell BK104.out 6).trans rfl⟩ (fun hHeld => ?_)
                        clear hK K
                        refine norm_ (a' := ?_) ?_ ?_
                        rotate_left
                        ·show Act.put _ (some 14) _ = _
                         exact put9
                        exact norm_ (by first | (simp only [putAll, Act.put, List.setIfInBounds_toArray, List.set_cons_zero, List.set_cons_succ]; done) | (simp only [putAll, Act.put, List.setIfInBounds_toArray, List.set_cons_zero, List.set_cons_succ]; rfl)) (hJ4_7 (v113, gb118) _ ⟨hHeld, (rp9 HO114.out), (kp9 BK104.out), (kp9 BK105.out), (kp9 BK118.out), GW118.out, GE118.out, NB104_118.out, NB118_104.out, NB105_118.out, NB118_105.out, (bp9 HB.out)⟩)
                     ·skip
                      rintro v107 w40 ⟨hS_, h0_, h1_, h2_, h3_⟩
                      have n0_ : Aside0 (Kd.R k26 26 w40 w.heap.size (fun k_ => k_ ≠ gb104) v107 y106) := ⟨h0_⟩
                      have n1_ : Aside0 (w40.heap[gb104]? = some (.cells #[.int .i64 0, .int .i64 2, .int .i64 ((rd_T26 l0 (ji11)).f2), .int .i64 ((rd_T26 l0 (ji11)).f3), .bool false, .bool false, .bool false] 26 (0, 0))) := ⟨h1_⟩
                      have n2_ : Aside0 (w40.heap[gb105]? = some (.cells #[.slice (some ad102) l0.length c0, .slice none 0 0, .slice none 0 0, .slice none 0 0, .slice none 0 0, .slice none 0 0, .slice none 0 0] 31 (0, 0))) := ⟨h2_⟩
                      have n3_ : Aside0 (Below w.heap.size w w40) := ⟨h3_⟩
                      clear BK104 BK105 HB
                      clear h0_ h1_ h2_ h3_
                      revert n0_ n1_ n2_ n3_; intro HO108 BK104 BK105 HB
                      have hHeld : w40.cell? ⟨gb104, 0, none⟩ = some (.int .i64 0) ∧ w40.cell? ⟨gb104, 1, none⟩ = some (.int .i64 2) ∧ w40.cell? ⟨gb104, 2, none⟩ = some (.int .i64 ((rd_T26 l0 (ji11)).f2)) ∧ w40.cell? ⟨gb104, 3, none⟩ = some (.int .i64 ((rd_T26 l0 (ji11)).f3)) ∧ w40.cell? ⟨gb104, 4, none⟩ = some (.bool false) ∧ w40.cell? ⟨gb104, 5, none⟩ = some (.bool false) ∧ w40.cell? ⟨gb104, 6, none⟩ = some (.bool false) := hS_
                      refine norm_ (a' := ?_) ?_ ?_
                      rotate_left
                      ·simp only [putAll, Act.put, List.setIfInBounds_toArray, List.set_cons_zero, List.set_cons_succ]
                       rfl
                      refine three_ (i := 2) (j := 4) (k := 7) (Ni := some 55) (Nj := some 57) (Nk := some 14) #[true, true, true, true, false, false, false, false, false] #[true, true, false, true, true, false, false, false, false] #[true, true, false, true, false, false, false, true, false] rfl rfl rfl rfl rfl rfl (three_of HT_.out (by kernel_rfl)) (by decide) (by decide) (by decide) (fun K hK => ?_) (fun K hK => ?_) (fun K hK => ?_)
                      ·skip
                       refine Kd.R_append_rows_step k26 (w0 := w) w.heap.size (by rfl) (.tmp 53) (.tmp 54) 22 26 (.agg #[(.int .i64 0), (.int .i64 0), (.int .i64 0), (.int .i64 0), (.bool false), (.bool false), (.bool false)]) 40 rfl Try.underlying22 info26 rfl (by decide) (by omega) v107 y106 l0 _ _ _ (fun k_ => k_ ≠ gb104) (fun _ => False) rfl rfl ?aO ?aR (fun _ _ h => h) (fun _ h => h.elim) ?aF ?aB ?aS ?aL ?_
                       (case aR => exact cp9 HR0.out HB.out)
                       (case aB => exact (bp9 HB.out))
                       (case aF => exact (fun k_ hk => Kd.freshB (g := gb104) (o := .cells #[.int .i64 0, .int .i64 2, .int .i64 ((rd_T26 l0 (ji11)).f2), .int .i64 ((rd_T26 l0 (ji11)).f3), .bool false, .bool false, .bool false] 26 (0, 0)) (kp9 BK104.out) k_ hk))
                       (case aO => exact (rp9 HO108.out))
                       (case aS => exact (below_size (bp9 HB.out)))
                       (case aL => have := LMc15.out; omega)
                       intro v110 w41 ho hb hg hat
                       rw [← Ny109.out] at ho
                       have n0_ := a9_ (blk_grown (g := gb104) (o := .cells #[.int .i64 0, .int .i64 2, .int .i64 ((rd_T26 l0 (ji11)).f2), .int .i64 ((rd_T26 l0 (ji11)).f3), .bool false, .bool false, .bool false] 26 (0, 0)) (kp9 BK104.out) hg (Kd.R_away HO108.out (fun _ hk => hk)))
                       have n1_ := a9_ (blk_grown (g := gb105) (o := .cells #[.slice (some ad102) l0.length c0, .slice none 0 0, .slice none 0 0, .slice none 0 0, .slice none 0 0, .slice none 0 0, .slice none 0 0] 31 (0, 0)) (kp9 BK105.out) hg (Kd.R_ne HO108.out BK105.out (by decide)))
                       have n2_ := a9_ (hb)
                       have n3_ := a9_ (ho)
                       clear BK104 BK105 HB HO108
                       revert n0_ n1_ n2_ n3_; intro BK104 BK105 HB HO111
                       clear ho hb hg hat
                       refine hK.out _ _ ⟨(blk_cell BK104.out 0).trans rfl, (blk_cell BK104.out 1).trans rfl, (blk_cell BK104.out 2).trans rfl, (blk_cell BK104.out 3).trans rfl, (blk_cell BK104.out 4).trans rfl, (blk_cell BK104.out 5).trans rfl, (blk_cell BK104.out 6).trans rfl⟩ (fun hHeld => ?_)
                       clear hK K
                       refine norm_ (a' := ?_) ?_ ?_
                       rotate_left
                       ·show Act.put _ (some 55) _ = _
                        exact put9
                       exact norm_ (by first | (simp only [putAll, Act.put, List.setIfInBounds_toArray, List.set_cons_zero, List.set_cons_succ]; done) | (simp only [putAll, Act.put, List.setIfInBounds_toArray, List.set_cons_zero, List.set_cons_succ]; rfl)) (hJ0_2 (v107, v110) _ ⟨hHeld, (rp9 HO111.out), (kp9 BK104.out), (kp9 BK105.out), (bp9 HB.out)⟩)
                      ·skip
                       refine Kd.R_lit_step k26 _ 26 ?hg (N := 57) ?hd (xs := ([(⟨0, 2, (rd_T26 l0 (ji11)).f2, (rd_T26 l0 (ji11)).f3, false, false, false⟩ : S26)] : List (S26))) (inner := [.int .i64 0, .int .i64 2, .int .i64 ((rd_T26 l0 (ji11)).f2), .int .i64 ((rd_T26 l0 (ji11)).f3), .bool false, .bool false, .bool false]) (ok := fun _ => True) (okp := fun _ => True) ?hr ?hp (fun _ hk => hk) trivial (Below.refl _ _) (Nat.le_refl _) (by simp) ?_; (case hd => rfl); (case hg => rfl); (case hr => first | (go_simp; done) | (go_simp; rfl)); (case hp => exact (Reps.c7 (show Kd.M k26 _ _ _ (⟨0, 2, (rd_T26 l0 (ji11)).f2, (rd_T26 l0 (ji11)).f3, false, false, false⟩ : S26) [.int .i64 0, .int .i64 2, .int .i64 ((rd_T26 l0 (ji11)).f2), .int .i64 ((rd_T26 l0 (ji11)).f3), .bool false, .bool false, .bool false] from (k26_mkM _ _ _ (⟨0, 2, (rd_T26 l0 (ji11)).f2, (rd_T26 l0 (ji11)).f3, false, false, false⟩ : S26) )) (Reps.none _ _)))
                       intro v113 w41 ho42 hb hg_ hnew_
                       clear hg_ hnew_
                       (first | rw [← Ny112.out] at ho42 | (simp only [Int.reduceToNat] at ho42; rw [← Ny112.out] at ho42))
                       have n0_ := a9_ (Kd.R_elder' (rp9 HO108.out) (Kd.R_base ho42) hb)
                       have n1_ := a9_ (Kd.R_lower (Kd.R_newB (Kd.R_new' ho42 (Kd.R_lt (rp9 HO108.out))) (g := gb104) (o := .cells #[.int .i64 0, .int .i64 2, .int .i64 ((rd_T26 l0 (ji11)).f2), .int .i64 ((rd_T26 l0 (ji11)).f3), .bool false, .bool false, .bool false] 26 (0, 0)) (kp9 BK104.out)) (below_size (bp9 HB.out)))
                       have n2_ := a9_ (blk_below (kp9 BK104.out) hb)
                       have n3_ := a9_ (blk_below (kp9 BK105.out) hb)
                       have n4_ := a9_ (below_step (bp9 HB.out) hb)
                       clear HO108 BK104 BK105 HB
                       revert n0_ n1_ n2_ n3_ n4_; intro HO108 HO114 BK104 BK105 HB
                       clear hb ho42
                       refine hK.out _ _ ⟨(blk_cell BK104.out 0).trans rfl, (blk_cell BK104.out 1).trans rfl, (blk_cell BK104.out 2).trans rfl, (blk_cell BK104.out 3).trans rfl, (blk_cell BK104.out 4).trans rfl, (blk_cell BK104.out 5).trans rfl, (blk_cell BK104.out 6).trans rfl⟩ (fun hHeld => ?_)
                       clear hK K
                       refine norm_ (a' := ?_) ?_ ?_
                       rotate_left
                       ·show Act.put _ (some 57) _ = _
                        exact put9
                       exact norm_ (by first | (simp only [putAll, Act.put, List.setIfInBounds_toArray, List.set_cons_zero, List.set_cons_succ]; done) | (simp only [putAll, Act.put, List.setIfInBounds_toArray, List.set_cons_zero, List.set_cons_succ]; rfl)) (hJ0_4 (v107, v113) _ ⟨hHeld, (by (with_reducible repeat (first | apply Kd.R_alloc | apply Kd.R_drewN | apply Kd.R_drew)); exact Kd.R_mono HO108.out (fun _ hk => ⟨hk.2, hk.1⟩)), (by (with_reducible repeat (first | apply Kd.R_alloc | apply Kd.R_drewN | apply Kd.R_drew)); exact Kd.R_mono HO114.out (fun _ hk => ⟨hk.1.2, hk.2⟩)), (kp9 BK104.out), (kp9 BK105.out), (bp9 HB.out)⟩)
                      ·skip
                       refine box_step ?hg (N := 14) ?hd (cs := #[.slice none 0 0, .slice none 0 0, .slice none 0 0, .slice none 0 0, .slice none 0 0, .slice none 0 0, .slice none 0 0]) (t := 31) ?hr ?_; (case hd => rfl); (case hg => rfl); (case hr => first | (go_simp; done) | (go_simp; rfl))
                       intro gb118 hg w41 hbox hb
                       have n0_ := a9_ (Kd.R_below (rp9 HO108.out) hb)
                       have n1_ := a9_ (blk_below (kp9 BK104.out) hb)
                       have n2_ := a9_ (blk_below (kp9 BK105.out) hb)
                       have n3_ := a9_ (below_step (bp9 HB.out) hb)
                       have n4_ := a9_ (hbox)
                       have n5_ := a9_ ((by rw [hg]; exact (below_size (bp9 HB.out)) : w.heap.size ≤ gb118))
                       have n6_ := n5_
                       have n7_ := a9_ ((by rw [hg]; exact Nat.ne_of_lt (blk_lt (g := gb104) (o := .cells #[.int .i64 0, .int .i64 2, .int .i64 ((rd_T26 l0 (ji11)).f2), .int .i64 ((rd_T26 l0 (ji11)).f3), .bool false, .bool false, .bool false] 26 (0, 0)) (kp9 BK104.out)) : gb104 ≠ gb118))
                       have n8_ := a9_ ((by rw [hg]; exact Nat.ne_of_gt (blk_lt (g := gb104) (o := .cells #[.int .i64 0, .int .i64 2, .int .i64 ((rd_T26 l0 (ji11)).f2), .int .i64 ((rd_T26 l0 (ji11)).f3), .bool false, .bool false, .bool false] 26 (0, 0)) (kp9 BK104.out)) : gb118 ≠ gb104))
                       have n9_ := a9_ ((by rw [hg]; exact Nat.ne_of_lt (blk_lt (g := gb105) (o := .cells #[.slice (some ad102) l0.length c0, .slice none 0 0, .slice none 0 0, .slice none 0 0, .slice none 0 0, .slice none 0 0, .slice none 0 0] 31 (0, 0)) (kp9 BK105.out)) : gb105 ≠ gb118))
                       have n10_ := a9_ ((by rw [hg]; exact Nat.ne_of_gt (blk_lt (g := gb105) (o := .cells #[.slice (some ad102) l0.length c0, .slice none 0 0, .slice none 0 0, .slice none 0 0, .slice none 0 0, .slice none 0 0, .slice none 0 0] 31 (0, 0)) (kp9 BK105.out)) : gb118 ≠ gb105))
                       clear HO108 BK104 BK105 HB
                       revert n0_ n1_ n2_ n3_ n4_ n5_ n6_ n7_ n8_ n9_ n10_; intro HO108 BK104 BK105 HB BK118 GW118 GE118 NB104_118 NB118_104 NB105_118 NB118_105
                       clear hb hbox hg
                       refine hK.out _ _ ⟨(blk_cell BK104.out 0).trans rfl, (blk_cell BK104.out 1).trans rfl, (blk_cell BK104.out 2).trans rfl, (blk_cell BK104.out 3).trans rfl, (blk_cell BK104.out 4).trans rfl, (blk_cell BK104.out 5).trans rfl, (blk_cell BK104.out 6).trans rfl⟩ (fun hHeld => ?_)
                       clear hK K
                       refine norm_ (a' := ?_) ?_ ?_
                       rotate_left
                       ·show Act.put _ (some 14) _ = _
                        exact put9
                       exact norm_ (by first | (simp only [putAll, Act.put, List.setIfInBounds_toArray, List.set_cons_zero, List.set_cons_succ]; done) | (simp only [putAll, Act.put, List.setIfInBounds_toArray, List.set_cons_zero, List.set_cons_succ]; rfl)) (hJ0_7 (v107, gb118) _ ⟨hHeld, (rp9 HO108.out), (kp9 BK104.out), (kp9 BK105.out), (kp9 BK118.out), GW118.out, GE118.out, NB104_118.out, NB118_104.out, NB105_118.out, NB118_105.out, (bp9 HB.out)⟩)
                    ·skip
                     rintro ⟨v113, gb118⟩ w41 ⟨hS_, h0_, h1_, h2_, h3_, h4_, h5_, h6_, h7_, h8_, h9_, h10_⟩
                     have n0_ : Aside0 (Kd.R k26 26 w41 w.heap.size (fun k_ => k_ ≠ gb104) v113 y112) := ⟨h0_⟩
                     have n1_ : Aside0 (w41.heap[gb104]? = some (.cells #[.int .i64 0, .int .i64 2, .int .i64 ((rd_T26 l0 (ji11)).f2), .int .i64 ((rd_T26 l0 (ji11)).f3), .bool false, .bool false, .bool false] 26 (0, 0))) := ⟨h1_⟩
                     have n2_ : Aside0 (w41.heap[gb105]? = some (.cells #[.slice (some ad102) l0.length c0, .slice none 0 0, .slice none 0 0, .slice none 0 0, .slice none 0 0, .slice none 0 0, .slice none 0 0] 31 (0, 0))) := ⟨h2_⟩
                     have n3_ : Aside0 (w41.heap[gb118]? = some (.cells #[.slice none 0 0, .slice none 0 0, .slice none 0 0, .slice none 0 0, .slice none 0 0, .slice none 0 0, .slice none 0 0] 31 (0, 0))) := ⟨h3_⟩
                     have n4_ : Aside0 (w.heap.size ≤ gb118) := ⟨h4_⟩
                     have n5_ : Aside0 (w.heap.size ≤ gb118) := ⟨h5_⟩
                     have n6_ : Aside0 (gb104 ≠ gb118) := ⟨h6_⟩
                     have n7_ : Aside0 (gb118 ≠ gb104) := ⟨h7_⟩
                     have n8_ : Aside0 (gb105 ≠ gb118) := ⟨h8_⟩
                     have n9_ : Aside0 (gb118 ≠ gb105) := ⟨h9_⟩
                     have n10_ : Aside0 (Below w.heap.size w w41) := ⟨h10_⟩
                     clear BK104 BK105 HB
                     clear h0_ h1_ h2_ h3_ h4_ h5_ h6_ h7_ h8_ h9_ h10_
                     revert n0_ n1_ n2_ n3_ n4_ n5_ n6_ n7_ n8_ n9_ n10_; intro HO114 BK104 BK105 BK118 GW118 GE118 NB104_118 NB118_104 NB105_118 NB118_105 HB
                     have hHeld : w41.cell? ⟨gb104, 0, none⟩ = some (.int .i64 0) ∧ w41.cell? ⟨gb104, 1, none⟩ = some (.int .i64 2) ∧ w41.cell? ⟨gb104, 2, none⟩ = some (.int .i64 ((rd_T26 l0 (ji11)).f2)) ∧ w41.cell? ⟨gb104, 3, none⟩ = some (.int .i64 ((rd_T26 l0 (ji11)).f3)) ∧ w41.cell? ⟨gb104, 4, none⟩ = some (.bool false) ∧ w41.cell? ⟨gb104, 5, none⟩ = some (.bool false) ∧ w41.cell? ⟨gb104, 6, none⟩ = some (.bool false) := hS_
                     refine norm_ (a' := ?_) ?_ ?_
                     rotate_left
                     ·simp only [putAll, Act.put, List.setIfInBounds_toArray, List.set_cons_zero, List.set_cons_succ]
                      rfl
                     refine one_ (i := 0) (N := some 53) #[i9, i9, o9, i9, i9, o9, o9, i9, o9] rfl rfl (one_of HT_.out (by kernel_rfl)) (by decide) (fun K hK => ?_)
                     refine Kd.R_lit_step k26 _ 26 ?hg (N := 53) ?hd (xs := ([] : List (S26))) (inner := []) (ok := fun _ => True) (okp := fun _ => True) ?hr ?hp (fun _ hk => hk) trivial (Below.refl _ _) (Nat.le_refl _) (by simp) ?_; (case hd => rfl); (case hg => rfl); (case hr => first | (go_simp; done) | (go_simp; rfl)); (case hp => exact (Reps.none _ _))
                     intro v107 w42 ho43 hb hg_ hnew_
                     clear hg_ hnew_
                     (first | rw [← Ny106.out] at ho43 | (simp only [Int.reduceToNat] at ho43; rw [← Ny106.out] at ho43))
                     have n0_ := a9_ (Kd.R_elder' (rp9 HO114.out) (Kd.R_base ho43) hb)
                     have n1_ := a9_ (Kd.R_lower (Kd.R_newB (Kd.R_new' ho43 (Kd.R_lt (rp9 HO114.out))) (g := gb104) (o := .cells #[.int .i64 0, .int .i64 2, .int .i64 ((rd_T26 l0 (ji11)).f2), .int .i64 ((rd_T26 l0 (ji11)).f3), .bool false, .bool false, .bool false] 26 (0, 0)) (kp9 BK104.out)) (below_size (bp9 HB.out)))
                     have n2_ := a9_ (blk_below (kp9 BK104.out) hb)
                     have n3_ := a9_ (blk_below (kp9 BK105.out) hb)
                     have n4_ := a9_ (blk_below (kp9 BK118.out) hb)
                     have n5_ := a9_ (below_step (bp9 HB.out) hb)
                     clear HO114 BK104 BK105 BK118 HB
                     revert n0_ n1_ n2_ n3_ n4_ n5_; intro HO114 HO108 BK104 BK105 BK118 HB
                     clear hb ho43
                     refine hK.out _ _ ⟨(blk_cell BK104.out 0).trans rfl, (blk_cell BK104.out 1).trans rfl, (blk_cell BK104.out 2).trans rfl, (blk_cell BK104.out 3).trans rfl, (blk_cell BK104.out 4).trans rfl, (blk_cell BK104.out 5).trans rfl, (blk_cell BK104.out 6).trans rfl⟩ (fun hHeld => ?_)
                     clear hK K
                     refine norm_ (a' := ?_) ?_ ?_
                     rotate_left
                     ·show Act.put _ (some 53) _ = _
                      exact put9
                     exact norm_ (by first | (simp only [putAll, Act.put, List.setIfInBounds_toArray, List.set_cons_zero, List.set_cons_succ]; done) | (simp only [putAll, Act.put, List.setIfInBounds_toArray, List.set_cons_zero, List.set_cons_succ]; rfl)) (hJ0_4_7 (v107, v113, gb118) _ ⟨hHeld, (by (with_reducible repeat (first | apply Kd.R_alloc | apply Kd.R_drewN | apply Kd.R_drew)); exact Kd.R_mono HO108.out (fun _ hk => ⟨hk.1.2, hk.2⟩)), (by (with_reducible repeat (first | apply Kd.R_alloc | apply Kd.R_drewN | apply Kd.R_drew)); exact Kd.R_mono HO114.out (fun _ hk => ⟨hk.2, hk.1⟩)), (kp9 BK104.out), (kp9 BK105.out), (kp9 BK118.out), GW118.out, GE118.out, NB104_118.out, NB118_104.out, NB105_118.out, NB118_105.out, (bp9 HB.out)⟩)
                   ·skip
                    rintro ⟨v107, gb118⟩ w41 ⟨hS_, h0_, h1_, h2_, h3_, h4_, h5_, h6_, h7_, h8_, h9_, h10_⟩
                    have n0_ : Aside0 (Kd.R k26 26 w41 w.heap.size (fun k_ => k_ ≠ gb104) v107 y106) := ⟨h0_⟩
                    have n1_ : Aside0 (w41.heap[gb104]? = some (.cells #[.int .i64 0, .int .i64 2, .int .i64 ((rd_T26 l0 (ji11)).f2), .int .i64 ((rd_T26 l0 (ji11)).f3), .bool false, .bool false, .bool false] 26 (0, 0))) := ⟨h1_⟩
                    have n2_ : Aside0 (w41.heap[gb105]? = some (.cells #[.slice (some ad102) l0.length c0, .slice none 0 0, .slice none 0 0, .slice none 0 0, .slice none 0 0, .slice none 0 0, .slice none 0 0] 31 (0, 0))) := ⟨h2_⟩
                    have n3_ : Aside0 (w41.heap[gb118]? = some (.cells #[.slice none 0 0, .slice none 0 0, .slice none 0 0, .slice none 0 0, .slice none 0 0, .slice none 0 0, .slice none 0 0] 31 (0, 0))) := ⟨h3_⟩
                    have n4_ : Aside0 (w.heap.size ≤ gb118) := ⟨h4_⟩
                    have n5_ : Aside0 (w.heap.size ≤ gb118) := ⟨h5_⟩
                    have n6_ : Aside0 (gb104 ≠ gb118) := ⟨h6_⟩
                    have n7_ : Aside0 (gb118 ≠ gb104) := ⟨h7_⟩
                    have n8_ : Aside0 (gb105 ≠ gb118) := ⟨h8_⟩
                    have n9_ : Aside0 (gb118 ≠ gb105) := ⟨h9_⟩
                    have n10_ : Aside0 (Below w.heap.size w w41) := ⟨h10_⟩
                    clear BK104 BK105 HB
                    clear h0_ h1_ h2_ h3_ h4_ h5_ h6_ h7_ h8_ h9_ h10_
                    revert n0_ n1_ n2_ n3_ n4_ n5_ n6_ n7_ n8_ n9_ n10_; intro HO108 BK104 BK105 BK118 GW118 GE118 NB104_118 NB118_104 NB105_118 NB118_105 HB
                    have hHeld : w41.cell? ⟨gb104, 0, none⟩ = some (.int .i64 0) ∧ w41.cell? ⟨gb104, 1, none⟩ = some (.int .i64 2) ∧ w41.cell? ⟨gb104, 2, none⟩ = some (.int .i64 ((rd_T26 l0 (ji11)).f2)) ∧ w41.cell? ⟨gb104, 3, none⟩ = some (.int .i64 ((rd_T26 l0 (ji11)).f3)) ∧ w41.cell? ⟨gb104, 4, none⟩ = some (.bool false) ∧ w41.cell? ⟨gb104, 5, none⟩ = some (.bool false) ∧ w41.cell? ⟨gb104, 6, none⟩ = some (.bool false) := hS_
                    refine norm_ (a' := ?_) ?_ ?_
                    rotate_left
                    ·simp only [putAll, Act.put, List.setIfInBounds_toArray, List.set_cons_zero, List.set_cons_succ]
                     rfl
                    refine two_ (i := 2) (j := 4) (Ni := some 55) (Nj := some 57) #[true, true, true, true, false, false, false, true, false] #[true, true, false, true, true, false, false, true, false] rfl rfl rfl rfl (two_of HT_.out (by kernel_rfl)) (by decide) (by decide) (fun K hK => ?_) (fun K hK => ?_)
                    ·skip
                     refine Kd.R_append_rows_step k26 (w0 := w) w.heap.size (by rfl) (.tmp 53) (.tmp 54) 22 26 (.agg #[(.int .i64 0), (.int .i64 0), (.int .i64 0), (.int .i64 0), (.bool false), (.bool false), (.bool false)]) 40 rfl Try.underlying22 info26 rfl (by decide) (by omega) v107 y106 l0 _ _ _ (fun k_ => k_ ≠ gb104) (fun _ => False) rfl rfl ?aO ?aR (fun _ _ h => h) (fun _ h => h.elim) ?aF ?aB ?aS ?aL ?_
                     (case aR => exact cp9 HR0.out HB.out)
                     (case aB => exact (bp9 HB.out))
                     (case aF => exact (fun k_ hk => Kd.freshB (g := gb104) (o := .cells #[.int .i64 0, .int .i64 2, .int .i64 ((rd_T26 l0 (ji11)).f2), .int .i64 ((rd_T26 l0 (ji11)).f3), .bool false, .bool false, .bool false] 26 (0, 0)) (kp9 BK104.out) k_ hk))
                     (case aO => exact (rp9 HO108.out))
                     (case aS => exact (below_size (bp9 HB.out)))
                     (case aL => have := LMc15.out; omega)
                     intro v110 w42 ho hb hg hat
                     rw [← Ny109.out] at ho
                     have n0_ := a9_ (blk_grown (g := gb104) (o := .cells #[.int .i64 0, .int .i64 2, .int .i64 ((rd_T26 l0 (ji11)).f2), .int .i64 ((rd_T26 l0 (ji11)).f3), .bool false, .bool false, .bool false] 26 (0, 0)) (kp9 BK104.out) hg (Kd.R_away HO108.out (fun _ hk => hk)))
                     have n1_ := a9_ (blk_grown (g := gb105) (o := .cells #[.slice (some ad102) l0.length c0, .slice none 0 0, .slice none 0 0, .slice none 0 0, .slice none 0 0, .slice none 0 0, .slice none 0 0] 31 (0, 0)) (kp9 BK105.out) hg (Kd.R_ne HO108.out BK105.out (by decide)))
                     have n2_ := a9_ (blk_grown (g := gb118) (o := .cells #[.slice none 0 0, .slice none 0 0, .slice none 0 0, .slice none 0 0, .slice none 0 0, .slice none 0 0, .slice none 0 0] 31 (0, 0)) (kp9 BK118.out) hg (Kd.R_ne HO108.out BK118.out (by decide)))
                     have n3_ := a9_ (hb)
                     have n4_ := a9_ (ho)
                     clear BK104 BK105 BK118 HB HO108
                     revert n0_ n1_ n2_ n3_ n4_; intro BK104 BK105 BK118 HB HO111
                     clear ho hb hg hat
                     refine hK.out _ _ ⟨(blk_cell BK104.out 0).trans rfl, (blk_cell BK104.out 1).trans rfl, (blk_cell BK104.out 2).trans rfl, (blk_cell BK104.out 3).trans rfl, (blk_cell BK104.out 4).trans rfl, (blk_cell BK104.out 5).trans rfl, (blk_cell BK104.out 6).trans rfl⟩ (fun hHeld => ?_)
                     clear hK K
                     refine norm_ (a' := ?_) ?_ ?_
                     rotate_left
                     ·show Act.put _ (some 55) _ = _
                      exact put9
                     exact norm_ (by first | (simp only [putAll, Act.put, List.setIfInBounds_toArray, List.set_cons_zero, List.set_cons_succ]; done) | (simp only [putAll, Act.put, List.setIfInBounds_toArray, List.set_cons_zero, List.set_cons_succ]; rfl)) (hJ0_2_7 (v107, v110, gb118) _ ⟨hHeld, (rp9 HO111.out), (kp9 BK104.out), (kp9 BK105.out), (kp9 BK118.out), GW118.out, GE118.out, NB104_118.out, NB118_104.out, NB105_118.out, NB118_105.out, (bp9 HB.out)⟩)
                    ·skip
                     refine Kd.R_lit_step k26 _ 26 ?hg (N := 57) ?hd (xs := ([(⟨0, 2, (rd_T26 l0 (ji11)).f2, (rd_T26 l0 (ji11)).f3, false, false, false⟩ : S26)] : List (S26))) (inner := [.int .i64 0, .int .i64 2, .int .i64 ((rd_T26 l0 (ji11)).f2), .int .i64 ((rd_T26 l0 (ji11)).f3), .bool false, .bool false, .bool false]) (ok := fun _ => True) (okp := fun _ => True) ?hr ?hp (fun _ hk => hk) trivial (Below.refl _ _) (Nat.le_refl _) (by simp) ?_; (case hd => rfl); (case hg => rfl); (case hr => first | (go_simp; done) | (go_simp; rfl)); (case hp => exact (Reps.c7 (show Kd.M k26 _ _ _ (⟨0, 2, (rd_T26 l0 (ji11)).f2, (rd_T26 l0 (ji11)).f3, false, false, false⟩ : S26) [.int .i64 0, .int .i64 2, .int .i64 ((rd_T26 l0 (ji11)).f2), .int .i64 ((rd_T26 l0 (ji11)).f3), .bool false, .bool false, .bool false] from (k26_mkM _ _ _ (⟨0, 2, (rd_T26 l0 (ji11)).f2, (rd_T26 l0 (ji11)).f3, false, false, false⟩ : S26) )) (Reps.none _ _)))
                     intro v113 w42 ho43 hb hg_ hnew_
                     clear hg_ hnew_
                     (first | rw [← Ny112.out] at ho43 | (simp only [Int.reduceToNat] at ho43; rw [← Ny112.out] at ho43))
                     have n0_ := a9_ (Kd.R_elder' (rp9 HO108.out) (Kd.R_base ho43) hb)
                     have n1_ := a9_ (Kd.R_lower (Kd.R_newB (Kd.R_new' ho43 (Kd.R_lt (rp9 HO108.out))) (g := gb104) (o := .cells #[.int .i64 0, .int .i64 2, .int .i64 ((rd_T26 l0 (ji11)).f2), .int .i64 ((rd_T26 l0 (ji11)).f3), .bool false, .bool false, .bool false] 26 (0, 0)) (kp9 BK104.out)) (below_size (bp9 HB.out)))
                     have n2_ := a9_ (blk_below (kp9 BK104.out) hb)
                     have n3_ := a9_ (blk_below (kp9 BK105.out) hb)
                     have n4_ := a9_ (blk_below (kp9 BK118.out) hb)
                     have n5_ := a9_ (below_step (bp9 HB.out) hb)
                     clear HO108 BK104 BK105 BK118 HB
                     revert n0_ n1_ n2_ n3_ n4_ n5_; intro HO108 HO114 BK104 BK105 BK118 HB
                     clear hb ho43
                     refine hK.out _ _ ⟨(blk_cell BK104.out 0).trans rfl, (blk_cell BK104.out 1).trans rfl, (blk_cell BK104.out 2).trans rfl, (blk_cell BK104.out 3).trans rfl, (blk_cell BK104.out 4).trans rfl, (blk_cell BK104.out 5).trans rfl, (blk_cell BK104.out 6).trans rfl⟩ (fun hHeld => ?_)
                     clear hK K
                     refine norm_ (a' := ?_) ?_ ?_
                     rotate_left
                     ·show Act.put _ (some 57) _ = _
                      exact put9
                     exact norm_ (by first | (simp only [putAll, Act.put, List.setIfInBounds_toArray, List.set_cons_zero, List.set_cons_succ]; done) | (simp only [putAll, Act.put, List.setIfInBounds_toArray, List.set_cons_zero, List.set_cons_succ]; rfl)) (hJ0_4_7 (v107, v113, gb118) _ ⟨hHeld, (by (with_reducible repeat (first | apply Kd.R_alloc | apply Kd.R_drewN | apply Kd.R_drew)); exact Kd.R_mono HO108.out (fun _ hk => ⟨hk.2, hk.1⟩)), (by (with_reducible repeat (first | apply Kd.R_alloc | apply Kd.R_drewN | apply Kd.R_drew)); exact Kd.R_mono HO114.out (fun _ hk => ⟨hk.1.2, hk.2⟩)), (kp9 BK104.out), (kp9 BK105.out), (kp9 BK118.out), GW118.out, GE118.out, NB104_118.out, NB118_104.out, NB105_118.out, NB118_105.out, (bp9 HB.out)⟩)
                  ·skip
                   rintro ⟨v107, v113⟩ w42 ⟨hS_, h0_, h1_, h2_, h3_, h4_⟩
                   have n0_ : Aside0 (Kd.R k26 26 w42 w.heap.size (fun k_ => some k_ ≠ (v113 : Value).ownBlock ∧ k_ ≠ gb104) v107 y106) := ⟨h0_⟩
                   have n1_ : Aside0 (Kd.R k26 26 w42 w.heap.size (fun k_ => some k_ ≠ (v107 : Value).ownBlock ∧ k_ ≠ gb104) v113 y112) := ⟨h1_⟩
                   have n2_ : Aside0 (w42.heap[gb104]? = some (.cells #[.int .i64 0, .int .i64 2, .int .i64 ((rd_T26 l0 (ji11)).f2), .int .i64 ((rd_T26 l0 (ji11)).f3), .bool false, .bool false, .bool false] 26 (0, 0))) := ⟨h2_⟩
                   have n3_ : Aside0 (w42.heap[gb105]? = some (.cells #[.slice (some ad102) l0.length c0, .slice none 0 0, .slice none 0 0, .slice none 0 0, .slice none 0 0, .slice none 0 0, .slice none 0 0] 31 (0, 0))) := ⟨h3_⟩
                   have n4_ : Aside0 (Below w.heap.size w w42) := ⟨h4_⟩
                   clear BK104 BK105 HB
                   clear h0_ h1_ h2_ h3_ h4_
                   revert n0_ n1_ n2_ n3_ n4_; intro HO108 HO114 BK104 BK105 HB
                   have hHeld : w42.cell? ⟨gb104, 0, none⟩ = some (.int .i64 0) ∧ w42.cell? ⟨gb104, 1, none⟩ = some (.int .i64 2) ∧ w42.cell? ⟨gb104, 2, none⟩ = some (.int .i64 ((rd_T26 l0 (ji11)).f2)) ∧ w42.cell? ⟨gb104, 3, none⟩ = some (.int .i64 ((rd_T26 l0 (ji11)).f3)) ∧ w42.cell? ⟨gb104, 4, none⟩ = some (.bool false) ∧ w42.cell? ⟨gb104, 5, none⟩ = some (.bool false) ∧ w42.cell? ⟨gb104, 6, none⟩ = some (.bool false) := hS_
                   refine norm_ (a' := ?_) ?_ ?_
                   rotate_left
                   ·simp only [putAll, Act.put, List.setIfInBounds_toArray, List.set_cons_zero, List.set_cons_succ]
                    rfl
                   refine two_ (i := 2) (j := 7) (Ni := some 55) (Nj := some 14) #[true, true, true, true, true, false, false, false, false] #[true, true, false, true, true, false, false, true, false] rfl rfl rfl rfl (two_of HT_.out (by kernel_rfl)) (by decide) (by decide) (fun K hK => ?_) (fun K hK => ?_)
                   ·skip
                    refine Kd.R_append_rows_step k26 (w0 := w) w.heap.size (by rfl) (.tmp 53) (.tmp 54) 22 26 (.agg #[(.int .i64 0), (.int .i64 0), (.int .i64 0), (.int .i64 0), (.bool false), (.bool false), (.bool false)]) 40 rfl Try.underlying22 info26 rfl (by decide) (by omega) v107 y106 l0 _ _ _ (fun k_ => some k_ ≠ (v113 : Value).ownBlock ∧ k_ ≠ gb104) (fun _ => False) rfl rfl ?aO ?aR (fun _ _ h => h) (fun _ h => h.elim) ?aF ?aB ?aS ?aL ?_
                    (case aR => exact cp9 HR0.out HB.out)
                    (case aB => exact (bp9 HB.out))
                    (case aF => exact (fun k_ hk => ⟨Kd.fresh' (Kd.R_lt (rp9 HO114.out)) k_ hk, Kd.freshB (g := gb104) (o := .cells #[.int .i64 0, .int .i64 2, .int .i64 ((rd_T26 l0 (ji11)).f2), .int .i64 ((rd_T26 l0 (ji11)).f3), .bool false, .bool false, .bool false] 26 (0, 0)) (kp9 BK104.out) k_ hk⟩))
                    (case aO => exact (rp9 HO108.out))
                    (case aS => exact (below_size (bp9 HB.out)))
                    (case aL => have := LMc15.out; omega)
                    intro v110 w43 ho hb hg hat
                    rw [← Ny109.out] at ho
                    have n0_ := a9_ (blk_grown (g := gb104) (o := .cells #[.int .i64 0, .int .i64 2, .int .i64 ((rd_T26 l0 (ji11)).f2), .int .i64 ((rd_T26 l0 (ji11)).f3), .bool false, .bool false, .bool false] 26 (0, 0)) (kp9 BK104.out) hg (Kd.R_away HO108.out (fun _ hk => hk.2)))
                    have n1_ := a9_ (blk_grown (g := gb105) (o := .cells #[.slice (some ad102) l0.length c0, .slice none 0 0, .slice none 0 0, .slice none 0 0, .slice none 0 0, .slice none 0 0, .slice none 0 0] 31 (0, 0)) (kp9 BK105.out) hg (Kd.R_ne HO108.out BK105.out (by decide)))
                    have n2_ := a9_ (Kd.R_after (ok := (fun k_ => k_ ≠ gb104)) (by (with_reducible repeat (first | apply Kd.R_alloc | apply Kd.R_drewN | apply Kd.R_drew)); exact Kd.R_mono HO114.out (fun _ hk => ⟨hk.2, hk.1⟩)) hg hat)
                    have n3_ := a9_ (hb)
                    have n4_ := a9_ (ho)
                    clear BK104 BK105 HO114 HB HO108
                    revert n0_ n1_ n2_ n3_ n4_; intro BK104 BK105 HO114 HB HO111
                    clear ho hb hg hat
                    refine hK.out _ _ ⟨(blk_cell BK104.out 0).trans rfl, (blk_cell BK104.out 1).trans rfl, (blk_cell BK104.out 2).trans rfl, (blk_cell BK104.out 3).trans rfl, (blk_cell BK104.out 4).trans rfl, (blk_cell BK104.out 5).trans rfl, (blk_cell BK104.out 6).trans rfl⟩ (fun hHeld => ?_)
                    clear hK K
                    refine norm_ (a' := ?_) ?_ ?_
                    rotate_left
                    ·show Act.put _ (some 55) _ = _
                     exact put9
                    exact norm_ (by first | (simp only [putAll, Act.put, List.setIfInBounds_toArray, List.set_cons_zero, List.set_cons_succ]; done) | (simp only [putAll, Act.put, List.setIfInBounds_toArray, List.set_cons_zero, List.set_cons_succ]; rfl)) (hJ0_2_4 (v107, v110, v113) _ ⟨hHeld, (rp9 HO111.out), (by (with_reducible repeat (first | apply Kd.R_alloc | apply Kd.R_drewN | apply Kd.R_drew)); exact Kd.R_mono HO114.out (fun _ hk => ⟨hk.2, hk.1⟩)), (kp9 BK104.out), (kp9 BK105.out), (bp9 HB.out)⟩)
                   ·skip
                    refine box_step ?hg (N := 14) ?hd (cs := #[.slice none 0 0, .slice none 0 0, .slice none 0 0, .slice none 0 0, .slice none 0 0, .slice none 0 0, .slice none 0 0]) (t := 31) ?hr ?_; (case hd => rfl); (case hg => rfl); (case hr => first | (go_simp; done) | (go_simp; rfl))
                    intro gb118 hg w43 hbox hb
                    have n0_ := a9_ (Kd.R_below (rp9 HO108.out) hb)
                    have n1_ := a9_ (Kd.R_below (rp9 HO114.out) hb)
                    have n2_ := a9_ (blk_below (kp9 BK104.out) hb)
                    have n3_ := a9_ (blk_below (kp9 BK105.out) hb)
                    have n4_ := a9_ (below_step (bp9 HB.out) hb)
                    have n5_ := a9_ (hbox)
                    have n6_ := a9_ ((by rw [hg]; exact (below_size (bp9 HB.out)) : w.heap.size ≤ gb118))
                    have n7_ := n6_
                    have n8_ := a9_ ((by rw [hg]; exact Nat.ne_of_lt (blk_lt (g := gb104) (o := .cells #[.int .i64 0, .int .i64 2, .int .i64 ((rd_T26 l0 (ji11)).f2), .int .i64 ((rd_T26 l0 (ji11)).f3), .bool false, .bool false, .bool false] 26 (0, 0)) (kp9 BK104.out)) : gb104 ≠ gb118))
                    have n9_ := a9_ ((by rw [hg]; exact Nat.ne_of_gt (blk_lt (g := gb104) (o := .cells #[.int .i64 0, .int .i64 2, .int .i64 ((rd_T26 l0 (ji11)).f2), .int .i64 ((rd_T26 l0 (ji11)).f3), .bool false, .bool false, .bool false] 26 (0, 0)) (kp9 BK104.out)) : gb118 ≠ gb104))
                    have n10_ := a9_ ((by rw [hg]; exact Nat.ne_of_lt (blk_lt (g := gb105) (o := .cells #[.slice (some ad102) l0.length c0, .slice none 0 0, .slice none 0 0, .slice none 0 0, .slice none 0 0, .slice none 0 0, .slice none 0 0] 31 (0, 0)) (kp9 BK105.out)) : gb105 ≠ gb118))
                    have n11_ := a9_ ((by rw [hg]; exact Nat.ne_of_gt (blk_lt (g := gb105) (o := .cells #[.slice (some ad102) l0.length c0, .slice none 0 0, .slice none 0 0, .slice none 0 0, .slice none 0 0, .slice none 0 0, .slice none 0 0] 31 (0, 0)) (kp9 BK105.out)) : gb118 ≠ gb105))
                    clear HO108 HO114 BK104 BK105 HB
                    revert n0_ n1_ n2_ n3_ n4_ n5_ n6_ n7_ n8_ n9_ n10_ n11_; intro HO108 HO114 BK104 BK105 HB BK118 GW118 GE118 NB104_118 NB118_104 NB105_118 NB118_105
                    clear hb hbox hg
                    refine hK.out _ _ ⟨(blk_cell BK104.out 0).trans rfl, (blk_cell BK104.out 1).trans rfl, (blk_cell BK104.out 2).trans rfl, (blk_cell BK104.out 3).trans rfl, (blk_cell BK104.out 4).trans rfl, (blk_cell BK104.out 5).trans rfl, (blk_cell BK104.out 6).trans rfl⟩ (fun hHeld => ?_)
                    clear hK K
                    refine norm_ (a' := ?_) ?_ ?_
                    rotate_left
                    ·show Act.put _ (some 14) _ = _
                     exact put9
                    exact norm_ (by first | (simp only [putAll, Act.put, List.setIfInBounds_toArray, List.set_cons_zero, List.set_cons_succ]; done) | (simp only [putAll, Act.put, List.setIfInBounds_toArray, List.set_cons_zero, List.set_cons_succ]; rfl)) (hJ0_4_7 (v107, v113, gb118) _ ⟨hHeld, (rp9 HO108.out), (rp9 HO114.out), (kp9 BK104.out), (kp9 BK105.out), (kp9 BK118.out), GW118.out, GE118.out, NB104_118.out, NB118_104.out, NB105_118.out, NB118_105.out, (bp9 HB.out)⟩)
                 ·skip
                  rintro ⟨v107, v110⟩ w41 ⟨hS_, h0_, h1_, h2_, h3_⟩
                  have n0_ : Aside0 (Kd.R k26 26 w41 w.heap.size (fun k_ => k_ ≠ gb104) v110 y109) := ⟨h0_⟩
                  have n1_ : Aside0 (w41.heap[gb104]? = some (.cells #[.int .i64 0, .int .i64 2, .int .i64 ((rd_T26 l0 (ji11)).f2), .int .i64 ((rd_T26 l0 (ji11)).f3), .bool false, .bool false, .bool false] 26 (0, 0))) := ⟨h1_⟩
                  have n2_ : Aside0 (w41.heap[gb105]? = some (.cells #[.slice (some ad102) l0.length c0, .slice none 0 0, .slice none 0 0, .slice none 0 0, .slice none 0 0, .slice none 0 0, .slice none 0 0] 31 (0, 0))) := ⟨h2_⟩
                  have n3_ : Aside0 (Below w.heap.size w w41) := ⟨h3_⟩
                  clear BK104 BK105 HB
                  clear h0_ h1_ h2_ h3_
                  revert n0_ n1_ n2_ n3_; intro HO111 BK104 BK105 HB
                  have hHeld : w41.cell? ⟨gb104, 0, none⟩ = some (.int .i64 0) ∧ w41.cell? ⟨gb104, 1, none⟩ = some (.int .i64 2) ∧ w41.cell? ⟨gb104, 2, none⟩ = some (.int .i64 ((rd_T26 l0 (ji11)).f2)) ∧ w41.cell? ⟨gb104, 3, none⟩ = some (.int .i64 ((rd_T26 l0 (ji11)).f3)) ∧ w41.cell? ⟨gb104, 4, none⟩ = some (.bool false) ∧ w41.cell? ⟨gb104, 5, none⟩ = some (.bool false) ∧ w41.cell? ⟨gb104, 6, none⟩ = some (.bool false) := hS_
                  refine norm_ (a' := ?_) ?_ ?_
                  rotate_left
                  ·simp only [putAll, Act.put, List.setIfInBounds_toArray, List.set_cons_zero, List.set_cons_succ]
                   rfl
                  refine two_ (i := 4) (j := 7) (Ni := some 57) (Nj := some 14) #[true, true, true, true, true, false, false, false, false] #[true, true, true, true, false, false, false, true, false] rfl rfl rfl rfl (two_of HT_.out (by kernel_rfl)) (by decide) (by decide) (fun K hK => ?_) (fun K hK => ?_)
                  ·skip
                   refine Kd.R_lit_step k26 _ 26 ?hg (N := 57) ?hd (xs := ([(⟨0, 2, (rd_T26 l0 (ji11)).f2, (rd_T26 l0 (ji11)).f3, false, false, false⟩ : S26)] : List (S26))) (inner := [.int .i64 0, .int .i64 2, .int .i64 ((rd_T26 l0 (ji11)).f2), .int .i64 ((rd_T26 l0 (ji11)).f3), .bool false, .bool false, .bool false]) (ok := fun _ => True) (okp := fun _ => True) ?hr ?hp (fun _ hk => hk) trivial (Below.refl _ _) (Nat.le_refl _) (by simp) ?_; (case hd => rfl); (case hg => rfl); (case hr => first | (go_simp; done) | (go_simp; rfl)); (case hp => exact (Reps.c7 (show Kd.M k26 _ _ _ (⟨0, 2, (rd_T26 l0 (ji11)).f2, (rd_T26 l0 (ji11)).f3, false, false, false⟩ : S26) [.int .i64 0, .int .i64 2, .int .i64 ((rd_T26 l0 (ji11)).f2), .int .i64 ((rd_T26 l0 (ji11)).f3), .bool false, .bool false, .bool false] from (k26_mkM _ _ _ (⟨0, 2, (rd_T26 l0 (ji11)).f2, (rd_T26 l0 (ji11)).f3, false, false, false⟩ : S26) )) (Reps.none _ _)))
                   intro v113 w42 ho43 hb hg_ hnew_
                   clear hg_ hnew_
                   (first | rw [← Ny112.out] at ho43 | (simp only [Int.reduceToNat] at ho43; rw [← Ny112.out] at ho43))
                   have n0_ := a9_ (Kd.R_elder' (rp9 HO111.out) (Kd.R_base ho43) hb)
                   have n1_ := a9_ (Kd.R_lower (Kd.R_newB (Kd.R_new' ho43 (Kd.R_lt (rp9 HO111.out))) (g := gb104) (o := .cells #[.int .i64 0, .int .i64 2, .int .i64 ((rd_T26 l0 (ji11)).f2), .int .i64 ((rd_T26 l0 (ji11)).f3), .bool false, .bool false, .bool false] 26 (0, 0)) (kp9 BK104.out)) (below_size (bp9 HB.out)))
                   have n2_ := a9_ (blk_below (kp9 BK104.out) hb)
                   have n3_ := a9_ (blk_below (kp9 BK105.out) hb)
                   have n4_ := a9_ (below_step (bp9 HB.out) hb)
                   clear HO111 BK104 BK105 HB
                   revert n0_ n1_ n2_ n3_ n4_; intro HO111 HO114 BK104 BK105 HB
                   clear hb ho43
                   refine hK.out _ _ ⟨(blk_cell BK104.out 0).trans rfl, (blk_cell BK104.out 1).trans rfl, (blk_cell BK104.out 2).trans rfl, (blk_cell BK104.out 3).trans rfl, (blk_cell BK104.out 4).trans rfl, (blk_cell BK104.out 5).trans rfl, (blk_cell BK104.out 6).trans rfl⟩ (fun hHeld => ?_)
                   clear hK K
                   refine norm_ (a' := ?_) ?_ ?_
                   rotate_left
                   ·show Act.put _ (some 57) _ = _
                    exact put9
                   exact norm_ (by first | (simp only [putAll, Act.put, List.setIfInBounds_toArray, List.set_cons_zero, List.set_cons_succ]; done) | (simp only [putAll, Act.put, List.setIfInBounds_toArray, List.set_cons_zero, List.set_cons_succ]; rfl)) (hJ0_2_4 (v107, v110, v113) _ ⟨hHeld, (by (with_reducible repeat (first | apply Kd.R_alloc | apply Kd.R_drewN | apply Kd.R_drew)); exact Kd.R_mono HO111.out (fun _ hk => ⟨hk.2, hk.1⟩)), (by (with_reducible repeat (first | apply Kd.R_alloc | apply Kd.R_drewN | apply Kd.R_drew)); exact Kd.R_mono HO114.out (fun _ hk => ⟨hk.1.2, hk.2⟩)), (kp9 BK104.out), (kp9 BK105.out), (bp9 HB.out)⟩)
                  ·skip
                   refine box_step ?hg (N := 14) ?hd (cs := #[.slice none 0 0, .slice none 0 0, .slice none 0 0, .slice none 0 0, .slice none 0 0, .slice none 0 0, .slice none 0 0]) (t := 31) ?hr ?_; (case hd => rfl); (case hg => rfl); (case hr => first | (go_simp; done) | (go_simp; rfl))
                   intro gb118 hg w42 hbox hb
                   have n0_ := a9_ (Kd.R_below (rp9 HO111.out) hb)
                   have n1_ := a9_ (blk_below (kp9 BK104.out) hb)
                   have n2_ := a9_ (blk_below (kp9 BK105.out) hb)
                   have n3_ := a9_ (below_step (bp9 HB.out) hb)
                   have n4_ := a9_ (hbox)
                   have n5_ := a9_ ((by rw [hg]; exact (below_size (bp9 HB.out)) : w.heap.size ≤ gb118))
                   have n6_ := n5_
                   have n7_ := a9_ ((by rw [hg]; exact Nat.ne_of_lt (blk_lt (g := gb104) (o := .cells #[.int .i64 0, .int .i64 2, .int .i64 ((rd_T26 l0 (ji11)).f2), .int .i64 ((rd_T26 l0 (ji11)).f3), .bool false, .bool false, .bool false] 26 (0, 0)) (kp9 BK104.out)) : gb104 ≠ gb118))
                   have n8_ := a9_ ((by rw [hg]; exact Nat.ne_of_gt (blk_lt (g := gb104) (o := .cells #[.int .i64 0, .int .i64 2, .int .i64 ((rd_T26 l0 (ji11)).f2), .int .i64 ((rd_T26 l0 (ji11)).f3), .bool false, .bool false, .bool false] 26 (0, 0)) (kp9 BK104.out)) : gb118 ≠ gb104))
                   have n9_ := a9_ ((by rw [hg]; exact Nat.ne_of_lt (blk_lt (g := gb105) (o := .cells #[.slice (some ad102) l0.length c0, .slice none 0 0, .slice none 0 0, .slice none 0 0, .slice none 0 0, .slice none 0 0, .slice none 0 0] 31 (0, 0)) (kp9 BK105.out)) : gb105 ≠ gb118))
                   have n10_ := a9_ ((by rw [hg]; exact Nat.ne_of_gt (blk_lt (g := gb105) (o := .cells #[.slice (some ad102) l0.length c0, .slice none 0 0, .slice none 0 0, .slice none 0 0, .slice none 0 0, .slice none 0 0, .slice none 0 0] 31 (0, 0)) (kp9 BK105.out)) : gb118 ≠ gb105))
                   clear HO111 BK104 BK105 HB
                   revert n0_ n1_ n2_ n3_ n4_ n5_ n6_ n7_ n8_ n9_ n10_; intro HO111 BK104 BK105 HB BK118 GW118 GE118 NB104_118 NB118_104 NB105_118 NB118_105
                   clear hb hbox hg
                   refine hK.out _ _ ⟨(blk_cell BK104.out 0).trans rfl, (blk_cell BK104.out 1).trans rfl, (blk_cell BK104.out 2).trans rfl, (blk_cell BK104.out 3).trans rfl, (blk_cell BK104.out 4).trans rfl, (blk_cell BK104.out 5).trans rfl, (blk_cell BK104.out 6).trans rfl⟩ (fun hHeld => ?_)
                   clear hK K
                   refine norm_ (a' := ?_) ?_ ?_
                   rotate_left
                   ·show Act.put _ (some 14) _ = _
                    exact put9
                   exact norm_ (by first | (simp only [putAll, Act.put, List.setIfInBounds_toArray, List.set_cons_zero, List.set_cons_succ]; done) | (simp only [putAll, Act.put, List.setIfInBounds_toArray, List.set_cons_zero, List.set_cons_succ]; rfl)) (hJ0_2_7 (v107, v110, gb118) _ ⟨hHeld, (rp9 HO111.out), (kp9 BK104.out), (kp9 BK105.out), (kp9 BK118.out), GW118.out, GE118.out, NB104_118.out, NB118_104.out, NB105_118.out, NB118_105.out, (bp9 HB.out)⟩)
                ·skip
                 rintro ⟨v107, v113, gb118⟩ w43 ⟨hS_, h0_, h1_, h2_, h3_, h4_, h5_, h6_, h7_, h8_, h9_, h10_, h11_⟩
                 have n0_ : Aside0 (Kd.R k26 26 w43 w.heap.size (fun k_ => some k_ ≠ (v113 : Value).ownBlock ∧ k_ ≠ gb104) v107 y106) := ⟨h0_⟩
                 have n1_ : Aside0 (Kd.R k26 26 w43 w.heap.size (fun k_ => some k_ ≠ (v107 : Value).ownBlock ∧ k_ ≠ gb104) v113 y112) := ⟨h1_⟩
                 have n2_ : Aside0 (w43.heap[gb104]? = some (.cells #[.int .i64 0, .int .i64 2, .int .i64 ((rd_T26 l0 (ji11)).f2), .int .i64 ((rd_T26 l0 (ji11)).f3), .bool false, .bool false, .bool false] 26 (0, 0))) := ⟨h2_⟩
                 have n3_ : Aside0 (w43.heap[gb105]? = some (.cells #[.slice (some ad102) l0.length c0, .slice none 0 0, .slice none 0 0, .slice none 0 0, .slice none 0 0, .slice none 0 0, .slice none 0 0] 31 (0, 0))) := ⟨h3_⟩
                 have n4_ : Aside0 (w43.heap[gb118]? = some (.cells #[.slice none 0 0, .slice none 0 0, .slice none 0 0, .slice none 0 0, .slice none 0 0, .slice none 0 0, .slice none 0 0] 31 (0, 0))) := ⟨h4_⟩
                 have n5_ : Aside0 (w.heap.size ≤ gb118) := ⟨h5_⟩
                 have n6_ : Aside0 (w.heap.size ≤ gb118) := ⟨h6_⟩
                 have n7_ : Aside0 (gb104 ≠ gb118) := ⟨h7_⟩
                 have n8_ : Aside0 (gb118 ≠ gb104) := ⟨h8_⟩
                 have n9_ : Aside0 (gb105 ≠ gb118) := ⟨h9_⟩
                 have n10_ : Aside0 (gb118 ≠ gb105) := ⟨h10_⟩
                 have n11_ : Aside0 (Below w.heap.size w w43) := ⟨h11_⟩
                 clear BK104 BK105 HB
                 clear h0_ h1_ h2_ h3_ h4_ h5_ h6_ h7_ h8_ h9_ h10_ h11_
                 revert n0_ n1_ n2_ n3_ n4_ n5_ n6_ n7_ n8_ n9_ n10_ n11_; intro HO108 HO114 BK104 BK105 BK118 GW118 GE118 NB104_118 NB118_104 NB105_118 NB118_105 HB
                 have hHeld : w43.cell? ⟨gb104, 0, none⟩ = some (.int .i64 0) ∧ w43.cell? ⟨gb104, 1, none⟩ = some (.int .i64 2) ∧ w43.cell? ⟨gb104, 2, none⟩ = some (.int .i64 ((rd_T26 l0 (ji11)).f2)) ∧ w43.cell? ⟨gb104, 3, none⟩ = some (.int .i64 ((rd_T26 l0 (ji11)).f3)) ∧ w43.cell? ⟨gb104, 4, none⟩ = some (.bool false) ∧ w43.cell? ⟨gb104, 5, none⟩ = some (.bool false) ∧ w43.cell? ⟨gb104, 6, none⟩ = some (.bool false) := hS_
                 refine norm_ (a' := ?_) ?_ ?_
                 rotate_left
                 ·simp only [putAll, Act.put, List.setIfInBounds_toArray, List.set_cons_zero, List.set_cons_succ]
                  rfl
                 refine one_ (i := 2) (N := some 55) #[i9, i9, i9, i9, i9, o9, o9, i9, o9] rfl rfl (one_of HT_.out (by kernel_rfl)) (by decide) (fun K hK => ?_)
                 refine Kd.R_append_rows_step k26 (w0 := w) w.heap.size (by rfl) (.tmp 53) (.tmp 54) 22 26 (.agg #[(.int .i64 0), (.int .i64 0), (.int .i64 0), (.int .i64 0), (.bool false), (.bool false), (.bool false)]) 40 rfl Try.underlying22 info26 rfl (by decide) (by omega) v107 y106 l0 _ _ _ (fun k_ => some k_ ≠ (v113 : Value).ownBlock ∧ k_ ≠ gb104) (fun _ => False) rfl rfl ?aO ?aR (fun _ _ h => h) (fun _ h => h.elim) ?aF ?aB ?aS ?aL ?_
                 (case aR => exact cp9 HR0.out HB.out)
                 (case aB => exact (bp9 HB.out))
                 (case aF => exact (fun k_ hk => ⟨Kd.fresh' (Kd.R_lt (rp9 HO114.out)) k_ hk, Kd.freshB (g := gb104) (o := .cells #[.int .i64 0, .int .i64 2, .int .i64 ((rd_T26 l0 (ji11)).f2), .int .i64 ((rd_T26 l0 (ji11)).f3), .bool false, .bool false, .bool false] 26 (0, 0)) (kp9 BK104.out) k_ hk⟩))
                 (case aO => exact (rp9 HO108.out))
                 (case aS => exact (below_size (bp9 HB.out)))
                 (case aL => have := LMc15.out; omega)
                 intro v110 w44 ho hb hg hat
                 rw [← Ny109.out] at ho
                 have n0_ := a9_ (blk_grown (g := gb104) (o := .cells #[.int .i64 0, .int .i64 2, .int .i64 ((rd_T26 l0 (ji11)).f2), .int .i64 ((rd_T26 l0 (ji11)).f3), .bool false, .bool false, .bool false] 26 (0, 0)) (kp9 BK104.out) hg (Kd.R_away HO108.out (fun _ hk => hk.2)))
                 have n1_ := a9_ (blk_grown (g := gb105) (o := .cells #[.slice (some ad102) l0.length c0, .slice none 0 0, .slice none 0 0, .slice none 0 0, .slice none 0 0, .slice none 0 0, .slice none 0 0] 31 (0, 0)) (kp9 BK105.out) hg (Kd.R_ne HO108.out BK105.out (by decide)))
                 have n2_ := a9_ (Kd.R_after (ok := (fun k_ => k_ ≠ gb104)) (by (with_reducible repeat (first | apply Kd.R_alloc | apply Kd.R_drewN | apply Kd.R_drew)); exact Kd.R_mono HO114.out (fun _ hk => ⟨hk.2, hk.1⟩)) hg hat)
                 have n3_ := a9_ (blk_grown (g := gb118) (o := .cells #[.slice none 0 0, .slice none 0 0, .slice none 0 0, .slice none 0 0, .slice none 0 0, .slice none 0 0, .slice none 0 0] 31 (0, 0)) (kp9 BK118.out) hg (Kd.R_ne HO108.out BK118.out (by decide)))
                 have n4_ := a9_ (hb)
                 have n5_ := a9_ (ho)
                 clear BK104 BK105 HO114 BK118 HB HO108
                 revert n0_ n1_ n2_ n3_ n4_ n5_; intro BK104 BK105 HO114 BK118 HB HO111
                 clear ho hb hg hat
                 refine hK.out _ _ ⟨(blk_cell BK104.out 0).trans rfl, (blk_cell BK104.out 1).trans rfl, (blk_cell BK104.out 2).trans rfl, (blk_cell BK104.out 3).trans rfl, (blk_cell BK104.out 4).trans rfl, (blk_cell BK104.out 5).trans rfl, (blk_cell BK104.out 6).trans rfl⟩ (fun hHeld => ?_)
                 clear hK K
                 refine norm_ (a' := ?_) ?_ ?_
                 rotate_left
                 ·show Act.put _ (some 55) _ = _
                  exact put9
                 exact norm_ (by first | (simp only [putAll, Act.put, List.setIfInBounds_toArray, List.set_cons_zero, List.set_cons_succ]; done) | (simp only [putAll, Act.put, List.setIfInBounds_toArray, List.set_cons_zero, List.set_cons_succ]; rfl)) (hJ0_2_4_7 (v107, v110, v113, gb118) _ ⟨hHeld, (rp9 HO111.out), (by (with_reducible repeat (first | apply Kd.R_alloc | apply Kd.R_drewN | apply Kd.R_drew)); exact Kd.R_mono HO114.out (fun _ hk => ⟨hk.2, hk.1⟩)), (kp9 BK104.out), (kp9 BK105.out), (kp9 BK118.out), GW118.out, GE118.out, NB104_118.out, NB118_104.out, NB105_118.out, NB118_105.out, (bp9 HB.out)⟩)
               ·skip
                rintro ⟨v107, v110, gb118⟩ w42 ⟨hS_, h0_, h1_, h2_, h3_, h4_, h5_, h6_, h7_, h8_, h9_, h10_⟩
                have n0_ : Aside0 (Kd.R k26 26 w42 w.heap.size (fun k_ => k_ ≠ gb104) v110 y109) := ⟨h0_⟩
                have n1_ : Aside0 (w42.heap[gb104]? = some (.cells #[.int .i64 0, .int .i64 2, .int .i64 ((rd_T26 l0 (ji11)).f2), .int .i64 ((rd_T26 l0 (ji11)).f3), .bool false, .bool false, .bool false] 26 (0, 0))) := ⟨h1_⟩
                have n2_ : Aside0 (w42.heap[gb105]? = some (.cells #[.slice (some ad102) l0.length c0, .slice none 0 0, .slice none 0 0, .slice none 0 0, .slice none 0 0, .slice none 0 0, .slice none 0 0] 31 (0, 0))) := ⟨h2_⟩
                have n3_ : Aside0 (w42.heap[gb118]? = some (.cells #[.slice none 0 0, .slice none 0 0, .slice none 0 0, .slice none 0 0, .slice none 0 0, .slice none 0 0, .slice none 0 0] 31 (0, 0))) := ⟨h3_⟩
                have n4_ : Aside0 (w.heap.size ≤ gb118) := ⟨h4_⟩
                have n5_ : Aside0 (w.heap.size ≤ gb118) := ⟨h5_⟩
                have n6_ : Aside0 (gb104 ≠ gb118) := ⟨h6_⟩
                have n7_ : Aside0 (gb118 ≠ gb104) := ⟨h7_⟩
                have n8_ : Aside0 (gb105 ≠ gb118) := ⟨h8_⟩
                have n9_ : Aside0 (gb118 ≠ gb105) := ⟨h9_⟩
                have n10_ : Aside0 (Below w.heap.size w w42) := ⟨h10_⟩
                clear BK104 BK105 HB
                clear h0_ h1_ h2_ h3_ h4_ h5_ h6_ h7_ h8_ h9_ h10_
                revert n0_ n1_ n2_ n3_ n4_ n5_ n6_ n7_ n8_ n9_ n10_; intro HO111 BK104 BK105 BK118 GW118 GE118 NB104_118 NB118_104 NB105_118 NB118_105 HB
                have hHeld : w42.cell? ⟨gb104, 0, none⟩ = some (.int .i64 0) ∧ w42.cell? ⟨gb104, 1, none⟩ = some (.int .i64 2) ∧ w42.cell? ⟨gb104, 2, none⟩ = some (.int .i64 ((rd_T26 l0 (ji11)).f2)) ∧ w42.cell? ⟨gb104, 3, none⟩ = some (.int .i64 ((rd_T26 l0 (ji11)).f3)) ∧ w42.cell? ⟨gb104, 4, none⟩ = some (.bool false) ∧ w42.cell? ⟨gb104, 5, none⟩ = some (.bool false) ∧ w42.cell? ⟨gb104, 6, none⟩ = some (.bool false) := hS_
                refine norm_ (a' := ?_) ?_ ?_
                rotate_left
                ·simp only [putAll, Act.put, List.setIfInBounds_toArray, List.set_cons_zero, List.set_cons_succ]
                 rfl
                refine one_ (i := 4) (N := some 57) #[i9, i9, i9, i9, i9, o9, o9, i9, o9] rfl rfl (one_of HT_.out (by kernel_rfl)) (by decide) (fun K hK => ?_)
                refine Kd.R_lit_step k26 _ 26 ?hg (N := 57) ?hd (xs := ([(⟨0, 2, (rd_T26 l0 (ji11)).f2, (rd_T26 l0 (ji11)).f3, false, false, false⟩ : S26)] : List (S26))) (inner := [.int .i64 0, .int .i64 2, .int .i64 ((rd_T26 l0 (ji11)).f2), .int .i64 ((rd_T26 l0 (ji11)).f3), .bool false, .bool false, .bool false]) (ok := fun _ => True) (okp := fun _ => True) ?hr ?hp (fun _ hk => hk) trivial (Below.refl _ _) (Nat.le_refl _) (by simp) ?_; (case hd => rfl); (case hg => rfl); (case hr => first | (go_simp; done) | (go_simp; rfl)); (case hp => exact (Reps.c7 (show Kd.M k26 _ _ _ (⟨0, 2, (rd_T26 l0 (ji11)).f2, (rd_T26 l0 (ji11)).f3, false, false, false⟩ : S26) [.int .i64 0, .int .i64 2, .int .i64 ((rd_T26 l0 (ji11)).f2), .int .i64 ((rd_T26 l0 (ji11)).f3), .bool false, .bool false, .bool false] from (k26_mkM _ _ _ (⟨0, 2, (rd_T26 l0 (ji11)).f2, (rd_T26 l0 (ji11)).f3, false, false, false⟩ : S26) )) (Reps.none _ _)))
                intro v113 w43 ho44 hb hg_ hnew_
                clear hg_ hnew_
                (first | rw [← Ny112.out] at ho44 | (simp only [Int.reduceToNat] at ho44; rw [← Ny112.out] at ho44))
                have n0_ := a9_ (Kd.R_elder' (rp9 HO111.out) (Kd.R_base ho44) hb)
                have n1_ := a9_ (Kd.R_lower (Kd.R_newB (Kd.R_new' ho44 (Kd.R_lt (rp9 HO111.out))) (g := gb104) (o := .cells #[.int .i64 0, .int .i64 2, .int .i64 ((rd_T26 l0 (ji11)).f2), .int .i64 ((rd_T26 l0 (ji11)).f3), .bool false, .bool false, .bool false] 26 (0, 0)) (kp9 BK104.out)) (below_size (bp9 HB.out)))
                have n2_ := a9_ (blk_below (kp9 BK104.out) hb)
                have n3_ := a9_ (blk_below (kp9 BK105.out) hb)
                have n4_ := a9_ (blk_below (kp9 BK118.out) hb)
                have n5_ := a9_ (below_step (bp9 HB.out) hb)
                clear HO111 BK104 BK105 BK118 HB
                revert n0_ n1_ n2_ n3_ n4_ n5_; intro HO111 HO114 BK104 BK105 BK118 HB
                clear hb ho44
                refine hK.out _ _ ⟨(blk_cell BK104.out 0).trans rfl, (blk_cell BK104.out 1).trans rfl, (blk_cell BK104.out 2).trans rfl, (blk_cell BK104.out 3).trans rfl, (blk_cell BK104.out 4).trans rfl, (blk_cell BK104.out 5).trans rfl, (blk_cell BK104.out 6).trans rfl⟩ (fun hHeld => ?_)
                clear hK K
                refine norm_ (a' := ?_) ?_ ?_
                rotate_left
                ·show Act.put _ (some 57) _ = _
                 exact put9
                exact norm_ (by first | (simp only [putAll, Act.put, List.setIfInBounds_toArray, List.set_cons_zero, List.set_cons_succ]; done) | (simp only [putAll, Act.put, List.setIfInBounds_toArray, List.set_cons_zero, List.set_cons_succ]; rfl)) (hJ0_2_4_7 (v107, v110, v113, gb118) _ ⟨hHeld, (by (with_reducible repeat (first | apply Kd.R_alloc | apply Kd.R_drewN | apply Kd.R_drew)); exact Kd.R_mono HO111.out (fun _ hk => ⟨hk.2, hk.1⟩)), (by (with_reducible repeat (first | apply Kd.R_alloc | apply Kd.R_drewN | apply Kd.R_drew)); exact Kd.R_mono HO114.out (fun _ hk => ⟨hk.1.2, hk.2⟩)), (kp9 BK104.out), (kp9 BK105.out), (kp9 BK118.out), GW118.out, GE118.out, NB104_118.out, NB118_104.out, NB105_118.out, NB118_105.out, (bp9 HB.out)⟩)
              ·skip
               rintro ⟨v107, v110, v113⟩ w43 ⟨hS_, h0_, h1_, h2_, h3_, h4_⟩
               have n0_ : Aside0 (Kd.R k26 26 w43 w.heap.size (fun k_ => some k_ ≠ (v113 : Value).ownBlock ∧ k_ ≠ gb104) v110 y109) := ⟨h0_⟩
               have n1_ : Aside0 (Kd.R k26 26 w43 w.heap.size (fun k_ => some k_ ≠ (v110 : Value).ownBlock ∧ k_ ≠ gb104) v113 y112) := ⟨h1_⟩
               have n2_ : Aside0 (w43.heap[gb104]? = some (.cells #[.int .i64 0, .int .i64 2, .int .i64 ((rd_T26 l0 (ji11)).f2), .int .i64 ((rd_T26 l0 (ji11)).f3), .bool false, .bool false, .bool false] 26 (0, 0))) := ⟨h2_⟩
               have n3_ : Aside0 (w43.heap[gb105]? = some (.cells #[.slice (some ad102) l0.length c0, .slice none 0 0, .slice none 0 0, .slice none 0 0, .slice none 0 0, .slice none 0 0, .slice none 0 0] 31 (0, 0))) := ⟨h3_⟩
               have n4_ : Aside0 (Below w.heap.size w w43) := ⟨h4_⟩
               clear BK104 BK105 HB
               clear h0_ h1_ h2_ h3_ h4_
               revert n0_ n1_ n2_ n3_ n4_; intro HO111 HO114 BK104 BK105 HB
               have hHeld : w43.cell? ⟨gb104, 0, none⟩ = some (.int .i64 0) ∧ w43.cell? ⟨gb104, 1, none⟩ = some (.int .i64 2) ∧ w43.cell? ⟨gb104, 2, none⟩ = some (.int .i64 ((rd_T26 l0 (ji11)).f2)) ∧ w43.cell? ⟨gb104, 3, none⟩ = some (.int .i64 ((rd_T26 l0 (ji11)).f3)) ∧ w43.cell? ⟨gb104, 4, none⟩ = some (.bool false) ∧ w43.cell? ⟨gb104, 5, none⟩ = some (.bool false) ∧ w43.cell? ⟨gb104, 6, none⟩ = some (.bool false) := hS_
               obtain ⟨Ao45, co45, eo45⟩ := Kd.R_slice HO114.out
               (first | subst eo45 | (injection eo45 with f1_ f2_ f3_; have f4_ := f1_.symm; have f5_ := f3_.symm; clear f1_ f2_ f3_; subst f4_; subst f5_))
               refine norm_ (a' := ?_) ?_ ?_
               rotate_left
               ·simp only [putAll, Act.put, List.setIfInBounds_toArray, List.set_cons_zero, List.set_cons_succ]
                rfl
               refine two_ (i := 5) (j := 7) (Ni := some 58) (Nj := some 14) #[true, true, true, true, true, true, false, false, false] #[true, true, true, true, true, false, false, true, false] rfl rfl rfl rfl (two_of HT_.out (by kernel_rfl)) (by decide) (by decide) (fun K hK => ?_) (fun K hK => ?_)
               ·skip
                refine Kd.R_append_rows_step k26 (w0 := w) w.heap.size (by rfl) (.tmp 55) (.tmp 57) 22 26 (.agg #[(.int .i64 0), (.int .i64 0), (.int .i64 0), (.int .i64 0), (.bool false), (.bool false), (.bool false)]) 40 rfl Try.underlying22 info26 rfl (by decide) (by omega) v110 y109 y112 _ _ _ (fun k_ => some k_ ≠ (.slice Ao45 y112.length co45 : Value).ownBlock ∧ k_ ≠ gb104) (fun _ => False) rfl rfl ?aO ?aR (fun _ _ h => h) (fun _ h => h.elim) ?aF ?aB ?aS ?aL ?_
                (case aR => exact lp9 (Kd.R_reads' HO114.out).2.2)
                (case aB => exact (bp9 HB.out))
                (case aF => exact (fun k_ hk => ⟨Kd.fresh' (Kd.R_lt (rp9 HO114.out)) k_ hk, Kd.freshB (g := gb104) (o := .cells #[.int .i64 0, .int .i64 2, .int .i64 ((rd_T26 l0 (ji11)).f2), .int .i64 ((rd_T26 l0 (ji11)).f3), .bool false, .bool false, .bool false] 26 (0, 0)) (kp9 BK104.out) k_ hk⟩))
                (case aO => exact (rp9 HO111.out))
                (case aS => exact (below_size (bp9 HB.out)))
                (case aL => have := LMc16.out; omega)
                intro v116 w44 ho hb hg hat
                rw [← Ny115.out] at ho
                have n0_ := a9_ (blk_grown (g := gb104) (o := .cells #[.int .i64 0, .int .i64 2, .int .i64 ((rd_T26 l0 (ji11)).f2), .int .i64 ((rd_T26 l0 (ji11)).f3), .bool false, .bool false, .bool false] 26 (0, 0)) (kp9 BK104.out) hg (Kd.R_away HO111.out (fun _ hk => hk.2)))
                have n1_ := a9_ (blk_grown (g := gb105) (o := .cells #[.slice (some ad102) l0.length c0, .slice none 0 0, .slice none 0 0, .slice none 0 0, .slice none 0 0, .slice none 0 0, .slice none 0 0] 31 (0, 0)) (kp9 BK105.out) hg (Kd.R_ne HO111.out BK105.out (by decide)))
                have n2_ := a9_ (Kd.R_after (ok := (fun k_ => k_ ≠ gb104)) (by (with_reducible repeat (first | apply Kd.R_alloc | apply Kd.R_drewN | apply Kd.R_drew)); exact Kd.R_mono HO114.out (fun _ hk => ⟨hk.2, hk.1⟩)) hg hat)
                have n3_ := a9_ (hb)
                have n4_ := a9_ (ho)
                clear BK104 BK105 HO114 HB HO111
                revert n0_ n1_ n2_ n3_ n4_; intro BK104 BK105 HO114 HB HO117
                clear ho hb hg hat
                refine hK.out _ _ ⟨(blk_cell BK104.out 0).trans rfl, (blk_cell BK104.out 1).trans rfl, (blk_cell BK104.out 2).trans rfl, (blk_cell BK104.out 3).trans rfl, (blk_cell BK104.out 4).trans rfl, (blk_cell BK104.out 5).trans rfl, (blk_cell BK104.out 6).trans rfl⟩ (fun hHeld => ?_)
                clear hK K
                refine norm_ (a' := ?_) ?_ ?_
                rotate_left
                ·show Act.put _ (some 58) _ = _
                 exact put9
                exact norm_ (by first | (simp only [putAll, Act.put, List.setIfInBounds_toArray, List.set_cons_zero, List.set_cons_succ]; done) | (simp only [putAll, Act.put, List.setIfInBounds_toArray, List.set_cons_zero, List.set_cons_succ]; rfl)) (hJ0_2_4_5 (v107, v110, .slice Ao45 y112.length co45, v116) _ ⟨hHeld, (by (with_reducible repeat (first | apply Kd.R_alloc | apply Kd.R_drewN | apply Kd.R_drew)); exact Kd.R_mono HO114.out (fun _ hk => ⟨hk.2, hk.1⟩)), (rp9 HO117.out), (kp9 BK104.out), (kp9 BK105.out), (bp9 HB.out)⟩)
               ·skip
                refine box_step ?hg (N := 14) ?hd (cs := #[.slice none 0 0, .slice none 0 0, .slice none 0 0, .slice none 0 0, .slice none 0 0, .slice none 0 0, .slice none 0 0]) (t := 31) ?hr ?_; (case hd => rfl); (case hg => rfl); (case hr => first | (go_simp; done) | (go_simp; rfl))
                intro gb118 hg w44 hbox hb
                have n0_ := a9_ (Kd.R_below (rp9 HO111.out) hb)
                have n1_ := a9_ (Kd.R_below (rp9 HO114.out) hb)
                have n2_ := a9_ (blk_below (kp9 BK104.out) hb)
                have n3_ := a9_ (blk_below (kp9 BK105.out) hb)
                have n4_ := a9_ (below_step (bp9 HB.out) hb)
                have n5_ := a9_ (hbox)
                have n6_ := a9_ ((by rw [hg]; exact (below_size (bp9 HB.out)) : w.heap.size ≤ gb118))
                have n7_ := n6_
                have n8_ := a9_ ((by rw [hg]; exact Nat.ne_of_lt (blk_lt (g := gb104) (o := .cells #[.int .i64 0, .int .i64 2, .int .i64 ((rd_T26 l0 (ji11)).f2), .int .i64 ((rd_T26 l0 (ji11)).f3), .bool false, .bool false, .bool false] 26 (0, 0)) (kp9 BK104.out)) : gb104 ≠ gb118))
                have n9_ := a9_ ((by rw [hg]; exact Nat.ne_of_gt (blk_lt (g := gb104) (o := .cells #[.int .i64 0, .int .i64 2, .int .i64 ((rd_T26 l0 (ji11)).f2), .int .i64 ((rd_T26 l0 (ji11)).f3), .bool false, .bool false, .bool false] 26 (0, 0)) (kp9 BK104.out)) : gb118 ≠ gb104))
                have n10_ := a9_ ((by rw [hg]; exact Nat.ne_of_lt (blk_lt (g := gb105) (o := .cells #[.slice (some ad102) l0.length c0, .slice none 0 0, .slice none 0 0, .slice none 0 0, .slice none 0 0, .slice none 0 0, .slice none 0 0] 31 (0, 0)) (kp9 BK105.out)) : gb105 ≠ gb118))
                have n11_ := a9_ ((by rw [hg]; exact Nat.ne_of_gt (blk_lt (g := gb105) (o := .cells #[.slice (some ad102) l0.length c0, .slice none 0 0, .slice none 0 0, .slice none 0 0, .slice none 0 0, .slice none 0 0, .slice none 0 0] 31 (0, 0)) (kp9 BK105.out)) : gb118 ≠ gb105))
                clear HO111 HO114 BK104 BK105 HB
                revert n0_ n1_ n2_ n3_ n4_ n5_ n6_ n7_ n8_ n9_ n10_ n11_; intro HO111 HO114 BK104 BK105 HB BK118 GW118 GE118 NB104_118 NB118_104 NB105_118 NB118_105
                clear hb hbox hg
                refine hK.out _ _ ⟨(blk_cell BK104.out 0).trans rfl, (blk_cell BK104.out 1).trans rfl, (blk_cell BK104.out 2).trans rfl, (blk_cell BK104.out 3).trans rfl, (blk_cell BK104.out 4).trans rfl, (blk_cell BK104.out 5).trans rfl, (blk_cell BK104.out 6).trans rfl⟩ (fun hHeld => ?_)
                clear hK K
                refine norm_ (a' := ?_) ?_ ?_
                rotate_left
                ·show Act.put _ (some 14) _ = _
                 exact put9
                exact norm_ (by first | (simp only [putAll, Act.put, List.setIfInBounds_toArray, List.set_cons_zero, List.set_cons_succ]; done) | (simp only [putAll, Act.put, List.setIfInBounds_toArray, List.set_cons_zero, List.set_cons_succ]; rfl)) (hJ0_2_4_7 (v107, v110, .slice Ao45 y112.length co45, gb118) _ ⟨hHeld, (rp9 HO111.out), (rp9 HO114.out), (kp9 BK104.out), (kp9 BK105.out), (kp9 BK118.out), GW118.out, GE118.out, NB104_118.out, NB118_104.out, NB105_118.out, NB118_105.out, (bp9 HB.out)⟩)
             ·skip
              rintro ⟨v107, v110, v113, gb118⟩ w44 ⟨hS_, h0_, h1_, h2_, h3_, h4_, h5_, h6_, h7_, h8_, h9_, h10_, h11_⟩
              have n0_ : Aside0 (Kd.R k26 26 w44 w.heap.size (fun k_ => some k_ ≠ (v113 : Value).ownBlock ∧ k_ ≠ gb104) v110 y109) := ⟨h0_⟩
              have n1_ : Aside0 (Kd.R k26 26 w44 w.heap.size (fun k_ => some k_ ≠ (v110 : Value).ownBlock ∧ k_ ≠ gb104) v113 y112) := ⟨h1_⟩
              have n2_ : Aside0 (w44.heap[gb104]? = some (.cells #[.int .i64 0, .int .i64 2, .int .i64 ((rd_T26 l0 (ji11)).f2), .int .i64 ((rd_T26 l0 (ji11)).f3), .bool false, .bool false, .bool false] 26 (0, 0))) := ⟨h2_⟩
              have n3_ : Aside0 (w44.heap[gb105]? = some (.cells #[.slice (some ad102) l0.length c0, .slice none 0 0, .slice none 0 0, .slice none 0 0, .slice none 0 0, .slice none 0 0, .slice none 0 0] 31 (0, 0))) := ⟨h3_⟩
              have n4_ : Aside0 (w44.heap[gb118]? = some (.cells #[.slice none 0 0, .slice none 0 0, .slice none 0 0, .slice none 0 0, .slice none 0 0, .slice none 0 0, .slice none 0 0] 31 (0, 0))) := ⟨h4_⟩
              have n5_ : Aside0 (w.heap.size ≤ gb118) := ⟨h5_⟩
              have n6_ : Aside0 (w.heap.size ≤ gb118) := ⟨h6_⟩
              have n7_ : Aside0 (gb104 ≠ gb118) := ⟨h7_⟩
              have n8_ : Aside0 (gb118 ≠ gb104) := ⟨h8_⟩
              have n9_ : Aside0 (gb105 ≠ gb118) := ⟨h9_⟩
              have n10_ : Aside0 (gb118 ≠ gb105) := ⟨h10_⟩
              have n11_ : Aside0 (Below w.heap.size w w44) := ⟨h11_⟩
              clear BK104 BK105 HB
              clear h0_ h1_ h2_ h3_ h4_ h5_ h6_ h7_ h8_ h9_ h10_ h11_
              revert n0_ n1_ n2_ n3_ n4_ n5_ n6_ n7_ n8_ n9_ n10_ n11_; intro HO111 HO114 BK104 BK105 BK118 GW118 GE118 NB104_118 NB118_104 NB105_118 NB118_105 HB
              have hHeld : w44.cell? ⟨gb104, 0, none⟩ = some (.int .i64 0) ∧ w44.cell? ⟨gb104, 1, none⟩ = some (.int .i64 2) ∧ w44.cell? ⟨gb104, 2, none⟩ = some (.int .i64 ((rd_T26 l0 (ji11)).f2)) ∧ w44.cell? ⟨gb104, 3, none⟩ = some (.int .i64 ((rd_T26 l0 (ji11)).f3)) ∧ w44.cell? ⟨gb104, 4, none⟩ = some (.bool false) ∧ w44.cell? ⟨gb104, 5, none⟩ = some (.bool false) ∧ w44.cell? ⟨gb104, 6, none⟩ = some (.bool false) := hS_
              obtain ⟨Ao46, co46, eo46⟩ := Kd.R_slice HO114.out
              (first | subst eo46 | (injection eo46 with f1_ f2_ f3_; have f4_ := f1_.symm; have f5_ := f3_.symm; clear f1_ f2_ f3_; subst f4_; subst f5_))
              refine norm_ (a' := ?_) ?_ ?_
              rotate_left
              ·simp only [putAll, Act.put, List.setIfInBounds_toArray, List.set_cons_zero, List.set_cons_succ]
               rfl
              refine one_ (i := 5) (N := some 58) #[i9, i9, i9, i9, i9, i9, o9, i9, o9] rfl rfl (one_of HT_.out (by kernel_rfl)) (by decide) (fun K hK => ?_)
              refine Kd.R_append_rows_step k26 (w0 := w) w.heap.size (by rfl) (.tmp 55) (.tmp 57) 22 26 (.agg #[(.int .i64 0), (.int .i64 0), (.int .i64 0), (.int .i64 0), (.bool false), (.bool false), (.bool false)]) 40 rfl Try.underlying22 info26 rfl (by decide) (by omega) v110 y109 y112 _ _ _ (fun k_ => some k_ ≠ (.slice Ao46 y112.length co46 : Value).ownBlock ∧ k_ ≠ gb104) (fun _ => False) rfl rfl ?aO ?aR (fun _ _ h => h) (fun _ h => h.elim) ?aF ?aB ?aS ?aL ?_
              (case aR => exact lp9 (Kd.R_reads' HO114.out).2.2)
              (case aB => exact (bp9 HB.out))
              (case aF => exact (fun k_ hk => ⟨Kd.fresh' (Kd.R_lt (rp9 HO114.out)) k_ hk, Kd.freshB (g := gb104) (o := .cells #[.int .i64 0, .int .i64 2, .int .i64 ((rd_T26 l0 (ji11)).f2), .int .i64 ((rd_T26 l0 (ji11)).f3), .bool false, .bool false, .bool false] 26 (0, 0)) (kp9 BK104.out) k_ hk⟩))
              (case aO => exact (rp9 HO111.out))
              (case aS => exact (below_size (bp9 HB.out)))
              (case aL => have := LMc16.out; omega)
              intro v116 w45 ho hb hg hat
              rw [← Ny115.out] at ho
              have n0_ := a9_ (blk_grown (g := gb104) (o := .cells #[.int .i64 0, .int .i64 2, .int .i64 ((rd_T26 l0 (ji11)).f2), .int .i64 ((rd_T26 l0 (ji11)).f3), .bool false, .bool false, .bool false] 26 (0, 0)) (kp9 BK104.out) hg (Kd.R_away HO111.out (fun _ hk => hk.2)))
              have n1_ := a9_ (blk_grown (g := gb105) (o := .cells #[.slice (some ad102) l0.length c0, .slice none 0 0, .slice none 0 0, .slice none 0 0, .slice none 0 0, .slice none 0 0, .slice none 0 0] 31 (0, 0)) (kp9 BK105.out) hg (Kd.R_ne HO111.out BK105.out (by decide)))
              have n2_ := a9_ (Kd.R_after (ok := (fun k_ => k_ ≠ gb104)) (by (with_reducible repeat (first | apply Kd.R_alloc | apply Kd.R_drewN | apply Kd.R_drew)); exact Kd.R_mono HO114.out (fun _ hk => ⟨hk.2, hk.1⟩)) hg hat)
              have n3_ := a9_ (blk_grown (g := gb118) (o := .cells #[.slice none 0 0, .slice none 0 0, .slice none 0 0, .slice none 0 0, .slice none 0 0, .slice none 0 0, .slice none 0 0] 31 (0, 0)) (kp9 BK118.out) hg (Kd.R_ne HO111.out BK118.out (by decide)))
              have n4_ := a9_ (hb)
              have n5_ := a9_ (ho)
              clear BK104 BK105 HO114 BK118 HB HO111
              revert n0_ n1_ n2_ n3_ n4_ n5_; intro BK104 BK105 HO114 BK118 HB HO117
              clear ho hb hg hat
              refine hK.out _ _ ⟨(blk_cell BK104.out 0).trans rfl, (blk_cell BK104.out 1).trans rfl, (blk_cell BK104.out 2).trans rfl, (blk_cell BK104.out 3).trans rfl, (blk_cell BK104.out 4).trans rfl, (blk_cell BK104.out 5).trans rfl, (blk_cell BK104.out 6).trans rfl⟩ (fun hHeld => ?_)
              clear hK K
              refine norm_ (a' := ?_) ?_ ?_
              rotate_left
              ·show Act.put _ (some 58) _ = _
               exact put9
              exact norm_ (by first | (simp only [putAll, Act.put, List.setIfInBounds_toArray, List.set_cons_zero, List.set_cons_succ]; done) | (simp only [putAll, Act.put, List.setIfInBounds_toArray, List.set_cons_zero, List.set_cons_succ]; rfl)) (hJ0_2_4_5_7 (v107, v110, .slice Ao46 y112.length co46, v116, gb118) _ ⟨hHeld, (by (with_reducible repeat (first | apply Kd.R_alloc | apply Kd.R_drewN | apply Kd.R_drew)); exact Kd.R_mono HO114.out (fun _ hk => ⟨hk.2, hk.1⟩)), (rp9 HO117.out), (kp9 BK104.out), (kp9 BK105.out), (kp9 BK118.out), GW118.out, GE118.out, NB104_118.out, NB118_104.out, NB105_118.out, NB118_105.out, (bp9 HB.out)⟩)
            ·skip
             rintro ⟨v107, v110, v113, v116⟩ w45 ⟨hS_, h0_, h1_, h2_, h3_, h4_⟩
             have n0_ : Aside0 (Kd.R k26 26 w45 w.heap.size (fun k_ => some k_ ≠ (v116 : Value).ownBlock ∧ k_ ≠ gb104) v113 y112) := ⟨h0_⟩
             have n1_ : Aside0 (Kd.R k26 26 w45 w.heap.size (fun k_ => some k_ ≠ (v113 : Value).ownBlock ∧ k_ ≠ gb104) v116 y115) := ⟨h1_⟩
             have n2_ : Aside0 (w45.heap[gb104]? = some (.cells #[.int .i64 0, .int .i64 2, .int .i64 ((rd_T26 l0 (ji11)).f2), .int .i64 ((rd_T26 l0 (ji11)).f3), .bool false, .bool false, .bool false] 26 (0, 0))) := ⟨h2_⟩
             have n3_ : Aside0 (w45.heap[gb105]? = some (.cells #[.slice (some ad102) l0.length c0, .slice none 0 0, .slice none 0 0, .slice none 0 0, .slice none 0 0, .slice none 0 0, .slice none 0 0] 31 (0, 0))) := ⟨h3_⟩
             have n4_ : Aside0 (Below w.heap.size w w45) := ⟨h4_⟩
             clear BK104 BK105 HB
             clear h0_ h1_ h2_ h3_ h4_
             revert n0_ n1_ n2_ n3_ n4_; intro HO114 HO117 BK104 BK105 HB
             have hHeld : w45.cell? ⟨gb104, 0, none⟩ = some (.int .i64 0) ∧ w45.cell? ⟨gb104, 1, none⟩ = some (.int .i64 2) ∧ w45.cell? ⟨gb104, 2, none⟩ = some (.int .i64 ((rd_T26 l0 (ji11)).f2)) ∧ w45.cell? ⟨gb104, 3, none⟩ = some (.int .i64 ((rd_T26 l0 (ji11)).f3)) ∧ w45.cell? ⟨gb104, 4, none⟩ = some (.bool false) ∧ w45.cell? ⟨gb104, 5, none⟩ = some (.bool false) ∧ w45.cell? ⟨gb104, 6, none⟩ = some (.bool false) := hS_
             obtain ⟨Ao46, co46, eo46⟩ := Kd.R_slice HO117.out
             (first | subst eo46 | (injection eo46 with f1_ f2_ f3_; have f4_ := f1_.symm; have f5_ := f3_.symm; clear f1_ f2_ f3_; subst f4_; subst f5_))
             refine norm_ (a' := ?_) ?_ ?_
             rotate_left
             ·simp only [putAll, Act.put, List.setIfInBounds_toArray, List.set_cons_zero, List.set_cons_succ]
              rfl
             refine two_ (i := 6) (j := 7) (Ni := some 59) (Nj := some 14) #[true, true, true, true, true, true, true, false, false] #[true, true, true, true, true, true, false, true, false] rfl rfl rfl rfl (two_of HT_.out (by kernel_rfl)) (by decide) (by decide) (fun K hK => ?_) (fun K hK => ?_)
             ·skip
              refine goes9 Try.func31 (by kernel_rfl) rfl #[.slice Ao46 y115.length co46] (by rfl) rfl rfl ?_
              with_reducible refine (cupolalaw11_made.calls _ _ y115  _ ?side1 ?side2 A17.out).mono ?_
              (case side1 => exact lp9 (Kd.R_reads' HO117.out).2.2)
              (case side2 => exact (Kd.R_reads' HO117.out).2.1)
              rintro e w47 ⟨rfl, hb⟩
              refine ⟨_, rfl, ?_⟩
              have n0_ := a9_ (Kd.R_below (rp9 HO114.out) hb)
              have n1_ := a9_ (Kd.R_below (rp9 HO117.out) hb)
              have n2_ := a9_ (blk_below (kp9 BK104.out) hb)
              have n3_ := a9_ (blk_below (kp9 BK105.out) hb)
              have n4_ := a9_ (below_step (bp9 HB.out) hb)
              clear HO114 HO117 BK104 BK105 HB
              revert n0_ n1_ n2_ n3_ n4_; intro HO114 HO117 BK104 BK105 HB
              (try clear hb)
              refine hK.out _ _ ⟨(blk_cell BK104.out 0).trans rfl, (blk_cell BK104.out 1).trans rfl, (blk_cell BK104.out 2).trans rfl, (blk_cell BK104.out 3).trans rfl, (blk_cell BK104.out 4).trans rfl, (blk_cell BK104.out 5).trans rfl, (blk_cell BK104.out 6).trans rfl⟩ (fun hHeld => ?_)
              clear hK K
              refine norm_ (a' := ?_) ?_ ?_
              rotate_left
              ·show Act.put _ (some 59) _ = _
               exact put9
              exact norm_ (by first | (simp only [putAll, Act.put, List.setIfInBounds_toArray, List.set_cons_zero, List.set_cons_succ]; done) | (simp only [putAll, Act.put, List.setIfInBounds_toArray, List.set_cons_zero, List.set_cons_succ]; rfl)) (hJ0_2_4_5_6 (v107, v110, v113, .slice Ao46 y115.length co46) _ ⟨hHeld, (rp9 HO114.out), (rp9 HO117.out), (kp9 BK104.out), (kp9 BK105.out), (bp9 HB.out)⟩)
             ·skip
              refine box_step ?hg (N := 14) ?hd (cs := #[.slice none 0 0, .slice none 0 0, .slice none 0 0, .slice none 0 0, .slice none 0 0, .slice none 0 0, .slice none 0 0]) (t := 31) ?hr ?_; (case hd => rfl); (case hg => rfl); (case hr => first | (go_simp; done) | (go_simp; rfl))
              intro gb118 hg w46 hbox hb
              have n0_ := a9_ (Kd.R_below (rp9 HO114.out) hb)
              have n1_ := a9_ (Kd.R_below (rp9 HO117.out) hb)
              have n2_ := a9_ (blk_below (kp9 BK104.out) hb)
              have n3_ := a9_ (blk_below (kp9 BK105.out) hb)
              have n4_ := a9_ (below_step (bp9 HB.out) hb)
              have n5_ := a9_ (hbox)
              have n6_ := a9_ ((by rw [hg]; exact (below_size (bp9 HB.out)) : w.heap.size ≤ gb118))
              have n7_ := n6_
              have n8_ := a9_ ((by rw [hg]; exact Nat.ne_of_lt (blk_lt (g := gb104) (o := .cells #[.int .i64 0, .int .i64 2, .int .i64 ((rd_T26 l0 (ji11)).f2), .int .i64 ((rd_T26 l0 (ji11)).f3), .bool false, .bool false, .bool false] 26 (0, 0)) (kp9 BK104.out)) : gb104 ≠ gb118))
              have n9_ := a9_ ((by rw [hg]; exact Nat.ne_of_gt (blk_lt (g := gb104) (o := .cells #[.int .i64 0, .int .i64 2, .int .i64 ((rd_T26 l0 (ji11)).f2), .int .i64 ((rd_T26 l0 (ji11)).f3), .bool false, .bool false, .bool false] 26 (0, 0)) (kp9 BK104.out)) : gb118 ≠ gb104))
              have n10_ := a9_ ((by rw [hg]; exact Nat.ne_of_lt (blk_lt (g := gb105) (o := .cells #[.slice (some ad102) l0.length c0, .slice none 0 0, .slice none 0 0, .slice none 0 0, .slice none 0 0, .slice none 0 0, .slice none 0 0] 31 (0, 0)) (kp9 BK105.out)) : gb105 ≠ gb118))
              have n11_ := a9_ ((by rw [hg]; exact Nat.ne_of_gt (blk_lt (g := gb105) (o := .cells #[.slice (some ad102) l0.length c0, .slice none 0 0, .slice none 0 0, .slice none 0 0, .slice none 0 0, .slice none 0 0, .slice none 0 0] 31 (0, 0)) (kp9 BK105.out)) : gb118 ≠ gb105))
              clear HO114 HO117 BK104 BK105 HB
              revert n0_ n1_ n2_ n3_ n4_ n5_ n6_ n7_ n8_ n9_ n10_ n11_; intro HO114 HO117 BK104 BK105 HB BK118 GW118 GE118 NB104_118 NB118_104 NB105_118 NB118_105
              clear hb hbox hg
              refine hK.out _ _ ⟨(blk_cell BK104.out 0).trans rfl, (blk_cell BK104.out 1).trans rfl, (blk_cell BK104.out 2).trans rfl, (blk_cell BK104.out 3).trans rfl, (blk_cell BK104.out 4).trans rfl, (blk_cell BK104.out 5).trans rfl, (blk_cell BK104.out 6).trans rfl⟩ (fun hHeld => ?_)
              clear hK K
              refine norm_ (a' := ?_) ?_ ?_
              rotate_left
              ·show Act.put _ (some 14) _ = _
               exact put9
              exact norm_ (by first | (simp only [putAll, Act.put, List.setIfInBounds_toArray, List.set_cons_zero, List.set_cons_succ]; done) | (simp only [putAll, Act.put, List.setIfInBounds_toArray, List.set_cons_zero, List.set_cons_succ]; rfl)) (hJ0_2_4_5_7 (v107, v110, v113, .slice Ao46 y115.length co46, gb118) _ ⟨hHeld, (rp9 HO114.out), (rp9 HO117.out), (kp9 BK104.out), (kp9 BK105.out), (kp9 BK118.out), GW118.out, GE118.out, NB104_118.out, NB118_104.out, NB105_118.out, NB118_105.out, (bp9 HB.out)⟩)
           ·skip
            rintro ⟨v107, v110, v113, v116, gb118⟩ w46 ⟨hS_, h0_, h1_, h2_, h3_, h4_, h5_, h6_, h7_, h8_, h9_, h10_, h11_⟩
            have n0_ : Aside0 (Kd.R k26 26 w46 w.heap.size (fun k_ => some k_ ≠ (v116 : Value).ownBlock ∧ k_ ≠ gb104) v113 y112) := ⟨h0_⟩
            have n1_ : Aside0 (Kd.R k26 26 w46 w.heap.size (fun k_ => some k_ ≠ (v113 : Value).ownBlock ∧ k_ ≠ gb104) v116 y115) := ⟨h1_⟩
            have n2_ : Aside0 (w46.heap[gb104]? = some (.cells #[.int .i64 0, .int .i64 2, .int .i64 ((rd_T26 l0 (ji11)).f2), .int .i64 ((rd_T26 l0 (ji11)).f3), .bool false, .bool false, .bool false] 26 (0, 0))) := ⟨h2_⟩
            have n3_ : Aside0 (w46.heap[gb105]? = some (.cells #[.slice (some ad102) l0.length c0, .slice none 0 0, .slice none 0 0, .slice none 0 0, .slice none 0 0, .slice none 0 0, .slice none 0 0] 31 (0, 0))) := ⟨h3_⟩
            have n4_ : Aside0 (w46.heap[gb118]? = some (.cells #[.slice none 0 0, .slice none 0 0, .slice none 0 0, .slice none 0 0, .slice none 0 0, .slice none 0 0, .slice none 0 0] 31 (0, 0))) := ⟨h4_⟩
            have n5_ : Aside0 (w.heap.size ≤ gb118) := ⟨h5_⟩
            have n6_ : Aside0 (w.heap.size ≤ gb118) := ⟨h6_⟩
            have n7_ : Aside0 (gb104 ≠ gb118) := ⟨h7_⟩
            have n8_ : Aside0 (gb118 ≠ gb104) := ⟨h8_⟩
            have n9_ : Aside0 (gb105 ≠ gb118) := ⟨h9_⟩
            have n10_ : Aside0 (gb118 ≠ gb105) := ⟨h10_⟩
            have n11_ : Aside0 (Below w.heap.size w w46) := ⟨h11_⟩
            clear BK104 BK105 HB
            clear h0_ h1_ h2_ h3_ h4_ h5_ h6_ h7_ h8_ h9_ h10_ h11_
            revert n0_ n1_ n2_ n3_ n4_ n5_ n6_ n7_ n8_ n9_ n10_ n11_; intro HO114 HO117 BK104 BK105 BK118 GW118 GE118 NB104_118 NB118_104 NB105_118 NB118_105 HB
            have hHeld : w46.cell? ⟨gb104, 0, none⟩ = some (.int .i64 0) ∧ w46.cell? ⟨gb104, 1, none⟩ = some (.int .i64 2) ∧ w46.cell? ⟨gb104, 2, none⟩ = some (.int .i64 ((rd_T26 l0 (ji11)).f2)) ∧ w46.cell? ⟨gb104, 3, none⟩ = some (.int .i64 ((rd_T26 l0 (ji11)).f3)) ∧ w46.cell? ⟨gb104, 4, none⟩ = some (.bool false) ∧ w46.cell? ⟨gb104, 5, none⟩ = some (.bool false) ∧ w46.cell? ⟨gb104, 6, none⟩ = some (.bool false) := hS_
            obtain ⟨Ao47, co47, eo47⟩ := Kd.R_slice HO117.out
            (first | subst eo47 | (injection eo47 with f1_ f2_ f3_; have f4_ := f1_.symm; have f5_ := f3_.symm; clear f1_ f2_ f3_; subst f4_; subst f5_))
            refine norm_ (a' := ?_) ?_ ?_
            rotate_left
            ·simp only [putAll, Act.put, List.setIfInBounds_toArray, List.set_cons_zero, List.set_cons_succ]
             rfl
            refine one_ (i := 6) (N := some 59) #[i9, i9, i9, i9, i9, i9, i9, i9, o9] rfl rfl (one_of HT_.out (by kernel_rfl)) (by decide) (fun K hK => ?_)
            refine goes9 Try.func31 (by kernel_rfl) rfl #[.slice Ao47 y115.length co47] (by rfl) rfl rfl ?_
            with_reducible refine (cupolalaw11_made.calls _ _ y115  _ ?side1 ?side2 A17.out).mono ?_
            (case side1 => exact lp9 (Kd.R_reads' HO117.out).2.2)
            (case side2 => exact (Kd.R_reads' HO117.out).2.1)
            rintro e w48 ⟨rfl, hb⟩
            refine ⟨_, rfl, ?_⟩
            have n0_ := a9_ (Kd.R_below (rp9 HO114.out) hb)
            have n1_ := a9_ (Kd.R_below (rp9 HO117.out) hb)
            have n2_ := a9_ (blk_below (kp9 BK104.out) hb)
            have n3_ := a9_ (blk_below (kp9 BK105.out) hb)
            have n4_ := a9_ (blk_below (kp9 BK118.out) hb)
            have n5_ := a9_ (below_step (bp9 HB.out) hb)
            clear HO114 HO117 BK104 BK105 BK118 HB
            revert n0_ n1_ n2_ n3_ n4_ n5_; intro HO114 HO117 BK104 BK105 BK118 HB
            (try clear hb)
            refine hK.out _ _ ⟨(blk_cell BK104.out 0).trans rfl, (blk_cell BK104.out 1).trans rfl, (blk_cell BK104.out 2).trans rfl, (blk_cell BK104.out 3).trans rfl, (blk_cell BK104.out 4).trans rfl, (blk_cell BK104.out 5).trans rfl, (blk_cell BK104.out 6).trans rfl⟩ (fun hHeld => ?_)
            clear hK K
            refine norm_ (a' := ?_) ?_ ?_
            rotate_left
            ·show Act.put _ (some 59) _ = _
             exact put9
            exact norm_ (by first | (simp only [putAll, Act.put, List.setIfInBounds_toArray, List.set_cons_zero, List.set_cons_succ]; done) | (simp only [putAll, Act.put, List.setIfInBounds_toArray, List.set_cons_zero, List.set_cons_succ]; rfl)) (hJ0_2_4_5_6_7 (v107, v110, v113, .slice Ao47 y115.length co47, gb118) _ ⟨hHeld, (rp9 HO114.out), (rp9 HO117.out), (kp9 BK104.out), (kp9 BK105.out), (kp9 BK118.out), GW118.out, GE118.out, NB104_118.out, NB118_104.out, NB105_118.out, NB118_105.out, (bp9 HB.out)⟩)
          ·skip
           rintro ⟨v107, v110, v113, v116⟩ w47 ⟨hS_, h0_, h1_, h2_, h3_, h4_⟩
           have n0_ : Aside0 (Kd.R k26 26 w47 w.heap.size (fun k_ => some k_ ≠ (v116 : Value).ownBlock ∧ k_ ≠ gb104) v113 y112) := ⟨h0_⟩
           have n1_ : Aside0 (Kd.R k26 26 w47 w.heap.size (fun k_ => some k_ ≠ (v113 : Value).ownBlock ∧ k_ ≠ gb104) v116 y115) := ⟨h1_⟩
           have n2_ : Aside0 (w47.heap[gb104]? = some (.cells #[.int .i64 0, .int .i64 2, .int .i64 ((rd_T26 l0 (ji11)).f2), .int .i64 ((rd_T26 l0 (ji11)).f3), .bool false, .bool false, .bool false] 26 (0, 0))) := ⟨h2_⟩
           have n3_ : Aside0 (w47.heap[gb105]? = some (.cells #[.slice (some ad102) l0.length c0, .slice none 0 0, .slice none 0 0, .slice none 0 0, .slice none 0 0, .slice none 0 0, .slice none 0 0] 31 (0, 0))) := ⟨h3_⟩
           have n4_ : Aside0 (Below w.heap.size w w47) := ⟨h4_⟩
           clear BK104 BK105 HB
           clear h0_ h1_ h2_ h3_ h4_
           revert n0_ n1_ n2_ n3_ n4_; intro HO114 HO117 BK104 BK105 HB
           have hHeld : w47.cell? ⟨gb104, 0, none⟩ = some (.int .i64 0) ∧ w47.cell? ⟨gb104, 1, none⟩ = some (.int .i64 2) ∧ w47.cell? ⟨gb104, 2, none⟩ = some (.int .i64 ((rd_T26 l0 (ji11)).f2)) ∧ w47.cell? ⟨gb104, 3, none⟩ = some (.int .i64 ((rd_T26 l0 (ji11)).f3)) ∧ w47.cell? ⟨gb104, 4, none⟩ = some (.bool false) ∧ w47.cell? ⟨gb104, 5, none⟩ = some (.bool false) ∧ w47.cell? ⟨gb104, 6, none⟩ = some (.bool false) := hS_
           refine norm_ (a' := ?_) ?_ ?_
           rotate_left
           ·simp only [putAll, Act.put, List.setIfInBounds_toArray, List.set_cons_zero, List.set_cons_succ]
            rfl
           refine one_ (i := 7) (N := some 14) #[i9, i9, i9, i9, i9, i9, i9, i9, o9] rfl rfl (one_of HT_.out (by kernel_rfl)) (by decide) (fun K hK => ?_)
           refine box_step ?hg (N := 14) ?hd (cs := #[.slice none 0 0, .slice none 0 0, .slice none 0 0, .slice none 0 0, .slice none 0 0, .slice none 0 0, .slice none 0 0]) (t := 31) ?hr ?_; (case hd => rfl); (case hg => rfl); (case hr => first | (go_simp; done) | (go_simp; rfl))
           intro gb118 hg w48 hbox hb
           have n0_ := a9_ (Kd.R_below (rp9 HO114.out) hb)
           have n1_ := a9_ (Kd.R_below (rp9 HO117.out) hb)
           have n2_ := a9_ (blk_below (kp9 BK104.out) hb)
           have n3_ := a9_ (blk_below (kp9 BK105.out) hb)
           have n4_ := a9_ (below_step (bp9 HB.out) hb)
           have n5_ := a9_ (hbox)
           have n6_ := a9_ ((by rw [hg]; exact (below_size (bp9 HB.out)) : w.heap.size ≤ gb118))
           have n7_ := n6_
           have n8_ := a9_ ((by rw [hg]; exact Nat.ne_of_lt (blk_lt (g := gb104) (o := .cells #[.int .i64 0, .int .i64 2, .int .i64 ((rd_T26 l0 (ji11)).f2), .int .i64 ((rd_T26 l0 (ji11)).f3), .bool false, .bool false, .bool false] 26 (0, 0)) (kp9 BK104.out)) : gb104 ≠ gb118))
           have n9_ := a9_ ((by rw [hg]; exact Nat.ne_of_gt (blk_lt (g := gb104) (o := .cells #[.int .i64 0, .int .i64 2, .int .i64 ((rd_T26 l0 (ji11)).f2), .int .i64 ((rd_T26 l0 (ji11)).f3), .bool false, .bool false, .bool false] 26 (0, 0)) (kp9 BK104.out)) : gb118 ≠ gb104))
           have n10_ := a9_ ((by rw [hg]; exact Nat.ne_of_lt (blk_lt (g := gb105) (o := .cells #[.slice (some ad102) l0.length c0, .slice none 0 0, .slice none 0 0, .slice none 0 0, .slice none 0 0, .slice none 0 0, .slice none 0 0] 31 (0, 0)) (kp9 BK105.out)) : gb105 ≠ gb118))
           have n11_ := a9_ ((by rw [hg]; exact Nat.ne_of_gt (blk_lt (g := gb105) (o := .cells #[.slice (some ad102) l0.length c0, .slice none 0 0, .slice none 0 0, .slice none 0 0, .slice none 0 0, .slice none 0 0, .slice none 0 0] 31 (0, 0)) (kp9 BK105.out)) : gb118 ≠ gb105))
           clear HO114 HO117 BK104 BK105 HB
           revert n0_ n1_ n2_ n3_ n4_ n5_ n6_ n7_ n8_ n9_ n10_ n11_; intro HO114 HO117 BK104 BK105 HB BK118 GW118 GE118 NB104_118 NB118_104 NB105_118 NB118_105
           clear hb hbox hg
           refine hK.out _ _ ⟨(blk_cell BK104.out 0).trans rfl, (blk_cell BK104.out 1).trans rfl, (blk_cell BK104.out 2).trans rfl, (blk_cell BK104.out 3).trans rfl, (blk_cell BK104.out 4).trans rfl, (blk_cell BK104.out 5).trans rfl, (blk_cell BK104.out 6).trans rfl⟩ (fun hHeld => ?_)
           clear hK K
           refine norm_ (a' := ?_) ?_ ?_
           rotate_left
           ·show Act.put _ (some 14) _ = _
            exact put9
           exact norm_ (by first | (simp only [putAll, Act.put, List.setIfInBounds_toArray, List.set_cons_zero, List.set_cons_succ]; done) | (simp only [putAll, Act.put, List.setIfInBounds_toArray, List.set_cons_zero, List.set_cons_succ]; rfl)) (hJ0_2_4_5_6_7 (v107, v110, v113, v116, gb118) _ ⟨hHeld, (rp9 HO114.out), (rp9 HO117.out), (kp9 BK104.out), (kp9 BK105.out), (kp9 BK118.out), GW118.out, GE118.out, NB104_118.out, NB118_104.out, NB105_118.out, NB118_105.out, (bp9 HB.out)⟩)
         rintro ⟨v107, v110, v113, v116, gb118⟩ w48 ⟨hS_, h0_, h1_, h2_, h3_, h4_, h5_, h6_, h7_, h8_, h9_, h10_, h11_⟩
         have n0_ : Aside0 (Kd.R k26 26 w48 w.heap.size (fun k_ => some k_ ≠ (v116 : Value).ownBlock ∧ k_ ≠ gb104) v113 y112) := ⟨h0_⟩
         have n1_ : Aside0 (Kd.R k26 26 w48 w.heap.size (fun k_ => some k_ ≠ (v113 : Value).ownBlock ∧ k_ ≠ gb104) v116 y115) := ⟨h1_⟩
         have n2_ : Aside0 (w48.heap[gb104]? = some (.cells #[.int .i64 0, .int .i64 2, .int .i64 ((rd_T26 l0 (ji11)).f2), .int .i64 ((rd_T26 l0 (ji11)).f3), .bool false, .bool false, .bool false] 26 (0, 0))) := ⟨h2_⟩
         have n3_ : Aside0 (w48.heap[gb105]? = some (.cells #[.slice (some ad102) l0.length c0, .slice none 0 0, .slice none 0 0, .slice none 0 0, .slice none 0 0, .slice none 0 0, .slice none 0 0] 31 (0, 0))) := ⟨h3_⟩
         have n4_ : Aside0 (w48.heap[gb118]? = some (.cells #[.slice none 0 0, .slice none 0 0, .slice none 0 0, .slice none 0 0, .slice none 0 0, .slice none 0 0, .slice none 0 0] 31 (0, 0))) := ⟨h4_⟩
         have n5_ : Aside0 (w.heap.size ≤ gb118) := ⟨h5_⟩
         have n6_ : Aside0 (w.heap.size ≤ gb118) := ⟨h6_⟩
         have n7_ : Aside0 (gb104 ≠ gb118) := ⟨h7_⟩
         have n8_ : Aside0 (gb118 ≠ gb104) := ⟨h8_⟩
         have n9_ : Aside0 (gb105 ≠ gb118) := ⟨h9_⟩
         have n10_ : Aside0 (gb118 ≠ gb105) := ⟨h10_⟩
         have n11_ : Aside0 (Below w.heap.size w w48) := ⟨h11_⟩
         clear BK104 BK105 HB
         clear h0_ h1_ h2_ h3_ h4_ h5_ h6_ h7_ h8_ h9_ h10_ h11_
         revert n0_ n1_ n2_ n3_ n4_ n5_ n6_ n7_ n8_ n9_ n10_ n11_; intro HO114 HO117 BK104 BK105 BK118 GW118 GE118 NB104_118 NB118_104 NB105_118 NB118_105 HB
         have hHeld : w48.cell? ⟨gb104, 0, none⟩ = some (.int .i64 0) ∧ w48.cell? ⟨gb104, 1, none⟩ = some (.int .i64 2) ∧ w48.cell? ⟨gb104, 2, none⟩ = some (.int .i64 ((rd_T26 l0 (ji11)).f2)) ∧ w48.cell? ⟨gb104, 3, none⟩ = some (.int .i64 ((rd_T26 l0 (ji11)).f3)) ∧ w48.cell? ⟨gb104, 4, none⟩ = some (.bool false) ∧ w48.cell? ⟨gb104, 5, none⟩ = some (.bool false) ∧ w48.cell? ⟨gb104, 6, none⟩ = some (.bool false) := hS_
         obtain ⟨Ao49, co49, eo49⟩ := Kd.R_slice HO117.out
         (first | subst eo49 | (injection eo49 with f1_ f2_ f3_; have f4_ := f1_.symm; have f5_ := f3_.symm; clear f1_ f2_ f3_; subst f4_; subst f5_))
         refine norm_ (a' := ?_) ?_ ?_
         rotate_left
         ·simp only [putAll, Act.put, List.setIfInBounds_toArray, List.set_cons_zero, List.set_cons_succ]
          rfl
         refine one_ (i := 8) (N := none) #[i9, i9, i9, i9, i9, i9, i9, i9, i9] rfl rfl (one_of HT_.out (by kernel_rfl)) (by decide) (fun K hK => ?_)
         have hs50 : w48.cell? ⟨gb118, 0, none⟩ = some (.slice none 0 0) := (blk_cell BK118.out 0).trans rfl
         have hfs50 := blk_frozen BK118.out 0
         have hns50_0 := NB104_118.out
         have hns50_1 := NB105_118.out
         have hms50_0 := NB118_104.out
         have hms50_1 := NB118_105.out
         have hs51 : w48.cell? ⟨gb118, 1, none⟩ = some (.slice none 0 0) := (blk_cell BK118.out 1).trans rfl
         have hfs51 := blk_frozen BK118.out 1
         have hns51_0 := NB104_118.out
         have hns51_1 := NB105_118.out
         have hms51_0 := NB118_104.out
         have hms51_1 := NB118_105.out
         have hs52 : w48.cell? ⟨gb118, 2, none⟩ = some (.slice none 0 0) := (blk_cell BK118.out 2).trans rfl
         have hfs52 := blk_frozen BK118.out 2
         have hns52_0 := NB104_118.out
         have hns52_1 := NB105_118.out
         have hms52_0 := NB118_104.out
         have hms52_1 := NB118_105.out
         have hs53 : w48.cell? ⟨gb118, 3, none⟩ = some (.slice none 0 0) := (blk_cell BK118.out 3).trans rfl
         have hfs53 := blk_frozen BK118.out 3
         have hns53_0 := NB104_118.out
         have hns53_1 := NB105_118.out
         have hms53_0 := NB118_104.out
         have hms53_1 := NB118_105.out
         have hs54 : w48.cell? ⟨gb118, 4, none⟩ = some (.slice none 0 0) := (blk_cell BK118.out 4).trans rfl
         have hfs54 := blk_frozen BK118.out 4
         have hns54_0 := NB104_118.out
         have hns54_1 := NB105_118.out
         have hms54_0 := NB118_104.out
         have hms54_1 := NB118_105.out
         have hs55 : w48.cell? ⟨gb118, 5, none⟩ = some (.slice none 0 0) := (blk_cell BK118.out 5).trans rfl
         have hfs55 := blk_frozen BK118.out 5
         have hns55_0 := NB104_118.out
         have hns55_1 := NB105_118.out
         have hms55_0 := NB118_104.out
         have hms55_1 := NB118_105.out
         have hs56 : w48.cell? ⟨gb118, 6, none⟩ = some (.slice none 0 0) := (blk_cell BK118.out 6).trans rfl
         have hfs56 := blk_frozen BK118.out 6
         have hns56_0 := NB104_118.out
         have hns56_1 := NB105_118.out
         have hms56_0 := NB118_104.out
         have hms56_1 := NB118_105.out
         refine skip_ (w1 := ?_) (by rfl) rfl ?_ ?_
         rotate_left
         ·go_simp
          rfl
         refine hK.out _ _ ⟨((cell_far (p := ⟨gb118, _, none⟩) NB104_118.out _).trans (((cell_far (p := ⟨gb118, _, none⟩) NB104_118.out _).trans (((cell_far (p := ⟨gb118, _, none⟩) NB104_118.out _).trans (((cell_far (p := ⟨gb118, _, none⟩) NB104_118.out _).trans (((cell_far (p := ⟨gb118, _, none⟩) NB104_118.out _).trans (((cell_far (p := ⟨gb118, _, none⟩) NB104_118.out _).trans (((cell_far (p := ⟨gb118, _, none⟩) NB104_118.out _).trans (hHeld.1)))))))))))))), ((cell_far (p := ⟨gb118, _, none⟩) NB104_118.out _).trans (((cell_far (p := ⟨gb118, _, none⟩) NB104_118.out _).trans (((cell_far (p := ⟨gb118, _, none⟩) NB104_118.out _).trans (((cell_far (p := ⟨gb118, _, none⟩) NB104_118.out _).trans (((cell_far (p := ⟨gb118, _, none⟩) NB104_118.out _).trans (((cell_far (p := ⟨gb118, _, none⟩) NB104_118.out _).trans (((cell_far (p := ⟨gb118, _, none⟩) NB104_118.out _).trans (hHeld.2.1)))))))))))))), ((cell_far (p := ⟨gb118, _, none⟩) NB104_118.out _).trans (((cell_far (p := ⟨gb118, _, none⟩) NB104_118.out _).trans (((cell_far (p := ⟨gb118, _, none⟩) NB104_118.out _).trans (((cell_far (p := ⟨gb118, _, none⟩) NB104_118.out _).trans (((cell_far (p := ⟨gb118, _, none⟩) NB104_118.out _).trans (((cell_far (p := ⟨gb118, _, none⟩) NB104_118.out _).trans (((cell_far (p := ⟨gb118, _, none⟩) NB104_118.out _).trans (hHeld.2.2.1)))))))))))))), ((cell_far (p := ⟨gb118, _, none⟩) NB104_118.out _).trans (((cell_far (p := ⟨gb118, _, none⟩) NB104_118.out _).trans (((cell_far (p := ⟨gb118, _, none⟩) NB104_118.out _).trans (((cell_far (p := ⟨gb118, _, none⟩) NB104_118.out _).trans (((cell_far (p := ⟨gb118, _, none⟩) NB104_118.out _).trans (((cell_far (p := ⟨gb118, _, none⟩) NB104_118.out _).trans (((cell_far (p := ⟨gb118, _, none⟩) NB104_118.out _).trans (hHeld.2.2.2.1)))))))))))))), ((cell_far (p := ⟨gb118, _, none⟩) NB104_118.out _).trans (((cell_far (p := ⟨gb118, _, none⟩) NB104_118.out _).trans (((cell_far (p := ⟨gb118, _, none⟩) NB104_118.out _).trans (((cell_far (p := ⟨gb118, _, none⟩) NB104_118.out _).trans (((cell_far (p := ⟨gb118, _, none⟩) NB104_118.out _).trans (((cell_far (p := ⟨gb118, _, none⟩) NB104_118.out _).trans (((cell_far (p := ⟨gb118, _, none⟩) NB104_118.out _).trans (hHeld.2.2.2.2.1)))))))))))))), ((cell_far (p := ⟨gb118, _, none⟩) NB104_118.out _).trans (((cell_far (p := ⟨gb118, _, none⟩) NB104_118.out _).trans (((cell_far (p := ⟨gb118, _, none⟩) NB104_118.out _).trans (((cell_far (p := ⟨gb118, _, none⟩) NB104_118.out _).trans (((cell_far (p := ⟨gb118, _, none⟩) NB104_118.out _).trans (((cell_far (p := ⟨gb118, _, none⟩) NB104_118.out _).trans (((cell_far (p := ⟨gb118, _, none⟩) NB104_118.out _).trans (hHeld.2.2.2.2.2.1)))))))))))))), ((cell_far (p := ⟨gb118, _, none⟩) NB104_118.out _).trans (((cell_far (p := ⟨gb118, _, none⟩) NB104_118.out _).trans (((cell_far (p := ⟨gb118, _, none⟩) NB104_118.out _).trans (((cell_far (p := ⟨gb118, _, none⟩) NB104_118.out _).trans (((cell_far (p := ⟨gb118, _, none⟩) NB104_118.out _).trans (((cell_far (p := ⟨gb118, _, none⟩) NB104_118.out _).trans (((cell_far (p := ⟨gb118, _, none⟩) NB104_118.out _).trans (hHeld.2.2.2.2.2.2))))))))))))))⟩ (fun hHeld => ?_)
         clear hK K
         refine done_ (done_of HT_.out (by kernel_rfl)) ?_
         have hnb57 := NB105_118.out
         have hnc57 := NB118_105.out
         obtain ⟨hcz58_0, hcz58_1, hcz58_2, hcz58_3, hcz58_4, hcz58_5, hcz58_6, hfz58_0, hfz58_1, hfz58_2, hfz58_3, hfz58_4, hfz58_5, hfz58_6⟩ := cz7 BK105.out
         go_upto_region 13 with (first | ((with_reducible refine gate_callee (f := 32) rfl ?_); (with_reducible refine gate_dst (N := 63) rfl ?_); refine goesL_ (some 63) rfl rfl Try.func32 (by kernel_rfl) rfl #[.agg #[.slice (some ad102) l0.length c0, .slice none 0 0, .slice none 0 0, .slice none 0 0, .slice none 0 0, .slice none 0 0, .slice none 0 0], .slice A1 l1.length c1, .int .i64 ji11] rfl (by (try simp only [List.map_toArray, List.map_cons, List.map_nil]); first | done | (simp only [hji11]; rfl) | rfl | (simp only [List.length_drop, List.length_take]; rfl)) ?_; (refine (source_May.calls kj5 _ _ l0 _ _ ([] : List Int) _ _ ([] : List Int) _ _ ([] : List Int) _ _ ([] : List Int) _ _ ([] : List Int) _ _ ([] : List (List Int)) _ _ l1 ji11 t119 _ ?side1 ?side2 ?side3 ?side4 ?side5 ?side6 ?side7 ?side8 ?side9 ?side10 ?side11 ?side12 ?side13 ?side14 ?side15 ?side16 A18.out).mono ?_); (case side1 => exact Kd.C_below HR0.out (bp9 HB.out)); (case side2 => exact HC0.out); (case side3 => exact Kd.C_nil _ _); (case side4 => exact Nat.le_refl _); (case side5 => exact Kd.C_nil _ _); (case side6 => exact Nat.le_refl _); (case side7 => exact Kd.C_nil _ _); (case side8 => exact Nat.le_refl _); (case side9 => exact Kd.C_nil _ _); (case side10 => exact Nat.le_refl _); (case side11 => exact Kd.C_nil _ _); (case side12 => exact Nat.le_refl _); (case side13 => exact Kd.C_nil _ _); (case side14 => exact Nat.le_refl _); (case side15 => exact Kd.C_below HR1.out (bp9 HB.out)); (case side16 => exact HC1.out); rintro e w59 ⟨v120, rfl, ho0, hb⟩; refine ⟨_, rfl, ?_⟩; have n0_ := a9_ (Kd.R_below (by (with_reducible repeat (first | apply Kd.R_alloc | apply Kd.R_drewN | apply Kd.R_drew)); exact (Kd.R_mono (Kd.R_far (p := ⟨gb118, 6, none⟩) (Kd.R_far (p := ⟨gb118, 5, none⟩) (Kd.R_far (p := ⟨gb118, 4, none⟩) (Kd.R_far (p := ⟨gb118, 3, none⟩) (Kd.R_far (p := ⟨gb118, 2, none⟩) (Kd.R_far (p := ⟨gb118, 1, none⟩) (Kd.R_far (p := ⟨gb118, 0, none⟩) (Kd.R_types HO114.out BK118.out (by decide)) (fun _ hk => hk.2) (.slice Ao49 y115.length co49)) (fun _ hk => hk.2) (.slice none 0 0)) (fun _ hk => hk.2) (.slice none 0 0)) (fun _ hk => hk.2) (.slice none 0 0)) (fun _ hk => hk.2) (.slice none 0 0)) (fun _ hk => hk.2) (.slice none 0 0)) (fun _ hk => hk.2) (.slice none 0 0)) (fun _ h_ => h_.1))) hb); have n1_ := a9_ (Kd.R_below (by (with_reducible repeat (first | apply Kd.R_alloc | apply Kd.R_drewN | apply Kd.R_drew)); exact (Kd.R_mono (Kd.R_far (p := ⟨gb118, 6, none⟩) (Kd.R_far (p := ⟨gb118, 5, none⟩) (Kd.R_far (p := ⟨gb118, 4, none⟩) (Kd.R_far (p := ⟨gb118, 3, none⟩) (Kd.R_far (p := ⟨gb118, 2, none⟩) (Kd.R_far (p := ⟨gb118, 1, none⟩) (Kd.R_far (p := ⟨gb118, 0, none⟩) (Kd.R_types HO117.out BK118.out (by decide)) (fun _ hk => hk.2) (.slice Ao49 y115.length co49)) (fun _ hk => hk.2) (.slice none 0 0)) (fun _ hk => hk.2) (.slice none 0 0)) (fun _ hk => hk.2) (.slice none 0 0)) (fun _ hk => hk.2) (.slice none 0 0)) (fun _ hk => hk.2) (.slice none 0 0)) (fun _ hk => hk.2) (.slice none 0 0)) (fun _ h_ => h_.1))) hb); have n2_ := a9_ (Kd.R_lower ho0 (below_size (bp9 HB.out))); have n3_ := a9_ (blk_below (g := gb104) (o := .cells #[.int .i64 0, .int .i64 2, .int .i64 ((rd_T26 l0 (ji11)).f2), .int .i64 ((rd_T26 l0 (ji11)).f3), .bool false, .bool false, .bool false] 26 (0, 0)) (by (with_reducible repeat (first | refine blk_drewN ?_ _ | refine blk_drew ?_ | refine blk_alloc ?_ _)); refine blk_far ?_ NB104_118.out _; (with_reducible repeat (first | refine blk_drewN ?_ _ | refine blk_drew ?_ | refine blk_alloc ?_ _)); refine blk_far ?_ NB104_118.out _; (with_reducible repeat (first | refine blk_drewN ?_ _ | refine blk_drew ?_ | refine blk_alloc ?_ _)); refine blk_far ?_ NB104_118.out _; (with_reducible repeat (first | refine blk_drewN ?_ _ | refine blk_drew ?_ | refine blk_alloc ?_ _)); refine blk_far ?_ NB104_118.out _; (with_reducible repeat (first | refine blk_drewN ?_ _ | refine blk_drew ?_ | refine blk_alloc ?_ _)); refine blk_far ?_ NB104_118.out _; (with_reducible repeat (first | refine blk_drewN ?_ _ | refine blk_drew ?_ | refine blk_alloc ?_ _)); refine blk_far ?_ NB104_118.out _; (with_reducible repeat (first | refine blk_drewN ?_ _ | refine blk_drew ?_ | refine blk_alloc ?_ _)); refine blk_far ?_ NB104_118.out _; (with_reducible repeat (first | refine blk_drewN ?_ _ | refine blk_drew ?_ | refine blk_alloc ?_ _)); exact BK104.out) hb); have n4_ := a9_ (blk_below (g := gb105) (o := .cells #[.slice (some ad102) l0.length c0, .slice none 0 0, .slice none 0 0, .slice none 0 0, .slice none 0 0, .slice none 0 0, .slice none 0 0] 31 (0, 0)) (by (with_reducible repeat (first | refine blk_drewN ?_ _ | refine blk_drew ?_ | refine blk_alloc ?_ _)); refine blk_far ?_ NB105_118.out _; (with_reducible repeat (first | refine blk_drewN ?_ _ | refine blk_drew ?_ | refine blk_alloc ?_ _)); refine blk_far ?_ NB105_118.out _; (with_reducible repeat (first | refine blk_drewN ?_ _ | refine blk_drew ?_ | refine blk_alloc ?_ _)); refine blk_far ?_ NB105_118.out _; (with_reducible repeat (first | refine blk_drewN ?_ _ | refine blk_drew ?_ | refine blk_alloc ?_ _)); refine blk_far ?_ NB105_118.out _; (with_reducible repeat (first | refine blk_drewN ?_ _ | refine blk_drew ?_ | refine blk_alloc ?_ _)); refine blk_far ?_ NB105_118.out _; (with_reducible repeat (first | refine blk_drewN ?_ _ | refine blk_drew ?_ | refine blk_alloc ?_ _)); refine blk_far ?_ NB105_118.out _; (with_reducible repeat (first | refine blk_drewN ?_ _ | refine blk_drew ?_ | refine blk_alloc ?_ _)); refine blk_far ?_ NB105_118.out _; (with_reducible repeat (first | refine blk_drewN ?_ _ | refine blk_drew ?_ | refine blk_alloc ?_ _)); exact BK105.out) hb); have n5_ := a9_ (blk_below (g := gb118) (o := .cells #[.slice Ao49 y115.length co49, .slice none 0 0, .slice none 0 0, .slice none 0 0, .slice none 0 0, .slice none 0 0, .slice none 0 0] 31 (0, 0)) (by (with_reducible repeat (first | refine blk_drewN ?_ _ | refine blk_drew ?_ | refine blk_alloc ?_ _)); refine blk_put (cs := #[.slice Ao49 y115.length co49, .slice none 0 0, .slice none 0 0, .slice none 0 0, .slice none 0 0, .slice none 0 0, .slice none 0 0]) ?_ 6 _ rfl; (with_reducible repeat (first | refine blk_drewN ?_ _ | refine blk_drew ?_ | refine blk_alloc ?_ _)); refine blk_put (cs := #[.slice Ao49 y115.length co49, .slice none 0 0, .slice none 0 0, .slice none 0 0, .slice none 0 0, .slice none 0 0, .slice none 0 0]) ?_ 5 _ rfl; (with_reducible repeat (first | refine blk_drewN ?_ _ | refine blk_drew ?_ | refine blk_alloc ?_ _)); refine blk_put (cs := #[.slice Ao49 y115.length co49, .slice none 0 0, .slice none 0 0, .slice none 0 0, .slice none 0 0, .slice none 0 0, .slice none 0 0]) ?_ 4 _ rfl; (with_reducible repeat (first | refine blk_drewN ?_ _ | refine blk_drew ?_ | refine blk_alloc ?_ _)); refine blk_put (cs := #[.slice Ao49 y115.length co49, .slice none 0 0, .slice none 0 0, .slice none 0 0, .slice none 0 0, .slice none 0 0, .slice none 0 0]) ?_ 3 _ rfl; (with_reducible repeat (first | refine blk_drewN ?_ _ | refine blk_drew ?_ | refine blk_alloc ?_ _)); refine blk_put (cs := #[.slice Ao49 y115.length co49, .slice none 0 0, .slice none 0 0, .slice none 0 0, .slice none 0 0, .slice none 0 0, .slice none 0 0]) ?_ 2 _ rfl; (with_reducible repeat (first | refine blk_drewN ?_ _ | refine blk_drew ?_ | refine blk_alloc ?_ _)); refine blk_put (cs := #[.slice Ao49 y115.length co49, .slice none 0 0, .slice none 0 0, .slice none 0 0, .slice none 0 0, .slice none 0 0, .slice none 0 0]) ?_ 1 _ rfl; (with_reducible repeat (first | refine blk_drewN ?_ _ | refine blk_drew ?_ | refine blk_alloc ?_ _)); refine blk_put (cs := #[.slice none 0 0, .slice none 0 0, .slice none 0 0, .slice none 0 0, .slice none 0 0, .slice none 0 0, .slice none 0 0]) ?_ 0 _ rfl; (with_reducible repeat (first | refine blk_drewN ?_ _ | refine blk_drew ?_ | refine blk_alloc ?_ _)); exact BK118.out) hb); have n6_ := a9_ (below_step (bp9 HB.out) hb); clear HO114; clear HO117; clear BK104; clear BK105; clear BK118; clear HB; have HO114 := n0_; have HO117 := n1_; have HO121 := n2_; have BK104 := n3_; have BK105 := n4_; have BK118 := n5_; have HB := n6_; clear n0_ n1_ n2_ n3_ n4_ n5_ n6_; (try clear hb); (try clear ho0); have hnb60 := NB118_104.out; have hnc60 := NB104_118.out; obtain ⟨hcz61_0, hcz61_1, hcz61_2, hcz61_3, hcz61_4, hcz61_5, hcz61_6, hfz61_0, hfz61_1, hfz61_2, hfz61_3, hfz61_4, hfz61_5, hfz61_6⟩ := cz7 BK118.out) | ((with_reducible refine gate_callee (f := 32) rfl ?_); (with_reducible refine gate_dst (N := 67) rfl ?_); refine goesL_ (some 67) rfl rfl Try.func32 (by kernel_rfl) rfl #[.agg #[.slice Ao49 y115.length co49, .slice none 0 0, .slice none 0 0, .slice none 0 0, .slice none 0 0, .slice none 0 0, .slice none 0 0], .slice A1 l1.length c1, .int .i64 ji11] rfl (by (try simp only [List.map_toArray, List.map_cons, List.map_nil]); first | done | (simp only [hji11]; rfl) | rfl | (simp only [List.length_drop, List.length_take]; rfl)) ?_; (refine (source_May.calls kj5 _ _ y115 _ _ ([] : List Int) _ _ ([] : List Int) _ _ ([] : List Int) _ _ ([] : List Int) _ _ ([] : List Int) _ _ ([] : List (List Int)) _ _ l1 ji11 t122 _ ?side1 ?side2 ?side3 ?side4 ?side5 ?side6 ?side7 ?side8 ?side9 ?side10 ?side11 ?side12 ?side13 ?side14 ?side15 ?side16 A19.out).mono ?_); (case side1 => exact lp9 (Kd.R_reads' HO117.out).2.2); (case side2 => exact (Kd.R_reads' HO117.out).2.1); (case side3 => exact Kd.C_nil _ _); (case side4 => exact Nat.le_refl _); (case side5 => exact Kd.C_nil _ _); (case side6 => exact Nat.le_refl _); (case side7 => exact Kd.C_nil _ _); (case side8 => exact Nat.le_refl _); (case side9 => exact Kd.C_nil _ _); (case side10 => exact Nat.le_refl _); (case side11 => exact Kd.C_nil _ _); (case side12 => exact Nat.le_refl _); (case side13 => exact Kd.C_nil _ _); (case side14 => exact Nat.le_refl _); (case side15 => exact cp9 HR1.out HB.out); (case side16 => exact HC1.out); rintro e w62 ⟨v123, rfl, ho0, hb⟩; refine ⟨_, rfl, ?_⟩; have n0_ := a9_ (Kd.R_below (rp9 HO114.out) hb); have n1_ := a9_ (Kd.R_below (rp9 HO117.out) hb); have n2_ := a9_ (Kd.R_elder' (rp9 HO121.out) (Kd.R_base ho0) hb); have n3_ := a9_ (Kd.R_lower (Kd.R_new' ho0 (Kd.R_lt (rp9 HO121.out))) (below_size (bp9 HB.out))); have n4_ := a9_ (blk_below (kp9 BK104.out) hb); have n5_ := a9_ (blk_below (kp9 BK105.out) hb); have n6_ := a9_ (blk_below (kp9 BK118.out) hb); have n7_ := a9_ (below_step (bp9 HB.out) hb); clear HO114; clear HO117; clear HO121; clear BK104; clear BK105; clear BK118; clear HB; have HO114 := n0_; have HO117 := n1_; have HO121 := n2_; have HO124 := n3_; have BK104 := n4_; have BK105 := n5_; have BK118 := n6_; have HB := n7_; clear n0_ n1_ n2_ n3_ n4_ n5_ n6_ n7_; (try clear hb); (try clear ho0); obtain ⟨hcz63_0, hcz63_1, hcz63_2, hcz63_3, hcz63_4, hcz63_5, hcz63_6, hfz63_0, hfz63_1, hfz63_2, hfz63_3, hfz63_4, hfz63_5, hfz63_6⟩ := cz7 BK105.out) | ((with_reducible refine gate_callee (f := 32) rfl ?_); (with_reducible refine gate_dst (N := 71) rfl ?_); refine goesL9 (some 71) rfl rfl Try.func32 (by kernel_rfl) rfl #[.agg #[.slice (some ad102) l0.length c0, .slice none 0 0, .slice none 0 0, .slice none 0 0, .slice none 0 0, .slice none 0 0, .slice none 0 0], .slice A1 l1.length c1, .int .i64 (Int.tmod (wrap64 (a3)) (l0.length : Int))] rfl ?_; (refine (source_May.calls kj5 _ _ l0 _ _ ([] : List Int) _ _ ([] : List Int) _ _ ([] : List Int) _ _ ([] : List Int) _ _ ([] : List Int) _ _ ([] : List (List Int)) _ _ l1 (Int.tmod (wrap64 (a3)) (l0.length : Int)) t125 _ ?side1 ?side2 ?side3 ?side4 ?side5 ?side6 ?side7 ?side8 ?side9 ?side10 ?side11 ?side12 ?side13 ?side14 ?side15 ?side16 A20.out).mono ?_); (case side1 => exact cp9 HR0.out HB.out); (case side2 => exact HC0.out); (case side3 => exact Kd.C_nil _ _); (case side4 => exact Nat.le_refl _); (case side5 => exact Kd.C_nil _ _); (case side6 => exact Nat.le_refl _); (case side7 => exact Kd.C_nil _ _); (case side8 => exact Nat.le_refl _); (case side9 => exact Kd.C_nil _ _); (case side10 => exact Nat.le_refl _); (case side11 => exact Kd.C_nil _ _); (case side12 => exact Nat.le_refl _); (case side13 => exact Kd.C_nil _ _); (case side14 => exact Nat.le_refl _); (case side15 => exact cp9 HR1.out HB.out); (case side16 => exact HC1.out); rintro e w64 ⟨v126, rfl, ho0, hb⟩; refine ⟨_, rfl, ?_⟩; have n0_ := a9_ (Kd.R_below (rp9 HO114.out) hb); have n1_ := a9_ (Kd.R_below (rp9 HO117.out) hb); have n2_ := a9_ (Kd.R_elder' (rp9 HO121.out) (Kd.R_base ho0) hb); have n3_ := a9_ (Kd.R_elder' (rp9 HO124.out) (Kd.R_base ho0) hb); have n4_ := a9_ (Kd.R_lower (Kd.R_new' (Kd.R_new' ho0 (Kd.R_lt (rp9 HO121.out))) (Kd.R_lt (rp9 HO124.out))) (below_size (bp9 HB.out))); have n5_ := a9_ (blk_below (kp9 BK104.out) hb); have n6_ := a9_ (blk_below (kp9 BK105.out) hb); have n7_ := a9_ (blk_below (kp9 BK118.out) hb); have n8_ := a9_ (below_step (bp9 HB.out) hb); clear HO114; clear HO117; clear HO121; clear HO124; clear BK104; clear BK105; clear BK118; clear HB; have HO114 := n0_; have HO117 := n1_; have HO121 := n2_; have HO124 := n3_; have HO127 := n4_; have BK104 := n5_; have BK105 := n6_; have BK118 := n7_; have HB := n8_; clear n0_ n1_ n2_ n3_ n4_ n5_ n6_ n7_ n8_; (try clear hb); (try clear ho0); obtain ⟨hcz65_0, hcz65_1, hcz65_2, hcz65_3, hcz65_4, hcz65_5, hcz65_6, hfz65_0, hfz65_1, hfz65_2, hfz65_3, hfz65_4, hfz65_5, hfz65_6⟩ := cz7 BK118.out) | ((with_reducible refine gate_callee (f := 32) rfl ?_); (with_reducible refine gate_dst (N := 75) rfl ?_); refine goesL9 (some 75) rfl rfl Try.func32 (by kernel_rfl) rfl #[.agg #[.slice Ao49 y115.length co49, .slice none 0 0, .slice none 0 0, .slice none 0 0, .slice none 0 0, .slice none 0 0, .slice none 0 0], .slice A1 l1.length c1, .int .i64 (Int.tmod (wrap64 (a3)) (l0.length : Int))] rfl ?_; (refine (source_May.calls kj5 _ _ y115 _ _ ([] : List Int) _ _ ([] : List Int) _ _ ([] : List Int) _ _ ([] : List Int) _ _ ([] : List Int) _ _ ([] : List (List Int)) _ _ l1 (Int.tmod (wrap64 (a3)) (l0.length : Int)) t128 _ ?side1 ?side2 ?side3 ?side4 ?side5 ?side6 ?side7 ?side8 ?side9 ?side10 ?side11 ?side12 ?side13 ?side14 ?side15 ?side16 A21.out).mono ?_); (case side1 => exact lp9 (Kd.R_reads' HO117.out).2.2); (case side2 => exact (Kd.R_reads' HO117.out).2.1); (case side3 => exact Kd.C_nil _ _); (case side4 => exact Nat.le_refl _); (case side5 => exact Kd.C_nil _ _); (case side6 => exact Nat.le_refl _); (case side7 => exact Kd.C_nil _ _); (case side8 => exact Nat.le_refl _); (case side9 => exact Kd.C_nil _ _); (case side10 => exact Nat.le_refl _); (case side11 => exact Kd.C_nil _ _); (case side12 => exact Nat.le_refl _); (case side13 => exact Kd.C_nil _ _); (case side14 => exact Nat.le_refl _); (case side15 => exact cp9 HR1.out HB.out); (case side16 => exact HC1.out); rintro e w66 ⟨v129, rfl, ho0, hb⟩; refine ⟨_, rfl, ?_⟩; have n0_ := a9_ (Kd.R_below (rp9 HO114.out) hb); have n1_ := a9_ (Kd.R_below (rp9 HO117.out) hb); have n2_ := a9_ (Kd.R_elder' (rp9 HO121.out) (Kd.R_base ho0) hb); have n3_ := a9_ (Kd.R_elder' (rp9 HO124.out) (Kd.R_base ho0) hb); have n4_ := a9_ (Kd.R_elder' (rp9 HO127.out) (Kd.R_base ho0) hb); have n5_ := a9_ (Kd.R_lower (Kd.R_new' (Kd.R_new' (Kd.R_new' ho0 (Kd.R_lt (rp9 HO121.out))) (Kd.R_lt (rp9 HO124.out))) (Kd.R_lt (rp9 HO127.out))) (below_size (bp9 HB.out))); have n6_ := a9_ (blk_below (kp9 BK104.out) hb); have n7_ := a9_ (blk_below (kp9 BK105.out) hb); have n8_ := a9_ (blk_below (kp9 BK118.out) hb); have n9_ := a9_ (below_step (bp9 HB.out) hb); clear HO114; clear HO117; clear HO121; clear HO124; clear HO127; clear BK104; clear BK105; clear BK118; clear HB; have HO114 := n0_; have HO117 := n1_; have HO121 := n2_; have HO124 := n3_; have HO127 := n4_; have HO130 := n5_; have BK104 := n6_; have BK105 := n7_; have BK118 := n8_; have HB := n9_; clear n0_ n1_ n2_ n3_ n4_ n5_ n6_ n7_ n8_ n9_; (try clear hb); (try clear ho0)))
         (try simp only [Act.put, List.setIfInBounds_toArray, List.set_cons_zero, List.set_cons_succ])
         go_cut [100] (fun v100 wc => ∃ (kq : Nat) (x100_21 : Bool), v100 = .bool x100_21 ∧ Aside0 (cupolalaw11_SourceMore.j1 kq l0 t101 (Int.tmod (wrap64 (a3)) (l0.length : Int)) t125 t128 x100_21 0 2 ((rd_T26 l0 (ji11)).f2) ((rd_T26 l0 (ji11)).f3) false false false = some r) ∧ Aside0 (kq ≤ kj5) ∧ Aside0 (Kd.R (Kd.int .i64) 3 wc w.heap.size (fun k_ => some k_ ≠ (v129 : Value).ownBlock) v126 t125) ∧ Aside0 (Kd.R (Kd.int .i64) 3 wc w.heap.size (fun k_ => some k_ ≠ (v126 : Value).ownBlock) v129 t128) ∧ Aside0 (Kd.R k26 26 wc w.heap.size (fun k_ => k_ ≠ gb104) (.slice Ao49 y115.length co49) y115) ∧ Aside0 (wc.heap[gb104]? = some (.cells #[.int .i64 0, .int .i64 2, .int .i64 ((rd_T26 l0 (ji11)).f2), .int .i64 ((rd_T26 l0 (ji11)).f3), .bool false, .bool false, .bool false] 26 (0, 0))) ∧ Aside0 (wc.heap[gb105]? = some (.cells #[(.slice (some ad102) l0.length c0), (.slice none 0 0), (.slice none 0 0), (.slice none 0 0), (.slice none 0 0), (.slice none 0 0), (.slice none 0 0)] 31 (0, 0))) ∧ Aside0 (wc.heap[gb118]? = some (.cells #[(.slice Ao49 y115.length co49), (.slice none 0 0), (.slice none 0 0), (.slice none 0 0), (.slice none 0 0), (.slice none 0 0), (.slice none 0 0)] 31 (0, 0))) ∧ Aside0 (Below w.heap.size w wc))
         case first =>
          have H := HC22.out
          clear HC22
          by_cases c67 : ((rd_T26 l0 (ji11)).f1) = 1
          ·rw [if_pos c67] at H
           have c67b0 : (((rd_T26 l0 (ji11)).f1) == 1) = true := beq_iff_eq.mpr c67
           have c67b1 : (((rd_T26 l0 (ji11)).f1) != 1) = false := bne_eq_false_iff_eq.mpr c67
           clear c67
           (first | rw [c67b0] | (simp only [i64_w, i32_w]; rw [c67b0]) | skip)
           by_cases c68 : (t122.length : Int) = (wrap64 ((t119.length : Int) + 1))
           ·rw [if_pos c68] at H
            have c68b0 : ((t122.length : Int) == (wrap64 ((t119.length : Int) + 1))) = true := beq_iff_eq.mpr c68
            have c68b1 : ((t122.length : Int) != (wrap64 ((t119.length : Int) + 1))) = false := bne_eq_false_iff_eq.mpr c68
            clear c68
            obtain ⟨ji69, hji69⟩ : ∃ j_ : Int, (wrap64 ((t122.length : Int) - 1)) = j_ := ⟨_, rfl⟩
            replace H : (if 0 ≤ (ji69) then (if (ji69) < (t122.length : Int) then (cupolalaw11_SourceMore.j1 kj5 l0 t101 (Int.tmod (wrap64 (a3)) (l0.length : Int)) t125 t128 ((rd t122 (ji69)) != (l0.length : Int)) 0 2 ((rd_T26 l0 (ji11)).f2) ((rd_T26 l0 (ji11)).f3) false false false) else (none)) else (none)) = some r := by first | (rw [hji69] at H; exact H) | (simp only [hji69] at H ⊢; exact H)
            have hji69w : (IntKind.i64.wrap ((t122.length : Int) - 1)) = ji69 := (i64_w _).trans hji69
            by_cases c70 : 0 ≤ (ji69)
            ·rw [if_pos c70] at H
             have c70b0 : decide (0 ≤ (ji69)) = true := decide_eq_true c70
             clear c70
             by_cases c71 : (ji69) < (t122.length : Int)
             ·rw [if_pos c71] at H
              have c71b0 : decide ((ji69) < (t122.length : Int)) = true := decide_eq_true c71
              clear c71
              have H' := a9_ H
              clear H
              have p131 : 0 ≤ ((ji11) : Int) := of_decide_eq_true (by first | (with_reducible assumption) | assumption)
              have q131 : (ji11) < (l0.length : Int) := of_decide_eq_true (by first | (with_reducible assumption) | assumption)
              obtain ⟨ad131, e131, hx131_0, hx131_1, hx131_2, hx131_3, hx131_4, hx131_5, hx131_6⟩ := at_T26 HR0.out (ji11) p131 q131
              obtain rfl : ad102 = ad131 := (by injection e131)
              replace hx131_0 := hb9 HB.out hx131_0
              replace hx131_1 := hb9 HB.out hx131_1
              replace hx131_2 := hb9 HB.out hx131_2
              replace hx131_3 := hb9 HB.out hx131_3
              replace hx131_4 := hb9 HB.out hx131_4
              replace hx131_5 := hb9 HB.out hx131_5
              replace hx131_6 := hb9 HB.out hx131_6
              replace p131 := eq_true p131
              replace q131 := eq_true q131
              obtain ⟨Ao72, co72, eo72⟩ := Kd.R_slice HO124.out
              subst eo72
              obtain ⟨Ao73, co73, eo73⟩ := Kd.R_slice HO121.out
              subst eo73
              have p132 : 0 ≤ ((ji69) : Int) := of_decide_eq_true (by first | (with_reducible assumption) | assumption)
              have q132 : (ji69) < (t122.length : Int) := of_decide_eq_true (by first | (with_reducible assumption) | assumption)
              obtain ⟨ad132, e132, hx132_0⟩ := Kd.at_int (Kd.R_reads' HO124.out).2.2 (ji69) p132 q132
              cases e132
              replace p132 := eq_true p132
              replace q132 := eq_true q132
              go_wp2
              go_meet
              case rel => exact ⟨_, (((rd t122 (ji69)) != (l0.length : Int))), (by first | rfl | (simp; done) | (simp only [← hji69] <;> (first | rfl | simp)) | (simp [*]; done)), H', ⟨by have := HJ5.out; first | omega | exact Nat.le_refl _⟩, ⟨by (with_reducible repeat (first | apply Kd.R_alloc | apply Kd.R_drewN | apply Kd.R_drew)); exact Kd.R_mono HO127.out (fun _ hk => hk.2)⟩, ⟨by (with_reducible repeat (first | apply Kd.R_alloc | apply Kd.R_drewN | apply Kd.R_drew)); exact Kd.R_mono HO130.out (fun _ hk => hk.2)⟩, ⟨by (with_reducible repeat (first | apply Kd.R_alloc | apply Kd.R_drewN | apply Kd.R_drew)); exact Kd.R_mono HO117.out (fun _ hk => hk.2)⟩, ⟨kp9 BK104.out⟩, ⟨kp9 BK105.out⟩, ⟨kp9 BK118.out⟩, ⟨bp9 HB.out⟩⟩
             ·rw [if_neg c71] at H
              exact absurd H (by simp)
            ·rw [if_neg c70] at H
             exact absurd H (by simp)
           ·rw [if_neg c68] at H
            have c68b0 : ((t122.length : Int) == (wrap64 ((t119.length : Int) + 1))) = false := beq_eq_false_iff_ne.mpr c68
            have c68b1 : ((t122.length : Int) != (wrap64 ((t119.length : Int) + 1))) = true := bne_iff_ne.mpr c68
            have H' := a9_ H
            clear H
            have p131 : 0 ≤ ((ji11) : Int) := of_decide_eq_true (by first | (with_reducible assumption) | assumption)
            have q131 : (ji11) < (l0.length : Int) := of_decide_eq_true (by first | (with_reducible assumption) | assumption)
            obtain ⟨ad131, e131, hx131_0, hx131_1, hx131_2, hx131_3, hx131_4, hx131_5, hx131_6⟩ := at_T26 HR0.out (ji11) p131 q131
            obtain rfl : ad102 = ad131 := (by injection e131)
            replace hx131_0 := hb9 HB.out hx131_0
            replace hx131_1 := hb9 HB.out hx131_1
            replace hx131_2 := hb9 HB.out hx131_2
            replace hx131_3 := hb9 HB.out hx131_3
            replace hx131_4 := hb9 HB.out hx131_4
            replace hx131_5 := hb9 HB.out hx131_5
            replace hx131_6 := hb9 HB.out hx131_6
            replace p131 := eq_true p131
            replace q131 := eq_true q131
            obtain ⟨Ao74, co74, eo74⟩ := Kd.R_slice HO124.out
            subst eo74
            obtain ⟨Ao75, co75, eo75⟩ := Kd.R_slice HO121.out
            subst eo75
            go_wp2
            go_meet
            case rel => exact ⟨_, (true), rs9, H', ⟨by have := HJ5.out; first | omega | exact Nat.le_refl _⟩, ⟨by (with_reducible repeat (first | apply Kd.R_alloc | apply Kd.R_drewN | apply Kd.R_drew)); exact Kd.R_mono HO127.out (fun _ hk => hk.2)⟩, ⟨by (with_reducible repeat (first | apply Kd.R_alloc | apply Kd.R_drewN | apply Kd.R_drew)); exact Kd.R_mono HO130.out (fun _ hk => hk.2)⟩, ⟨by (with_reducible repeat (first | apply Kd.R_alloc | apply Kd.R_drewN | apply Kd.R_drew)); exact Kd.R_mono HO117.out (fun _ hk => hk.2)⟩, ⟨kp9 BK104.out⟩, ⟨kp9 BK105.out⟩, ⟨kp9 BK118.out⟩, ⟨bp9 HB.out⟩⟩
          ·rw [if_neg c67] at H
           have c67b0 : (((rd_T26 l0 (ji11)).f1) == 1) = false := beq_eq_false_iff_ne.mpr c67
           have c67b1 : (((rd_T26 l0 (ji11)).f1) != 1) = true := bne_iff_ne.mpr c67
           (first | rw [c67b0] | (simp only [i64_w, i32_w]; rw [c67b0]) | skip)
           have H' := a9_ H
           clear H
           have p131 : 0 ≤ ((ji11) : Int) := of_decide_eq_true (by first | (with_reducible assumption) | assumption)
           have q131 : (ji11) < (l0.length : Int) := of_decide_eq_true (by first | (with_reducible assumption) | assumption)
           obtain ⟨ad131, e131, hx131_0, hx131_1, hx131_2, hx131_3, hx131_4, hx131_5, hx131_6⟩ := at_T26 HR0.out (ji11) p131 q131
           obtain rfl : ad102 = ad131 := (by injection e131)
           replace hx131_0 := hb9 HB.out hx131_0
           replace hx131_1 := hb9 HB.out hx131_1
           replace hx131_2 := hb9 HB.out hx131_2
           replace hx131_3 := hb9 HB.out hx131_3
           replace hx131_4 := hb9 HB.out hx131_4
           replace hx131_5 := hb9 HB.out hx131_5
           replace hx131_6 := hb9 HB.out hx131_6
           replace p131 := eq_true p131
           replace q131 := eq_true q131
           go_wp2
           go_meet
           case rel => exact ⟨_, (false), rs9, H', ⟨by have := HJ5.out; first | omega | exact Nat.le_refl _⟩, ⟨by (with_reducible repeat (first | apply Kd.R_alloc | apply Kd.R_drewN | apply Kd.R_drew)); exact Kd.R_mono HO127.out (fun _ hk => hk.2)⟩, ⟨by (with_reducible repeat (first | apply Kd.R_alloc | apply Kd.R_drewN | apply Kd.R_drew)); exact Kd.R_mono HO130.out (fun _ hk => hk.2)⟩, ⟨by (with_reducible repeat (first | apply Kd.R_alloc | apply Kd.R_drewN | apply Kd.R_drew)); exact Kd.R_mono HO117.out (fun _ hk => hk.2)⟩, ⟨kp9 BK104.out⟩, ⟨kp9 BK105.out⟩, ⟨kp9 BK118.out⟩, ⟨bp9 HB.out⟩⟩
         case rest =>
          clear HC22
          try clear c1
          try clear p1
          try clear q1
          try clear hx1
          try clear p2
          try clear c3
          try clear c5
          try clear c6
          try clear p6
          try clear c7
          try clear p13
          try clear q13
          try clear hx13
          try clear c16
          try clear c31
          try clear c32
          try clear c57
          try clear c60
          try clear p64
          try clear c67
          try clear c67b0
          try clear c67b1
          try clear c68
          try clear c68b0
          try clear c68b1
          try clear c70
          try clear c70b0
          try clear c71
          try clear c71b0
          try clear hcz58_0 hcz58_1 hcz58_2 hcz58_3 hcz58_4 hcz58_5 hcz58_6
          try clear hcz61_0 hcz61_1 hcz61_2 hcz61_3 hcz61_4 hcz61_5 hcz61_6
          try clear hcz63_0 hcz63_1 hcz63_2 hcz63_3 hcz63_4 hcz63_5 hcz63_6
          try clear hcz65_0 hcz65_1 hcz65_2 hcz65_3 hcz65_4 hcz65_5 hcz65_6
          try clear hfz58_0 hfz58_1 hfz58_2 hfz58_3 hfz58_4 hfz58_5 hfz58_6
          try clear hfz61_0 hfz61_1 hfz61_2 hfz61_3 hfz61_4 hfz61_5 hfz61_6
          try clear hfz63_0 hfz63_1 hfz63_2 hfz63_3 hfz63_4 hfz63_5 hfz63_6
          try clear hfz65_0 hfz65_1 hfz65_2 hfz65_3 hfz65_4 hfz65_5 hfz65_6
          try clear hx131_0
          try clear hx131_1
          try clear hx131_2
          try clear hx131_3
          try clear hx131_4
          try clear hx131_5
          try clear hx131_6
          try clear hx132_0
          try clear p131
          try clear p132
          try clear q131
          try clear q132
          obtain ⟨kq, x100_21, rfl, HA, HJ21, HO_17, HO_18, HO_119000, BK104, BK105, BK118, HB⟩ := hcut
          cases kq with
          | zero => exact absurd HA.out (by simp [cupolalaw11_SourceMore.j1])
          | succ kj21 =>
           have H := HA.out
           clear HA
           simp only [cupolalaw11_SourceMore.j1] at H
           by_cases c76 : x100_21 = true
           ·subst c76
            rw [if_pos rfl] at H
            exact absurd ((Option.some.inj H).trans HT9.out) (by decide)
           ·replace c76 := Bool.eq_false_iff.mpr c76
            subst c76
            rw [if_neg (show ¬ (false = true) by decide)] at H
            have HC77 := a9_ H
            clear H
            go_upto_region 15 with (fail)
            go_cut [19] (fun v19 wc => ∃ (kq : Nat) (x19_76 : Bool), v19 = .bool x19_76 ∧ Aside0 (cupolalaw11_SourceMore.j2 kq t101 t125 t128 x19_76 = some r) ∧ Aside0 (kq ≤ kj21) ∧ Aside0 (Kd.R (Kd.int .i64) 3 wc w.heap.size (fun k_ => some k_ ≠ (v129 : Value).ownBlock) v126 t125) ∧ Aside0 (Kd.R (Kd.int .i64) 3 wc w.heap.size (fun k_ => some k_ ≠ (v126 : Value).ownBlock) v129 t128) ∧ Aside0 (Kd.R k26 26 wc w.heap.size (fun k_ => k_ ≠ gb104) (.slice Ao49 y115.length co49) y115) ∧ Aside0 (wc.heap[gb104]? = some (.cells #[.int .i64 0, .int .i64 2, .int .i64 ((rd_T26 l0 (ji11)).f2), .int .i64 ((rd_T26 l0 (ji11)).f3), .bool false, .bool false, .bool false] 26 (0, 0))) ∧ Aside0 (wc.heap[gb105]? = some (.cells #[(.slice (some ad102) l0.length c0), (.slice none 0 0), (.slice none 0 0), (.slice none 0 0), (.slice none 0 0), (.slice none 0 0), (.slice none 0 0)] 31 (0, 0))) ∧ Aside0 (wc.heap[gb118]? = some (.cells #[(.slice Ao49 y115.length co49), (.slice none 0 0), (.slice none 0 0), (.slice none 0 0), (.slice none 0 0), (.slice none 0 0), (.slice none 0 0)] 31 (0, 0))) ∧ Aside0 (Below w.heap.size w wc))
            case first =>
             have H := HC77.out
             clear HC77
             obtain ⟨ji78, hji78⟩ : ∃ j_ : Int, (Int.tmod (wrap64 (a3)) (l0.length : Int)) = j_ := ⟨_, rfl⟩
             replace H : (if 0 ≤ (ji78) then (if (ji78) < (l0.length : Int) then (if ((rd_T26 l0 (ji78)).f1) = 1 then (if ((rd_T26 l0 (ji78)).f2) = ((rd_T26 l0 (ji11)).f2) then (cupolalaw11_SourceMore.j2 kj21 t101 t125 t128 (((rd_T26 l0 (ji78)).f3) == ((rd_T26 l0 (ji11)).f3))) else (cupolalaw11_SourceMore.j2 kj21 t101 t125 t128 false)) else (cupolalaw11_SourceMore.j2 kj21 t101 t125 t128 false)) else (none)) else (none)) = some r := by first | (rw [hji78] at H; exact H) | (simp only [hji78] at H ⊢; exact H)
             by_cases c79 : 0 ≤ (ji78)
             ·rw [if_pos c79] at H
              have c79b0 : decide (0 ≤ (ji78)) = true := decide_eq_true c79
              clear c79
              (first | rw [c79b0] | (simp only [i64_w, i32_w]; rw [c79b0]) | skip)
              by_cases c80 : (ji78) < (l0.length : Int)
              ·rw [if_pos c80] at H
               have c80b0 : decide ((ji78) < (l0.length : Int)) = true := decide_eq_true c80
               clear c80
               by_cases c81 : ((rd_T26 l0 (ji78)).f1) = 1
               ·rw [if_pos c81] at H
                have c81b0 : (((rd_T26 l0 (ji78)).f1) == 1) = true := beq_iff_eq.mpr c81
                have c81b1 : (((rd_T26 l0 (ji78)).f1) != 1) = false := bne_eq_false_iff_eq.mpr c81
                clear c81
                by_cases c82 : ((rd_T26 l0 (ji78)).f2) = ((rd_T26 l0 (ji11)).f2)
                ·rw [if_pos c82] at H
                 have c82b0 : (((rd_T26 l0 (ji78)).f2) == ((rd_T26 l0 (ji11)).f2)) = true := beq_iff_eq.mpr c82
                 have c82b1 : (((rd_T26 l0 (ji78)).f2) != ((rd_T26 l0 (ji11)).f2)) = false := bne_eq_false_iff_eq.mpr c82
                 clear c82
                 have H' := a9_ H
                 clear H
                 try go_wp2
                 have n0_ := a9_ (Kd.R_drew HO_17.out)
                 have n1_ := a9_ (Kd.R_drew HO_18.out)
                 have n2_ := a9_ (Kd.R_drew HO_119000.out)
                 have n3_ := a9_ (blk_drew BK104.out)
                 have n4_ := a9_ (blk_drew BK105.out)
                 have n5_ := a9_ (blk_drew BK118.out)
                 have n6_ := a9_ (below_drew1 HB.out)
                 clear HO_17 HO_18 HO_119000 BK104 BK105 BK118 HB
                 revert n0_ n1_ n2_ n3_ n4_ n5_ n6_; intro HO_17 HO_18 HO_119000 BK104 BK105 BK118 HB
                 have p133 : 0 ≤ ((ji78) : Int) := of_decide_eq_true (by first | (with_reducible assumption) | assumption)
                 have q133 : (ji78) < (l0.length : Int) := of_decide_eq_true (by first | (with_reducible assumption) | assumption)
                 obtain ⟨ad133, e133, hx133_0, hx133_1, hx133_2, hx133_3, hx133_4, hx133_5, hx133_6⟩ := at_T26 HR0.out (ji78) p133 q133
                 have hw133_6 := hx133_6
                 have hw133_5 := hx133_5
                 have hw133_4 := hx133_4
                 have hw133_3 := hx133_3
                 have hw133_2 := hx133_2
                 have hw133_1 := hx133_1
                 have hw133_0 := hx133_0
                 obtain rfl : ad102 = ad133 := (by injection e133)
                 replace hx133_0 := hb9 HB.out hx133_0
                 replace hx133_1 := hb9 HB.out hx133_1
                 replace hx133_2 := hb9 HB.out hx133_2
                 replace hx133_3 := hb9 HB.out hx133_3
                 replace hx133_4 := hb9 HB.out hx133_4
                 replace hx133_5 := hb9 HB.out hx133_5
                 replace hx133_6 := hb9 HB.out hx133_6
                 replace p133 := eq_true p133
                 replace q133 := eq_true q133
                 have p134 : 0 ≤ ((ji78) : Int) := of_decide_eq_true (by first | (with_reducible assumption) | assumption)
                 have q134 : (ji78) < (l0.length : Int) := of_decide_eq_true (by first | (with_reducible assumption) | assumption)
                 obtain ⟨ad134, e134, hx134_0, hx134_1, hx134_2, hx134_3, hx134_4, hx134_5, hx134_6⟩ := at_T26 HR0.out (ji78) p134 q134
                 have hw134_6 := hx134_6
                 have hw134_5 := hx134_5
                 have hw134_4 := hx134_4
                 have hw134_3 := hx134_3
                 have hw134_2 := hx134_2
                 have hw134_1 := hx134_1
                 have hw134_0 := hx134_0
                 obtain rfl : ad102 = ad134 := (by injection e134)
                 replace hx134_0 := hb9 HB.out hx134_0
                 replace hx134_1 := hb9 HB.out hx134_1
                 replace hx134_2 := hb9 HB.out hx134_2
                 replace hx134_3 := hb9 HB.out hx134_3
                 replace hx134_4 := hb9 HB.out hx134_4
                 replace hx134_5 := hb9 HB.out hx134_5
                 replace hx134_6 := hb9 HB.out hx134_6
                 replace p134 := eq_true p134
                 replace q134 := eq_true q134
                 have p135 : 0 ≤ ((ji78) : Int) := of_decide_eq_true (by first | (with_reducible assumption) | assumption)
                 have q135 : (ji78) < (l0.length : Int) := of_decide_eq_true (by first | (with_reducible assumption) | assumption)
                 obtain ⟨ad135, e135, hx135_0, hx135_1, hx135_2, hx135_3, hx135_4, hx135_5, hx135_6⟩ := at_T26 HR0.out (ji78) p135 q135
                 have hw135_6 := hx135_6
                 have hw135_5 := hx135_5
                 have hw135_4 := hx135_4
                 have hw135_3 := hx135_3
                 have hw135_2 := hx135_2
                 have hw135_1 := hx135_1
                 have hw135_0 := hx135_0
                 obtain rfl : ad102 = ad135 := (by injection e135)
                 replace hx135_0 := hb9 HB.out hx135_0
                 replace hx135_1 := hb9 HB.out hx135_1
                 replace hx135_2 := hb9 HB.out hx135_2
                 replace hx135_3 := hb9 HB.out hx135_3
                 replace hx135_4 := hb9 HB.out hx135_4
                 replace hx135_5 := hb9 HB.out hx135_5
                 replace hx135_6 := hb9 HB.out hx135_6
                 replace p135 := eq_true p135
                 replace q135 := eq_true q135
                 refine start_ (n := 27) (S := fun w' => w'.cell? ⟨gb104, 0, none⟩ = some (.int .i64 0) ∧ w'.cell? ⟨gb104, 1, none⟩ = some (.int .i64 2) ∧ w'.cell? ⟨gb104, 2, none⟩ = some (.int .i64 ((rd_T26 l0 (ji11)).f2)) ∧ w'.cell? ⟨gb104, 3, none⟩ = some (.int .i64 ((rd_T26 l0 (ji11)).f3)) ∧ w'.cell? ⟨gb104, 4, none⟩ = some (.bool false) ∧ w'.cell? ⟨gb104, 5, none⟩ = some (.bool false) ∧ w'.cell? ⟨gb104, 6, none⟩ = some (.bool false) ∧ w'.cell? (ad102.add (((ji78)).toNat * 7)) = some (.int .i64 ((rd_T26 l0 (ji78)).f0)) ∧ w'.cell? ⟨(ad102.add (((ji78)).toNat * 7)).block, (ad102.add (((ji78)).toNat * 7)).off + 1, none⟩ = some (.int .i64 ((rd_T26 l0 (ji78)).f1)) ∧ w'.cell? ⟨(ad102.add (((ji78)).toNat * 7)).block, (ad102.add (((ji78)).toNat * 7)).off + 2, none⟩ = some (.int .i64 ((rd_T26 l0 (ji78)).f2)) ∧ w'.cell? ⟨(ad102.add (((ji78)).toNat * 7)).block, (ad102.add (((ji78)).toNat * 7)).off + 3, none⟩ = some (.int .i64 ((rd_T26 l0 (ji78)).f3)) ∧ w'.cell? ⟨(ad102.add (((ji78)).toNat * 7)).block, (ad102.add (((ji78)).toNat * 7)).off + 4, none⟩ = some (.bool ((rd_T26 l0 (ji78)).f4)) ∧ w'.cell? ⟨(ad102.add (((ji78)).toNat * 7)).block, (ad102.add (((ji78)).toNat * 7)).off + 5, none⟩ = some (.bool ((rd_T26 l0 (ji78)).f5)) ∧ w'.cell? ⟨(ad102.add (((ji78)).toNat * 7)).block, (ad102.add (((ji78)).toNat * 7)).off + 6, none⟩ = some (.bool ((rd_T26 l0 (ji78)).f6)) ∧ w'.cell? (ad102.add (((ji78)).toNat * 7)) = some (.int .i64 ((rd_T26 l0 (ji78)).f0)) ∧ w'.cell? ⟨(ad102.add (((ji78)).toNat * 7)).block, (ad102.add (((ji78)).toNat * 7)).off + 1, none⟩ = some (.int .i64 ((rd_T26 l0 (ji78)).f1)) ∧ w'.cell? ⟨(ad102.add (((ji78)).toNat * 7)).block, (ad102.add (((ji78)).toNat * 7)).off + 2, none⟩ = some (.int .i64 ((rd_T26 l0 (ji78)).f2)) ∧ w'.cell? ⟨(ad102.add (((ji78)).toNat * 7)).block, (ad102.add (((ji78)).toNat * 7)).off + 3, none⟩ = some (.int .i64 ((rd_T26 l0 (ji78)).f3)) ∧ w'.cell? ⟨(ad102.add (((ji78)).toNat * 7)).block, (ad102.add (((ji78)).toNat * 7)).off + 4, none⟩ = some (.bool ((rd_T26 l0 (ji78)).f4)) ∧ w'.cell? ⟨(ad102.add (((ji78)).toNat * 7)).block, (ad102.add (((ji78)).toNat * 7)).off + 5, none⟩ = some (.bool ((rd_T26 l0 (ji78)).f5)) ∧ w'.cell? ⟨(ad102.add (((ji78)).toNat * 7)).block, (ad102.add (((ji78)).toNat * 7)).off + 6, none⟩ = some (.bool ((rd_T26 l0 (ji78)).f6)) ∧ w'.cell? (ad102.add (((ji78)).toNat * 7)) = some (.int .i64 ((rd_T26 l0 (ji78)).f0)) ∧ w'.cell? ⟨(ad102.add (((ji78)).toNat * 7)).block, (ad102.add (((ji78)).toNat * 7)).off + 1, none⟩ = some (.int .i64 ((rd_T26 l0 (ji78)).f1)) ∧ w'.cell? ⟨(ad102.add (((ji78)).toNat * 7)).block, (ad102.add (((ji78)).toNat * 7)).off + 2, none⟩ = some (.int .i64 ((rd_T26 l0 (ji78)).f2)) ∧ w'.cell? ⟨(ad102.add (((ji78)).toNat * 7)).block, (ad102.add (((ji78)).toNat * 7)).off + 3, none⟩ = some (.int .i64 ((rd_T26 l0 (ji78)).f3)) ∧ w'.cell? ⟨(ad102.add (((ji78)).toNat * 7)).block, (ad102.add (((ji78)).toNat * 7)).off + 4, none⟩ = some (.bool ((rd_T26 l0 (ji78)).f4)) ∧ w'.cell? ⟨(ad102.add (((ji78)).toNat * 7)).block, (ad102.add (((ji78)).toNat * 7)).off + 5, none⟩ = some (.bool ((rd_T26 l0 (ji78)).f5)) ∧ w'.cell? ⟨(ad102.add (((ji78)).toNat * 7)).block, (ad102.add (((ji78)).toNat * 7)).off + 6, none⟩ = some (.bool ((rd_T26 l0 (ji78)).f6))) (ds := []) #[o9, o9, o9, o9, o9, o9, o9, o9, o9, o9, o9, o9, o9, o9, o9, o9, o9, o9, o9, o9, o9, o9, o9, o9, o9, o9, o9] (by kernel_rfl) rfl rfl ⟨(blk_cell BK104.out 0).trans rfl, (blk_cell BK104.out 1).trans rfl, (blk_cell BK104.out 2).trans rfl, (blk_cell BK104.out 3).trans rfl, (blk_cell BK104.out 4).trans rfl, (blk_cell BK104.out 5).trans rfl, (blk_cell BK104.out 6).trans rfl, ((HB.out.cell (World.block_lt_of_cell? w _ hw133_0)).trans hw133_0), ((HB.out.cell (World.block_lt_of_cell? w _ hw133_1)).trans hw133_1), ((HB.out.cell (World.block_lt_of_cell? w _ hw133_2)).trans hw133_2), ((HB.out.cell (World.block_lt_of_cell? w _ hw133_3)).trans hw133_3), ((HB.out.cell (World.block_lt_of_cell? w _ hw133_4)).trans hw133_4), ((HB.out.cell (World.block_lt_of_cell? w _ hw133_5)).trans hw133_5), ((HB.out.cell (World.block_lt_of_cell? w _ hw133_6)).trans hw133_6), ((HB.out.cell (World.block_lt_of_cell? w _ hw134_0)).trans hw134_0), ((HB.out.cell (World.block_lt_of_cell? w _ hw134_1)).trans hw134_1), ((HB.out.cell (World.block_lt_of_cell? w _ hw134_2)).trans hw134_2), ((HB.out.cell (World.block_lt_of_cell? w _ hw134_3)).trans hw134_3), ((HB.out.cell (World.block_lt_of_cell? w _ hw134_4)).trans hw134_4), ((HB.out.cell (World.block_lt_of_cell? w _ hw134_5)).trans hw134_5), ((HB.out.cell (World.block_lt_of_cell? w _ hw134_6)).trans hw134_6), ((HB.out.cell (World.block_lt_of_cell? w _ hw135_0)).trans hw135_0), ((HB.out.cell (World.block_lt_of_cell? w _ hw135_1)).trans hw135_1), ((HB.out.cell (World.block_lt_of_cell? w _ hw135_2)).trans hw135_2), ((HB.out.cell (World.block_lt_of_cell? w _ hw135_3)).trans hw135_3), ((HB.out.cell (World.block_lt_of_cell? w _ hw135_4)).trans hw135_4), ((HB.out.cell (World.block_lt_of_cell? w _ hw135_5)).trans hw135_5), ((HB.out.cell (World.block_lt_of_cell? w _ hw135_6)).trans hw135_6)⟩ (fun hHeld => ?_); refine with_tabW cupolalaw11_SourceMore.tab15 cupolalaw11_SourceMore.bits15 (fun HT_ HW_ => ?_)
                 generalize wc.drew = w83 at HO_17 HO_18 HO_119000 BK104 BK105 BK118 HB hx133_0 hx133_1 hx133_2 hx133_3 hx133_4 hx133_5 hx133_6 hx134_0 hx134_1 hx134_2 hx134_3 hx134_4 hx134_5 hx134_6 hx135_0 hx135_1 hx135_2 hx135_3 hx135_4 hx135_5 hx135_6 hHeld ⊢
                 refine pureA 0 (some 101) ?_ #[i9, o9, o9, o9, o9, o9, o9, o9, o9, o9, o9, o9, o9, o9, o9, o9, o9, o9, o9, o9, o9, o9, o9, o9, o9, o9, o9] rfl rfl (any_of HT_.out (by kernel_rfl)) ?_ ?_ ?_ ?_
                 rotate_left
                 ·intro w'; go_simp; with_reducible rfl
                 rotate_left
                 ·exact put9
                 refine pureA 1 (some 102) ?_ #[i9, i9, o9, o9, o9, o9, o9, o9, o9, o9, o9, o9, o9, o9, o9, o9, o9, o9, o9, o9, o9, o9, o9, o9, o9, o9, o9] rfl rfl (any_of HT_.out (by kernel_rfl)) ?_ ?_ ?_ ?_
                 rotate_left
                 ·intro w'; go_simp; with_reducible rfl
                 rotate_left
                 ·exact put9
                 refine pureA 2 (some 103) ?_ #[i9, i9, i9, o9, o9, o9, o9, o9, o9, o9, o9, o9, o9, o9, o9, o9, o9, o9, o9, o9, o9, o9, o9, o9, o9, o9, o9] rfl rfl (any_of HT_.out (by kernel_rfl)) ?_ ?_ ?_ ?_
                 rotate_left
                 ·intro w'; go_simp; with_reducible rfl
                 rotate_left
                 ·exact put9
                 refine pureA 3 (some 104) ?_ #[i9, i9, i9, i9, o9, o9, o9, o9, o9, o9, o9, o9, o9, o9, o9, o9, o9, o9, o9, o9, o9, o9, o9, o9, o9, o9, o9] rfl rfl (any_of HT_.out (by kernel_rfl)) ?_ ?_ ?_ ?_
                 rotate_left
                 ·intro w'; go_simp; with_reducible rfl
                 rotate_left
                 ·exact put9
                 refine take_ (i := 4) (N := some 105) (v := ?_) (a' := ?_) #[i9, i9, i9, i9, i9, o9, o9, o9, o9, o9, o9, o9, o9, o9, o9, o9, o9, o9, o9, o9, o9, o9, o9, o9, o9, o9, o9] rfl rfl (take_ofW HT_.out HW_.out (by kernel_rfl)) (fun _ _ _ h => h) (Or.inl ⟨by rfl, ?_⟩) hHeld ?_ ?_
                 rotate_left
                 ·rintro w' ⟨s0, s1, s2, s3, s4, s5, s6, s7, s8, s9, s10, s11, s12, s13, s14, s15, s16, s17, s18, s19, s20, s21, s22, s23, s24, s25, s26, s27⟩
                  go_simp
                  with_reducible rfl
                 rotate_left
                 ·exact put9
                 refine pureA 5 (some 106) ?_ #[i9, i9, i9, i9, i9, i9, o9, o9, o9, o9, o9, o9, o9, o9, o9, o9, o9, o9, o9, o9, o9, o9, o9, o9, o9, o9, o9] rfl rfl (any_of HT_.out (by kernel_rfl)) ?_ ?_ ?_ ?_
                 rotate_left
                 ·intro w'; go_simp; with_reducible rfl
                 rotate_left
                 ·exact put9
                 refine pureA 6 (some 107) ?_ #[i9, i9, i9, i9, i9, i9, i9, o9, o9, o9, o9, o9, o9, o9, o9, o9, o9, o9, o9, o9, o9, o9, o9, o9, o9, o9, o9] rfl rfl (any_of HT_.out (by kernel_rfl)) ?_ ?_ ?_ ?_
                 rotate_left
                 ·intro w'; go_simp; with_reducible rfl
                 rotate_left
                 ·exact put9
                 refine pureA 7 (some 108) ?_ #[i9, i9, i9, i9, i9, i9, i9, i9, o9, o9, o9, o9, o9, o9, o9, o9, o9, o9, o9, o9, o9, o9, o9, o9, o9, o9, o9] rfl rfl (any_of HT_.out (by kernel_rfl)) ?_ ?_ ?_ ?_
                 rotate_left
                 ·intro w'; go_simp; with_reducible rfl
                 rotate_left
                 ·exact put9
                 refine pureA 8 (some 109) ?_ #[i9, i9, i9, i9, i9, i9, i9, i9, i9, o9, o9, o9, o9, o9, o9, o9, o9, o9, o9, o9, o9, o9, o9, o9, o9, o9, o9] rfl rfl (any_of HT_.out (by kernel_rfl)) ?_ ?_ ?_ ?_
                 rotate_left
                 ·intro w'; go_simp; with_reducible rfl
                 rotate_left
                 ·exact put9
                 refine pureA 9 (some 110) ?_ #[i9, i9, i9, i9, i9, i9, i9, i9, i9, i9, o9, o9, o9, o9, o9, o9, o9, o9, o9, o9, o9, o9, o9, o9, o9, o9, o9] rfl rfl (any_of HT_.out (by kernel_rfl)) ?_ ?_ ?_ ?_
                 rotate_left
                 ·intro w'; go_simp; with_reducible rfl
                 rotate_left
                 ·exact put9
                 refine pureA 10 (some 111) ?_ #[i9, i9, i9, i9, i9, i9, i9, i9, i9, i9, i9, o9, o9, o9, o9, o9, o9, o9, o9, o9, o9, o9, o9, o9, o9, o9, o9] rfl rfl (any_of HT_.out (by kernel_rfl)) ?_ ?_ ?_ ?_
                 rotate_left
                 ·intro w'; go_simp; with_reducible rfl
                 rotate_left
                 ·exact put9
                 refine pureA 12 (some 113) ?_ #[i9, i9, i9, i9, i9, i9, i9, i9, i9, i9, i9, o9, i9, o9, o9, o9, o9, o9, o9, o9, o9, o9, o9, o9, o9, o9, o9] rfl rfl (any_of HT_.out (by kernel_rfl)) ?_ ?_ ?_ ?_
                 rotate_left
                 ·intro w'; go_simp; with_reducible rfl
                 rotate_left
                 ·exact put9
                 refine take_ (i := 11) (N := some 112) (v := ?_) (a' := ?_) #[i9, i9, i9, i9, i9, i9, i9, i9, i9, i9, i9, i9, i9, o9, o9, o9, o9, o9, o9, o9, o9, o9, o9, o9, o9, o9, o9] rfl rfl (take_ofW HT_.out HW_.out (by kernel_rfl)) (fun _ _ _ h => h) (Or.inl ⟨by rfl, ?_⟩) hHeld ?_ ?_
                 rotate_left
                 ·rintro w' ⟨s0, s1, s2, s3, s4, s5, s6, s7, s8, s9, s10, s11, s12, s13, s14, s15, s16, s17, s18, s19, s20, s21, s22, s23, s24, s25, s26, s27⟩
                  go_simp
                  with_reducible rfl
                 rotate_left
                 ·exact put9
                 refine take_ (i := 13) (N := some 114) (v := ?_) (a' := ?_) #[i9, i9, i9, i9, i9, i9, i9, i9, i9, i9, i9, i9, i9, i9, o9, o9, o9, o9, o9, o9, o9, o9, o9, o9, o9, o9, o9] rfl rfl (take_ofW HT_.out HW_.out (by kernel_rfl)) (fun _ _ _ h => h) (Or.inl ⟨by rfl, ?_⟩) hHeld ?_ ?_
                 rotate_left
                 ·rintro w' ⟨s0, s1, s2, s3, s4, s5, s6, s7, s8, s9, s10, s11, s12, s13, s14, s15, s16, s17, s18, s19, s20, s21, s22, s23, s24, s25, s26, s27⟩
                  go_simp
                  with_reducible rfl
                 rotate_left
                 ·exact put9
                 refine pureA 14 (some 115) ?_ #[i9, i9, i9, i9, i9, i9, i9, i9, i9, i9, i9, i9, i9, i9, i9, o9, o9, o9, o9, o9, o9, o9, o9, o9, o9, o9, o9] rfl rfl (any_of HT_.out (by kernel_rfl)) ?_ ?_ ?_ ?_
                 rotate_left
                 ·intro w'; go_simp; with_reducible rfl
                 rotate_left
                 ·exact put9
                 refine pureA 15 (some 116) ?_ #[i9, i9, i9, i9, i9, i9, i9, i9, i9, i9, i9, i9, i9, i9, i9, i9, o9, o9, o9, o9, o9, o9, o9, o9, o9, o9, o9] rfl rfl (any_of HT_.out (by kernel_rfl)) ?_ ?_ ?_ ?_
                 rotate_left
                 ·intro w'; go_simp; with_reducible rfl
                 rotate_left
                 ·exact put9
                 refine pureA 16 (some 117) ?_ #[i9, i9, i9, i9, i9, i9, i9, i9, i9, i9, i9, i9, i9, i9, i9, i9, i9, o9, o9, o9, o9, o9, o9, o9, o9, o9, o9] rfl rfl (any_of HT_.out (by kernel_rfl)) ?_ ?_ ?_ ?_
                 rotate_left
                 ·intro w'; go_simp; with_reducible rfl
                 rotate_left
                 ·exact put9
                 refine pureA 17 (some 118) ?_ #[i9, i9, i9, i9, i9, i9, i9, i9, i9, i9, i9, i9, i9, i9, i9, i9, i9, i9, o9, o9, o9, o9, o9, o9, o9, o9, o9] rfl rfl (any_of HT_.out (by kernel_rfl)) ?_ ?_ ?_ ?_
                 rotate_left
                 ·intro w'; go_simp; with_reducible rfl
                 rotate_left
                 ·exact put9
                 refine pureA 18 (some 119) ?_ #[i9, i9, i9, i9, i9, i9, i9, i9, i9, i9, i9, i9, i9, i9, i9, i9, i9, i9, i9, o9, o9, o9, o9, o9, o9, o9, o9] rfl rfl (any_of HT_.out (by kernel_rfl)) ?_ ?_ ?_ ?_
                 rotate_left
                 ·intro w'; go_simp; with_reducible rfl
                 rotate_left
                 ·exact put9
                 refine pureA 19 (some 120) ?_ #[i9, i9, i9, i9, i9, i9, i9, i9, i9, i9, i9, i9, i9, i9, i9, i9, i9, i9, i9, i9, o9, o9, o9, o9, o9, o9, o9] rfl rfl (any_of HT_.out (by kernel_rfl)) ?_ ?_ ?_ ?_
                 rotate_left
                 ·intro w'; go_simp; with_reducible rfl
                 rotate_left
                 ·exact put9
                 refine pureA 20 (some 121) ?_ #[i9, i9, i9, i9, i9, i9, i9, i9, i9, i9, i9, i9, i9, i9, i9, i9, i9, i9, i9, i9, i9, o9, o9, o9, o9, o9, o9] rfl rfl (any_of HT_.out (by kernel_rfl)) ?_ ?_ ?_ ?_
                 rotate_left
                 ·intro w'; go_simp; with_reducible rfl
                 rotate_left
                 ·exact put9
                 refine pureA 22 (some 123) ?_ #[i9, i9, i9, i9, i9, i9, i9, i9, i9, i9, i9, i9, i9, i9, i9, i9, i9, i9, i9, i9, i9, o9, i9, o9, o9, o9, o9] rfl rfl (any_of HT_.out (by kernel_rfl)) ?_ ?_ ?_ ?_
                 rotate_left
                 ·intro w'; go_simp; with_reducible rfl
                 rotate_left
                 ·exact put9
                 refine take_ (i := 21) (N := some 122) (v := ?_) (a' := ?_) #[i9, i9, i9, i9, i9, i9, i9, i9, i9, i9, i9, i9, i9, i9, i9, i9, i9, i9, i9, i9, i9, i9, i9, o9, o9, o9, o9] rfl rfl (take_ofW HT_.out HW_.out (by kernel_rfl)) (fun _ _ _ h => h) (Or.inl ⟨by rfl, ?_⟩) hHeld ?_ ?_
                 rotate_left
                 ·rintro w' ⟨s0, s1, s2, s3, s4, s5, s6, s7, s8, s9, s10, s11, s12, s13, s14, s15, s16, s17, s18, s19, s20, s21, s22, s23, s24, s25, s26, s27⟩
                  go_simp
                  with_reducible rfl
                 rotate_left
                 ·exact put9
                 refine take_ (i := 23) (N := some 124) (v := ?_) (a' := ?_) #[i9, i9, i9, i9, i9, i9, i9, i9, i9, i9, i9, i9, i9, i9, i9, i9, i9, i9, i9, i9, i9, i9, i9, i9, o9, o9, o9] rfl rfl (take_ofW HT_.out HW_.out (by kernel_rfl)) (fun _ _ _ h => h) (Or.inl ⟨by rfl, ?_⟩) hHeld ?_ ?_
                 rotate_left
                 ·rintro w' ⟨s0, s1, s2, s3, s4, s5, s6, s7, s8, s9, s10, s11, s12, s13, s14, s15, s16, s17, s18, s19, s20, s21, s22, s23, s24, s25, s26, s27⟩
                  go_simp
                  with_reducible rfl
                 rotate_left
                 ·exact put9
                 refine pureA 24 (some 125) ?_ #[i9, i9, i9, i9, i9, i9, i9, i9, i9, i9, i9, i9, i9, i9, i9, i9, i9, i9, i9, i9, i9, i9, i9, i9, i9, o9, o9] rfl rfl (any_of HT_.out (by kernel_rfl)) ?_ ?_ ?_ ?_
                 rotate_left
                 ·intro w'; go_simp; with_reducible rfl
                 rotate_left
                 ·exact put9
                 refine pureA 25 (some 126) ?_ #[i9, i9, i9, i9, i9, i9, i9, i9, i9, i9, i9, i9, i9, i9, i9, i9, i9, i9, i9, i9, i9, i9, i9, i9, i9, i9, o9] rfl rfl (any_of HT_.out (by kernel_rfl)) ?_ ?_ ?_ ?_
                 rotate_left
                 ·intro w'; go_simp; with_reducible rfl
                 rotate_left
                 ·exact put9
                 refine pureA 26 (some 19) ?_ #[i9, i9, i9, i9, i9, i9, i9, i9, i9, i9, i9, i9, i9, i9, i9, i9, i9, i9, i9, i9, i9, i9, i9, i9, i9, i9, i9] rfl rfl (any_of HT_.out (by kernel_rfl)) ?_ ?_ ?_ ?_
                 rotate_left
                 ·intro w'; go_simp; with_reducible rfl
                 rotate_left
                 ·exact put9
                 refine done_ (done_of HT_.out (by kernel_rfl)) ?_
                 try go_wp2
                 rw [← hji78]
                 go_meet
                 case rel => exact ⟨_, ((((rd_T26 l0 (ji78)).f3) == ((rd_T26 l0 (ji11)).f3))), (by first | rfl | (simp; done) | (simp only [← hji11, ← hji78] <;> (first | rfl | simp)) | (simp [*]; done)), H', ⟨by have := HJ5.out; have := HJ21.out; first | omega | exact Nat.le_refl _⟩, ⟨rp9 HO_17.out⟩, ⟨rp9 HO_18.out⟩, ⟨rp9 HO_119000.out⟩, ⟨kp9 BK104.out⟩, ⟨kp9 BK105.out⟩, ⟨kp9 BK118.out⟩, ⟨bp9 HB.out⟩⟩
                ·rw [if_neg c82] at H
                 have c82b0 : (((rd_T26 l0 (ji78)).f2) == ((rd_T26 l0 (ji11)).f2)) = false := beq_eq_false_iff_ne.mpr c82
                 have c82b1 : (((rd_T26 l0 (ji78)).f2) != ((rd_T26 l0 (ji11)).f2)) = true := bne_iff_ne.mpr c82
                 have H' := a9_ H
                 clear H
                 try go_wp2
                 have n0_ := a9_ (Kd.R_drew HO_17.out)
                 have n1_ := a9_ (Kd.R_drew HO_18.out)
                 have n2_ := a9_ (Kd.R_drew HO_119000.out)
                 have n3_ := a9_ (blk_drew BK104.out)
                 have n4_ := a9_ (blk_drew BK105.out)
                 have n5_ := a9_ (blk_drew BK118.out)
                 have n6_ := a9_ (below_drew1 HB.out)
                 clear HO_17 HO_18 HO_119000 BK104 BK105 BK118 HB
                 revert n0_ n1_ n2_ n3_ n4_ n5_ n6_; intro HO_17 HO_18 HO_119000 BK104 BK105 BK118 HB
                 have p133 : 0 ≤ ((ji78) : Int) := of_decide_eq_true (by first | (with_reducible assumption) | assumption)
                 have q133 : (ji78) < (l0.length : Int) := of_decide_eq_true (by first | (with_reducible assumption) | assumption)
                 obtain ⟨ad133, e133, hx133_0, hx133_1, hx133_2, hx133_3, hx133_4, hx133_5, hx133_6⟩ := at_T26 HR0.out (ji78) p133 q133
                 have hw133_6 := hx133_6
                 have hw133_5 := hx133_5
                 have hw133_4 := hx133_4
                 have hw133_3 := hx133_3
                 have hw133_2 := hx133_2
                 have hw133_1 := hx133_1
                 have hw133_0 := hx133_0
                 obtain rfl : ad102 = ad133 := (by injection e133)
                 replace hx133_0 := hb9 HB.out hx133_0
                 replace hx133_1 := hb9 HB.out hx133_1
                 replace hx133_2 := hb9 HB.out hx133_2
                 replace hx133_3 := hb9 HB.out hx133_3
                 replace hx133_4 := hb9 HB.out hx133_4
                 replace hx133_5 := hb9 HB.out hx133_5
                 replace hx133_6 := hb9 HB.out hx133_6
                 replace p133 := eq_true p133
                 replace q133 := eq_true q133
                 have p134 : 0 ≤ ((ji78) : Int) := of_decide_eq_true (by first | (with_reducible assumption) | assumption)
                 have q134 : (ji78) < (l0.length : Int) := of_decide_eq_true (by first | (with_reducible assumption) | assumption)
                 obtain ⟨ad134, e134, hx134_0, hx134_1, hx134_2, hx134_3, hx134_4, hx134_5, hx134_6⟩ := at_T26 HR0.out (ji78) p134 q134
                 have hw134_6 := hx134_6
                 have hw134_5 := hx134_5
                 have hw134_4 := hx134_4
                 have hw134_3 := hx134_3
                 have hw134_2 := hx134_2
                 have hw134_1 := hx134_1
                 have hw134_0 := hx134_0
                 obtain rfl : ad102 = ad134 := (by injection e134)
                 replace hx134_0 := hb9 HB.out hx134_0
                 replace hx134_1 := hb9 HB.out hx134_1
                 replace hx134_2 := hb9 HB.out hx134_2
                 replace hx134_3 := hb9 HB.out hx134_3
                 replace hx134_4 := hb9 HB.out hx134_4
                 replace hx134_5 := hb9 HB.out hx134_5
                 replace hx134_6 := hb9 HB.out hx134_6
                 replace p134 := eq_true p134
                 replace q134 := eq_true q134
                 refine start_ (n := 27) (S := fun w' => w'.cell? ⟨gb104, 0, none⟩ = some (.int .i64 0) ∧ w'.cell? ⟨gb104, 1, none⟩ = some (.int .i64 2) ∧ w'.cell? ⟨gb104, 2, none⟩ = some (.int .i64 ((rd_T26 l0 (ji11)).f2)) ∧ w'.cell? ⟨gb104, 3, none⟩ = some (.int .i64 ((rd_T26 l0 (ji11)).f3)) ∧ w'.cell? ⟨gb104, 4, none⟩ = some (.bool false) ∧ w'.cell? ⟨gb104, 5, none⟩ = some (.bool false) ∧ w'.cell? ⟨gb104, 6, none⟩ = some (.bool false) ∧ w'.cell? (ad102.add (((ji78)).toNat * 7)) = some (.int .i64 ((rd_T26 l0 (ji78)).f0)) ∧ w'.cell? ⟨(ad102.add (((ji78)).toNat * 7)).block, (ad102.add (((ji78)).toNat * 7)).off + 1, none⟩ = some (.int .i64 ((rd_T26 l0 (ji78)).f1)) ∧ w'.cell? ⟨(ad102.add (((ji78)).toNat * 7)).block, (ad102.add (((ji78)).toNat * 7)).off + 2, none⟩ = some (.int .i64 ((rd_T26 l0 (ji78)).f2)) ∧ w'.cell? ⟨(ad102.add (((ji78)).toNat * 7)).block, (ad102.add (((ji78)).toNat * 7)).off + 3, none⟩ = some (.int .i64 ((rd_T26 l0 (ji78)).f3)) ∧ w'.cell? ⟨(ad102.add (((ji78)).toNat * 7)).block, (ad102.add (((ji78)).toNat * 7)).off + 4, none⟩ = some (.bool ((rd_T26 l0 (ji78)).f4)) ∧ w'.cell? ⟨(ad102.add (((ji78)).toNat * 7)).block, (ad102.add (((ji78)).toNat * 7)).off + 5, none⟩ = some (.bool ((rd_T26 l0 (ji78)).f5)) ∧ w'.cell? ⟨(ad102.add (((ji78)).toNat * 7)).block, (ad102.add (((ji78)).toNat * 7)).off + 6, none⟩ = some (.bool ((rd_T26 l0 (ji78)).f6)) ∧ w'.cell? (ad102.add (((ji78)).toNat * 7)) = some (.int .i64 ((rd_T26 l0 (ji78)).f0)) ∧ w'.cell? ⟨(ad102.add (((ji78)).toNat * 7)).block, (ad102.add (((ji78)).toNat * 7)).off + 1, none⟩ = some (.int .i64 ((rd_T26 l0 (ji78)).f1)) ∧ w'.cell? ⟨(ad102.add (((ji78)).toNat * 7)).block, (ad102.add (((ji78)).toNat * 7)).off + 2, none⟩ = some (.int .i64 ((rd_T26 l0 (ji78)).f2)) ∧ w'.cell? ⟨(ad102.add (((ji78)).toNat * 7)).block, (ad102.add (((ji78)).toNat * 7)).off + 3, none⟩ = some (.int .i64 ((rd_T26 l0 (ji78)).f3)) ∧ w'.cell? ⟨(ad102.add (((ji78)).toNat * 7)).block, (ad102.add (((ji78)).toNat * 7)).off + 4, none⟩ = some (.bool ((rd_T26 l0 (ji78)).f4)) ∧ w'.cell? ⟨(ad102.add (((ji78)).toNat * 7)).block, (ad102.add (((ji78)).toNat * 7)).off + 5, none⟩ = some (.bool ((rd_T26 l0 (ji78)).f5)) ∧ w'.cell? ⟨(ad102.add (((ji78)).toNat * 7)).block, (ad102.add (((ji78)).toNat * 7)).off + 6, none⟩ = some (.bool ((rd_T26 l0 (ji78)).f6))) (ds := []) #[o9, o9, o9, o9, o9, o9, o9, o9, o9, o9, o9, o9, o9, o9, o9, o9, o9, o9, o9, o9, o9, o9, o9, o9, o9, o9, o9] (by kernel_rfl) rfl rfl ⟨(blk_cell BK104.out 0).trans rfl, (blk_cell BK104.out 1).trans rfl, (blk_cell BK104.out 2).trans rfl, (blk_cell BK104.out 3).trans rfl, (blk_cell BK104.out 4).trans rfl, (blk_cell BK104.out 5).trans rfl, (blk_cell BK104.out 6).trans rfl, ((HB.out.cell (World.block_lt_of_cell? w _ hw133_0)).trans hw133_0), ((HB.out.cell (World.block_lt_of_cell? w _ hw133_1)).trans hw133_1), ((HB.out.cell (World.block_lt_of_cell? w _ hw133_2)).trans hw133_2), ((HB.out.cell (World.block_lt_of_cell? w _ hw133_3)).trans hw133_3), ((HB.out.cell (World.block_lt_of_cell? w _ hw133_4)).trans hw133_4), ((HB.out.cell (World.block_lt_of_cell? w _ hw133_5)).trans hw133_5), ((HB.out.cell (World.block_lt_of_cell? w _ hw133_6)).trans hw133_6), ((HB.out.cell (World.block_lt_of_cell? w _ hw134_0)).trans hw134_0), ((HB.out.cell (World.block_lt_of_cell? w _ hw134_1)).trans hw134_1), ((HB.out.cell (World.block_lt_of_cell? w _ hw134_2)).trans hw134_2), ((HB.out.cell (World.block_lt_of_cell? w _ hw134_3)).trans hw134_3), ((HB.out.cell (World.block_lt_of_cell? w _ hw134_4)).trans hw134_4), ((HB.out.cell (World.block_lt_of_cell? w _ hw134_5)).trans hw134_5), ((HB.out.cell (World.block_lt_of_cell? w _ hw134_6)).trans hw134_6)⟩ (fun hHeld => ?_); refine with_tabW cupolalaw11_SourceMore.tab15 cupolalaw11_SourceMore.bits15 (fun HT_ HW_ => ?_)
                 generalize wc.drew = w84 at HO_17 HO_18 HO_119000 BK104 BK105 BK118 HB hx133_0 hx133_1 hx133_2 hx133_3 hx133_4 hx133_5 hx133_6 hx134_0 hx134_1 hx134_2 hx134_3 hx134_4 hx134_5 hx134_6 hHeld ⊢
                 refine pureA 0 (some 101) ?_ #[i9, o9, o9, o9, o9, o9, o9, o9, o9, o9, o9, o9, o9, o9, o9, o9, o9, o9, o9, o9, o9, o9, o9, o9, o9, o9, o9] rfl rfl (any_of HT_.out (by kernel_rfl)) ?_ ?_ ?_ ?_
                 rotate_left
                 ·intro w'; go_simp; with_reducible rfl
                 rotate_left
                 ·exact put9
                 refine pureA 1 (some 102) ?_ #[i9, i9, o9, o9, o9, o9, o9, o9, o9, o9, o9, o9, o9, o9, o9, o9, o9, o9, o9, o9, o9, o9, o9, o9, o9, o9, o9] rfl rfl (any_of HT_.out (by kernel_rfl)) ?_ ?_ ?_ ?_
                 rotate_left
                 ·intro w'; go_simp; with_reducible rfl
                 rotate_left
                 ·exact put9
                 refine pureA 2 (some 103) ?_ #[i9, i9, i9, o9, o9, o9, o9, o9, o9, o9, o9, o9, o9, o9, o9, o9, o9, o9, o9, o9, o9, o9, o9, o9, o9, o9, o9] rfl rfl (any_of HT_.out (by kernel_rfl)) ?_ ?_ ?_ ?_
                 rotate_left
                 ·intro w'; go_simp; with_reducible rfl
                 rotate_left
                 ·exact put9
                 refine pureA 3 (some 104) ?_ #[i9, i9, i9, i9, o9, o9, o9, o9, o9, o9, o9, o9, o9, o9, o9, o9, o9, o9, o9, o9, o9, o9, o9, o9, o9, o9, o9] rfl rfl (any_of HT_.out (by kernel_rfl)) ?_ ?_ ?_ ?_
                 rotate_left
                 ·intro w'; go_simp; with_reducible rfl
                 rotate_left
                 ·exact put9
                 refine take_ (i := 4) (N := some 105) (v := ?_) (a' := ?_) #[i9, i9, i9, i9, i9, o9, o9, o9, o9, o9, o9, o9, o9, o9, o9, o9, o9, o9, o9, o9, o9, o9, o9, o9, o9, o9, o9] rfl rfl (take_ofW HT_.out HW_.out (by kernel_rfl)) (fun _ _ _ h => h) (Or.inl ⟨by rfl, ?_⟩) hHeld ?_ ?_
                 rotate_left
                 ·rintro w' ⟨s0, s1, s2, s3, s4, s5, s6, s7, s8, s9, s10, s11, s12, s13, s14, s15, s16, s17, s18, s19, s20⟩
                  go_simp
                  with_reducible rfl
                 rotate_left
                 ·exact put9
                 refine pureA 5 (some 106) ?_ #[i9, i9, i9, i9, i9, i9, o9, o9, o9, o9, o9, o9, o9, o9, o9, o9, o9, o9, o9, o9, o9, o9, o9, o9, o9, o9, o9] rfl rfl (any_of HT_.out (by kernel_rfl)) ?_ ?_ ?_ ?_
                 rotate_left
                 ·intro w'; go_simp; with_reducible rfl
                 rotate_left
                 ·exact put9
                 refine pureA 6 (some 107) ?_ #[i9, i9, i9, i9, i9, i9, i9, o9, o9, o9, o9, o9, o9, o9, o9, o9, o9, o9, o9, o9, o9, o9, o9, o9, o9, o9, o9] rfl rfl (any_of HT_.out (by kernel_rfl)) ?_ ?_ ?_ ?_
                 rotate_left
                 ·intro w'; go_simp; with_reducible rfl
                 rotate_left
                 ·exact put9
                 refine pureA 7 (some 108) ?_ #[i9, i9, i9, i9, i9, i9, i9, i9, o9, o9, o9, o9, o9, o9, o9, o9, o9, o9, o9, o9, o9, o9, o9, o9, o9, o9, o9] rfl rfl (any_of HT_.out (by kernel_rfl)) ?_ ?_ ?_ ?_
                 rotate_left
                 ·intro w'; go_simp; with_reducible rfl
                 rotate_left
                 ·exact put9
                 refine pureA 8 (some 109) ?_ #[i9, i9, i9, i9, i9, i9, i9, i9, i9, o9, o9, o9, o9, o9, o9, o9, o9, o9, o9, o9, o9, o9, o9, o9, o9, o9, o9] rfl rfl (any_of HT_.out (by kernel_rfl)) ?_ ?_ ?_ ?_
                 rotate_left
                 ·intro w'; go_simp; with_reducible rfl
                 rotate_left
                 ·exact put9
                 refine pureA 9 (some 110) ?_ #[i9, i9, i9, i9, i9, i9, i9, i9, i9, i9, o9, o9, o9, o9, o9, o9, o9, o9, o9, o9, o9, o9, o9, o9, o9, o9, o9] rfl rfl (any_of HT_.out (by kernel_rfl)) ?_ ?_ ?_ ?_
                 rotate_left
                 ·intro w'; go_simp; with_reducible rfl
                 rotate_left
                 ·exact put9
                 refine pureA 10 (some 111) ?_ #[i9, i9, i9, i9, i9, i9, i9, i9, i9, i9, i9, o9, o9, o9, o9, o9, o9, o9, o9, o9, o9, o9, o9, o9, o9, o9, o9] rfl rfl (any_of HT_.out (by kernel_rfl)) ?_ ?_ ?_ ?_
                 rotate_left
                 ·intro w'; go_simp; with_reducible rfl
                 rotate_left
                 ·exact put9
                 refine pureA 12 (some 113) ?_ #[i9, i9, i9, i9, i9, i9, i9, i9, i9, i9, i9, o9, i9, o9, o9, o9, o9, o9, o9, o9, o9, o9, o9, o9, o9, o9, o9] rfl rfl (any_of HT_.out (by kernel_rfl)) ?_ ?_ ?_ ?_
                 rotate_left
                 ·intro w'; go_simp; with_reducible rfl
                 rotate_left
                 ·exact put9
                 refine take_ (i := 11) (N := some 112) (v := ?_) (a' := ?_) #[i9, i9, i9, i9, i9, i9, i9, i9, i9, i9, i9, i9, i9, o9, o9, o9, o9, o9, o9, o9, o9, o9, o9, o9, o9, o9, o9] rfl rfl (take_ofW HT_.out HW_.out (by kernel_rfl)) (fun _ _ _ h => h) (Or.inl ⟨by rfl, ?_⟩) hHeld ?_ ?_
                 rotate_left
                 ·rintro w' ⟨s0, s1, s2, s3, s4, s5, s6, s7, s8, s9, s10, s11, s12, s13, s14, s15, s16, s17, s18, s19, s20⟩
                  go_simp
                  with_reducible rfl
                 rotate_left
                 ·exact put9
                 refine take_ (i := 13) (N := some 114) (v := ?_) (a' := ?_) #[i9, i9, i9, i9, i9, i9, i9, i9, i9, i9, i9, i9, i9, i9, o9, o9, o9, o9, o9, o9, o9, o9, o9, o9, o9, o9, o9] rfl rfl (take_ofW HT_.out HW_.out (by kernel_rfl)) (fun _ _ _ h => h) (Or.inl ⟨by rfl, ?_⟩) hHeld ?_ ?_
                 rotate_left
                 ·rintro w' ⟨s0, s1, s2, s3, s4, s5, s6, s7, s8, s9, s10, s11, s12, s13, s14, s15, s16, s17, s18, s19, s20⟩
                  go_simp
                  with_reducible rfl
                 rotate_left
                 ·exact put9
                 refine pureA 14 (some 115) ?_ #[i9, i9, i9, i9, i9, i9, i9, i9, i9, i9, i9, i9, i9, i9, i9, o9, o9, o9, o9, o9, o9, o9, o9, o9, o9, o9, o9] rfl rfl (any_of HT_.out (by kernel_rfl)) ?_ ?_ ?_ ?_
                 rotate_left
                 ·intro w'; go_simp; with_reducible rfl
                 rotate_left
                 ·exact put9
                 refine pureA 15 (some 116) ?_ #[i9, i9, i9, i9, i9, i9, i9, i9, i9, i9, i9, i9, i9, i9, i9, i9, o9, o9, o9, o9, o9, o9, o9, o9, o9, o9, o9] rfl rfl (any_of HT_.out (by kernel_rfl)) ?_ ?_ ?_ ?_
                 rotate_left
                 ·intro w'; go_simp; with_reducible rfl
                 rotate_left
                 ·exact put9
                 refine pureA 16 (some 117) ?_ #[i9, i9, i9, i9, i9, i9, i9, i9, i9, i9, i9, i9, i9, i9, i9, i9, i9, o9, o9, o9, o9, o9, o9, o9, o9, o9, o9] rfl rfl (any_of HT_.out (by kernel_rfl)) ?_ ?_ ?_ ?_
                 rotate_left
                 ·intro w'; go_simp; with_reducible rfl
                 rotate_left
                 ·exact put9
                 refine pure_ (i := 17) (N := some 118) (v := undef) (a' := ?_) #[i9, i9, i9, i9, i9, i9, i9, i9, i9, i9, i9, i9, i9, i9, i9, i9, i9, i9, o9, o9, o9, o9, o9, o9, o9, o9, o9] rfl rfl (any_of HT_.out (by kernel_rfl)) (fun _ _ _ h => h) (Or.inr ⟨by rfl, rfl⟩) ?_ ?_
                 rotate_left
                 ·exact put9
                 refine pure_ (i := 18) (N := some 119) (v := undef) (a' := ?_) #[i9, i9, i9, i9, i9, i9, i9, i9, i9, i9, i9, i9, i9, i9, i9, i9, i9, i9, i9, o9, o9, o9, o9, o9, o9, o9, o9] rfl rfl (any_of HT_.out (by kernel_rfl)) (fun _ _ _ h => h) (Or.inr ⟨by rfl, rfl⟩) ?_ ?_
                 rotate_left
                 ·exact put9
                 refine pure_ (i := 19) (N := some 120) (v := undef) (a' := ?_) #[i9, i9, i9, i9, i9, i9, i9, i9, i9, i9, i9, i9, i9, i9, i9, i9, i9, i9, i9, i9, o9, o9, o9, o9, o9, o9, o9] rfl rfl (any_of HT_.out (by kernel_rfl)) (fun _ _ _ h => h) (Or.inr ⟨by rfl, rfl⟩) ?_ ?_
                 rotate_left
                 ·exact put9
                 refine pure_ (i := 20) (N := some 121) (v := undef) (a' := ?_) #[i9, i9, i9, i9, i9, i9, i9, i9, i9, i9, i9, i9, i9, i9, i9, i9, i9, i9, i9, i9, i9, o9, o9, o9, o9, o9, o9] rfl rfl (any_of HT_.out (by kernel_rfl)) (fun _ _ _ h => h) (Or.inr ⟨by rfl, rfl⟩) ?_ ?_
                 rotate_left
                 ·exact put9
                 refine pure_ (i := 21) (N := some 122) (v := undef) (a' := ?_) #[i9, i9, i9, i9, i9, i9, i9, i9, i9, i9, i9, i9, i9, i9, i9, i9, i9, i9, i9, i9, i9, i9, o9, o9, o9, o9, o9] rfl rfl (any_of HT_.out (by kernel_rfl)) (fun _ _ _ h => h) (Or.inr ⟨by rfl, rfl⟩) ?_ ?_
                 rotate_left
                 ·exact put9
                 refine pure_ (i := 22) (N := some 123) (v := undef) (a' := ?_) #[i9, i9, i9, i9, i9, i9, i9, i9, i9, i9, i9, i9, i9, i9, i9, i9, i9, i9, i9, i9, i9, i9, i9, o9, o9, o9, o9] rfl rfl (any_of HT_.out (by kernel_rfl)) (fun _ _ _ h => h) (Or.inr ⟨by rfl, rfl⟩) ?_ ?_
                 rotate_left
                 ·exact put9
                 refine pure_ (i := 23) (N := some 124) (v := undef) (a' := ?_) #[i9, i9, i9, i9, i9, i9, i9, i9, i9, i9, i9, i9, i9, i9, i9, i9, i9, i9, i9, i9, i9, i9, i9, i9, o9, o9, o9] rfl rfl (any_of HT_.out (by kernel_rfl)) (fun _ _ _ h => h) (Or.inr ⟨by rfl, rfl⟩) ?_ ?_
                 rotate_left
                 ·exact put9
                 refine pure_ (i := 24) (N := some 125) (v := undef) (a' := ?_) #[i9, i9, i9, i9, i9, i9, i9, i9, i9, i9, i9, i9, i9, i9, i9, i9, i9, i9, i9, i9, i9, i9, i9, i9, i9, o9, o9] rfl rfl (any_of HT_.out (by kernel_rfl)) (fun _ _ _ h => h) (Or.inr ⟨by rfl, rfl⟩) ?_ ?_
                 rotate_left
                 ·exact put9
                 refine pureA 25 (some 126) ?_ #[i9, i9, i9, i9, i9, i9, i9, i9, i9, i9, i9, i9, i9, i9, i9, i9, i9, i9, i9, i9, i9, i9, i9, i9, i9, i9, o9] rfl rfl (any_of HT_.out (by kernel_rfl)) ?_ ?_ ?_ ?_
                 rotate_left
                 ·intro w'; go_simp; with_reducible rfl
                 rotate_left
                 ·exact put9
                 refine pureA 26 (some 19) ?_ #[i9, i9, i9, i9, i9, i9, i9, i9, i9, i9, i9, i9, i9, i9, i9, i9, i9, i9, i9, i9, i9, i9, i9, i9, i9, i9, i9] rfl rfl (any_of HT_.out (by kernel_rfl)) ?_ ?_ ?_ ?_
                 rotate_left
                 ·intro w'; go_simp; with_reducible rfl
                 rotate_left
                 ·exact put9
                 refine done_ (done_of HT_.out (by kernel_rfl)) ?_
                 try go_wp2
                 rw [← hji78]
                 go_meet
                 case rel => exact ⟨_, (false), rs9, H', ⟨by have := HJ5.out; have := HJ21.out; first | omega | exact Nat.le_refl _⟩, ⟨rp9 HO_17.out⟩, ⟨rp9 HO_18.out⟩, ⟨rp9 HO_119000.out⟩, ⟨kp9 BK104.out⟩, ⟨kp9 BK105.out⟩, ⟨kp9 BK118.out⟩, ⟨bp9 HB.out⟩⟩
               ·rw [if_neg c81] at H
                have c81b0 : (((rd_T26 l0 (ji78)).f1) == 1) = false := beq_eq_false_iff_ne.mpr c81
                have c81b1 : (((rd_T26 l0 (ji78)).f1) != 1) = true := bne_iff_ne.mpr c81
                have H' := a9_ H
                clear H
                try go_wp2
                have n0_ := a9_ (Kd.R_drew HO_17.out)
                have n1_ := a9_ (Kd.R_drew HO_18.out)
                have n2_ := a9_ (Kd.R_drew HO_119000.out)
                have n3_ := a9_ (blk_drew BK104.out)
                have n4_ := a9_ (blk_drew BK105.out)
                have n5_ := a9_ (blk_drew BK118.out)
                have n6_ := a9_ (below_drew1 HB.out)
                clear HO_17 HO_18 HO_119000 BK104 BK105 BK118 HB
                revert n0_ n1_ n2_ n3_ n4_ n5_ n6_; intro HO_17 HO_18 HO_119000 BK104 BK105 BK118 HB
                have p133 : 0 ≤ ((ji78) : Int) := of_decide_eq_true (by first | (with_reducible assumption) | assumption)
                have q133 : (ji78) < (l0.length : Int) := of_decide_eq_true (by first | (with_reducible assumption) | assumption)
                obtain ⟨ad133, e133, hx133_0, hx133_1, hx133_2, hx133_3, hx133_4, hx133_5, hx133_6⟩ := at_T26 HR0.out (ji78) p133 q133
                have hw133_6 := hx133_6
                have hw133_5 := hx133_5
                have hw133_4 := hx133_4
                have hw133_3 := hx133_3
                have hw133_2 := hx133_2
                have hw133_1 := hx133_1
                have hw133_0 := hx133_0
                obtain rfl : ad102 = ad133 := (by injection e133)
                replace hx133_0 := hb9 HB.out hx133_0
                replace hx133_1 := hb9 HB.out hx133_1
                replace hx133_2 := hb9 HB.out hx133_2
                replace hx133_3 := hb9 HB.out hx133_3
                replace hx133_4 := hb9 HB.out hx133_4
                replace hx133_5 := hb9 HB.out hx133_5
                replace hx133_6 := hb9 HB.out hx133_6
                replace p133 := eq_true p133
                replace q133 := eq_true q133
                refine start_ (n := 27) (S := fun w' => w'.cell? (ad102.add (((ji78)).toNat * 7)) = some (.int .i64 ((rd_T26 l0 (ji78)).f0)) ∧ w'.cell? ⟨(ad102.add (((ji78)).toNat * 7)).block, (ad102.add (((ji78)).toNat * 7)).off + 1, none⟩ = some (.int .i64 ((rd_T26 l0 (ji78)).f1)) ∧ w'.cell? ⟨(ad102.add (((ji78)).toNat * 7)).block, (ad102.add (((ji78)).toNat * 7)).off + 2, none⟩ = some (.int .i64 ((rd_T26 l0 (ji78)).f2)) ∧ w'.cell? ⟨(ad102.add (((ji78)).toNat * 7)).block, (ad102.add (((ji78)).toNat * 7)).off + 3, none⟩ = some (.int .i64 ((rd_T26 l0 (ji78)).f3)) ∧ w'.cell? ⟨(ad102.add (((ji78)).toNat * 7)).block, (ad102.add (((ji78)).toNat * 7)).off + 4, none⟩ = some (.bool ((rd_T26 l0 (ji78)).f4)) ∧ w'.cell? ⟨(ad102.add (((ji78)).toNat * 7)).block, (ad102.add (((ji78)).toNat * 7)).off + 5, none⟩ = some (.bool ((rd_T26 l0 (ji78)).f5)) ∧ w'.cell? ⟨(ad102.add (((ji78)).toNat * 7)).block, (ad102.add (((ji78)).toNat * 7)).off + 6, none⟩ = some (.bool ((rd_T26 l0 (ji78)).f6))) (ds := []) #[o9, o9, o9, o9, o9, o9, o9, o9, o9, o9, o9, o9, o9, o9, o9, o9, o9, o9, o9, o9, o9, o9, o9, o9, o9, o9, o9] (by kernel_rfl) rfl rfl ⟨((HB.out.cell (World.block_lt_of_cell? w _ hw133_0)).trans hw133_0), ((HB.out.cell (World.block_lt_of_cell? w _ hw133_1)).trans hw133_1), ((HB.out.cell (World.block_lt_of_cell? w _ hw133_2)).trans hw133_2), ((HB.out.cell (World.block_lt_of_cell? w _ hw133_3)).trans hw133_3), ((HB.out.cell (World.block_lt_of_cell? w _ hw133_4)).trans hw133_4), ((HB.out.cell (World.block_lt_of_cell? w _ hw133_5)).trans hw133_5), ((HB.out.cell (World.block_lt_of_cell? w _ hw133_6)).trans hw133_6)⟩ (fun hHeld => ?_); refine with_tabW cupolalaw11_SourceMore.tab15 cupolalaw11_SourceMore.bits15 (fun HT_ HW_ => ?_)
                generalize wc.drew = w85 at HO_17 HO_18 HO_119000 BK104 BK105 BK118 HB hx133_0 hx133_1 hx133_2 hx133_3 hx133_4 hx133_5 hx133_6 hHeld ⊢
                refine pureA 0 (some 101) ?_ #[i9, o9, o9, o9, o9, o9, o9, o9, o9, o9, o9, o9, o9, o9, o9, o9, o9, o9, o9, o9, o9, o9, o9, o9, o9, o9, o9] rfl rfl (any_of HT_.out (by kernel_rfl)) ?_ ?_ ?_ ?_
                rotate_left
                ·intro w'; go_simp; with_reducible rfl
                rotate_left
                ·exact put9
                refine pureA 1 (some 102) ?_ #[i9, i9, o9, o9, o9, o9, o9, o9, o9, o9, o9, o9, o9, o9, o9, o9, o9, o9, o9, o9, o9, o9, o9, o9, o9, o9, o9] rfl rfl (any_of HT_.out (by kernel_rfl)) ?_ ?_ ?_ ?_
                rotate_left
                ·intro w'; go_simp; with_reducible rfl
                rotate_left
                ·exact put9
                refine pureA 2 (some 103) ?_ #[i9, i9, i9, o9, o9, o9, o9, o9, o9, o9, o9, o9, o9, o9, o9, o9, o9, o9, o9, o9, o9, o9, o9, o9, o9, o9, o9] rfl rfl (any_of HT_.out (by kernel_rfl)) ?_ ?_ ?_ ?_
                rotate_left
                ·intro w'; go_simp; with_reducible rfl
                rotate_left
                ·exact put9
                refine pureA 3 (some 104) ?_ #[i9, i9, i9, i9, o9, o9, o9, o9, o9, o9, o9, o9, o9, o9, o9, o9, o9, o9, o9, o9, o9, o9, o9, o9, o9, o9, o9] rfl rfl (any_of HT_.out (by kernel_rfl)) ?_ ?_ ?_ ?_
                rotate_left
                ·intro w'; go_simp; with_reducible rfl
                rotate_left
                ·exact put9
                refine take_ (i := 4) (N := some 105) (v := ?_) (a' := ?_) #[i9, i9, i9, i9, i9, o9, o9, o9, o9, o9, o9, o9, o9, o9, o9, o9, o9, o9, o9, o9, o9, o9, o9, o9, o9, o9, o9] rfl rfl (take_ofW HT_.out HW_.out (by kernel_rfl)) (fun _ _ _ h => h) (Or.inl ⟨by rfl, ?_⟩) hHeld ?_ ?_
                rotate_left
                ·rintro w' ⟨s0, s1, s2, s3, s4, s5, s6⟩
                 go_simp
                 with_reducible rfl
                rotate_left
                ·exact put9
                refine pureA 5 (some 106) ?_ #[i9, i9, i9, i9, i9, i9, o9, o9, o9, o9, o9, o9, o9, o9, o9, o9, o9, o9, o9, o9, o9, o9, o9, o9, o9, o9, o9] rfl rfl (any_of HT_.out (by kernel_rfl)) ?_ ?_ ?_ ?_
                rotate_left
                ·intro w'; go_simp; with_reducible rfl
                rotate_left
                ·exact put9
                refine pureA 6 (some 107) ?_ #[i9, i9, i9, i9, i9, i9, i9, o9, o9, o9, o9, o9, o9, o9, o9, o9, o9, o9, o9, o9, o9, o9, o9, o9, o9, o9, o9] rfl rfl (any_of HT_.out (by kernel_rfl)) ?_ ?_ ?_ ?_
                rotate_left
                ·intro w'; go_simp; with_reducible rfl
                rotate_left
                ·exact put9
                refine pure_ (i := 7) (N := some 108) (v := undef) (a' := ?_) #[i9, i9, i9, i9, i9, i9, i9, i9, o9, o9, o9, o9, o9, o9, o9, o9, o9, o9, o9, o9, o9, o9, o9, o9, o9, o9, o9] rfl rfl (any_of HT_.out (by kernel_rfl)) (fun _ _ _ h => h) (Or.inr ⟨by rfl, rfl⟩) ?_ ?_
                rotate_left
                ·exact put9
                refine pure_ (i := 8) (N := some 109) (v := undef) (a' := ?_) #[i9, i9, i9, i9, i9, i9, i9, i9, i9, o9, o9, o9, o9, o9, o9, o9, o9, o9, o9, o9, o9, o9, o9, o9, o9, o9, o9] rfl rfl (any_of HT_.out (by kernel_rfl)) (fun _ _ _ h => h) (Or.inr ⟨by rfl, rfl⟩) ?_ ?_
                rotate_left
                ·exact put9
                refine pure_ (i := 9) (N := some 110) (v := undef) (a' := ?_) #[i9, i9, i9, i9, i9, i9, i9, i9, i9, i9, o9, o9, o9, o9, o9, o9, o9, o9, o9, o9, o9, o9, o9, o9, o9, o9, o9] rfl rfl (any_of HT_.out (by kernel_rfl)) (fun _ _ _ h => h) (Or.inr ⟨by rfl, rfl⟩) ?_ ?_
                rotate_left
                ·exact put9
                refine pure_ (i := 10) (N := some 111) (v := undef) (a' := ?_) #[i9, i9, i9, i9, i9, i9, i9, i9, i9, i9, i9, o9, o9, o9, o9, o9, o9, o9, o9, o9, o9, o9, o9, o9, o9, o9, o9] rfl rfl (any_of HT_.out (by kernel_rfl)) (fun _ _ _ h => h) (Or.inr ⟨by rfl, rfl⟩) ?_ ?_
                rotate_left
                ·exact put9
                refine pure_ (i := 11) (N := some 112) (v := undef) (a' := ?_) #[i9, i9, i9, i9, i9, i9, i9, i9, i9, i9, i9, i9, o9, o9, o9, o9, o9, o9, o9, o9, o9, o9, o9, o9, o9, o9, o9] rfl rfl (any_of HT_.out (by kernel_rfl)) (fun _ _ _ h => h) (Or.inr ⟨by rfl, rfl⟩) ?_ ?_
                rotate_left
                ·exact put9
                refine pure_ (i := 12) (N := some 113) (v := undef) (a' := ?_) #[i9, i9, i9, i9, i9, i9, i9, i9, i9, i9, i9, i9, i9, o9, o9, o9, o9, o9, o9, o9, o9, o9, o9, o9, o9, o9, o9] rfl rfl (any_of HT_.out (by kernel_rfl)) (fun _ _ _ h => h) (Or.inr ⟨by rfl, rfl⟩) ?_ ?_
                rotate_left
                ·exact put9
                refine pure_ (i := 13) (N := some 114) (v := undef) (a' := ?_) #[i9, i9, i9, i9, i9, i9, i9, i9, i9, i9, i9, i9, i9, i9, o9, o9, o9, o9, o9, o9, o9, o9, o9, o9, o9, o9, o9] rfl rfl (any_of HT_.out (by kernel_rfl)) (fun _ _ _ h => h) (Or.inr ⟨by rfl, rfl⟩) ?_ ?_
                rotate_left
                ·exact put9
                refine pure_ (i := 14) (N := some 115) (v := undef) (a' := ?_) #[i9, i9, i9, i9, i9, i9, i9, i9, i9, i9, i9, i9, i9, i9, i9, o9, o9, o9, o9, o9, o9, o9, o9, o9, o9, o9, o9] rfl rfl (any_of HT_.out (by kernel_rfl)) (fun _ _ _ h => h) (Or.inr ⟨by rfl, rfl⟩) ?_ ?_
                rotate_left
                ·exact put9
                refine pureA 15 (some 116) ?_ #[i9, i9, i9, i9, i9, i9, i9, i9, i9, i9, i9, i9, i9, i9, i9, i9, o9, o9, o9, o9, o9, o9, o9, o9, o9, o9, o9] rfl rfl (any_of HT_.out (by kernel_rfl)) ?_ ?_ ?_ ?_
                rotate_left
                ·intro w'; go_simp; with_reducible rfl
                rotate_left
                ·exact put9
                refine pureA 16 (some 117) ?_ #[i9, i9, i9, i9, i9, i9, i9, i9, i9, i9, i9, i9, i9, i9, i9, i9, i9, o9, o9, o9, o9, o9, o9, o9, o9, o9, o9] rfl rfl (any_of HT_.out (by kernel_rfl)) ?_ ?_ ?_ ?_
                rotate_left
                ·intro w'; go_simp; with_reducible rfl
                rotate_left
                ·exact put9
                refine pure_ (i := 17) (N := some 118) (v := undef) (a' := ?_) #[i9, i9, i9, i9, i9, i9, i9, i9, i9, i9, i9, i9, i9, i9, i9, i9, i9, i9, o9, o9, o9, o9, o9, o9, o9, o9, o9] rfl rfl (any_of HT_.out (by kernel_rfl)) (fun _ _ _ h => h) (Or.inr ⟨by rfl, rfl⟩) ?_ ?_
                rotate_left
                ·exact put9
                refine pure_ (i := 18) (N := some 119) (v := undef) (a' := ?_) #[i9, i9, i9, i9, i9, i9, i9, i9, i9, i9, i9, i9, i9, i9, i9, i9, i9, i9, i9, o9, o9, o9, o9, o9, o9, o9, o9] rfl rfl (any_of HT_.out (by kernel_rfl)) (fun _ _ _ h => h) (Or.inr ⟨by rfl, rfl⟩) ?_ ?_
                rotate_left
                ·exact put9
                refine pure_ (i := 19) (N := some 120) (v := undef) (a' := ?_) #[i9, i9, i9, i9, i9, i9, i9, i9, i9, i9, i9, i9, i9, i9, i9, i9, i9, i9, i9, i9, o9, o9, o9, o9, o9, o9, o9] rfl rfl (any_of HT_.out (by kernel_rfl)) (fun _ _ _ h => h) (Or.inr ⟨by rfl, rfl⟩) ?_ ?_
                rotate_left
                ·exact put9
                refine pure_ (i := 20) (N := some 121) (v := undef) (a' := ?_) #[i9, i9, i9, i9, i9, i9, i9, i9, i9, i9, i9, i9, i9, i9, i9, i9, i9, i9, i9, i9, i9, o9, o9, o9, o9, o9, o9] rfl rfl (any_of HT_.out (by kernel_rfl)) (fun _ _ _ h => h) (Or.inr ⟨by rfl, rfl⟩) ?_ ?_
                rotate_left
                ·exact put9
                refine pure_ (i := 21) (N := some 122) (v := undef) (a' := ?_) #[i9, i9, i9, i9, i9, i9, i9, i9, i9, i9, i9, i9, i9, i9, i9, i9, i9, i9, i9, i9, i9, i9, o9, o9, o9, o9, o9] rfl rfl (any_of HT_.out (by kernel_rfl)) (fun _ _ _ h => h) (Or.inr ⟨by rfl, rfl⟩) ?_ ?_
                rotate_left
                ·exact put9
                refine pure_ (i := 22) (N := some 123) (v := undef) (a' := ?_) #[i9, i9, i9, i9, i9, i9, i9, i9, i9, i9, i9, i9, i9, i9, i9, i9, i9, i9, i9, i9, i9, i9, i9, o9, o9, o9, o9] rfl rfl (any_of HT_.out (by kernel_rfl)) (fun _ _ _ h => h) (Or.inr ⟨by rfl, rfl⟩) ?_ ?_
                rotate_left
                ·exact put9
                refine pure_ (i := 23) (N := some 124) (v := undef) (a' := ?_) #[i9, i9, i9, i9, i9, i9, i9, i9, i9, i9, i9, i9, i9, i9, i9, i9, i9, i9, i9, i9, i9, i9, i9, i9, o9, o9, o9] rfl rfl (any_of HT_.out (by kernel_rfl)) (fun _ _ _ h => h) (Or.inr ⟨by rfl, rfl⟩) ?_ ?_
                rotate_left
                ·exact put9
                refine pure_ (i := 24) (N := some 125) (v := undef) (a' := ?_) #[i9, i9, i9, i9, i9, i9, i9, i9, i9, i9, i9, i9, i9, i9, i9, i9, i9, i9, i9, i9, i9, i9, i9, i9, i9, o9, o9] rfl rfl (any_of HT_.out (by kernel_rfl)) (fun _ _ _ h => h) (Or.inr ⟨by rfl, rfl⟩) ?_ ?_
                rotate_left
                ·exact put9
                refine pureA 25 (some 126) ?_ #[i9, i9, i9, i9, i9, i9, i9, i9, i9, i9, i9, i9, i9, i9, i9, i9, i9, i9, i9, i9, i9, i9, i9, i9, i9, i9, o9] rfl rfl (any_of HT_.out (by kernel_rfl)) ?_ ?_ ?_ ?_
                rotate_left
                ·intro w'; go_simp; with_reducible rfl
                rotate_left
                ·exact put9
                refine pureA 26 (some 19) ?_ #[i9, i9, i9, i9, i9, i9, i9, i9, i9, i9, i9, i9, i9, i9, i9, i9, i9, i9, i9, i9, i9, i9, i9, i9, i9, i9, i9] rfl rfl (any_of HT_.out (by kernel_rfl)) ?_ ?_ ?_ ?_
                rotate_left
                ·intro w'; go_simp; with_reducible rfl
                rotate_left
                ·exact put9
                refine done_ (done_of HT_.out (by kernel_rfl)) ?_
                try go_wp2
                rw [← hji78]
                go_meet
                case rel => exact ⟨_, (false), rs9, H', ⟨by have := HJ5.out; have := HJ21.out; first | omega | exact Nat.le_refl _⟩, ⟨rp9 HO_17.out⟩, ⟨rp9 HO_18.out⟩, ⟨rp9 HO_119000.out⟩, ⟨kp9 BK104.out⟩, ⟨kp9 BK105.out⟩, ⟨kp9 BK118.out⟩, ⟨bp9 HB.out⟩⟩
              ·rw [if_neg c80] at H
               exact absurd H (by simp)
             ·rw [if_neg c79] at H
              exact absurd H (by simp)
            case rest =>
             clear HC77
             try clear p1
             try clear q1
             try clear hx1
             try clear p2
             try clear c7
             try clear c8
             try clear p13
             try clear q13
             try clear hx13
             try clear c79
             try clear c80
             try clear c81
             try clear c81b0
             try clear c81b1
             try clear c82
             try clear c82b0
             try clear c82b1
             try clear hx133_0
             try clear hx133_1
             try clear hx133_2
             try clear hx133_3
             try clear hx133_4
             try clear hx133_5
             try clear hx133_6
             try clear hx134_0
             try clear hx134_1
             try clear hx134_2
             try clear hx134_3
             try clear hx134_4
             try clear hx134_5
             try clear hx134_6
             try clear p133
             try clear p134
             try clear q133
             try clear q134
             obtain ⟨kq, x19_76, rfl, HA, HJ76, HO_17, HO_18, HO_119000, BK104, BK105, BK118, HB⟩ := hcut
             cases kq with
             | zero => exact absurd HA.out (by simp [cupolalaw11_SourceMore.j2])
             | succ kj76 =>
              have H := HA.out
              clear HA
              simp only [cupolalaw11_SourceMore.j2] at H
              by_cases c86 : t101 = true
              ·subst c86
               rw [if_pos rfl] at H
               by_cases c87 : x19_76 = true
               ·subst c87
                rw [if_pos rfl] at H
                obtain rfl := Option.some.inj H
                obtain ⟨Ao88, co88, eo88⟩ := Kd.R_slice HO_18.out
                subst eo88
                obtain ⟨Ao89, co89, eo89⟩ := Kd.R_slice HO_17.out
                subst eo89
                go_wp2
                go_ret
                exact ⟨by first | rfl | (simp [errW_none, errW_some] <;> rfl) | (simp only [← hji11]; first | rfl | (simp [errW_none, errW_some] <;> rfl)) | (simp [*, errW_none, errW_some] <;> rfl), bp9 HB.out⟩
               ·replace c87 := Bool.eq_false_iff.mpr c87
                subst c87
                rw [if_neg (show ¬ (false = true) by decide)] at H
                replace H := Option.bind_eq_some_iff.mp H
                obtain ⟨t136, A900, H⟩ := H
                have A90 := a9_ A900
                clear A900
                by_cases c91 : t136 = true
                ·subst c91
                 rw [if_pos rfl] at H
                 obtain rfl := Option.some.inj H
                 obtain ⟨Ao92, co92, eo92⟩ := Kd.R_slice HO_17.out
                 subst eo92
                 obtain ⟨Ao93, co93, eo93⟩ := Kd.R_slice HO_18.out
                 subst eo93
                 go_wp2_with (first | (go_at_call 34; (with_reducible refine (cupolaref01_Ints.calls kj76 _ _ t125 _ _ t128 true _ ?side1 ?side2 ?side3 ?side4 A90.out).mono ?_); (case side1 => exact lp9 (Kd.R_reads' HO_17.out).2.2); (case side2 => exact (Kd.R_reads' HO_17.out).2.1); (case side3 => exact lp9 (Kd.R_reads' HO_18.out).2.2); (case side4 => exact (Kd.R_reads' HO_18.out).2.1); rintro e w' ⟨rfl, ⟨nd, rfl⟩⟩))
                 go_ret
                 exact ⟨by first | rfl | (simp [errW_none, errW_some] <;> rfl) | (simp only [← hji11]; first | rfl | (simp [errW_none, errW_some] <;> rfl)) | (simp [*, errW_none, errW_some] <;> rfl), bp9 HB.out⟩
                ·replace c91 := Bool.eq_false_iff.mpr c91
                 subst c91
                 rw [if_neg (show ¬ (false = true) by decide)] at H
                 exact absurd ((Option.some.inj H).trans HT9.out) (by decide)
              ·replace c86 := Bool.eq_false_iff.mpr c86
               subst c86
               rw [if_neg (show ¬ (false = true) by decide)] at H
               exact absurd ((Option.some.inj H).trans HT9.out) (by decide)
        ·rw [if_neg c16] at H
         exact absurd H (by simp)
       ·rw [if_neg c15] at H
        exact absurd H (by simp)
      ·rw [if_neg c13] at H
       exact absurd H (by simp)
     ·rw [if_neg c12] at H
      exact absurd H (by simp)
end Go.Proofs.Ytbamkkdikeedoaa.G
