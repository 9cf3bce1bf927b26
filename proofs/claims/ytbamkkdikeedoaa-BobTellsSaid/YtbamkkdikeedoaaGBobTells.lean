-- Written by drive.py, a program of this seat's session, out of the translation.
import Derived.Test.YtbamkkdikeedoaaG0
import Derived.Test.YtbamkkdikeedoaaGBob
import Derived.Test.YtbamkkdikeedoaaGCupolalaw15
import Derived.Test.YtbamkkdikeedoaaGCupolaref05
import Derived.Test.YtbamkkdikeedoaaGCupolaref14
import Derived.Test.YtbamkkdikeedoaaGCupolaref15
import Derived.Test.YtbamkkdikeedoaaGCupolaref15b
import Derived.Test.YtbamkkdikeedoaaHandMade
import Derived.Test.YtbamkkdikeedoaaHandCz
namespace Go.Proofs.Ytbamkkdikeedoaa.G
open Go.RowKit Go.Proofs.YtbamkkdikeedoaaW.PrintWords Go.Proofs.YtbamkkdikeedoaaW.PrintLast Go.Proofs.YtbamkkdikeedoaaW.PrintMore
set_option linter.unusedVariables false
set_option linter.unusedSimpArgs false
def cupolalaw15_BobTells.j0 : Nat → List Int → List Int → Bool → Bool → List (S26) → List Int → List Int → List Int → List Int → List Int → List (List Int) → Option (Bool)
 | 0, _, _, _, _, _, _, _, _, _, _, _ => none
 | k + 1, x1, x2, x7, x18, x102000, x102001, x102002, x102003, x102004, x102005, x102006 => if x18 = true then (some x7) else ((cupolalaw15_made.f x102000 x102001 x102002 x102003 x102004 x102005 x102006).bind fun _ => (if x7 = true then ((bob_Fences.f k x102000 x102001 x102002 x102003 x102004 x102005 x102006).bind fun t105 => ((cupolaref15_Fences.f k x102000 x102001 x102002 x102003 x102004 x102005 x102006).bind fun t108 => ((cupolaref05_Same.f k t105 t108).bind fun t111 => (if t111 = true then ((bob_Orders.f k x102000 x102001 x102002 x102003 x102004 x102005 x102006).bind fun t112 => ((cupolaref15_Orders.f k x102000 x102001 x102002 x102003 x102004 x102005 x102006).bind fun t115 => ((cupolaref05_Same.f k t112 t115).bind fun t118 => (if t118 = true then ((bob_Bob.f k x102000 x102001 x102002 x102003 x102004 x102005 x102006 x2).bind fun t119 => ((cupolaref15_Bob.f k x102000 x102001 x102002 x102003 x102004 x102005 x102006 x2).bind fun t122 => ((cupolaref05_Same.f k t119 t122).bind fun t125 => (if t125 = true then ((bob_Aob.f k x102000 x102001 x102002 x102003 x102004 x102005 x102006 x1).bind fun t126 => ((cupolaref15_Aob.f k x102000 x102001 x102002 x102003 x102004 x102005 x102006 x1).bind fun t129 => ((cupolaref05_Same.f k t126 t129).bind fun t132 => (some t132)))) else (some false))))) else (some false))))) else (some false))))) else (some false)))
def cupolalaw15_BobTells.f (k : Nat) (l0_0 : List (S26)) (l0_1 : List Int) (l0_2 : List Int) (l0_3 : List Int) (l0_4 : List Int) (l0_5 : List Int) (l0_6 : List (List Int)) (l1 : List Int) (l2 : List Int) : Option (Bool) := (cupolalaw15_shown.f k).bind fun t102 => ((cupolaref14_Sized.f l0_0 l0_1 l0_2 l0_3 l0_4 l0_5 l0_6 l2).bind fun t103 => (if t103 = true then (cupolalaw15_BobTells.j0 k l1 l2 t102 (decide ((l1.length : Int) > 40)) l0_0 l0_1 l0_2 l0_3 l0_4 l0_5 l0_6) else (cupolalaw15_BobTells.j0 k l1 l2 t102 true l0_0 l0_1 l0_2 l0_3 l0_4 l0_5 l0_6)))
def cupolalaw15_BobTells.T5 : Bool × List (List Nat × List Nat) := (true, [([], []), ([0], [0]), ([1], [1]), ([2, 1, 1], [1, 2]), ([1], [1]), ([4, 3, 1], [1, 4]), ([3, 5, 5, 1], [1, 3, 5]), ([1, 6], [1, 6]), ([7, 6], [7]), ([8], [8]), ([9, 8, 8], [8, 9]), ([8], [8]), ([11, 10, 8], [8, 11]), ([10, 12, 12, 8], [8, 10, 12]), ([8, 13], [8, 13]), ([14, 13], [14]), ([15], [15]), ([15], [15]), ([16, 17, 15, 15], [15, 16, 17]), ([15], [15]), ([15], [15]), ([19, 20, 18, 15], [15, 19, 20]), ([18, 21, 21, 15], [15, 18, 21]), ([15, 22], [15, 22]), ([23, 22], [23]), ([24], [24]), ([24], [24]), ([25, 26, 24, 24], [24, 25, 26]), ([24], [24]), ([24], [24]), ([28, 29, 27, 24], [24, 28, 29]), ([27, 30, 30, 24], [24, 27, 30]), ([24, 31], [24, 31]), ([32, 31, 0, 1, 2, 3, 4, 5, 6, 7, 8, 9, 10, 11, 12, 13, 14, 15, 16, 17, 18, 19, 20, 21, 22, 23, 24, 25, 26, 27, 28, 29, 30, 31, 32], [32])])
def cupolalaw15_BobTells.B5 : List Nat := [0, 1, 3, 7, 3, 31, 63, 127, 255, 511, 1023, 511, 4095, 8191, 16383, 32767, 65535, 65535, 262143, 65535, 65535, 2097151, 4194303, 8388607, 16777215, 33554431, 33554431, 134217727, 33554431, 33554431, 1073741823, 2147483647, 4294967295, 8589934591]
theorem cupolalaw15_BobTells.tab5 : rtab .any (opsOf Try.f22 5) = cupolalaw15_BobTells.T5 := by kernel_rfl
theorem cupolalaw15_BobTells.bits5 : waitsOk cupolalaw15_BobTells.T5.2 cupolalaw15_BobTells.B5 = true := by kernel_rfl
set_option maxHeartbeats 8000000 in
set_option maxRecDepth 100000 in
theorem cupolalaw15_BobTells.calls (k : Nat) (A0_0 : Option Addr) (c0_0 : Nat) (l0_0 : List (S26)) (A0_1 : Option Addr) (c0_1 : Nat) (l0_1 : List Int) (A0_2 : Option Addr) (c0_2 : Nat) (l0_2 : List Int) (A0_3 : Option Addr) (c0_3 : Nat) (l0_3 : List Int) (A0_4 : Option Addr) (c0_4 : Nat) (l0_4 : List Int) (A0_5 : Option Addr) (c0_5 : Nat) (l0_5 : List Int) (A0_6 : Option Addr) (c0_6 : Nat) (l0_6 : List (List Int)) (A1 : Option Addr) (c1 : Nat) (l1 : List Int) (A2 : Option Addr) (c2 : Nat) (l2 : List Int) (r : Bool) (hT : r = true) (w : World) (hr0_0 : Kd.C k26 w A0_0 l0_0.length l0_0) (hc0_0 : l0_0.length ≤ c0_0) (hr0_1 : Kd.C (Kd.int .u32) w A0_1 l0_1.length l0_1) (hc0_1 : l0_1.length ≤ c0_1) (hr0_2 : Kd.C (Kd.int .u32) w A0_2 l0_2.length l0_2) (hc0_2 : l0_2.length ≤ c0_2) (hr0_3 : Kd.C (Kd.int .u32) w A0_3 l0_3.length l0_3) (hc0_3 : l0_3.length ≤ c0_3) (hr0_4 : Kd.C (Kd.int .u32) w A0_4 l0_4.length l0_4) (hc0_4 : l0_4.length ≤ c0_4) (hr0_5 : Kd.C (Kd.int .u32) w A0_5 l0_5.length l0_5) (hc0_5 : l0_5.length ≤ c0_5) (hr0_6 : Kd.C (Kd.slice 2 (Kd.int .i64)) w A0_6 l0_6.length l0_6) (hc0_6 : l0_6.length ≤ c0_6) (hr1 : Kd.C (Kd.int .i64) w A1 l1.length l1) (hc1 : l1.length ≤ c1) (hr2 : Kd.C (Kd.int .u32) w A2 l2.length l2) (hc2 : l2.length ≤ c2) (h : cupolalaw15_BobTells.f k l0_0 l0_1 l0_2 l0_3 l0_4 l0_5 l0_6 l1 l2 = some r) :
  Calls Try.prog 22 #[.agg #[.slice A0_0 l0_0.length c0_0, .slice A0_1 l0_1.length c0_1, .slice A0_2 l0_2.length c0_2, .slice A0_3 l0_3.length c0_3, .slice A0_4 l0_4.length c0_4, .slice A0_5 l0_5.length c0_5, .slice A0_6 l0_6.length c0_6], .slice A1 l1.length c1, .slice A2 l2.length c2] w fun e w' => e = .returned (.bool r) ∧ Below w.heap.size w w' := by
 have HT9 := a9_ hT
 clear hT
 have hu76 := Try.underlying76
 have hu31 := Try.underlying31
 have HR0_0 := a9_ hr0_0
 have HC0_0 := a9_ hc0_0
 clear hr0_0 hc0_0
 have HR0_1 := a9_ hr0_1
 have HC0_1 := a9_ hc0_1
 clear hr0_1 hc0_1
 have HR0_2 := a9_ hr0_2
 have HC0_2 := a9_ hc0_2
 clear hr0_2 hc0_2
 have HR0_3 := a9_ hr0_3
 have HC0_3 := a9_ hc0_3
 clear hr0_3 hc0_3
 have HR0_4 := a9_ hr0_4
 have HC0_4 := a9_ hc0_4
 clear hr0_4 hc0_4
 have HR0_5 := a9_ hr0_5
 have HC0_5 := a9_ hc0_5
 clear hr0_5 hc0_5
 have HR0_6 := a9_ hr0_6
 have HC0_6 := a9_ hc0_6
 clear hr0_6 hc0_6
 have HR1 := a9_ hr1
 have HC1 := a9_ hc1
 clear hr1 hc1
 have HR2 := a9_ hr2
 have HC2 := a9_ hc2
 clear hr2 hc2
 have HB := a9_ (Below.refl w.heap.size w)
 have H : ((cupolalaw15_shown.f k).bind fun t102 => ((cupolaref14_Sized.f l0_0 l0_1 l0_2 l0_3 l0_4 l0_5 l0_6 l2).bind fun t103 => (if t103 = true then (cupolalaw15_BobTells.j0 k l1 l2 t102 (decide ((l1.length : Int) > 40)) l0_0 l0_1 l0_2 l0_3 l0_4 l0_5 l0_6) else (cupolalaw15_BobTells.j0 k l1 l2 t102 true l0_0 l0_1 l0_2 l0_3 l0_4 l0_5 l0_6)))) = some r := h
 clear h
 replace H := Option.bind_eq_some_iff.mp H
 obtain ⟨t102, A40, H⟩ := H
 have A4 := a9_ A40
 clear A40
 have HC5 := a9_ H
 clear H
 go_enter Try.func22, Try.ntmps22
 go_upto_region 2 with (first | ((with_reducible refine gate_dst (N := 3) rfl ?_); (try (refine gate_guard (by rfl) ?_; dsimp only)); refine box9 (N := 3) (cs := #[.slice A0_0 l0_0.length c0_0, .slice A0_1 l0_1.length c0_1, .slice A0_2 l0_2.length c0_2, .slice A0_3 l0_3.length c0_3, .slice A0_4 l0_4.length c0_4, .slice A0_5 l0_5.length c0_5, .slice A0_6 l0_6.length c0_6]) (t := 76) ?_; intro gb101 hg w6 hbox hb; have n0_ := a9_ (below_step (bp9 HB.out) hb); have n1_ := a9_ (hbox); have n2_ := a9_ ((by rw [hg]; exact (below_size (bp9 HB.out)) : w.heap.size ≤ gb101)); have n3_ := n2_; clear HB; have HB := n0_; have BK101 := n1_; have GW101 := n2_; have GE101 := n3_; clear n0_ n1_ n2_ n3_; clear hb hbox hg) | ((with_reducible refine gate_callee (f := 70) rfl ?_); refine goesL9 (some 9) rfl rfl Try.func70 (by kernel_rfl) rfl #[] rfl ?_; (with_reducible refine (cupolalaw15_shown.calls k  t102 _ A4.out).mono ?_); rintro e w7 ⟨rfl, hb⟩; refine ⟨_, rfl, ?_⟩; have n0_ := a9_ (blk_below (kp9 BK101.out) hb); have n1_ := a9_ (below_step (bp9 HB.out) hb); clear BK101; clear HB; have BK101 := n0_; have HB := n1_; clear n0_ n1_; (try clear hb); (try clear hi)))
 (try simp only [Act.put, List.setIfInBounds_toArray, List.set_cons_zero, List.set_cons_succ])
 go_cut [18] (fun v18 wc => ∃ (kq : Nat) (x18_4 : Bool), v18 = .bool x18_4 ∧ Aside0 (cupolalaw15_BobTells.j0 kq l1 l2 t102 x18_4 l0_0 l0_1 l0_2 l0_3 l0_4 l0_5 l0_6 = some r) ∧ Aside0 (kq ≤ k) ∧ Aside0 (wc.heap[gb101]? = some (.cells #[(.slice A0_0 l0_0.length c0_0), (.slice A0_1 l0_1.length c0_1), (.slice A0_2 l0_2.length c0_2), (.slice A0_3 l0_3.length c0_3), (.slice A0_4 l0_4.length c0_4), (.slice A0_5 l0_5.length c0_5), (.slice A0_6 l0_6.length c0_6)] 76 (0, 0))) ∧ Aside0 (Below w.heap.size w wc))
 case first =>
  have H := HC5.out
  clear HC5
  replace H := Option.bind_eq_some_iff.mp H
  obtain ⟨t103, A80, H⟩ := H
  have A8 := a9_ A80
  clear A80
  by_cases c9 : t103 = true
  ·subst c9
   rw [if_pos rfl] at H
   have H' := a9_ H
   clear H
   obtain ⟨hcz10_0, hcz10_1, hcz10_2, hcz10_3, hcz10_4, hcz10_5, hcz10_6, hfz10_0, hfz10_1, hfz10_2, hfz10_3, hfz10_4, hfz10_5, hfz10_6⟩ := cz7 BK101.out
   go_wp2_with (first | ((with_reducible refine gate_callee (f := 71) rfl ?_); refine goesL9 (some 12) rfl rfl Try.func71 (by kernel_rfl) rfl #[.agg #[.slice A0_0 l0_0.length c0_0, .slice A0_1 l0_1.length c0_1, .slice A0_2 l0_2.length c0_2, .slice A0_3 l0_3.length c0_3, .slice A0_4 l0_4.length c0_4, .slice A0_5 l0_5.length c0_5, .slice A0_6 l0_6.length c0_6], .slice A2 l2.length c2] rfl ?_; (with_reducible refine (cupolaref14_Sized.calls _ _ l0_0 _ _ l0_1 _ _ l0_2 _ _ l0_3 _ _ l0_4 _ _ l0_5 _ _ l0_6 _ _ l2 true _ ?side1 ?side2 ?side3 ?side4 ?side5 ?side6 ?side7 ?side8 ?side9 ?side10 ?side11 ?side12 ?side13 ?side14 ?side15 ?side16 A8.out).mono ?_); (case side1 => exact cp9 HR0_0.out HB.out); (case side2 => exact HC0_0.out); (case side3 => exact cp9 HR0_1.out HB.out); (case side4 => exact HC0_1.out); (case side5 => exact cp9 HR0_2.out HB.out); (case side6 => exact HC0_2.out); (case side7 => exact cp9 HR0_3.out HB.out); (case side8 => exact HC0_3.out); (case side9 => exact cp9 HR0_4.out HB.out); (case side10 => exact HC0_4.out); (case side11 => exact cp9 HR0_5.out HB.out); (case side12 => exact HC0_5.out); (case side13 => exact cp9 HR0_6.out HB.out); (case side14 => exact HC0_6.out); (case side15 => exact cp9 HR2.out HB.out); (case side16 => exact HC2.out); rintro e w11 ⟨rfl, hb⟩; refine ⟨_, rfl, ?_⟩; have n0_ := a9_ (blk_below (kp9 BK101.out) hb); have n1_ := a9_ (below_step (bp9 HB.out) hb); clear BK101; clear HB; have BK101 := n0_; have HB := n1_; clear n0_ n1_; (try clear hb); (try clear hi)))
   go_meet
   case rel => exact ⟨_, (decide ((l1.length : Int) > 40)), rs9, H', ⟨by first | omega | exact Nat.le_refl _⟩, ⟨kp9 BK101.out⟩, ⟨bp9 HB.out⟩⟩
  ·replace c9 := Bool.eq_false_iff.mpr c9
   subst c9
   rw [if_neg (show ¬ (false = true) by decide)] at H
   have H' := a9_ H
   clear H
   obtain ⟨hcz12_0, hcz12_1, hcz12_2, hcz12_3, hcz12_4, hcz12_5, hcz12_6, hfz12_0, hfz12_1, hfz12_2, hfz12_3, hfz12_4, hfz12_5, hfz12_6⟩ := cz7 BK101.out
   go_wp2_with (first | ((with_reducible refine gate_callee (f := 71) rfl ?_); refine goesL9 (some 12) rfl rfl Try.func71 (by kernel_rfl) rfl #[.agg #[.slice A0_0 l0_0.length c0_0, .slice A0_1 l0_1.length c0_1, .slice A0_2 l0_2.length c0_2, .slice A0_3 l0_3.length c0_3, .slice A0_4 l0_4.length c0_4, .slice A0_5 l0_5.length c0_5, .slice A0_6 l0_6.length c0_6], .slice A2 l2.length c2] rfl ?_; (with_reducible refine (cupolaref14_Sized.calls _ _ l0_0 _ _ l0_1 _ _ l0_2 _ _ l0_3 _ _ l0_4 _ _ l0_5 _ _ l0_6 _ _ l2 false _ ?side1 ?side2 ?side3 ?side4 ?side5 ?side6 ?side7 ?side8 ?side9 ?side10 ?side11 ?side12 ?side13 ?side14 ?side15 ?side16 A8.out).mono ?_); (case side1 => exact cp9 HR0_0.out HB.out); (case side2 => exact HC0_0.out); (case side3 => exact cp9 HR0_1.out HB.out); (case side4 => exact HC0_1.out); (case side5 => exact cp9 HR0_2.out HB.out); (case side6 => exact HC0_2.out); (case side7 => exact cp9 HR0_3.out HB.out); (case side8 => exact HC0_3.out); (case side9 => exact cp9 HR0_4.out HB.out); (case side10 => exact HC0_4.out); (case side11 => exact cp9 HR0_5.out HB.out); (case side12 => exact HC0_5.out); (case side13 => exact cp9 HR0_6.out HB.out); (case side14 => exact HC0_6.out); (case side15 => exact cp9 HR2.out HB.out); (case side16 => exact HC2.out); rintro e w13 ⟨rfl, hb⟩; refine ⟨_, rfl, ?_⟩; have n0_ := a9_ (blk_below (kp9 BK101.out) hb); have n1_ := a9_ (below_step (bp9 HB.out) hb); clear BK101; clear HB; have BK101 := n0_; have HB := n1_; clear n0_ n1_; (try clear hb); (try clear hi)))
   go_meet
   case rel => exact ⟨_, (true), rs9, H', ⟨by first | omega | exact Nat.le_refl _⟩, ⟨kp9 BK101.out⟩, ⟨bp9 HB.out⟩⟩
 case rest =>
  clear HC5
  try clear c1
  try clear c2
  try clear p2
  try clear c7
  try clear c9
  try clear hcz10_0 hcz10_1 hcz10_2 hcz10_3 hcz10_4 hcz10_5 hcz10_6
  try clear hcz12_0 hcz12_1 hcz12_2 hcz12_3 hcz12_4 hcz12_5 hcz12_6
  try clear hfz10_0 hfz10_1 hfz10_2 hfz10_3 hfz10_4 hfz10_5 hfz10_6
  try clear hfz12_0 hfz12_1 hfz12_2 hfz12_3 hfz12_4 hfz12_5 hfz12_6
  obtain ⟨kq, x18_4, rfl, HA, HJ4, BK101, HB⟩ := hcut
  cases kq with
  | zero => exact absurd HA.out (by simp [cupolalaw15_BobTells.j0])
  | succ kj4 =>
   have H := HA.out
   clear HA
   simp only [cupolalaw15_BobTells.j0] at H
   by_cases c14 : x18_4 = true
   ·subst c14
    rw [if_pos rfl] at H
    obtain rfl := Option.some.inj H
    go_wp2
    go_ret
    exact ⟨by first | rfl | (simp [errW_none, errW_some] <;> rfl) | (simp [*, errW_none, errW_some] <;> rfl), bp9 HB.out⟩
   ·replace c14 := Bool.eq_false_iff.mpr c14
    subst c14
    rw [if_neg (show ¬ (false = true) by decide)] at H
    replace H := Option.bind_eq_some_iff.mp H
    obtain ⟨_, A150, H⟩ := H
    replace H : (if t102 = true then ((bob_Fences.f kj4 l0_0 l0_1 l0_2 l0_3 l0_4 l0_5 l0_6).bind fun t105 => ((cupolaref15_Fences.f kj4 l0_0 l0_1 l0_2 l0_3 l0_4 l0_5 l0_6).bind fun t108 => ((cupolaref05_Same.f kj4 t105 t108).bind fun t111 => (if t111 = true then ((bob_Orders.f kj4 l0_0 l0_1 l0_2 l0_3 l0_4 l0_5 l0_6).bind fun t112 => ((cupolaref15_Orders.f kj4 l0_0 l0_1 l0_2 l0_3 l0_4 l0_5 l0_6).bind fun t115 => ((cupolaref05_Same.f kj4 t112 t115).bind fun t118 => (if t118 = true then ((bob_Bob.f kj4 l0_0 l0_1 l0_2 l0_3 l0_4 l0_5 l0_6 l2).bind fun t119 => ((cupolaref15_Bob.f kj4 l0_0 l0_1 l0_2 l0_3 l0_4 l0_5 l0_6 l2).bind fun t122 => ((cupolaref05_Same.f kj4 t119 t122).bind fun t125 => (if t125 = true then ((bob_Aob.f kj4 l0_0 l0_1 l0_2 l0_3 l0_4 l0_5 l0_6 l1).bind fun t126 => ((cupolaref15_Aob.f kj4 l0_0 l0_1 l0_2 l0_3 l0_4 l0_5 l0_6 l1).bind fun t129 => ((cupolaref05_Same.f kj4 t126 t129).bind fun t132 => (some t132)))) else (some false))))) else (some false))))) else (some false))))) else (some false)) = some r := H
    have A15 := a9_ A150
    clear A150
    by_cases c16 : t102 = true
    ·subst c16
     rw [if_pos rfl] at H
     replace H := Option.bind_eq_some_iff.mp H
     obtain ⟨t105, A170, H⟩ := H
     have A17 := a9_ A170
     clear A170
     replace H := Option.bind_eq_some_iff.mp H
     obtain ⟨t108, A180, H⟩ := H
     have A18 := a9_ A180
     clear A180
     replace H := Option.bind_eq_some_iff.mp H
     obtain ⟨t111, A190, H⟩ := H
     have A19 := a9_ A190
     clear A190
     by_cases c20 : t111 = true
     ·subst c20
      rw [if_pos rfl] at H
      replace H := Option.bind_eq_some_iff.mp H
      obtain ⟨t112, A210, H⟩ := H
      have A21 := a9_ A210
      clear A210
      replace H := Option.bind_eq_some_iff.mp H
      obtain ⟨t115, A220, H⟩ := H
      have A22 := a9_ A220
      clear A220
      replace H := Option.bind_eq_some_iff.mp H
      obtain ⟨t118, A230, H⟩ := H
      have A23 := a9_ A230
      clear A230
      by_cases c24 : t118 = true
      ·subst c24
       rw [if_pos rfl] at H
       replace H := Option.bind_eq_some_iff.mp H
       obtain ⟨t119, A250, H⟩ := H
       have A25 := a9_ A250
       clear A250
       replace H := Option.bind_eq_some_iff.mp H
       obtain ⟨t122, A260, H⟩ := H
       have A26 := a9_ A260
       clear A260
       replace H := Option.bind_eq_some_iff.mp H
       obtain ⟨t125, A270, H⟩ := H
       have A27 := a9_ A270
       clear A270
       by_cases c28 : t125 = true
       ·subst c28
        rw [if_pos rfl] at H
        replace H := Option.bind_eq_some_iff.mp H
        obtain ⟨t126, A290, H⟩ := H
        have A29 := a9_ A290
        clear A290
        replace H := Option.bind_eq_some_iff.mp H
        obtain ⟨t129, A300, H⟩ := H
        have A30 := a9_ A300
        clear A300
        replace H := Option.bind_eq_some_iff.mp H
        obtain ⟨t132, A310, H⟩ := H
        have A31 := a9_ A310
        clear A310
        obtain rfl := Option.some.inj H
        obtain ⟨hcz32_0, hcz32_1, hcz32_2, hcz32_3, hcz32_4, hcz32_5, hcz32_6, hfz32_0, hfz32_1, hfz32_2, hfz32_3, hfz32_4, hfz32_5, hfz32_6⟩ := cz7 BK101.out
        try go_wp2_with (first | ((with_reducible refine gate_callee (f := 72) rfl ?_); refine goesL9 (some 21) rfl rfl Try.func72 (by kernel_rfl) rfl #[.agg #[.slice A0_0 l0_0.length c0_0, .slice A0_1 l0_1.length c0_1, .slice A0_2 l0_2.length c0_2, .slice A0_3 l0_3.length c0_3, .slice A0_4 l0_4.length c0_4, .slice A0_5 l0_5.length c0_5, .slice A0_6 l0_6.length c0_6]] rfl ?_; (with_reducible refine (cupolalaw15_made.calls _ _ l0_0 _ _ l0_1 _ _ l0_2 _ _ l0_3 _ _ l0_4 _ _ l0_5 _ _ l0_6  _ ?side1 ?side2 ?side3 ?side4 ?side5 ?side6 ?side7 ?side8 ?side9 ?side10 ?side11 ?side12 ?side13 ?side14 A15.out).mono ?_); (case side1 => exact cp9 HR0_0.out HB.out); (case side2 => exact HC0_0.out); (case side3 => exact cp9 HR0_1.out HB.out); (case side4 => exact HC0_1.out); (case side5 => exact cp9 HR0_2.out HB.out); (case side6 => exact HC0_2.out); (case side7 => exact cp9 HR0_3.out HB.out); (case side8 => exact HC0_3.out); (case side9 => exact cp9 HR0_4.out HB.out); (case side10 => exact HC0_4.out); (case side11 => exact cp9 HR0_5.out HB.out); (case side12 => exact HC0_5.out); (case side13 => exact cp9 HR0_6.out HB.out); (case side14 => exact HC0_6.out); rintro e w33 ⟨rfl, hb⟩; refine ⟨_, rfl, ?_⟩; have n0_ := a9_ (blk_below (kp9 BK101.out) hb); have n1_ := a9_ (below_step (bp9 HB.out) hb); clear BK101; clear HB; have BK101 := n0_; have HB := n1_; clear n0_ n1_; (try clear hb); (try clear hi)) | ((with_reducible refine gate_dst (N := 8) rfl ?_); (try (refine gate_guard (by rfl) ?_; dsimp only)); refine box9 (N := 8) (cs := #[.slice none 0 0, .slice none 0 0, .slice none 0 0, .slice none 0 0, .slice none 0 0, .slice none 0 0, .slice none 0 0]) (t := 31) ?_; intro gb104 hg w34 hbox hb; have n0_ := a9_ (blk_below (kp9 BK101.out) hb); have n1_ := a9_ (below_step (bp9 HB.out) hb); have n2_ := a9_ (hbox); have n3_ := a9_ ((by rw [hg]; exact (below_size (bp9 HB.out)) : w.heap.size ≤ gb104)); have n4_ := n3_; have n5_ := a9_ ((by rw [hg]; exact Nat.ne_of_lt (blk_lt (g := gb101) (o := .cells #[.slice A0_0 l0_0.length c0_0, .slice A0_1 l0_1.length c0_1, .slice A0_2 l0_2.length c0_2, .slice A0_3 l0_3.length c0_3, .slice A0_4 l0_4.length c0_4, .slice A0_5 l0_5.length c0_5, .slice A0_6 l0_6.length c0_6] 76 (0, 0)) (kp9 BK101.out)) : gb101 ≠ gb104)); have n6_ := a9_ ((by rw [hg]; exact Nat.ne_of_gt (blk_lt (g := gb101) (o := .cells #[.slice A0_0 l0_0.length c0_0, .slice A0_1 l0_1.length c0_1, .slice A0_2 l0_2.length c0_2, .slice A0_3 l0_3.length c0_3, .slice A0_4 l0_4.length c0_4, .slice A0_5 l0_5.length c0_5, .slice A0_6 l0_6.length c0_6] 76 (0, 0)) (kp9 BK101.out)) : gb104 ≠ gb101)); clear BK101; clear HB; have BK101 := n0_; have HB := n1_; have BK104 := n2_; have GW104 := n3_; have GE104 := n4_; have NB101_104 := n5_; have NB104_101 := n6_; clear n0_ n1_ n2_ n3_ n4_ n5_ n6_; clear hb hbox hg; have hnb35 := NB104_101.out; have hnc35 := NB101_104.out; obtain ⟨hcz36_0, hcz36_1, hcz36_2, hcz36_3, hcz36_4, hcz36_5, hcz36_6, hfz36_0, hfz36_1, hfz36_2, hfz36_3, hfz36_4, hfz36_5, hfz36_6⟩ := cz7 BK104.out))
        have n0_ : Aside0 ((((((((w34.setCell ⟨gb104, 0, none⟩ (.slice A0_0 l0_0.length c0_0)).setCell ⟨gb104, 1, none⟩ (.slice A0_1 l0_1.length c0_1)).setCell ⟨gb104, 2, none⟩ (.slice A0_2 l0_2.length c0_2)).setCell ⟨gb104, 3, none⟩ (.slice A0_3 l0_3.length c0_3)).setCell ⟨gb104, 4, none⟩ (.slice A0_4 l0_4.length c0_4)).setCell ⟨gb104, 5, none⟩ (.slice A0_5 l0_5.length c0_5)).setCell ⟨gb104, 6, none⟩ (.slice A0_6 l0_6.length c0_6)).heap[gb101]? = some (.cells #[.slice A0_0 l0_0.length c0_0, .slice A0_1 l0_1.length c0_1, .slice A0_2 l0_2.length c0_2, .slice A0_3 l0_3.length c0_3, .slice A0_4 l0_4.length c0_4, .slice A0_5 l0_5.length c0_5, .slice A0_6 l0_6.length c0_6] 76 (0, 0))) := ⟨by (with_reducible repeat (first | refine blk_drewN ?_ _ | refine blk_drew ?_ | refine blk_alloc ?_ _)); refine blk_far ?_ NB101_104.out _; (with_reducible repeat (first | refine blk_drewN ?_ _ | refine blk_drew ?_ | refine blk_alloc ?_ _)); refine blk_far ?_ NB101_104.out _; (with_reducible repeat (first | refine blk_drewN ?_ _ | refine blk_drew ?_ | refine blk_alloc ?_ _)); refine blk_far ?_ NB101_104.out _; (with_reducible repeat (first | refine blk_drewN ?_ _ | refine blk_drew ?_ | refine blk_alloc ?_ _)); refine blk_far ?_ NB101_104.out _; (with_reducible repeat (first | refine blk_drewN ?_ _ | refine blk_drew ?_ | refine blk_alloc ?_ _)); refine blk_far ?_ NB101_104.out _; (with_reducible repeat (first | refine blk_drewN ?_ _ | refine blk_drew ?_ | refine blk_alloc ?_ _)); refine blk_far ?_ NB101_104.out _; (with_reducible repeat (first | refine blk_drewN ?_ _ | refine blk_drew ?_ | refine blk_alloc ?_ _)); refine blk_far ?_ NB101_104.out _; (with_reducible repeat (first | refine blk_drewN ?_ _ | refine blk_drew ?_ | refine blk_alloc ?_ _)); exact BK101.out⟩
        have n1_ : Aside0 ((((((((w34.setCell ⟨gb104, 0, none⟩ (.slice A0_0 l0_0.length c0_0)).setCell ⟨gb104, 1, none⟩ (.slice A0_1 l0_1.length c0_1)).setCell ⟨gb104, 2, none⟩ (.slice A0_2 l0_2.length c0_2)).setCell ⟨gb104, 3, none⟩ (.slice A0_3 l0_3.length c0_3)).setCell ⟨gb104, 4, none⟩ (.slice A0_4 l0_4.length c0_4)).setCell ⟨gb104, 5, none⟩ (.slice A0_5 l0_5.length c0_5)).setCell ⟨gb104, 6, none⟩ (.slice A0_6 l0_6.length c0_6)).heap[gb104]? = some (.cells #[.slice A0_0 l0_0.length c0_0, .slice A0_1 l0_1.length c0_1, .slice A0_2 l0_2.length c0_2, .slice A0_3 l0_3.length c0_3, .slice A0_4 l0_4.length c0_4, .slice A0_5 l0_5.length c0_5, .slice A0_6 l0_6.length c0_6] 31 (0, 0))) := ⟨by (with_reducible repeat (first | refine blk_drewN ?_ _ | refine blk_drew ?_ | refine blk_alloc ?_ _)); refine blk_put (cs := #[.slice A0_0 l0_0.length c0_0, .slice A0_1 l0_1.length c0_1, .slice A0_2 l0_2.length c0_2, .slice A0_3 l0_3.length c0_3, .slice A0_4 l0_4.length c0_4, .slice A0_5 l0_5.length c0_5, .slice none 0 0]) ?_ 6 _ rfl; (with_reducible repeat (first | refine blk_drewN ?_ _ | refine blk_drew ?_ | refine blk_alloc ?_ _)); refine blk_put (cs := #[.slice A0_0 l0_0.length c0_0, .slice A0_1 l0_1.length c0_1, .slice A0_2 l0_2.length c0_2, .slice A0_3 l0_3.length c0_3, .slice A0_4 l0_4.length c0_4, .slice none 0 0, .slice none 0 0]) ?_ 5 _ rfl; (with_reducible repeat (first | refine blk_drewN ?_ _ | refine blk_drew ?_ | refine blk_alloc ?_ _)); refine blk_put (cs := #[.slice A0_0 l0_0.length c0_0, .slice A0_1 l0_1.length c0_1, .slice A0_2 l0_2.length c0_2, .slice A0_3 l0_3.length c0_3, .slice none 0 0, .slice none 0 0, .slice none 0 0]) ?_ 4 _ rfl; (with_reducible repeat (first | refine blk_drewN ?_ _ | refine blk_drew ?_ | refine blk_alloc ?_ _)); refine blk_put (cs := #[.slice A0_0 l0_0.length c0_0, .slice A0_1 l0_1.length c0_1, .slice A0_2 l0_2.length c0_2, .slice none 0 0, .slice none 0 0, .slice none 0 0, .slice none 0 0]) ?_ 3 _ rfl; (with_reducible repeat (first | refine blk_drewN ?_ _ | refine blk_drew ?_ | refine blk_alloc ?_ _)); refine blk_put (cs := #[.slice A0_0 l0_0.length c0_0, .slice A0_1 l0_1.length c0_1, .slice none 0 0, .slice none 0 0, .slice none 0 0, .slice none 0 0, .slice none 0 0]) ?_ 2 _ rfl; (with_reducible repeat (first | refine blk_drewN ?_ _ | refine blk_drew ?_ | refine blk_alloc ?_ _)); refine blk_put (cs := #[.slice A0_0 l0_0.length c0_0, .slice none 0 0, .slice none 0 0, .slice none 0 0, .slice none 0 0, .slice none 0 0, .slice none 0 0]) ?_ 1 _ rfl; (with_reducible repeat (first | refine blk_drewN ?_ _ | refine blk_drew ?_ | refine blk_alloc ?_ _)); refine blk_put (cs := #[.slice none 0 0, .slice none 0 0, .slice none 0 0, .slice none 0 0, .slice none 0 0, .slice none 0 0, .slice none 0 0]) ?_ 0 _ rfl; (with_reducible repeat (first | refine blk_drewN ?_ _ | refine blk_drew ?_ | refine blk_alloc ?_ _)); exact BK104.out⟩
        have n2_ : Aside0 (Below w.heap.size w (((((((w34.setCell ⟨gb104, 0, none⟩ (.slice A0_0 l0_0.length c0_0)).setCell ⟨gb104, 1, none⟩ (.slice A0_1 l0_1.length c0_1)).setCell ⟨gb104, 2, none⟩ (.slice A0_2 l0_2.length c0_2)).setCell ⟨gb104, 3, none⟩ (.slice A0_3 l0_3.length c0_3)).setCell ⟨gb104, 4, none⟩ (.slice A0_4 l0_4.length c0_4)).setCell ⟨gb104, 5, none⟩ (.slice A0_5 l0_5.length c0_5)).setCell ⟨gb104, 6, none⟩ (.slice A0_6 l0_6.length c0_6))) := ⟨bp9 HB.out⟩
        (try clear BK101)
        (try clear BK104)
        (try clear HB)
        generalize (((((((w34.setCell ⟨gb104, 0, none⟩ (.slice A0_0 l0_0.length c0_0)).setCell ⟨gb104, 1, none⟩ (.slice A0_1 l0_1.length c0_1)).setCell ⟨gb104, 2, none⟩ (.slice A0_2 l0_2.length c0_2)).setCell ⟨gb104, 3, none⟩ (.slice A0_3 l0_3.length c0_3)).setCell ⟨gb104, 4, none⟩ (.slice A0_4 l0_4.length c0_4)).setCell ⟨gb104, 5, none⟩ (.slice A0_5 l0_5.length c0_5)).setCell ⟨gb104, 6, none⟩ (.slice A0_6 l0_6.length c0_6)) = w37 at n0_ n1_ n2_ ⊢
        revert n0_ n1_ n2_; intro BK101 BK104 HB
        have n0_ := a9_ (blk_drew BK101.out)
        have n1_ := a9_ (blk_drew BK104.out)
        have n2_ := a9_ (below_drew1 HB.out)
        clear BK101 BK104 HB
        revert n0_ n1_ n2_; intro BK101 BK104 HB
        refine start_ (n := 34) (S := fun w' => w'.cell? ⟨gb104, 0, none⟩ = some (.slice A0_0 l0_0.length c0_0) ∧ w'.cell? ⟨gb104, 1, none⟩ = some (.slice A0_1 l0_1.length c0_1) ∧ w'.cell? ⟨gb104, 2, none⟩ = some (.slice A0_2 l0_2.length c0_2) ∧ w'.cell? ⟨gb104, 3, none⟩ = some (.slice A0_3 l0_3.length c0_3) ∧ w'.cell? ⟨gb104, 4, none⟩ = some (.slice A0_4 l0_4.length c0_4) ∧ w'.cell? ⟨gb104, 5, none⟩ = some (.slice A0_5 l0_5.length c0_5) ∧ w'.cell? ⟨gb104, 6, none⟩ = some (.slice A0_6 l0_6.length c0_6) ∧ w'.cell? ⟨gb101, 0, none⟩ = some (.slice A0_0 l0_0.length c0_0) ∧ w'.cell? ⟨gb101, 1, none⟩ = some (.slice A0_1 l0_1.length c0_1) ∧ w'.cell? ⟨gb101, 2, none⟩ = some (.slice A0_2 l0_2.length c0_2) ∧ w'.cell? ⟨gb101, 3, none⟩ = some (.slice A0_3 l0_3.length c0_3) ∧ w'.cell? ⟨gb101, 4, none⟩ = some (.slice A0_4 l0_4.length c0_4) ∧ w'.cell? ⟨gb101, 5, none⟩ = some (.slice A0_5 l0_5.length c0_5) ∧ w'.cell? ⟨gb101, 6, none⟩ = some (.slice A0_6 l0_6.length c0_6)) (ds := []) #[o9, o9, o9, o9, o9, o9, o9, o9, o9, o9, o9, o9, o9, o9, o9, o9, o9, o9, o9, o9, o9, o9, o9, o9, o9, o9, o9, o9, o9, o9, o9, o9, o9, o9] (by kernel_rfl) rfl rfl ⟨(blk_cell BK104.out 0).trans rfl, (blk_cell BK104.out 1).trans rfl, (blk_cell BK104.out 2).trans rfl, (blk_cell BK104.out 3).trans rfl, (blk_cell BK104.out 4).trans rfl, (blk_cell BK104.out 5).trans rfl, (blk_cell BK104.out 6).trans rfl, (blk_cell BK101.out 0).trans rfl, (blk_cell BK101.out 1).trans rfl, (blk_cell BK101.out 2).trans rfl, (blk_cell BK101.out 3).trans rfl, (blk_cell BK101.out 4).trans rfl, (blk_cell BK101.out 5).trans rfl, (blk_cell BK101.out 6).trans rfl⟩ (fun hHeld => ?_); refine with_tabW cupolalaw15_BobTells.tab5 cupolalaw15_BobTells.bits5 (fun HT_ HW_ => ?_)
        generalize w37.drew = w38 at BK101 BK104 HB hHeld ⊢
        refine pureA 0 (some 22) ?_ #[i9, o9, o9, o9, o9, o9, o9, o9, o9, o9, o9, o9, o9, o9, o9, o9, o9, o9, o9, o9, o9, o9, o9, o9, o9, o9, o9, o9, o9, o9, o9, o9, o9, o9] rfl rfl (any_of HT_.out (by kernel_rfl)) ?_ ?_ ?_ ?_
        rotate_left
        ·intro w'; go_simp; with_reducible rfl
        rotate_left
        ·exact put9
        refine pureA 1 (some 23) ?_ #[i9, i9, o9, o9, o9, o9, o9, o9, o9, o9, o9, o9, o9, o9, o9, o9, o9, o9, o9, o9, o9, o9, o9, o9, o9, o9, o9, o9, o9, o9, o9, o9, o9, o9] rfl rfl (any_of HT_.out (by kernel_rfl)) ?_ ?_ ?_ ?_
        rotate_left
        ·intro w'; go_simp; with_reducible rfl
        rotate_left
        ·exact put9
        refine take_ (i := 2) (N := some 24) (v := ?_) (a' := ?_) #[i9, i9, i9, o9, o9, o9, o9, o9, o9, o9, o9, o9, o9, o9, o9, o9, o9, o9, o9, o9, o9, o9, o9, o9, o9, o9, o9, o9, o9, o9, o9, o9, o9, o9] rfl rfl (take_ofW HT_.out HW_.out (by kernel_rfl)) (fun _ _ _ h => h) (Or.inl ⟨by rfl, ?_⟩) hHeld ?_ ?_
        rotate_left
        ·rintro w' ⟨s0, s1, s2, s3, s4, s5, s6, s7, s8, s9, s10, s11, s12, s13⟩
         go_simp
         with_reducible rfl
        rotate_left
        ·exact put9
        refine take_ (i := 4) (N := some 26) (v := ?_) (a' := ?_) #[i9, i9, i9, o9, i9, o9, o9, o9, o9, o9, o9, o9, o9, o9, o9, o9, o9, o9, o9, o9, o9, o9, o9, o9, o9, o9, o9, o9, o9, o9, o9, o9, o9, o9] rfl rfl (take_ofW HT_.out HW_.out (by kernel_rfl)) (fun _ _ _ h => h) (Or.inl ⟨by rfl, ?_⟩) hHeld ?_ ?_
        rotate_left
        ·rintro w' ⟨s0, s1, s2, s3, s4, s5, s6, s7, s8, s9, s10, s11, s12, s13⟩
         go_simp
         with_reducible rfl
        rotate_left
        ·exact put9
        refine one_ (i := 3) (N := some 25) #[i9, i9, i9, i9, i9, o9, o9, o9, o9, o9, o9, o9, o9, o9, o9, o9, o9, o9, o9, o9, o9, o9, o9, o9, o9, o9, o9, o9, o9, o9, o9, o9, o9, o9] rfl rfl (one_of HT_.out (by kernel_rfl)) (by decide) (fun K hK => ?_)
        refine goes9 Try.func73 (by kernel_rfl) rfl #[.agg #[.slice A0_0 l0_0.length c0_0, .slice A0_1 l0_1.length c0_1, .slice A0_2 l0_2.length c0_2, .slice A0_3 l0_3.length c0_3, .slice A0_4 l0_4.length c0_4, .slice A0_5 l0_5.length c0_5, .slice A0_6 l0_6.length c0_6]] (by rfl) rfl rfl ?_
        with_reducible refine (bob_Fences.calls kj4 _ _ l0_0 _ _ l0_1 _ _ l0_2 _ _ l0_3 _ _ l0_4 _ _ l0_5 _ _ l0_6 t105 _ ?side1 ?side2 ?side3 ?side4 ?side5 ?side6 ?side7 ?side8 ?side9 ?side10 ?side11 ?side12 ?side13 ?side14 A17.out).mono ?_
        (case side1 => exact cp9 HR0_0.out HB.out)
        (case side2 => exact HC0_0.out)
        (case side3 => exact cp9 HR0_1.out HB.out)
        (case side4 => exact HC0_1.out)
        (case side5 => exact cp9 HR0_2.out HB.out)
        (case side6 => exact HC0_2.out)
        (case side7 => exact cp9 HR0_3.out HB.out)
        (case side8 => exact HC0_3.out)
        (case side9 => exact cp9 HR0_4.out HB.out)
        (case side10 => exact HC0_4.out)
        (case side11 => exact cp9 HR0_5.out HB.out)
        (case side12 => exact HC0_5.out)
        (case side13 => exact cp9 HR0_6.out HB.out)
        (case side14 => exact HC0_6.out)
        rintro e w39 ⟨v106, rfl, ho0, hb⟩
        refine ⟨_, rfl, ?_⟩
        have n0_ := a9_ (Kd.R_lower ho0 (below_size (bp9 HB.out)))
        have n1_ := a9_ (blk_below (kp9 BK101.out) hb)
        have n2_ := a9_ (blk_below (kp9 BK104.out) hb)
        have n3_ := a9_ (below_step (bp9 HB.out) hb)
        clear BK101 BK104 HB
        revert n0_ n1_ n2_ n3_; intro HO107 BK101 BK104 HB
        (try clear hb)
        (try clear ho0)
        refine hK.out _ _ ⟨(blk_cell BK104.out 0).trans rfl, (blk_cell BK104.out 1).trans rfl, (blk_cell BK104.out 2).trans rfl, (blk_cell BK104.out 3).trans rfl, (blk_cell BK104.out 4).trans rfl, (blk_cell BK104.out 5).trans rfl, (blk_cell BK104.out 6).trans rfl, (blk_cell BK101.out 0).trans rfl, (blk_cell BK101.out 1).trans rfl, (blk_cell BK101.out 2).trans rfl, (blk_cell BK101.out 3).trans rfl, (blk_cell BK101.out 4).trans rfl, (blk_cell BK101.out 5).trans rfl, (blk_cell BK101.out 6).trans rfl⟩ (fun hHeld => ?_)
        clear hK K
        refine norm_ (a' := ?_) ?_ ?_
        rotate_left
        ·show Act.put _ (some 25) _ = _
         exact put9
        refine one_ (i := 5) (N := some 27) #[i9, i9, i9, i9, i9, i9, o9, o9, o9, o9, o9, o9, o9, o9, o9, o9, o9, o9, o9, o9, o9, o9, o9, o9, o9, o9, o9, o9, o9, o9, o9, o9, o9, o9] rfl rfl (one_of HT_.out (by kernel_rfl)) (by decide) (fun K hK => ?_)
        refine goes9 Try.func93 (by kernel_rfl) rfl #[.agg #[.slice A0_0 l0_0.length c0_0, .slice A0_1 l0_1.length c0_1, .slice A0_2 l0_2.length c0_2, .slice A0_3 l0_3.length c0_3, .slice A0_4 l0_4.length c0_4, .slice A0_5 l0_5.length c0_5, .slice A0_6 l0_6.length c0_6]] (by rfl) rfl rfl ?_
        with_reducible refine (cupolaref15_Fences.calls kj4 _ _ l0_0 _ _ l0_1 _ _ l0_2 _ _ l0_3 _ _ l0_4 _ _ l0_5 _ _ l0_6 t108 _ ?side1 ?side2 ?side3 ?side4 ?side5 ?side6 ?side7 ?side8 ?side9 ?side10 ?side11 ?side12 ?side13 ?side14 A18.out).mono ?_
        (case side1 => exact cp9 HR0_0.out HB.out)
        (case side2 => exact HC0_0.out)
        (case side3 => exact cp9 HR0_1.out HB.out)
        (case side4 => exact HC0_1.out)
        (case side5 => exact cp9 HR0_2.out HB.out)
        (case side6 => exact HC0_2.out)
        (case side7 => exact cp9 HR0_3.out HB.out)
        (case side8 => exact HC0_3.out)
        (case side9 => exact cp9 HR0_4.out HB.out)
        (case side10 => exact HC0_4.out)
        (case side11 => exact cp9 HR0_5.out HB.out)
        (case side12 => exact HC0_5.out)
        (case side13 => exact cp9 HR0_6.out HB.out)
        (case side14 => exact HC0_6.out)
        rintro e w40 ⟨v109, rfl, ho0, hb⟩
        refine ⟨_, rfl, ?_⟩
        have n0_ := a9_ (Kd.R_elder' (rp9 HO107.out) (Kd.R_base ho0) hb)
        have n1_ := a9_ (Kd.R_lower (Kd.R_new' ho0 (Kd.R_lt (rp9 HO107.out))) (below_size (bp9 HB.out)))
        have n2_ := a9_ (blk_below (kp9 BK101.out) hb)
        have n3_ := a9_ (blk_below (kp9 BK104.out) hb)
        have n4_ := a9_ (below_step (bp9 HB.out) hb)
        clear HO107 BK101 BK104 HB
        revert n0_ n1_ n2_ n3_ n4_; intro HO107 HO110 BK101 BK104 HB
        (try clear hb)
        (try clear ho0)
        obtain ⟨Ao41, co41, eo41⟩ := Kd.R_slice HO107.out
        (first | subst eo41 | (injection eo41 with f1_ f2_ f3_; have f4_ := f1_.symm; have f5_ := f3_.symm; clear f1_ f2_ f3_; subst f4_; subst f5_))
        obtain ⟨Ao42, co42, eo42⟩ := Kd.R_slice HO110.out
        (first | subst eo42 | (injection eo42 with f1_ f2_ f3_; have f4_ := f1_.symm; have f5_ := f3_.symm; clear f1_ f2_ f3_; subst f4_; subst f5_))
        refine hK.out _ _ ⟨(blk_cell BK104.out 0).trans rfl, (blk_cell BK104.out 1).trans rfl, (blk_cell BK104.out 2).trans rfl, (blk_cell BK104.out 3).trans rfl, (blk_cell BK104.out 4).trans rfl, (blk_cell BK104.out 5).trans rfl, (blk_cell BK104.out 6).trans rfl, (blk_cell BK101.out 0).trans rfl, (blk_cell BK101.out 1).trans rfl, (blk_cell BK101.out 2).trans rfl, (blk_cell BK101.out 3).trans rfl, (blk_cell BK101.out 4).trans rfl, (blk_cell BK101.out 5).trans rfl, (blk_cell BK101.out 6).trans rfl⟩ (fun hHeld => ?_)
        clear hK K
        refine norm_ (a' := ?_) ?_ ?_
        rotate_left
        ·show Act.put _ (some 27) _ = _
         exact put9
        refine one_ (i := 6) (N := some 28) #[i9, i9, i9, i9, i9, i9, i9, o9, o9, o9, o9, o9, o9, o9, o9, o9, o9, o9, o9, o9, o9, o9, o9, o9, o9, o9, o9, o9, o9, o9, o9, o9, o9, o9] rfl rfl (one_of HT_.out (by kernel_rfl)) (by decide) (fun K hK => ?_)
        refine goes9 Try.func48 (by kernel_rfl) rfl #[.slice Ao41 t105.length co41, .slice Ao42 t108.length co42] (by rfl) rfl rfl ?_
        with_reducible refine (cupolaref05_Same.calls kj4 _ _ t105 _ _ t108 true _ ?side1 ?side2 ?side3 ?side4 A19.out).mono ?_
        (case side1 => exact lp9 (Kd.R_reads' HO107.out).2.2)
        (case side2 => exact (Kd.R_reads' HO107.out).2.1)
        (case side3 => exact lp9 (Kd.R_reads' HO110.out).2.2)
        (case side4 => exact (Kd.R_reads' HO110.out).2.1)
        rintro e w43 ⟨rfl, hb⟩
        refine ⟨_, rfl, ?_⟩
        have n0_ := a9_ (Kd.R_below (rp9 HO107.out) hb)
        have n1_ := a9_ (Kd.R_below (rp9 HO110.out) hb)
        have n2_ := a9_ (blk_below (kp9 BK101.out) hb)
        have n3_ := a9_ (blk_below (kp9 BK104.out) hb)
        have n4_ := a9_ (below_step (bp9 HB.out) hb)
        clear HO107 HO110 BK101 BK104 HB
        revert n0_ n1_ n2_ n3_ n4_; intro HO107 HO110 BK101 BK104 HB
        (try clear hb)
        refine hK.out _ _ ⟨(blk_cell BK104.out 0).trans rfl, (blk_cell BK104.out 1).trans rfl, (blk_cell BK104.out 2).trans rfl, (blk_cell BK104.out 3).trans rfl, (blk_cell BK104.out 4).trans rfl, (blk_cell BK104.out 5).trans rfl, (blk_cell BK104.out 6).trans rfl, (blk_cell BK101.out 0).trans rfl, (blk_cell BK101.out 1).trans rfl, (blk_cell BK101.out 2).trans rfl, (blk_cell BK101.out 3).trans rfl, (blk_cell BK101.out 4).trans rfl, (blk_cell BK101.out 5).trans rfl, (blk_cell BK101.out 6).trans rfl⟩ (fun hHeld => ?_)
        clear hK K
        refine norm_ (a' := ?_) ?_ ?_
        rotate_left
        ·show Act.put _ (some 28) _ = _
         exact put9
        refine pureA 7 (some 29) ?_ #[i9, i9, i9, i9, i9, i9, i9, i9, o9, o9, o9, o9, o9, o9, o9, o9, o9, o9, o9, o9, o9, o9, o9, o9, o9, o9, o9, o9, o9, o9, o9, o9, o9, o9] rfl rfl (any_of HT_.out (by kernel_rfl)) ?_ ?_ ?_ ?_
        rotate_left
        ·intro w'; go_simp; with_reducible rfl
        rotate_left
        ·exact put9
        refine pureA 8 (some 30) ?_ #[i9, i9, i9, i9, i9, i9, i9, i9, i9, o9, o9, o9, o9, o9, o9, o9, o9, o9, o9, o9, o9, o9, o9, o9, o9, o9, o9, o9, o9, o9, o9, o9, o9, o9] rfl rfl (any_of HT_.out (by kernel_rfl)) ?_ ?_ ?_ ?_
        rotate_left
        ·intro w'; go_simp; with_reducible rfl
        rotate_left
        ·exact put9
        refine take_ (i := 9) (N := some 31) (v := ?_) (a' := ?_) #[i9, i9, i9, i9, i9, i9, i9, i9, i9, i9, o9, o9, o9, o9, o9, o9, o9, o9, o9, o9, o9, o9, o9, o9, o9, o9, o9, o9, o9, o9, o9, o9, o9, o9] rfl rfl (take_ofW HT_.out HW_.out (by kernel_rfl)) (fun _ _ _ h => h) (Or.inl ⟨by rfl, ?_⟩) hHeld ?_ ?_
        rotate_left
        ·rintro w' ⟨s0, s1, s2, s3, s4, s5, s6, s7, s8, s9, s10, s11, s12, s13⟩
         go_simp
         with_reducible rfl
        rotate_left
        ·exact put9
        refine take_ (i := 11) (N := some 33) (v := ?_) (a' := ?_) #[i9, i9, i9, i9, i9, i9, i9, i9, i9, i9, o9, i9, o9, o9, o9, o9, o9, o9, o9, o9, o9, o9, o9, o9, o9, o9, o9, o9, o9, o9, o9, o9, o9, o9] rfl rfl (take_ofW HT_.out HW_.out (by kernel_rfl)) (fun _ _ _ h => h) (Or.inl ⟨by rfl, ?_⟩) hHeld ?_ ?_
        rotate_left
        ·rintro w' ⟨s0, s1, s2, s3, s4, s5, s6, s7, s8, s9, s10, s11, s12, s13⟩
         go_simp
         with_reducible rfl
        rotate_left
        ·exact put9
        refine one_ (i := 10) (N := some 32) #[i9, i9, i9, i9, i9, i9, i9, i9, i9, i9, i9, i9, o9, o9, o9, o9, o9, o9, o9, o9, o9, o9, o9, o9, o9, o9, o9, o9, o9, o9, o9, o9, o9, o9] rfl rfl (one_of HT_.out (by kernel_rfl)) (by decide) (fun K hK => ?_)
        refine goes9 Try.func75 (by kernel_rfl) rfl #[.agg #[.slice A0_0 l0_0.length c0_0, .slice A0_1 l0_1.length c0_1, .slice A0_2 l0_2.length c0_2, .slice A0_3 l0_3.length c0_3, .slice A0_4 l0_4.length c0_4, .slice A0_5 l0_5.length c0_5, .slice A0_6 l0_6.length c0_6]] (by rfl) rfl rfl ?_
        with_reducible refine (bob_Orders.calls kj4 _ _ l0_0 _ _ l0_1 _ _ l0_2 _ _ l0_3 _ _ l0_4 _ _ l0_5 _ _ l0_6 t112 _ ?side1 ?side2 ?side3 ?side4 ?side5 ?side6 ?side7 ?side8 ?side9 ?side10 ?side11 ?side12 ?side13 ?side14 A21.out).mono ?_
        (case side1 => exact cp9 HR0_0.out HB.out)
        (case side2 => exact HC0_0.out)
        (case side3 => exact cp9 HR0_1.out HB.out)
        (case side4 => exact HC0_1.out)
        (case side5 => exact cp9 HR0_2.out HB.out)
        (case side6 => exact HC0_2.out)
        (case side7 => exact cp9 HR0_3.out HB.out)
        (case side8 => exact HC0_3.out)
        (case side9 => exact cp9 HR0_4.out HB.out)
        (case side10 => exact HC0_4.out)
        (case side11 => exact cp9 HR0_5.out HB.out)
        (case side12 => exact HC0_5.out)
        (case side13 => exact cp9 HR0_6.out HB.out)
        (case side14 => exact HC0_6.out)
        rintro e w44 ⟨v113, rfl, ho0, hb⟩
        refine ⟨_, rfl, ?_⟩
        have n0_ := a9_ (Kd.R_elder' (rp9 HO107.out) (Kd.R_base ho0) hb)
        have n1_ := a9_ (Kd.R_elder' (rp9 HO110.out) (Kd.R_base ho0) hb)
        have n2_ := a9_ (Kd.R_lower (Kd.R_new' (Kd.R_new' ho0 (Kd.R_lt (rp9 HO107.out))) (Kd.R_lt (rp9 HO110.out))) (below_size (bp9 HB.out)))
        have n3_ := a9_ (blk_below (kp9 BK101.out) hb)
        have n4_ := a9_ (blk_below (kp9 BK104.out) hb)
        have n5_ := a9_ (below_step (bp9 HB.out) hb)
        clear HO107 HO110 BK101 BK104 HB
        revert n0_ n1_ n2_ n3_ n4_ n5_; intro HO107 HO110 HO114 BK101 BK104 HB
        (try clear hb)
        (try clear ho0)
        refine hK.out _ _ ⟨(blk_cell BK104.out 0).trans rfl, (blk_cell BK104.out 1).trans rfl, (blk_cell BK104.out 2).trans rfl, (blk_cell BK104.out 3).trans rfl, (blk_cell BK104.out 4).trans rfl, (blk_cell BK104.out 5).trans rfl, (blk_cell BK104.out 6).trans rfl, (blk_cell BK101.out 0).trans rfl, (blk_cell BK101.out 1).trans rfl, (blk_cell BK101.out 2).trans rfl, (blk_cell BK101.out 3).trans rfl, (blk_cell BK101.out 4).trans rfl, (blk_cell BK101.out 5).trans rfl, (blk_cell BK101.out 6).trans rfl⟩ (fun hHeld => ?_)
        clear hK K
        refine norm_ (a' := ?_) ?_ ?_
        rotate_left
        ·show Act.put _ (some 32) _ = _
         exact put9
        refine one_ (i := 12) (N := some 34) #[i9, i9, i9, i9, i9, i9, i9, i9, i9, i9, i9, i9, i9, o9, o9, o9, o9, o9, o9, o9, o9, o9, o9, o9, o9, o9, o9, o9, o9, o9, o9, o9, o9, o9] rfl rfl (one_of HT_.out (by kernel_rfl)) (by decide) (fun K hK => ?_)
        refine goes9 Try.func94 (by kernel_rfl) rfl #[.agg #[.slice A0_0 l0_0.length c0_0, .slice A0_1 l0_1.length c0_1, .slice A0_2 l0_2.length c0_2, .slice A0_3 l0_3.length c0_3, .slice A0_4 l0_4.length c0_4, .slice A0_5 l0_5.length c0_5, .slice A0_6 l0_6.length c0_6]] (by rfl) rfl rfl ?_
        with_reducible refine (cupolaref15_Orders.calls kj4 _ _ l0_0 _ _ l0_1 _ _ l0_2 _ _ l0_3 _ _ l0_4 _ _ l0_5 _ _ l0_6 t115 _ ?side1 ?side2 ?side3 ?side4 ?side5 ?side6 ?side7 ?side8 ?side9 ?side10 ?side11 ?side12 ?side13 ?side14 A22.out).mono ?_
        (case side1 => exact cp9 HR0_0.out HB.out)
        (case side2 => exact HC0_0.out)
        (case side3 => exact cp9 HR0_1.out HB.out)
        (case side4 => exact HC0_1.out)
        (case side5 => exact cp9 HR0_2.out HB.out)
        (case side6 => exact HC0_2.out)
        (case side7 => exact cp9 HR0_3.out HB.out)
        (case side8 => exact HC0_3.out)
        (case side9 => exact cp9 HR0_4.out HB.out)
        (case side10 => exact HC0_4.out)
        (case side11 => exact cp9 HR0_5.out HB.out)
        (case side12 => exact HC0_5.out)
        (case side13 => exact cp9 HR0_6.out HB.out)
        (case side14 => exact HC0_6.out)
        rintro e w45 ⟨v116, rfl, ho0, hb⟩
        refine ⟨_, rfl, ?_⟩
        have n0_ := a9_ (Kd.R_elder' (rp9 HO107.out) (Kd.R_base ho0) hb)
        have n1_ := a9_ (Kd.R_elder' (rp9 HO110.out) (Kd.R_base ho0) hb)
        have n2_ := a9_ (Kd.R_elder' (rp9 HO114.out) (Kd.R_base ho0) hb)
        have n3_ := a9_ (Kd.R_lower (Kd.R_new' (Kd.R_new' (Kd.R_new' ho0 (Kd.R_lt (rp9 HO107.out))) (Kd.R_lt (rp9 HO110.out))) (Kd.R_lt (rp9 HO114.out))) (below_size (bp9 HB.out)))
        have n4_ := a9_ (blk_below (kp9 BK101.out) hb)
        have n5_ := a9_ (blk_below (kp9 BK104.out) hb)
        have n6_ := a9_ (below_step (bp9 HB.out) hb)
        clear HO107 HO110 HO114 BK101 BK104 HB
        revert n0_ n1_ n2_ n3_ n4_ n5_ n6_; intro HO107 HO110 HO114 HO117 BK101 BK104 HB
        (try clear hb)
        (try clear ho0)
        obtain ⟨Ao46, co46, eo46⟩ := Kd.R_slice HO114.out
        (first | subst eo46 | (injection eo46 with f1_ f2_ f3_; have f4_ := f1_.symm; have f5_ := f3_.symm; clear f1_ f2_ f3_; subst f4_; subst f5_))
        obtain ⟨Ao47, co47, eo47⟩ := Kd.R_slice HO117.out
        (first | subst eo47 | (injection eo47 with f1_ f2_ f3_; have f4_ := f1_.symm; have f5_ := f3_.symm; clear f1_ f2_ f3_; subst f4_; subst f5_))
        refine hK.out _ _ ⟨(blk_cell BK104.out 0).trans rfl, (blk_cell BK104.out 1).trans rfl, (blk_cell BK104.out 2).trans rfl, (blk_cell BK104.out 3).trans rfl, (blk_cell BK104.out 4).trans rfl, (blk_cell BK104.out 5).trans rfl, (blk_cell BK104.out 6).trans rfl, (blk_cell BK101.out 0).trans rfl, (blk_cell BK101.out 1).trans rfl, (blk_cell BK101.out 2).trans rfl, (blk_cell BK101.out 3).trans rfl, (blk_cell BK101.out 4).trans rfl, (blk_cell BK101.out 5).trans rfl, (blk_cell BK101.out 6).trans rfl⟩ (fun hHeld => ?_)
        clear hK K
        refine norm_ (a' := ?_) ?_ ?_
        rotate_left
        ·show Act.put _ (some 34) _ = _
         exact put9
        refine one_ (i := 13) (N := some 35) #[i9, i9, i9, i9, i9, i9, i9, i9, i9, i9, i9, i9, i9, i9, o9, o9, o9, o9, o9, o9, o9, o9, o9, o9, o9, o9, o9, o9, o9, o9, o9, o9, o9, o9] rfl rfl (one_of HT_.out (by kernel_rfl)) (by decide) (fun K hK => ?_)
        refine goes9 Try.func48 (by kernel_rfl) rfl #[.slice Ao46 t112.length co46, .slice Ao47 t115.length co47] (by rfl) rfl rfl ?_
        with_reducible refine (cupolaref05_Same.calls kj4 _ _ t112 _ _ t115 true _ ?side1 ?side2 ?side3 ?side4 A23.out).mono ?_
        (case side1 => exact lp9 (Kd.R_reads' HO114.out).2.2)
        (case side2 => exact (Kd.R_reads' HO114.out).2.1)
        (case side3 => exact lp9 (Kd.R_reads' HO117.out).2.2)
        (case side4 => exact (Kd.R_reads' HO117.out).2.1)
        rintro e w48 ⟨rfl, hb⟩
        refine ⟨_, rfl, ?_⟩
        have n0_ := a9_ (Kd.R_below (rp9 HO107.out) hb)
        have n1_ := a9_ (Kd.R_below (rp9 HO110.out) hb)
        have n2_ := a9_ (Kd.R_below (rp9 HO114.out) hb)
        have n3_ := a9_ (Kd.R_below (rp9 HO117.out) hb)
        have n4_ := a9_ (blk_below (kp9 BK101.out) hb)
        have n5_ := a9_ (blk_below (kp9 BK104.out) hb)
        have n6_ := a9_ (below_step (bp9 HB.out) hb)
        clear HO107 HO110 HO114 HO117 BK101 BK104 HB
        revert n0_ n1_ n2_ n3_ n4_ n5_ n6_; intro HO107 HO110 HO114 HO117 BK101 BK104 HB
        (try clear hb)
        refine hK.out _ _ ⟨(blk_cell BK104.out 0).trans rfl, (blk_cell BK104.out 1).trans rfl, (blk_cell BK104.out 2).trans rfl, (blk_cell BK104.out 3).trans rfl, (blk_cell BK104.out 4).trans rfl, (blk_cell BK104.out 5).trans rfl, (blk_cell BK104.out 6).trans rfl, (blk_cell BK101.out 0).trans rfl, (blk_cell BK101.out 1).trans rfl, (blk_cell BK101.out 2).trans rfl, (blk_cell BK101.out 3).trans rfl, (blk_cell BK101.out 4).trans rfl, (blk_cell BK101.out 5).trans rfl, (blk_cell BK101.out 6).trans rfl⟩ (fun hHeld => ?_)
        clear hK K
        refine norm_ (a' := ?_) ?_ ?_
        rotate_left
        ·show Act.put _ (some 35) _ = _
         exact put9
        refine pureA 14 (some 36) ?_ #[i9, i9, i9, i9, i9, i9, i9, i9, i9, i9, i9, i9, i9, i9, i9, o9, o9, o9, o9, o9, o9, o9, o9, o9, o9, o9, o9, o9, o9, o9, o9, o9, o9, o9] rfl rfl (any_of HT_.out (by kernel_rfl)) ?_ ?_ ?_ ?_
        rotate_left
        ·intro w'; go_simp; with_reducible rfl
        rotate_left
        ·exact put9
        refine pureA 15 (some 37) ?_ #[i9, i9, i9, i9, i9, i9, i9, i9, i9, i9, i9, i9, i9, i9, i9, i9, o9, o9, o9, o9, o9, o9, o9, o9, o9, o9, o9, o9, o9, o9, o9, o9, o9, o9] rfl rfl (any_of HT_.out (by kernel_rfl)) ?_ ?_ ?_ ?_
        rotate_left
        ·intro w'; go_simp; with_reducible rfl
        rotate_left
        ·exact put9
        refine pureA 17 (some 39) ?_ #[i9, i9, i9, i9, i9, i9, i9, i9, i9, i9, i9, i9, i9, i9, i9, i9, o9, i9, o9, o9, o9, o9, o9, o9, o9, o9, o9, o9, o9, o9, o9, o9, o9, o9] rfl rfl (any_of HT_.out (by kernel_rfl)) ?_ ?_ ?_ ?_
        rotate_left
        ·intro w'; go_simp; with_reducible rfl
        rotate_left
        ·exact put9
        refine pureA 20 (some 42) ?_ #[i9, i9, i9, i9, i9, i9, i9, i9, i9, i9, i9, i9, i9, i9, i9, i9, o9, i9, o9, o9, i9, o9, o9, o9, o9, o9, o9, o9, o9, o9, o9, o9, o9, o9] rfl rfl (any_of HT_.out (by kernel_rfl)) ?_ ?_ ?_ ?_
        rotate_left
        ·intro w'; go_simp; with_reducible rfl
        rotate_left
        ·exact put9
        refine take_ (i := 16) (N := some 38) (v := ?_) (a' := ?_) #[i9, i9, i9, i9, i9, i9, i9, i9, i9, i9, i9, i9, i9, i9, i9, i9, i9, i9, o9, o9, i9, o9, o9, o9, o9, o9, o9, o9, o9, o9, o9, o9, o9, o9] rfl rfl (take_ofW HT_.out HW_.out (by kernel_rfl)) (fun _ _ _ h => h) (Or.inl ⟨by rfl, ?_⟩) hHeld ?_ ?_
        rotate_left
        ·rintro w' ⟨s0, s1, s2, s3, s4, s5, s6, s7, s8, s9, s10, s11, s12, s13⟩
         go_simp
         with_reducible rfl
        rotate_left
        ·exact put9
        refine take_ (i := 19) (N := some 41) (v := ?_) (a' := ?_) #[i9, i9, i9, i9, i9, i9, i9, i9, i9, i9, i9, i9, i9, i9, i9, i9, i9, i9, o9, i9, i9, o9, o9, o9, o9, o9, o9, o9, o9, o9, o9, o9, o9, o9] rfl rfl (take_ofW HT_.out HW_.out (by kernel_rfl)) (fun _ _ _ h => h) (Or.inl ⟨by rfl, ?_⟩) hHeld ?_ ?_
        rotate_left
        ·rintro w' ⟨s0, s1, s2, s3, s4, s5, s6, s7, s8, s9, s10, s11, s12, s13⟩
         go_simp
         with_reducible rfl
        rotate_left
        ·exact put9
        refine one_ (i := 18) (N := some 40) #[i9, i9, i9, i9, i9, i9, i9, i9, i9, i9, i9, i9, i9, i9, i9, i9, i9, i9, i9, i9, i9, o9, o9, o9, o9, o9, o9, o9, o9, o9, o9, o9, o9, o9] rfl rfl (one_of HT_.out (by kernel_rfl)) (by decide) (fun K hK => ?_)
        refine goes9 Try.func95 (by kernel_rfl) rfl #[.agg #[.slice A0_0 l0_0.length c0_0, .slice A0_1 l0_1.length c0_1, .slice A0_2 l0_2.length c0_2, .slice A0_3 l0_3.length c0_3, .slice A0_4 l0_4.length c0_4, .slice A0_5 l0_5.length c0_5, .slice A0_6 l0_6.length c0_6], .slice A2 l2.length c2] (by rfl) rfl rfl ?_
        with_reducible refine (bob_Bob.calls kj4 _ _ l0_0 _ _ l0_1 _ _ l0_2 _ _ l0_3 _ _ l0_4 _ _ l0_5 _ _ l0_6 _ _ l2 t119 _ ?side1 ?side2 ?side3 ?side4 ?side5 ?side6 ?side7 ?side8 ?side9 ?side10 ?side11 ?side12 ?side13 ?side14 ?side15 ?side16 A25.out).mono ?_
        (case side1 => exact cp9 HR0_0.out HB.out)
        (case side2 => exact HC0_0.out)
        (case side3 => exact cp9 HR0_1.out HB.out)
        (case side4 => exact HC0_1.out)
        (case side5 => exact cp9 HR0_2.out HB.out)
        (case side6 => exact HC0_2.out)
        (case side7 => exact cp9 HR0_3.out HB.out)
        (case side8 => exact HC0_3.out)
        (case side9 => exact cp9 HR0_4.out HB.out)
        (case side10 => exact HC0_4.out)
        (case side11 => exact cp9 HR0_5.out HB.out)
        (case side12 => exact HC0_5.out)
        (case side13 => exact cp9 HR0_6.out HB.out)
        (case side14 => exact HC0_6.out)
        (case side15 => exact cp9 HR2.out HB.out)
        (case side16 => exact HC2.out)
        rintro e w49 ⟨v120, rfl, ho0, hb⟩
        refine ⟨_, rfl, ?_⟩
        have n0_ := a9_ (Kd.R_elder' (rp9 HO107.out) (Kd.R_base ho0) hb)
        have n1_ := a9_ (Kd.R_elder' (rp9 HO110.out) (Kd.R_base ho0) hb)
        have n2_ := a9_ (Kd.R_elder' (rp9 HO114.out) (Kd.R_base ho0) hb)
        have n3_ := a9_ (Kd.R_elder' (rp9 HO117.out) (Kd.R_base ho0) hb)
        have n4_ := a9_ (Kd.R_lower (Kd.R_new' (Kd.R_new' (Kd.R_new' (Kd.R_new' ho0 (Kd.R_lt (rp9 HO107.out))) (Kd.R_lt (rp9 HO110.out))) (Kd.R_lt (rp9 HO114.out))) (Kd.R_lt (rp9 HO117.out))) (below_size (bp9 HB.out)))
        have n5_ := a9_ (blk_below (kp9 BK101.out) hb)
        have n6_ := a9_ (blk_below (kp9 BK104.out) hb)
        have n7_ := a9_ (below_step (bp9 HB.out) hb)
        clear HO107 HO110 HO114 HO117 BK101 BK104 HB
        revert n0_ n1_ n2_ n3_ n4_ n5_ n6_ n7_; intro HO107 HO110 HO114 HO117 HO121 BK101 BK104 HB
        (try clear hb)
        (try clear ho0)
        refine hK.out _ _ ⟨(blk_cell BK104.out 0).trans rfl, (blk_cell BK104.out 1).trans rfl, (blk_cell BK104.out 2).trans rfl, (blk_cell BK104.out 3).trans rfl, (blk_cell BK104.out 4).trans rfl, (blk_cell BK104.out 5).trans rfl, (blk_cell BK104.out 6).trans rfl, (blk_cell BK101.out 0).trans rfl, (blk_cell BK101.out 1).trans rfl, (blk_cell BK101.out 2).trans rfl, (blk_cell BK101.out 3).trans rfl, (blk_cell BK101.out 4).trans rfl, (blk_cell BK101.out 5).trans rfl, (blk_cell BK101.out 6).trans rfl⟩ (fun hHeld => ?_)
        clear hK K
        refine norm_ (a' := ?_) ?_ ?_
        rotate_left
        ·show Act.put _ (some 40) _ = _
         exact put9
        refine one_ (i := 21) (N := some 43) #[i9, i9, i9, i9, i9, i9, i9, i9, i9, i9, i9, i9, i9, i9, i9, i9, i9, i9, i9, i9, i9, i9, o9, o9, o9, o9, o9, o9, o9, o9, o9, o9, o9, o9] rfl rfl (one_of HT_.out (by kernel_rfl)) (by decide) (fun K hK => ?_)
        refine goes9 Try.func96 (by kernel_rfl) rfl #[.agg #[.slice A0_0 l0_0.length c0_0, .slice A0_1 l0_1.length c0_1, .slice A0_2 l0_2.length c0_2, .slice A0_3 l0_3.length c0_3, .slice A0_4 l0_4.length c0_4, .slice A0_5 l0_5.length c0_5, .slice A0_6 l0_6.length c0_6], .slice A2 l2.length c2] (by rfl) rfl rfl ?_
        with_reducible refine (cupolaref15_Bob.calls kj4 _ _ l0_0 _ _ l0_1 _ _ l0_2 _ _ l0_3 _ _ l0_4 _ _ l0_5 _ _ l0_6 _ _ l2 t122 _ ?side1 ?side2 ?side3 ?side4 ?side5 ?side6 ?side7 ?side8 ?side9 ?side10 ?side11 ?side12 ?side13 ?side14 ?side15 ?side16 A26.out).mono ?_
        (case side1 => exact cp9 HR0_0.out HB.out)
        (case side2 => exact HC0_0.out)
        (case side3 => exact cp9 HR0_1.out HB.out)
        (case side4 => exact HC0_1.out)
        (case side5 => exact cp9 HR0_2.out HB.out)
        (case side6 => exact HC0_2.out)
        (case side7 => exact cp9 HR0_3.out HB.out)
        (case side8 => exact HC0_3.out)
        (case side9 => exact cp9 HR0_4.out HB.out)
        (case side10 => exact HC0_4.out)
        (case side11 => exact cp9 HR0_5.out HB.out)
        (case side12 => exact HC0_5.out)
        (case side13 => exact cp9 HR0_6.out HB.out)
        (case side14 => exact HC0_6.out)
        (case side15 => exact cp9 HR2.out HB.out)
        (case side16 => exact HC2.out)
        rintro e w50 ⟨v123, rfl, ho0, hb⟩
        refine ⟨_, rfl, ?_⟩
        have n0_ := a9_ (Kd.R_elder' (rp9 HO107.out) (Kd.R_base ho0) hb)
        have n1_ := a9_ (Kd.R_elder' (rp9 HO110.out) (Kd.R_base ho0) hb)
        have n2_ := a9_ (Kd.R_elder' (rp9 HO114.out) (Kd.R_base ho0) hb)
        have n3_ := a9_ (Kd.R_elder' (rp9 HO117.out) (Kd.R_base ho0) hb)
        have n4_ := a9_ (Kd.R_elder' (rp9 HO121.out) (Kd.R_base ho0) hb)
        have n5_ := a9_ (Kd.R_lower (Kd.R_new' (Kd.R_new' (Kd.R_new' (Kd.R_new' (Kd.R_new' ho0 (Kd.R_lt (rp9 HO107.out))) (Kd.R_lt (rp9 HO110.out))) (Kd.R_lt (rp9 HO114.out))) (Kd.R_lt (rp9 HO117.out))) (Kd.R_lt (rp9 HO121.out))) (below_size (bp9 HB.out)))
        have n6_ := a9_ (blk_below (kp9 BK101.out) hb)
        have n7_ := a9_ (blk_below (kp9 BK104.out) hb)
        have n8_ := a9_ (below_step (bp9 HB.out) hb)
        clear HO107 HO110 HO114 HO117 HO121 BK101 BK104 HB
        revert n0_ n1_ n2_ n3_ n4_ n5_ n6_ n7_ n8_; intro HO107 HO110 HO114 HO117 HO121 HO124 BK101 BK104 HB
        (try clear hb)
        (try clear ho0)
        obtain ⟨Ao51, co51, eo51⟩ := Kd.R_slice HO121.out
        (first | subst eo51 | (injection eo51 with f1_ f2_ f3_; have f4_ := f1_.symm; have f5_ := f3_.symm; clear f1_ f2_ f3_; subst f4_; subst f5_))
        obtain ⟨Ao52, co52, eo52⟩ := Kd.R_slice HO124.out
        (first | subst eo52 | (injection eo52 with f1_ f2_ f3_; have f4_ := f1_.symm; have f5_ := f3_.symm; clear f1_ f2_ f3_; subst f4_; subst f5_))
        refine hK.out _ _ ⟨(blk_cell BK104.out 0).trans rfl, (blk_cell BK104.out 1).trans rfl, (blk_cell BK104.out 2).trans rfl, (blk_cell BK104.out 3).trans rfl, (blk_cell BK104.out 4).trans rfl, (blk_cell BK104.out 5).trans rfl, (blk_cell BK104.out 6).trans rfl, (blk_cell BK101.out 0).trans rfl, (blk_cell BK101.out 1).trans rfl, (blk_cell BK101.out 2).trans rfl, (blk_cell BK101.out 3).trans rfl, (blk_cell BK101.out 4).trans rfl, (blk_cell BK101.out 5).trans rfl, (blk_cell BK101.out 6).trans rfl⟩ (fun hHeld => ?_)
        clear hK K
        refine norm_ (a' := ?_) ?_ ?_
        rotate_left
        ·show Act.put _ (some 43) _ = _
         exact put9
        refine one_ (i := 22) (N := some 44) #[i9, i9, i9, i9, i9, i9, i9, i9, i9, i9, i9, i9, i9, i9, i9, i9, i9, i9, i9, i9, i9, i9, i9, o9, o9, o9, o9, o9, o9, o9, o9, o9, o9, o9] rfl rfl (one_of HT_.out (by kernel_rfl)) (by decide) (fun K hK => ?_)
        refine goes9 Try.func48 (by kernel_rfl) rfl #[.slice Ao51 t119.length co51, .slice Ao52 t122.length co52] (by rfl) rfl rfl ?_
        with_reducible refine (cupolaref05_Same.calls kj4 _ _ t119 _ _ t122 true _ ?side1 ?side2 ?side3 ?side4 A27.out).mono ?_
        (case side1 => exact lp9 (Kd.R_reads' HO121.out).2.2)
        (case side2 => exact (Kd.R_reads' HO121.out).2.1)
        (case side3 => exact lp9 (Kd.R_reads' HO124.out).2.2)
        (case side4 => exact (Kd.R_reads' HO124.out).2.1)
        rintro e w53 ⟨rfl, hb⟩
        refine ⟨_, rfl, ?_⟩
        have n0_ := a9_ (Kd.R_below (rp9 HO107.out) hb)
        have n1_ := a9_ (Kd.R_below (rp9 HO110.out) hb)
        have n2_ := a9_ (Kd.R_below (rp9 HO114.out) hb)
        have n3_ := a9_ (Kd.R_below (rp9 HO117.out) hb)
        have n4_ := a9_ (Kd.R_below (rp9 HO121.out) hb)
        have n5_ := a9_ (Kd.R_below (rp9 HO124.out) hb)
        have n6_ := a9_ (blk_below (kp9 BK101.out) hb)
        have n7_ := a9_ (blk_below (kp9 BK104.out) hb)
        have n8_ := a9_ (below_step (bp9 HB.out) hb)
        clear HO107 HO110 HO114 HO117 HO121 HO124 BK101 BK104 HB
        revert n0_ n1_ n2_ n3_ n4_ n5_ n6_ n7_ n8_; intro HO107 HO110 HO114 HO117 HO121 HO124 BK101 BK104 HB
        (try clear hb)
        refine hK.out _ _ ⟨(blk_cell BK104.out 0).trans rfl, (blk_cell BK104.out 1).trans rfl, (blk_cell BK104.out 2).trans rfl, (blk_cell BK104.out 3).trans rfl, (blk_cell BK104.out 4).trans rfl, (blk_cell BK104.out 5).trans rfl, (blk_cell BK104.out 6).trans rfl, (blk_cell BK101.out 0).trans rfl, (blk_cell BK101.out 1).trans rfl, (blk_cell BK101.out 2).trans rfl, (blk_cell BK101.out 3).trans rfl, (blk_cell BK101.out 4).trans rfl, (blk_cell BK101.out 5).trans rfl, (blk_cell BK101.out 6).trans rfl⟩ (fun hHeld => ?_)
        clear hK K
        refine norm_ (a' := ?_) ?_ ?_
        rotate_left
        ·show Act.put _ (some 44) _ = _
         exact put9
        refine pureA 23 (some 45) ?_ #[i9, i9, i9, i9, i9, i9, i9, i9, i9, i9, i9, i9, i9, i9, i9, i9, i9, i9, i9, i9, i9, i9, i9, i9, o9, o9, o9, o9, o9, o9, o9, o9, o9, o9] rfl rfl (any_of HT_.out (by kernel_rfl)) ?_ ?_ ?_ ?_
        rotate_left
        ·intro w'; go_simp; with_reducible rfl
        rotate_left
        ·exact put9
        refine pureA 24 (some 46) ?_ #[i9, i9, i9, i9, i9, i9, i9, i9, i9, i9, i9, i9, i9, i9, i9, i9, i9, i9, i9, i9, i9, i9, i9, i9, i9, o9, o9, o9, o9, o9, o9, o9, o9, o9] rfl rfl (any_of HT_.out (by kernel_rfl)) ?_ ?_ ?_ ?_
        rotate_left
        ·intro w'; go_simp; with_reducible rfl
        rotate_left
        ·exact put9
        refine pureA 26 (some 48) ?_ #[i9, i9, i9, i9, i9, i9, i9, i9, i9, i9, i9, i9, i9, i9, i9, i9, i9, i9, i9, i9, i9, i9, i9, i9, i9, o9, i9, o9, o9, o9, o9, o9, o9, o9] rfl rfl (any_of HT_.out (by kernel_rfl)) ?_ ?_ ?_ ?_
        rotate_left
        ·intro w'; go_simp; with_reducible rfl
        rotate_left
        ·exact put9
        refine pureA 29 (some 51) ?_ #[i9, i9, i9, i9, i9, i9, i9, i9, i9, i9, i9, i9, i9, i9, i9, i9, i9, i9, i9, i9, i9, i9, i9, i9, i9, o9, i9, o9, o9, i9, o9, o9, o9, o9] rfl rfl (any_of HT_.out (by kernel_rfl)) ?_ ?_ ?_ ?_
        rotate_left
        ·intro w'; go_simp; with_reducible rfl
        rotate_left
        ·exact put9
        refine take_ (i := 25) (N := some 47) (v := ?_) (a' := ?_) #[i9, i9, i9, i9, i9, i9, i9, i9, i9, i9, i9, i9, i9, i9, i9, i9, i9, i9, i9, i9, i9, i9, i9, i9, i9, i9, i9, o9, o9, i9, o9, o9, o9, o9] rfl rfl (take_ofW HT_.out HW_.out (by kernel_rfl)) (fun _ _ _ h => h) (Or.inl ⟨by rfl, ?_⟩) hHeld ?_ ?_
        rotate_left
        ·rintro w' ⟨s0, s1, s2, s3, s4, s5, s6, s7, s8, s9, s10, s11, s12, s13⟩
         go_simp
         with_reducible rfl
        rotate_left
        ·exact put9
        refine take_ (i := 28) (N := some 50) (v := ?_) (a' := ?_) #[i9, i9, i9, i9, i9, i9, i9, i9, i9, i9, i9, i9, i9, i9, i9, i9, i9, i9, i9, i9, i9, i9, i9, i9, i9, i9, i9, o9, i9, i9, o9, o9, o9, o9] rfl rfl (take_ofW HT_.out HW_.out (by kernel_rfl)) (fun _ _ _ h => h) (Or.inl ⟨by rfl, ?_⟩) hHeld ?_ ?_
        rotate_left
        ·rintro w' ⟨s0, s1, s2, s3, s4, s5, s6, s7, s8, s9, s10, s11, s12, s13⟩
         go_simp
         with_reducible rfl
        rotate_left
        ·exact put9
        refine one_ (i := 27) (N := some 49) #[i9, i9, i9, i9, i9, i9, i9, i9, i9, i9, i9, i9, i9, i9, i9, i9, i9, i9, i9, i9, i9, i9, i9, i9, i9, i9, i9, i9, i9, i9, o9, o9, o9, o9] rfl rfl (one_of HT_.out (by kernel_rfl)) (by decide) (fun K hK => ?_)
        refine goes9 Try.func97 (by kernel_rfl) rfl #[.agg #[.slice A0_0 l0_0.length c0_0, .slice A0_1 l0_1.length c0_1, .slice A0_2 l0_2.length c0_2, .slice A0_3 l0_3.length c0_3, .slice A0_4 l0_4.length c0_4, .slice A0_5 l0_5.length c0_5, .slice A0_6 l0_6.length c0_6], .slice A1 l1.length c1] (by rfl) rfl rfl ?_
        with_reducible refine (bob_Aob.calls kj4 _ _ l0_0 _ _ l0_1 _ _ l0_2 _ _ l0_3 _ _ l0_4 (fun k_ => k_ < w.heap.size) _ _ l0_5 _ _ l0_6 _ _ l1 t126 _ ?side1 ?side2 ?side3 ?side4 ?side5 ?side6 ?side7 ?side8 ?side9 ?side10 ?side11 ?side12 ?side13 ?side14 ?side15 A29.out).mono ?_
        (case side1 => exact cp9 HR0_0.out HB.out)
        (case side2 => exact HC0_0.out)
        (case side3 => exact cp9 HR0_1.out HB.out)
        (case side4 => exact HC0_1.out)
        (case side5 => exact cp9 HR0_2.out HB.out)
        (case side6 => exact HC0_2.out)
        (case side7 => exact cp9 HR0_3.out HB.out)
        (case side8 => exact HC0_3.out)
        (case side9 => exact cp9 HR0_4.out HB.out)
        (case side10 => exact HC0_4.out)
        (case side11 => exact Kd.V_mk HC0_5.out (Kd.F_below (Kd.C_F (Kd.heap_int .u32) HR0_5.out) (bp9 HB.out)))
        (case side12 => exact cp9 HR0_6.out HB.out)
        (case side13 => exact HC0_6.out)
        (case side14 => exact cp9 HR1.out HB.out)
        (case side15 => exact HC1.out)
        rintro e w54 ⟨v127, rfl, ho0, hb⟩
        refine ⟨_, rfl, ?_⟩
        have n0_ := a9_ (Kd.R_elder' (rp9 HO107.out) (Kd.R_base ho0) hb)
        have n1_ := a9_ (Kd.R_elder' (rp9 HO110.out) (Kd.R_base ho0) hb)
        have n2_ := a9_ (Kd.R_elder' (rp9 HO114.out) (Kd.R_base ho0) hb)
        have n3_ := a9_ (Kd.R_elder' (rp9 HO117.out) (Kd.R_base ho0) hb)
        have n4_ := a9_ (Kd.R_elder' (rp9 HO121.out) (Kd.R_base ho0) hb)
        have n5_ := a9_ (Kd.R_elder' (rp9 HO124.out) (Kd.R_base ho0) hb)
        have n6_ := a9_ (Kd.R_lower (Kd.R_new' (Kd.R_new' (Kd.R_new' (Kd.R_new' (Kd.R_new' (Kd.R_new' (Kd.R_mono (ok' := fun k_ => True) ho0 (fun _ hk_ => trivial)) (Kd.R_lt (rp9 HO107.out))) (Kd.R_lt (rp9 HO110.out))) (Kd.R_lt (rp9 HO114.out))) (Kd.R_lt (rp9 HO117.out))) (Kd.R_lt (rp9 HO121.out))) (Kd.R_lt (rp9 HO124.out))) (below_size (bp9 HB.out)))
        have n7_ := a9_ (blk_below (kp9 BK101.out) hb)
        have n8_ := a9_ (blk_below (kp9 BK104.out) hb)
        have n9_ := a9_ (below_step (bp9 HB.out) hb)
        clear HO107 HO110 HO114 HO117 HO121 HO124 BK101 BK104 HB
        revert n0_ n1_ n2_ n3_ n4_ n5_ n6_ n7_ n8_ n9_; intro HO107 HO110 HO114 HO117 HO121 HO124 HO128 BK101 BK104 HB
        (try clear hb)
        (try clear ho0)
        refine hK.out _ _ ⟨(blk_cell BK104.out 0).trans rfl, (blk_cell BK104.out 1).trans rfl, (blk_cell BK104.out 2).trans rfl, (blk_cell BK104.out 3).trans rfl, (blk_cell BK104.out 4).trans rfl, (blk_cell BK104.out 5).trans rfl, (blk_cell BK104.out 6).trans rfl, (blk_cell BK101.out 0).trans rfl, (blk_cell BK101.out 1).trans rfl, (blk_cell BK101.out 2).trans rfl, (blk_cell BK101.out 3).trans rfl, (blk_cell BK101.out 4).trans rfl, (blk_cell BK101.out 5).trans rfl, (blk_cell BK101.out 6).trans rfl⟩ (fun hHeld => ?_)
        clear hK K
        refine norm_ (a' := ?_) ?_ ?_
        rotate_left
        ·show Act.put _ (some 49) _ = _
         exact put9
        refine one_ (i := 30) (N := some 52) #[i9, i9, i9, i9, i9, i9, i9, i9, i9, i9, i9, i9, i9, i9, i9, i9, i9, i9, i9, i9, i9, i9, i9, i9, i9, i9, i9, i9, i9, i9, i9, o9, o9, o9] rfl rfl (one_of HT_.out (by kernel_rfl)) (by decide) (fun K hK => ?_)
        refine goes9 Try.func98 (by kernel_rfl) rfl #[.agg #[.slice A0_0 l0_0.length c0_0, .slice A0_1 l0_1.length c0_1, .slice A0_2 l0_2.length c0_2, .slice A0_3 l0_3.length c0_3, .slice A0_4 l0_4.length c0_4, .slice A0_5 l0_5.length c0_5, .slice A0_6 l0_6.length c0_6], .slice A1 l1.length c1] (by rfl) rfl rfl ?_
        with_reducible refine (cupolaref15_Aob.calls kj4 _ _ l0_0 _ _ l0_1 _ _ l0_2 _ _ l0_3 _ _ l0_4 _ _ l0_5 _ _ l0_6 _ _ l1 t129 _ ?side1 ?side2 ?side3 ?side4 ?side5 ?side6 ?side7 ?side8 ?side9 ?side10 ?side11 ?side12 ?side13 ?side14 ?side15 ?side16 A30.out).mono ?_
        (case side1 => exact cp9 HR0_0.out HB.out)
        (case side2 => exact HC0_0.out)
        (case side3 => exact cp9 HR0_1.out HB.out)
        (case side4 => exact HC0_1.out)
        (case side5 => exact cp9 HR0_2.out HB.out)
        (case side6 => exact HC0_2.out)
        (case side7 => exact cp9 HR0_3.out HB.out)
        (case side8 => exact HC0_3.out)
        (case side9 => exact cp9 HR0_4.out HB.out)
        (case side10 => exact HC0_4.out)
        (case side11 => exact cp9 HR0_5.out HB.out)
        (case side12 => exact HC0_5.out)
        (case side13 => exact cp9 HR0_6.out HB.out)
        (case side14 => exact HC0_6.out)
        (case side15 => exact cp9 HR1.out HB.out)
        (case side16 => exact HC1.out)
        rintro e w55 ⟨v130, rfl, ho0, hb⟩
        refine ⟨_, rfl, ?_⟩
        have n0_ := a9_ (Kd.R_elder' (rp9 HO107.out) (Kd.R_base ho0) hb)
        have n1_ := a9_ (Kd.R_elder' (rp9 HO110.out) (Kd.R_base ho0) hb)
        have n2_ := a9_ (Kd.R_elder' (rp9 HO114.out) (Kd.R_base ho0) hb)
        have n3_ := a9_ (Kd.R_elder' (rp9 HO117.out) (Kd.R_base ho0) hb)
        have n4_ := a9_ (Kd.R_elder' (rp9 HO121.out) (Kd.R_base ho0) hb)
        have n5_ := a9_ (Kd.R_elder' (rp9 HO124.out) (Kd.R_base ho0) hb)
        have n6_ := a9_ (Kd.R_elder' (rp9 HO128.out) (Kd.R_base ho0) hb)
        have n7_ := a9_ (Kd.R_lower (Kd.R_new' (Kd.R_new' (Kd.R_new' (Kd.R_new' (Kd.R_new' (Kd.R_new' (Kd.R_new' ho0 (Kd.R_lt (rp9 HO107.out))) (Kd.R_lt (rp9 HO110.out))) (Kd.R_lt (rp9 HO114.out))) (Kd.R_lt (rp9 HO117.out))) (Kd.R_lt (rp9 HO121.out))) (Kd.R_lt (rp9 HO124.out))) (Kd.R_lt (rp9 HO128.out))) (below_size (bp9 HB.out)))
        have n8_ := a9_ (blk_below (kp9 BK101.out) hb)
        have n9_ := a9_ (blk_below (kp9 BK104.out) hb)
        have n10_ := a9_ (below_step (bp9 HB.out) hb)
        clear HO107 HO110 HO114 HO117 HO121 HO124 HO128 BK101 BK104 HB
        revert n0_ n1_ n2_ n3_ n4_ n5_ n6_ n7_ n8_ n9_ n10_; intro HO107 HO110 HO114 HO117 HO121 HO124 HO128 HO131 BK101 BK104 HB
        (try clear hb)
        (try clear ho0)
        obtain ⟨Ao56, co56, eo56⟩ := Kd.R_slice HO128.out
        (first | subst eo56 | (injection eo56 with f1_ f2_ f3_; have f4_ := f1_.symm; have f5_ := f3_.symm; clear f1_ f2_ f3_; subst f4_; subst f5_))
        obtain ⟨Ao57, co57, eo57⟩ := Kd.R_slice HO131.out
        (first | subst eo57 | (injection eo57 with f1_ f2_ f3_; have f4_ := f1_.symm; have f5_ := f3_.symm; clear f1_ f2_ f3_; subst f4_; subst f5_))
        refine hK.out _ _ ⟨(blk_cell BK104.out 0).trans rfl, (blk_cell BK104.out 1).trans rfl, (blk_cell BK104.out 2).trans rfl, (blk_cell BK104.out 3).trans rfl, (blk_cell BK104.out 4).trans rfl, (blk_cell BK104.out 5).trans rfl, (blk_cell BK104.out 6).trans rfl, (blk_cell BK101.out 0).trans rfl, (blk_cell BK101.out 1).trans rfl, (blk_cell BK101.out 2).trans rfl, (blk_cell BK101.out 3).trans rfl, (blk_cell BK101.out 4).trans rfl, (blk_cell BK101.out 5).trans rfl, (blk_cell BK101.out 6).trans rfl⟩ (fun hHeld => ?_)
        clear hK K
        refine norm_ (a' := ?_) ?_ ?_
        rotate_left
        ·show Act.put _ (some 52) _ = _
         exact put9
        refine one_ (i := 31) (N := some 53) #[i9, i9, i9, i9, i9, i9, i9, i9, i9, i9, i9, i9, i9, i9, i9, i9, i9, i9, i9, i9, i9, i9, i9, i9, i9, i9, i9, i9, i9, i9, i9, i9, o9, o9] rfl rfl (one_of HT_.out (by kernel_rfl)) (by decide) (fun K hK => ?_)
        refine goes9 Try.func48 (by kernel_rfl) rfl #[.slice Ao56 t126.length co56, .slice Ao57 t129.length co57] (by rfl) rfl rfl ?_
        with_reducible refine (cupolaref05_Same.calls kj4 _ _ t126 _ _ t129 t132 _ ?side1 ?side2 ?side3 ?side4 A31.out).mono ?_
        (case side1 => exact lp9 (Kd.R_reads' HO128.out).2.2)
        (case side2 => exact (Kd.R_reads' HO128.out).2.1)
        (case side3 => exact lp9 (Kd.R_reads' HO131.out).2.2)
        (case side4 => exact (Kd.R_reads' HO131.out).2.1)
        rintro e w58 ⟨rfl, hb⟩
        refine ⟨_, rfl, ?_⟩
        have n0_ := a9_ (Kd.R_below (rp9 HO107.out) hb)
        have n1_ := a9_ (Kd.R_below (rp9 HO110.out) hb)
        have n2_ := a9_ (Kd.R_below (rp9 HO114.out) hb)
        have n3_ := a9_ (Kd.R_below (rp9 HO117.out) hb)
        have n4_ := a9_ (Kd.R_below (rp9 HO121.out) hb)
        have n5_ := a9_ (Kd.R_below (rp9 HO124.out) hb)
        have n6_ := a9_ (Kd.R_below (rp9 HO128.out) hb)
        have n7_ := a9_ (Kd.R_below (rp9 HO131.out) hb)
        have n8_ := a9_ (blk_below (kp9 BK101.out) hb)
        have n9_ := a9_ (blk_below (kp9 BK104.out) hb)
        have n10_ := a9_ (below_step (bp9 HB.out) hb)
        clear HO107 HO110 HO114 HO117 HO121 HO124 HO128 HO131 BK101 BK104 HB
        revert n0_ n1_ n2_ n3_ n4_ n5_ n6_ n7_ n8_ n9_ n10_; intro HO107 HO110 HO114 HO117 HO121 HO124 HO128 HO131 BK101 BK104 HB
        (try clear hb)
        refine hK.out _ _ ⟨(blk_cell BK104.out 0).trans rfl, (blk_cell BK104.out 1).trans rfl, (blk_cell BK104.out 2).trans rfl, (blk_cell BK104.out 3).trans rfl, (blk_cell BK104.out 4).trans rfl, (blk_cell BK104.out 5).trans rfl, (blk_cell BK104.out 6).trans rfl, (blk_cell BK101.out 0).trans rfl, (blk_cell BK101.out 1).trans rfl, (blk_cell BK101.out 2).trans rfl, (blk_cell BK101.out 3).trans rfl, (blk_cell BK101.out 4).trans rfl, (blk_cell BK101.out 5).trans rfl, (blk_cell BK101.out 6).trans rfl⟩ (fun hHeld => ?_)
        clear hK K
        refine norm_ (a' := ?_) ?_ ?_
        rotate_left
        ·show Act.put _ (some 53) _ = _
         exact put9
        refine pureA 32 (some 54) ?_ #[i9, i9, i9, i9, i9, i9, i9, i9, i9, i9, i9, i9, i9, i9, i9, i9, i9, i9, i9, i9, i9, i9, i9, i9, i9, i9, i9, i9, i9, i9, i9, i9, i9, o9] rfl rfl (any_of HT_.out (by kernel_rfl)) ?_ ?_ ?_ ?_
        rotate_left
        ·intro w'; go_simp; with_reducible rfl
        rotate_left
        ·exact put9
        refine pureA 33 (some 6) ?_ #[i9, i9, i9, i9, i9, i9, i9, i9, i9, i9, i9, i9, i9, i9, i9, i9, i9, i9, i9, i9, i9, i9, i9, i9, i9, i9, i9, i9, i9, i9, i9, i9, i9, i9] rfl rfl (any_of HT_.out (by kernel_rfl)) ?_ ?_ ?_ ?_
        rotate_left
        ·intro w'; go_simp; with_reducible rfl
        rotate_left
        ·exact put9
        refine done_ (done_of HT_.out (by kernel_rfl)) ?_
        try go_wp2
        go_ret
        exact ⟨by first | rfl | (simp [errW_none, errW_some] <;> rfl) | (simp [*, errW_none, errW_some] <;> rfl), bp9 HB.out⟩
       ·replace c28 := Bool.eq_false_iff.mpr c28
        subst c28
        rw [if_neg (show ¬ (false = true) by decide)] at H
        exact absurd ((Option.some.inj H).trans HT9.out) (by decide)
      ·replace c24 := Bool.eq_false_iff.mpr c24
       subst c24
       rw [if_neg (show ¬ (false = true) by decide)] at H
       exact absurd ((Option.some.inj H).trans HT9.out) (by decide)
     ·replace c20 := Bool.eq_false_iff.mpr c20
      subst c20
      rw [if_neg (show ¬ (false = true) by decide)] at H
      exact absurd ((Option.some.inj H).trans HT9.out) (by decide)
    ·replace c16 := Bool.eq_false_iff.mpr c16
     subst c16
     rw [if_neg (show ¬ (false = true) by decide)] at H
     exact absurd ((Option.some.inj H).trans HT9.out) (by decide)
end Go.Proofs.Ytbamkkdikeedoaa.G
