-- Written by drive.py, a program of this seat's session, out of the translation.
import Derived.Test.YtbamkkdikeedoaaG0
import Derived.Test.YtbamkkdikeedoaaGDerive
import Derived.Test.YtbamkkdikeedoaaGRel
import Derived.Test.YtbamkkdikeedoaaGSource
import Derived.Test.YtbamkkdikeedoaaHandExec
import Derived.Test.YtbamkkdikeedoaaHandRel
import Derived.Test.YtbamkkdikeedoaaHandCz
namespace Go.Proofs.Ytbamkkdikeedoaa.G
open Go.RowKit Go.Proofs.YtbamkkdikeedoaaW.PrintWords Go.Proofs.YtbamkkdikeedoaaW.PrintLast Go.Proofs.YtbamkkdikeedoaaW.PrintMore
set_option maxHeartbeats 8000000
set_option maxRecDepth 100000
set_option linter.unusedVariables false
set_option linter.unusedSimpArgs false
def dob_Memory.f (k : Nat) (l0_0 : List (S26)) (l0_1 : List Int) (l0_2 : List Int) (l0_3 : List Int) (l0_4 : List Int) (l0_5 : List Int) (l0_6 : List (List Int)) (l1 : List Int) : Option (List Int) := (exec_Kinds.f l0_0 l0_1 l0_2 l0_3 l0_4 l0_5 l0_6 (([1, 2] : List Int))).bind fun t105 => ((rel_Only.f k l1 t105 t105).bind fun t106 => (some t106))
theorem dob_Memory.mono : ∀ a0 a1 a2 a3 a4 a5 a6 a7 k, LeO (dob_Memory.f k a0 a1 a2 a3 a4 a5 a6 a7) (dob_Memory.f (k + 1) a0 a1 a2 a3 a4 a5 a6 a7) := by
 intro a0 a1 a2 a3 a4 a5 a6 a7 k
 unfold dob_Memory.f
 repeat' (with_reducible first | exact rel_Only.mono _ _ _ _ | exact LeO.refl _ | exact LeO.none _ | refine LeO.ite ?_ ?_ | refine LeO.bind ?_ (fun _ => ?_))
theorem dob_Memory.calls (k : Nat) (A0_0 : Option Addr) (c0_0 : Nat) (l0_0 : List (S26)) (A0_1 : Option Addr) (c0_1 : Nat) (l0_1 : List Int) (A0_2 : Option Addr) (c0_2 : Nat) (l0_2 : List Int) (A0_3 : Option Addr) (c0_3 : Nat) (l0_3 : List Int) (A0_4 : Option Addr) (c0_4 : Nat) (l0_4 : List Int) (A0_5 : Option Addr) (c0_5 : Nat) (l0_5 : List Int) (A0_6 : Option Addr) (c0_6 : Nat) (l0_6 : List (List Int)) (A1 : Option Addr) (c1 : Nat) (l1 : List Int) (r : List Int) (w : World) (hr0_0 : Kd.C k26 w A0_0 l0_0.length l0_0) (hc0_0 : l0_0.length ≤ c0_0) (hr0_1 : Kd.C (Kd.int .u32) w A0_1 l0_1.length l0_1) (hc0_1 : l0_1.length ≤ c0_1) (hr0_2 : Kd.C (Kd.int .u32) w A0_2 l0_2.length l0_2) (hc0_2 : l0_2.length ≤ c0_2) (hr0_3 : Kd.C (Kd.int .u32) w A0_3 l0_3.length l0_3) (hc0_3 : l0_3.length ≤ c0_3) (hr0_4 : Kd.C (Kd.int .u32) w A0_4 l0_4.length l0_4) (hc0_4 : l0_4.length ≤ c0_4) (hr0_5 : Kd.C (Kd.int .u32) w A0_5 l0_5.length l0_5) (hc0_5 : l0_5.length ≤ c0_5) (hr0_6 : Kd.C (Kd.slice 2 (Kd.int .i64)) w A0_6 l0_6.length l0_6) (hc0_6 : l0_6.length ≤ c0_6) (hr1 : Kd.C (Kd.int .u32) w A1 l1.length l1) (hc1 : l1.length ≤ c1) (h : dob_Memory.f k l0_0 l0_1 l0_2 l0_3 l0_4 l0_5 l0_6 l1 = some r) :
  Calls Try.prog 84 #[.agg #[.slice A0_0 l0_0.length c0_0, .slice A0_1 l0_1.length c0_1, .slice A0_2 l0_2.length c0_2, .slice A0_3 l0_3.length c0_3, .slice A0_4 l0_4.length c0_4, .slice A0_5 l0_5.length c0_5, .slice A0_6 l0_6.length c0_6], .slice A1 l1.length c1] w fun e w' => ∃ v0_ : Value, e = .returned (v0_) ∧ Kd.R (Kd.int .u32) 52 w' w.heap.size (fun _ => True) v0_ r ∧ Below w.heap.size w w' := by
 have hu31 := Try.underlying31
 have HR0_0 := a9_ hr0_0
 have HC0_0 := a9_ hc0_0
 clear hr0_0 hc0_0
 have HR0_1 := a9_ hr0_1
 have HC0_1 := a9_ hc0_1
 clear hr0_1 hc0_1
 have HR0_2 := a9_ hr0_2
 have HC0_2 := a9_ hc0_2
 clear hr0_2 hc0_2
 have HR0_3 := a9_ hr0_3
 have HC0_3 := a9_ hc0_3
 clear hr0_3 hc0_3
 have HR0_4 := a9_ hr0_4
 have HC0_4 := a9_ hc0_4
 clear hr0_4 hc0_4
 have HR0_5 := a9_ hr0_5
 have HC0_5 := a9_ hc0_5
 clear hr0_5 hc0_5
 have HR0_6 := a9_ hr0_6
 have HC0_6 := a9_ hc0_6
 clear hr0_6 hc0_6
 have HR1 := a9_ hr1
 have HC1 := a9_ hc1
 clear hr1 hc1
 have HB := a9_ (Below.refl w.heap.size w)
 have H : ((exec_Kinds.f l0_0 l0_1 l0_2 l0_3 l0_4 l0_5 l0_6 (([1, 2] : List Int))).bind fun t105 => ((rel_Only.f k l1 t105 t105).bind fun t106 => (some t106))) = some r := h
 clear h
 obtain ⟨y102, hy102⟩ : ∃ y_ : List Int, y_ = (([1, 2] : List Int)) := ⟨_, rfl⟩
 replace H : ((exec_Kinds.f l0_0 l0_1 l0_2 l0_3 l0_4 l0_5 l0_6 y102).bind fun t105 => ((rel_Only.f k l1 t105 t105).bind fun t106 => (some t106))) = some r := by first | (rw [hy102]; with_reducible exact H) | (have H2_ := (Option.bind_some _ _).symm.trans H; rw [hy102]; with_reducible exact H2_) | (have H2_ := (Option.bind_some _ _).symm.trans H; with_reducible exact H2_) | with_reducible exact H | (rw [hy102]; exact H) | exact H
 have Ny102 := a9_ hy102
 clear hy102
 replace H := Option.bind_eq_some_iff.mp H
 obtain ⟨t105, A30, H⟩ := H
 have A3 := a9_ A30
 clear A30
 replace H := Option.bind_eq_some_iff.mp H
 obtain ⟨t106, A40, H⟩ := H
 have A4 := a9_ A40
 clear A40
 obtain rfl := Option.some.inj H
 go_enter Try.func84, Try.ntmps84
 go_wp2_with (first | ((with_reducible refine gate_dst (N := 2) rfl ?_); refine box9 (N := 2) (cs := #[.slice A0_0 l0_0.length c0_0, .slice A0_1 l0_1.length c0_1, .slice A0_2 l0_2.length c0_2, .slice A0_3 l0_3.length c0_3, .slice A0_4 l0_4.length c0_4, .slice A0_5 l0_5.length c0_5, .slice A0_6 l0_6.length c0_6]) (t := 31) ?_; intro gb101 hg w5 hbox hb; have n0_ := a9_ (below_step (bp9 HB.out) hb); have n1_ := a9_ (hbox); have n2_ := a9_ ((by rw [hg]; exact (below_size (bp9 HB.out)) : w.heap.size ≤ gb101)); have n3_ := n2_; clear HB; have HB := n0_; have BK101 := n1_; have GW101 := n2_; have GE101 := n3_; clear n0_ n1_ n2_ n3_; clear hb hbox hg; obtain ⟨hcz6_0, hcz6_1, hcz6_2, hcz6_3, hcz6_4, hcz6_5, hcz6_6, hfz6_0, hfz6_1, hfz6_2, hfz6_3, hfz6_4, hfz6_5, hfz6_6⟩ := cz7 BK101.out) | ((with_reducible refine gate_dst (N := 7) rfl ?_); refine Kd.R_lit (Kd.int .i64) _ 3 ?hg (N := 7) ?hd (xs := ([1, 2] : List Int)) (inner := [.int .i64 1, .int .i64 2]) (ok := fun _ => True) (okp := fun _ => True) ?hr ?hp (fun _ hk => hk) trivial (Below.refl _ _) (Nat.le_refl _) (by simp) ?_; (case hd => rfl); (case hg => rfl); (case hr => first | (go_simp; done) | (go_simp; rfl)); (case hp => exact (Reps.one (show Kd.M (Kd.int .i64) _ _ _ 1 [.int .i64 1] from rfl) (Reps.one (show Kd.M (Kd.int .i64) _ _ _ 2 [.int .i64 2] from rfl) (Reps.none _ _)))); intro v103 w7 ho8 hb hg_ hnew_; clear hg_ hnew_; (first | rw [← Ny102.out] at ho8 | (simp only [Int.reduceToNat] at ho8; rw [← Ny102.out] at ho8)); have n0_ := a9_ (Kd.R_lower ho8 (below_size (bp9 HB.out))); have n1_ := a9_ (blk_below (kp9 BK101.out) hb); have n2_ := a9_ (below_step (bp9 HB.out) hb); clear BK101; clear HB; have HO104 := n0_; have BK101 := n1_; have HB := n2_; clear n0_ n1_ n2_; clear hb ho8; obtain ⟨Ao9, co9, eo9⟩ := Kd.R_slice HO104.out; subst eo9) | ((with_reducible refine gate_callee (f := 74) rfl ?_); refine goesL9 (some 8) rfl rfl Try.func74 (by kernel_rfl) rfl #[.agg #[.slice A0_0 l0_0.length c0_0, .slice A0_1 l0_1.length c0_1, .slice A0_2 l0_2.length c0_2, .slice A0_3 l0_3.length c0_3, .slice A0_4 l0_4.length c0_4, .slice A0_5 l0_5.length c0_5, .slice A0_6 l0_6.length c0_6], .slice Ao9 y102.length co9] rfl ?_; (with_reducible refine (exec_Kinds.calls _ _ l0_0 _ _ l0_1 _ _ l0_2 _ _ l0_3 _ _ l0_4 _ _ l0_5 _ _ l0_6 _ _ y102 t105 _ ?side1 ?side2 ?side3 ?side4 ?side5 ?side6 ?side7 ?side8 ?side9 ?side10 ?side11 ?side12 ?side13 ?side14 ?side15 ?side16 A3.out).mono ?_); (case side1 => exact cp9 HR0_0.out HB.out); (case side2 => exact HC0_0.out); (case side3 => exact cp9 HR0_1.out HB.out); (case side4 => exact HC0_1.out); (case side5 => exact cp9 HR0_2.out HB.out); (case side6 => exact HC0_2.out); (case side7 => exact cp9 HR0_3.out HB.out); (case side8 => exact HC0_3.out); (case side9 => exact cp9 HR0_4.out HB.out); (case side10 => exact HC0_4.out); (case side11 => exact cp9 HR0_5.out HB.out); (case side12 => exact HC0_5.out); (case side13 => exact cp9 HR0_6.out HB.out); (case side14 => exact HC0_6.out); (case side15 => exact lp9 (Kd.R_reads' HO104.out).2.2); (case side16 => exact (Kd.R_reads' HO104.out).2.1); rintro e w10 ⟨rfl, hb⟩; refine ⟨_, rfl, ?_⟩; have n0_ := a9_ (Kd.R_below (rp9 HO104.out) hb); have n1_ := a9_ (blk_below (kp9 BK101.out) hb); have n2_ := a9_ (below_step (bp9 HB.out) hb); clear HO104; clear BK101; clear HB; have HO104 := n0_; have BK101 := n1_; have HB := n2_; clear n0_ n1_ n2_; (try clear hb); (try clear hi)) | ((with_reducible refine gate_callee (f := 54) rfl ?_); refine goesL9 (some 12) rfl rfl Try.func54 (by kernel_rfl) rfl #[.slice A1 l1.length c1, .int .u32 t105, .int .u32 t105] rfl ?_; (with_reducible refine (rel_Only.calls k _ _ l1 t105 t105 t106 _ ?side1 ?side2 A4.out).mono ?_); (case side1 => exact cp9 HR1.out HB.out); (case side2 => exact HC1.out); rintro e w11 ⟨v107, rfl, ho0, hb⟩; refine ⟨_, rfl, ?_⟩; have n0_ := a9_ (Kd.R_below (rp9 HO104.out) hb); have n1_ := a9_ (Kd.R_lower ho0 (below_size (bp9 HB.out))); have n2_ := a9_ (blk_below (kp9 BK101.out) hb); have n3_ := a9_ (below_step (bp9 HB.out) hb); clear HO104; clear BK101; clear HB; have HO104 := n0_; have HO108 := n1_; have BK101 := n2_; have HB := n3_; clear n0_ n1_ n2_ n3_; (try clear hb); (try clear ho0)))
 go_ret
 exact ⟨_, rt9, by (with_reducible repeat (first | apply Kd.R_alloc | apply Kd.R_drewN | apply Kd.R_drew)); exact HO108.out, bp9 HB.out⟩
def dob_all.l0 : Nat → List Int → List (List Int) → Int → Int → List (S26) → List Int → List Int → List Int → List Int → List Int → List (List Int) → Option (List Int)
 | 0, _, _, _, _, _, _, _, _, _, _, _ => none
 | k + 1, x5, x12, x13, x14, x102000, x102001, x102002, x102003, x102004, x102005, x102006 => if x14 < x13 then (if 0 ≤ x14 then (if x14 < (x12.length : Int) then ((rel_Or.f x5 (rd_L7 x12 x14)).bind fun t106 => (dob_all.l0 k t106 x12 x13 (wrap64 (x14 + 1)) x102000 x102001 x102002 x102003 x102004 x102005 x102006)) else (none)) else (none)) else ((dob_Memory.f k x102000 x102001 x102002 x102003 x102004 x102005 x102006 x5).bind fun t109 => (some t109))
def dob_all.f (k : Nat) (l0_0 : List (S26)) (l0_1 : List Int) (l0_2 : List Int) (l0_3 : List Int) (l0_4 : List Int) (l0_5 : List Int) (l0_6 : List (List Int)) (l1 : List (List Int)) : Option (List Int) := (rel_New.f (l0_0.length : Int)).bind fun t102 => (dob_all.l0 k t102 l1 (l1.length : Int) 0 l0_0 l0_1 l0_2 l0_3 l0_4 l0_5 l0_6)
theorem dob_all.mono_l : ∀ k, (∀ y0 y1 y2 y3 y4 y5 y6 y7 y8 y9 y10, LeO (dob_all.l0 k y0 y1 y2 y3 y4 y5 y6 y7 y8 y9 y10) (dob_all.l0 (k + 1) y0 y1 y2 y3 y4 y5 y6 y7 y8 y9 y10))
 | 0 => fun _ _ _ _ _ _ _ _ _ _ _ r h => by simp [dob_all.l0] at h
 | k + 1 => by
  have ih0 := dob_all.mono_l k
  ·intro y0 y1 y2 y3 y4 y5 y6 y7 y8 y9 y10
   unfold dob_all.l0
   repeat' (with_reducible first | exact ih0 _ _ _ _ _ _ _ _ _ _ _ | exact dob_Memory.mono _ _ _ _ _ _ _ _ _ | exact LeO.refl _ | exact LeO.none _ | refine LeO.ite ?_ ?_ | refine LeO.bind ?_ (fun _ => ?_))
theorem dob_all.mono : ∀ a0 a1 a2 a3 a4 a5 a6 a7 k, LeO (dob_all.f k a0 a1 a2 a3 a4 a5 a6 a7) (dob_all.f (k + 1) a0 a1 a2 a3 a4 a5 a6 a7) := by
 intro a0 a1 a2 a3 a4 a5 a6 a7 k
 have ih0 := dob_all.mono_l k
 unfold dob_all.f
 repeat' (with_reducible first | exact ih0 _ _ _ _ _ _ _ _ _ _ _ | exact dob_Memory.mono _ _ _ _ _ _ _ _ _ | exact LeO.refl _ | exact LeO.none _ | refine LeO.ite ?_ ?_ | refine LeO.bind ?_ (fun _ => ?_))
theorem dob_all.calls (k : Nat) (A0_0 : Option Addr) (c0_0 : Nat) (l0_0 : List (S26)) (A0_1 : Option Addr) (c0_1 : Nat) (l0_1 : List Int) (A0_2 : Option Addr) (c0_2 : Nat) (l0_2 : List Int) (A0_3 : Option Addr) (c0_3 : Nat) (l0_3 : List Int) (A0_4 : Option Addr) (c0_4 : Nat) (l0_4 : List Int) (A0_5 : Option Addr) (c0_5 : Nat) (l0_5 : List Int) (A0_6 : Option Addr) (c0_6 : Nat) (l0_6 : List (List Int)) (A1 : Option Addr) (c1 : Nat) (l1 : List (List Int)) (r : List Int) (w : World) (hr0_0 : Kd.C k26 w A0_0 l0_0.length l0_0) (hc0_0 : l0_0.length ≤ c0_0) (hr0_1 : Kd.C (Kd.int .u32) w A0_1 l0_1.length l0_1) (hc0_1 : l0_1.length ≤ c0_1) (hr0_2 : Kd.C (Kd.int .u32) w A0_2 l0_2.length l0_2) (hc0_2 : l0_2.length ≤ c0_2) (hr0_3 : Kd.C (Kd.int .u32) w A0_3 l0_3.length l0_3) (hc0_3 : l0_3.length ≤ c0_3) (hr0_4 : Kd.C (Kd.int .u32) w A0_4 l0_4.length l0_4) (hc0_4 : l0_4.length ≤ c0_4) (hr0_5 : Kd.C (Kd.int .u32) w A0_5 l0_5.length l0_5) (hc0_5 : l0_5.length ≤ c0_5) (hr0_6 : Kd.C (Kd.slice 2 (Kd.int .i64)) w A0_6 l0_6.length l0_6) (hc0_6 : l0_6.length ≤ c0_6) (hr1 : Kd.C (Kd.slice 52 (Kd.int .u32)) w A1 l1.length l1) (hc1 : l1.length ≤ c1) (h : dob_all.f k l0_0 l0_1 l0_2 l0_3 l0_4 l0_5 l0_6 l1 = some r) :
  Calls Try.prog 132 #[.agg #[.slice A0_0 l0_0.length c0_0, .slice A0_1 l0_1.length c0_1, .slice A0_2 l0_2.length c0_2, .slice A0_3 l0_3.length c0_3, .slice A0_4 l0_4.length c0_4, .slice A0_5 l0_5.length c0_5, .slice A0_6 l0_6.length c0_6], .slice A1 l1.length c1] w fun e w' => ∃ v0_ : Value, e = .returned (v0_) ∧ Kd.R (Kd.int .u32) 52 w' w.heap.size (fun _ => True) v0_ r ∧ Below w.heap.size w w' := by
 have hu31 := Try.underlying31
 have HR0_0 := a9_ hr0_0
 have HC0_0 := a9_ hc0_0
 clear hr0_0 hc0_0
 have HR0_1 := a9_ hr0_1
 have HC0_1 := a9_ hc0_1
 clear hr0_1 hc0_1
 have HR0_2 := a9_ hr0_2
 have HC0_2 := a9_ hc0_2
 clear hr0_2 hc0_2
 have HR0_3 := a9_ hr0_3
 have HC0_3 := a9_ hc0_3
 clear hr0_3 hc0_3
 have HR0_4 := a9_ hr0_4
 have HC0_4 := a9_ hc0_4
 clear hr0_4 hc0_4
 have HR0_5 := a9_ hr0_5
 have HC0_5 := a9_ hc0_5
 clear hr0_5 hc0_5
 have HR0_6 := a9_ hr0_6
 have HC0_6 := a9_ hc0_6
 clear hr0_6 hc0_6
 have HR1 := a9_ hr1
 have HC1 := a9_ hc1
 clear hr1 hc1
 have HB := a9_ (Below.refl w.heap.size w)
 have H : ((rel_New.f (l0_0.length : Int)).bind fun t102 => (dob_all.l0 k t102 l1 (l1.length : Int) 0 l0_0 l0_1 l0_2 l0_3 l0_4 l0_5 l0_6)) = some r := h
 clear h
 replace H := Option.bind_eq_some_iff.mp H
 obtain ⟨t102, A30, H⟩ := H
 have A3 := a9_ A30
 clear A30
 have H' := a9_ H
 clear H
 go_enter Try.func132, Try.ntmps132
 go_wp2_with (first | ((with_reducible refine gate_dst (N := 2) rfl ?_); refine box9 (N := 2) (cs := #[.slice A0_0 l0_0.length c0_0, .slice A0_1 l0_1.length c0_1, .slice A0_2 l0_2.length c0_2, .slice A0_3 l0_3.length c0_3, .slice A0_4 l0_4.length c0_4, .slice A0_5 l0_5.length c0_5, .slice A0_6 l0_6.length c0_6]) (t := 31) ?_; intro gb101 hg w4 hbox hb; have n0_ := a9_ (below_step (bp9 HB.out) hb); have n1_ := a9_ (hbox); have n2_ := a9_ ((by rw [hg]; exact (below_size (bp9 HB.out)) : w.heap.size ≤ gb101)); have n3_ := n2_; clear HB; have HB := n0_; have BK101 := n1_; have GW101 := n2_; have GE101 := n3_; clear n0_ n1_ n2_ n3_; clear hb hbox hg; obtain ⟨hcz5_0, hcz5_1, hcz5_2, hcz5_3, hcz5_4, hcz5_5, hcz5_6, hfz5_0, hfz5_1, hfz5_2, hfz5_3, hfz5_4, hfz5_5, hfz5_6⟩ := cz7 BK101.out) | ((with_reducible refine gate_callee (f := 37) rfl ?_); refine goesL9 (some 11) rfl rfl Try.func37 (by kernel_rfl) rfl #[.int .i64 (l0_0.length : Int)] rfl ?_; (with_reducible refine (rel_New.calls (l0_0.length : Int) t102 _ A3.out).mono ?_); rintro e w6 ⟨v103, rfl, ho0, hb⟩; refine ⟨_, rfl, ?_⟩; have n0_ := a9_ (Kd.R_lower ho0 (below_size (bp9 HB.out))); have n1_ := a9_ (blk_below (kp9 BK101.out) hb); have n2_ := a9_ (below_step (bp9 HB.out) hb); clear BK101; clear HB; have HO104 := n0_; have BK101 := n1_; have HB := n2_; clear n0_ n1_ n2_; (try clear hb); (try clear ho0)))
 go_loopg [5, 14] k (fun kq v5 v14 w' => ∃ (x5_1 : List Int) (x14_1 : Int), v14 = .int .i64 x14_1 ∧ Aside0 (dob_all.l0 kq x5_1 l1 (l1.length : Int) x14_1 l0_0 l0_1 l0_2 l0_3 l0_4 l0_5 l0_6 = some r) ∧ Aside0 (kq ≤ k) ∧ Aside0 (Kd.R (Kd.int .u32) 52 w' w.heap.size (fun _ => True) v5 x5_1) ∧ Aside0 (w'.heap[gb101]? = some (.cells #[(.slice A0_0 l0_0.length c0_0), (.slice A0_1 l0_1.length c0_1), (.slice A0_2 l0_2.length c0_2), (.slice A0_3 l0_3.length c0_3), (.slice A0_4 l0_4.length c0_4), (.slice A0_5 l0_5.length c0_5), (.slice A0_6 l0_6.length c0_6)] 31 (0, 0))) ∧ Aside0 (Below w.heap.size w w'))
 case atStart => exact ⟨(t102), (0), rs9, H', ⟨Nat.le_refl _⟩, ⟨rp9 HO104.out⟩, ⟨kp9 BK101.out⟩, ⟨bp9 HB.out⟩⟩
 case round =>
  clear H'
  try clear c1
  try clear p2
  try clear c3
  try clear hcz5_0 hcz5_1 hcz5_2 hcz5_3 hcz5_4 hcz5_5 hcz5_6
  try clear hfz5_0 hfz5_1 hfz5_2 hfz5_3 hfz5_4 hfz5_5 hfz5_6
  obtain ⟨x5_1, x14_1, rfl, HA, HK1, HO_5, BK101, HB⟩ := hrel
  cases gk with
  | zero => exact absurd HA.out (by simp [dob_all.l0])
  | succ k1 =>
   have H := HA.out
   clear HA
   simp only [dob_all.l0] at H
   by_cases c7 : x14_1 < (l1.length : Int)
   ·rw [if_pos c7] at H
    have c7b0 : decide (x14_1 < (l1.length : Int)) = true := decide_eq_true c7
    clear c7
    by_cases c8 : 0 ≤ x14_1
    ·rw [if_pos c8] at H
     have c8b0 : decide (0 ≤ x14_1) = true := decide_eq_true c8
     clear c8
     by_cases c9 : x14_1 < (l1.length : Int)
     ·rw [if_pos c9] at H
      have c9b0 : decide (x14_1 < (l1.length : Int)) = true := decide_eq_true c9
      clear c9
      replace H := Option.bind_eq_some_iff.mp H
      obtain ⟨t106, A100, H⟩ := H
      have A10 := a9_ A100
      clear A100
      have H' := a9_ H
      clear H
      have p105 : 0 ≤ (x14_1 : Int) := of_decide_eq_true (by first | (with_reducible assumption) | assumption)
      have q105 : x14_1 < (l1.length : Int) := of_decide_eq_true (by first | (with_reducible assumption) | assumption)
      obtain ⟨ad105, A105_0, c105_0, e105, hx105_0, hl105_0, hi105_0⟩ := at_L7 HR1.out x14_1 p105 q105
      cases e105
      replace hx105_0 := hb9 HB.out hx105_0
      have HR105_0 := a9_ hi105_0
      have HC105_0 := a9_ hl105_0
      clear hi105_0 hl105_0
      replace p105 := eq_true p105
      replace q105 := eq_true q105
      obtain ⟨Ao11, co11, eo11⟩ := Kd.R_slice HO_5.out
      subst eo11
      go_wp2_with (first | ((with_reducible refine gate_callee (f := 58) rfl ?_); refine goesL9 (some 20) rfl rfl Try.func58 (by kernel_rfl) rfl #[.slice Ao11 x5_1.length co11, .slice A105_0 (rd_L7 l1 x14_1).length c105_0] rfl ?_; (with_reducible refine (rel_Or.calls _ _ x5_1 _ _ (rd_L7 l1 x14_1) t106 _ ?side1 ?side2 ?side3 ?side4 A10.out).mono ?_); (case side1 => exact lp9 (Kd.R_reads' HO_5.out).2.2); (case side2 => exact (Kd.R_reads' HO_5.out).2.1); (case side3 => exact cp9 HR105_0.out HB.out); (case side4 => exact HC105_0.out); rintro e w12 ⟨v107, rfl, ho0, hb⟩; refine ⟨_, rfl, ?_⟩; have n0_ := a9_ (Kd.R_elder' (rp9 HO_5.out) (Kd.R_base ho0) hb); have n1_ := a9_ (Kd.R_lower (Kd.R_new' ho0 (Kd.R_lt (rp9 HO_5.out))) (below_size (bp9 HB.out))); have n2_ := a9_ (blk_below (kp9 BK101.out) hb); have n3_ := a9_ (below_step (bp9 HB.out) hb); clear HO_5; clear BK101; clear HB; have HO_5 := n0_; have HO108 := n1_; have BK101 := n2_; have HB := n3_; clear n0_ n1_ n2_ n3_; (try clear hb); (try clear ho0)))
      go_roundg k1
      case measure => have := HK1.out; omega
      case rel => exact ⟨(t106), (wrap64 (x14_1 + 1)), rs9, H', ⟨by have := HK1.out; omega⟩, ⟨by (with_reducible repeat (first | apply Kd.R_alloc | apply Kd.R_drewN | apply Kd.R_drew)); exact Kd.R_mono HO108.out (fun _ hk => trivial)⟩, ⟨kp9 BK101.out⟩, ⟨bp9 HB.out⟩⟩
     ·rw [if_neg c9] at H
      exact absurd H (by simp)
    ·rw [if_neg c8] at H
     exact absurd H (by simp)
   ·rw [if_neg c7] at H
    have c7b0 : decide (x14_1 < (l1.length : Int)) = false := decide_eq_false c7
    clear c7
    replace H := Option.bind_eq_some_iff.mp H
    obtain ⟨t109, A130, H⟩ := H
    have A13 := a9_ A130
    clear A130
    obtain rfl := Option.some.inj H
    obtain ⟨hcz14_0, hcz14_1, hcz14_2, hcz14_3, hcz14_4, hcz14_5, hcz14_6, hfz14_0, hfz14_1, hfz14_2, hfz14_3, hfz14_4, hfz14_5, hfz14_6⟩ := cz7 BK101.out
    obtain ⟨Ao15, co15, eo15⟩ := Kd.R_slice HO_5.out
    subst eo15
    go_wp2_with (first | ((with_reducible refine gate_callee (f := 84) rfl ?_); refine goesL9 (some 24) rfl rfl Try.func84 (by kernel_rfl) rfl #[.agg #[.slice A0_0 l0_0.length c0_0, .slice A0_1 l0_1.length c0_1, .slice A0_2 l0_2.length c0_2, .slice A0_3 l0_3.length c0_3, .slice A0_4 l0_4.length c0_4, .slice A0_5 l0_5.length c0_5, .slice A0_6 l0_6.length c0_6], .slice Ao15 x5_1.length co15] rfl ?_; (with_reducible refine (dob_Memory.calls k1 _ _ l0_0 _ _ l0_1 _ _ l0_2 _ _ l0_3 _ _ l0_4 _ _ l0_5 _ _ l0_6 _ _ x5_1 t109 _ ?side1 ?side2 ?side3 ?side4 ?side5 ?side6 ?side7 ?side8 ?side9 ?side10 ?side11 ?side12 ?side13 ?side14 ?side15 ?side16 A13.out).mono ?_); (case side1 => exact cp9 HR0_0.out HB.out); (case side2 => exact HC0_0.out); (case side3 => exact cp9 HR0_1.out HB.out); (case side4 => exact HC0_1.out); (case side5 => exact cp9 HR0_2.out HB.out); (case side6 => exact HC0_2.out); (case side7 => exact cp9 HR0_3.out HB.out); (case side8 => exact HC0_3.out); (case side9 => exact cp9 HR0_4.out HB.out); (case side10 => exact HC0_4.out); (case side11 => exact cp9 HR0_5.out HB.out); (case side12 => exact HC0_5.out); (case side13 => exact cp9 HR0_6.out HB.out); (case side14 => exact HC0_6.out); (case side15 => exact lp9 (Kd.R_reads' HO_5.out).2.2); (case side16 => exact (Kd.R_reads' HO_5.out).2.1); rintro e w16 ⟨v110, rfl, ho0, hb⟩; refine ⟨_, rfl, ?_⟩; have n0_ := a9_ (Kd.R_elder' (rp9 HO_5.out) (Kd.R_base ho0) hb); have n1_ := a9_ (Kd.R_lower (Kd.R_new' ho0 (Kd.R_lt (rp9 HO_5.out))) (below_size (bp9 HB.out))); have n2_ := a9_ (blk_below (kp9 BK101.out) hb); have n3_ := a9_ (below_step (bp9 HB.out) hb); clear HO_5; clear BK101; clear HB; have HO_5 := n0_; have HO111 := n1_; have BK101 := n2_; have HB := n3_; clear n0_ n1_ n2_ n3_; (try clear hb); (try clear ho0)))
    go_ret
    exact ⟨_, rt9, by (with_reducible repeat (first | apply Kd.R_alloc | apply Kd.R_drewN | apply Kd.R_drew)); exact Kd.R_mono HO111.out (fun _ hk => trivial), bp9 HB.out⟩
def dob_to.f (k : Nat) (l0_0 : List (S26)) (l0_1 : List Int) (l0_2 : List Int) (l0_3 : List Int) (l0_4 : List Int) (l0_5 : List Int) (l0_6 : List (List Int)) (l1 : List Int) (a2 : Int) : Option (List Int) := (exec_Kinds.f l0_0 l0_1 l0_2 l0_3 l0_4 l0_5 l0_6 (([a2] : List Int))).bind fun t105 => ((rel_Only.f k l1 4294967295 t105).bind fun t106 => (some t106))
theorem dob_to.mono : ∀ a0 a1 a2 a3 a4 a5 a6 a7 a8 k, LeO (dob_to.f k a0 a1 a2 a3 a4 a5 a6 a7 a8) (dob_to.f (k + 1) a0 a1 a2 a3 a4 a5 a6 a7 a8) := by
 intro a0 a1 a2 a3 a4 a5 a6 a7 a8 k
 unfold dob_to.f
 repeat' (with_reducible first | exact rel_Only.mono _ _ _ _ | exact LeO.refl _ | exact LeO.none _ | refine LeO.ite ?_ ?_ | refine LeO.bind ?_ (fun _ => ?_))
theorem dob_to.calls (k : Nat) (A0_0 : Option Addr) (c0_0 : Nat) (l0_0 : List (S26)) (A0_1 : Option Addr) (c0_1 : Nat) (l0_1 : List Int) (A0_2 : Option Addr) (c0_2 : Nat) (l0_2 : List Int) (A0_3 : Option Addr) (c0_3 : Nat) (l0_3 : List Int) (A0_4 : Option Addr) (c0_4 : Nat) (l0_4 : List Int) (A0_5 : Option Addr) (c0_5 : Nat) (l0_5 : List Int) (A0_6 : Option Addr) (c0_6 : Nat) (l0_6 : List (List Int)) (A1 : Option Addr) (c1 : Nat) (l1 : List Int) (a2 : Int) (r : List Int) (w : World) (hr0_0 : Kd.C k26 w A0_0 l0_0.length l0_0) (hc0_0 : l0_0.length ≤ c0_0) (hr0_1 : Kd.C (Kd.int .u32) w A0_1 l0_1.length l0_1) (hc0_1 : l0_1.length ≤ c0_1) (hr0_2 : Kd.C (Kd.int .u32) w A0_2 l0_2.length l0_2) (hc0_2 : l0_2.length ≤ c0_2) (hr0_3 : Kd.C (Kd.int .u32) w A0_3 l0_3.length l0_3) (hc0_3 : l0_3.length ≤ c0_3) (hr0_4 : Kd.C (Kd.int .u32) w A0_4 l0_4.length l0_4) (hc0_4 : l0_4.length ≤ c0_4) (hr0_5 : Kd.C (Kd.int .u32) w A0_5 l0_5.length l0_5) (hc0_5 : l0_5.length ≤ c0_5) (hr0_6 : Kd.C (Kd.slice 2 (Kd.int .i64)) w A0_6 l0_6.length l0_6) (hc0_6 : l0_6.length ≤ c0_6) (hr1 : Kd.C (Kd.int .u32) w A1 l1.length l1) (hc1 : l1.length ≤ c1) (h : dob_to.f k l0_0 l0_1 l0_2 l0_3 l0_4 l0_5 l0_6 l1 a2 = some r) :
  Calls Try.prog 133 #[.agg #[.slice A0_0 l0_0.length c0_0, .slice A0_1 l0_1.length c0_1, .slice A0_2 l0_2.length c0_2, .slice A0_3 l0_3.length c0_3, .slice A0_4 l0_4.length c0_4, .slice A0_5 l0_5.length c0_5, .slice A0_6 l0_6.length c0_6], .slice A1 l1.length c1, .int .i64 a2] w fun e w' => ∃ v0_ : Value, e = .returned (v0_) ∧ Kd.R (Kd.int .u32) 52 w' w.heap.size (fun _ => True) v0_ r ∧ Below w.heap.size w w' := by
 have hu31 := Try.underlying31
 have HR0_0 := a9_ hr0_0
 have HC0_0 := a9_ hc0_0
 clear hr0_0 hc0_0
 have HR0_1 := a9_ hr0_1
 have HC0_1 := a9_ hc0_1
 clear hr0_1 hc0_1
 have HR0_2 := a9_ hr0_2
 have HC0_2 := a9_ hc0_2
 clear hr0_2 hc0_2
 have HR0_3 := a9_ hr0_3
 have HC0_3 := a9_ hc0_3
 clear hr0_3 hc0_3
 have HR0_4 := a9_ hr0_4
 have HC0_4 := a9_ hc0_4
 clear hr0_4 hc0_4
 have HR0_5 := a9_ hr0_5
 have HC0_5 := a9_ hc0_5
 clear hr0_5 hc0_5
 have HR0_6 := a9_ hr0_6
 have HC0_6 := a9_ hc0_6
 clear hr0_6 hc0_6
 have HR1 := a9_ hr1
 have HC1 := a9_ hc1
 clear hr1 hc1
 have HB := a9_ (Below.refl w.heap.size w)
 have H : ((exec_Kinds.f l0_0 l0_1 l0_2 l0_3 l0_4 l0_5 l0_6 (([a2] : List Int))).bind fun t105 => ((rel_Only.f k l1 4294967295 t105).bind fun t106 => (some t106))) = some r := h
 clear h
 obtain ⟨y102, hy102⟩ : ∃ y_ : List Int, y_ = (([a2] : List Int)) := ⟨_, rfl⟩
 replace H : ((exec_Kinds.f l0_0 l0_1 l0_2 l0_3 l0_4 l0_5 l0_6 y102).bind fun t105 => ((rel_Only.f k l1 4294967295 t105).bind fun t106 => (some t106))) = some r := by first | (rw [hy102]; with_reducible exact H) | (have H2_ := (Option.bind_some _ _).symm.trans H; rw [hy102]; with_reducible exact H2_) | (have H2_ := (Option.bind_some _ _).symm.trans H; with_reducible exact H2_) | with_reducible exact H | (rw [hy102]; exact H) | exact H
 have Ny102 := a9_ hy102
 clear hy102
 replace H := Option.bind_eq_some_iff.mp H
 obtain ⟨t105, A40, H⟩ := H
 have A4 := a9_ A40
 clear A40
 replace H := Option.bind_eq_some_iff.mp H
 obtain ⟨t106, A50, H⟩ := H
 have A5 := a9_ A50
 clear A50
 obtain rfl := Option.some.inj H
 go_enter Try.func133, Try.ntmps133
 go_wp2_with (first | ((with_reducible refine gate_dst (N := 3) rfl ?_); refine box9 (N := 3) (cs := #[.slice A0_0 l0_0.length c0_0, .slice A0_1 l0_1.length c0_1, .slice A0_2 l0_2.length c0_2, .slice A0_3 l0_3.length c0_3, .slice A0_4 l0_4.length c0_4, .slice A0_5 l0_5.length c0_5, .slice A0_6 l0_6.length c0_6]) (t := 31) ?_; intro gb101 hg w6 hbox hb; have n0_ := a9_ (below_step (bp9 HB.out) hb); have n1_ := a9_ (hbox); have n2_ := a9_ ((by rw [hg]; exact (below_size (bp9 HB.out)) : w.heap.size ≤ gb101)); have n3_ := n2_; clear HB; have HB := n0_; have BK101 := n1_; have GW101 := n2_; have GE101 := n3_; clear n0_ n1_ n2_ n3_; clear hb hbox hg; obtain ⟨hcz7_0, hcz7_1, hcz7_2, hcz7_3, hcz7_4, hcz7_5, hcz7_6, hfz7_0, hfz7_1, hfz7_2, hfz7_3, hfz7_4, hfz7_5, hfz7_6⟩ := cz7 BK101.out) | ((with_reducible refine gate_dst (N := 10) rfl ?_); refine Kd.R_lit (Kd.int .i64) _ 3 ?hg (N := 10) ?hd (xs := ([a2] : List Int)) (inner := [.int .i64 a2]) (ok := fun _ => True) (okp := fun _ => True) ?hr ?hp (fun _ hk => hk) trivial (Below.refl _ _) (Nat.le_refl _) (by simp) ?_; (case hd => rfl); (case hg => rfl); (case hr => first | (go_simp; done) | (go_simp; rfl)); (case hp => exact (Reps.one (show Kd.M (Kd.int .i64) _ _ _ a2 [.int .i64 a2] from rfl) (Reps.none _ _))); intro v103 w8 ho9 hb hg_ hnew_; clear hg_ hnew_; (first | rw [← Ny102.out] at ho9 | (simp only [Int.reduceToNat] at ho9; rw [← Ny102.out] at ho9)); have n0_ := a9_ (Kd.R_lower ho9 (below_size (bp9 HB.out))); have n1_ := a9_ (blk_below (kp9 BK101.out) hb); have n2_ := a9_ (below_step (bp9 HB.out) hb); clear BK101; clear HB; have HO104 := n0_; have BK101 := n1_; have HB := n2_; clear n0_ n1_ n2_; clear hb ho9; obtain ⟨Ao10, co10, eo10⟩ := Kd.R_slice HO104.out; subst eo10) | ((with_reducible refine gate_callee (f := 74) rfl ?_); refine goesL9 (some 11) rfl rfl Try.func74 (by kernel_rfl) rfl #[.agg #[.slice A0_0 l0_0.length c0_0, .slice A0_1 l0_1.length c0_1, .slice A0_2 l0_2.length c0_2, .slice A0_3 l0_3.length c0_3, .slice A0_4 l0_4.length c0_4, .slice A0_5 l0_5.length c0_5, .slice A0_6 l0_6.length c0_6], .slice Ao10 y102.length co10] rfl ?_; (with_reducible refine (exec_Kinds.calls _ _ l0_0 _ _ l0_1 _ _ l0_2 _ _ l0_3 _ _ l0_4 _ _ l0_5 _ _ l0_6 _ _ y102 t105 _ ?side1 ?side2 ?side3 ?side4 ?side5 ?side6 ?side7 ?side8 ?side9 ?side10 ?side11 ?side12 ?side13 ?side14 ?side15 ?side16 A4.out).mono ?_); (case side1 => exact cp9 HR0_0.out HB.out); (case side2 => exact HC0_0.out); (case side3 => exact cp9 HR0_1.out HB.out); (case side4 => exact HC0_1.out); (case side5 => exact cp9 HR0_2.out HB.out); (case side6 => exact HC0_2.out); (case side7 => exact cp9 HR0_3.out HB.out); (case side8 => exact HC0_3.out); (case side9 => exact cp9 HR0_4.out HB.out); (case side10 => exact HC0_4.out); (case side11 => exact cp9 HR0_5.out HB.out); (case side12 => exact HC0_5.out); (case side13 => exact cp9 HR0_6.out HB.out); (case side14 => exact HC0_6.out); (case side15 => exact lp9 (Kd.R_reads' HO104.out).2.2); (case side16 => exact (Kd.R_reads' HO104.out).2.1); rintro e w11 ⟨rfl, hb⟩; refine ⟨_, rfl, ?_⟩; have n0_ := a9_ (Kd.R_below (rp9 HO104.out) hb); have n1_ := a9_ (blk_below (kp9 BK101.out) hb); have n2_ := a9_ (below_step (bp9 HB.out) hb); clear HO104; clear BK101; clear HB; have HO104 := n0_; have BK101 := n1_; have HB := n2_; clear n0_ n1_ n2_; (try clear hb); (try clear hi)) | ((with_reducible refine gate_callee (f := 54) rfl ?_); refine goesL9 (some 12) rfl rfl Try.func54 (by kernel_rfl) rfl #[.slice A1 l1.length c1, .int .u32 4294967295, .int .u32 t105] rfl ?_; (with_reducible refine (rel_Only.calls k _ _ l1 4294967295 t105 t106 _ ?side1 ?side2 A5.out).mono ?_); (case side1 => exact cp9 HR1.out HB.out); (case side2 => exact HC1.out); rintro e w12 ⟨v107, rfl, ho0, hb⟩; refine ⟨_, rfl, ?_⟩; have n0_ := a9_ (Kd.R_below (rp9 HO104.out) hb); have n1_ := a9_ (Kd.R_lower ho0 (below_size (bp9 HB.out))); have n2_ := a9_ (blk_below (kp9 BK101.out) hb); have n3_ := a9_ (below_step (bp9 HB.out) hb); clear HO104; clear BK101; clear HB; have HO104 := n0_; have HO108 := n1_; have BK101 := n2_; have HB := n3_; clear n0_ n1_ n2_ n3_; (try clear hb); (try clear ho0)))
 go_ret
 exact ⟨_, rt9, by (with_reducible repeat (first | apply Kd.R_alloc | apply Kd.R_drewN | apply Kd.R_drew)); exact HO108.out, bp9 HB.out⟩
def dob_Static.f (k : Nat) (l0_0 : List (S26)) (l0_1 : List Int) (l0_2 : List Int) (l0_3 : List Int) (l0_4 : List Int) (l0_5 : List Int) (l0_6 : List (List Int)) : Option (List Int) := (rel_Seq.f l0_2 l0_1).bind fun t102 => ((rel_Or.f l0_4 t102).bind fun t105 => ((dob_to.f k l0_0 l0_1 l0_2 l0_3 l0_4 l0_5 l0_6 t105 6).bind fun t108 => ((rel_Seq.f t108 l0_1).bind fun t111 => ((dob_to.f k l0_0 l0_1 l0_2 l0_3 l0_4 l0_5 l0_6 l0_4 2).bind fun t114 => ((dob_to.f k l0_0 l0_1 l0_2 l0_3 l0_4 l0_5 l0_6 t111 1).bind fun t117 => ((dob_to.f k l0_0 l0_1 l0_2 l0_3 l0_4 l0_5 l0_6 t102 2).bind fun t120 => ((dob_all.f k l0_0 l0_1 l0_2 l0_3 l0_4 l0_5 l0_6 (([l0_2, l0_3, t114, t117, t120] : List (List Int)))).bind fun t126 => (some t126))))))))
theorem dob_Static.mono : ∀ a0 a1 a2 a3 a4 a5 a6 k, LeO (dob_Static.f k a0 a1 a2 a3 a4 a5 a6) (dob_Static.f (k + 1) a0 a1 a2 a3 a4 a5 a6) := by
 intro a0 a1 a2 a3 a4 a5 a6 k
 unfold dob_Static.f
 repeat' (with_reducible first | exact dob_all.mono _ _ _ _ _ _ _ _ _ | exact dob_to.mono _ _ _ _ _ _ _ _ _ _ | exact LeO.refl _ | exact LeO.none _ | refine LeO.ite ?_ ?_ | refine LeO.bind ?_ (fun _ => ?_))
def dob_Static.T2 : Bool × List (List Nat × List Nat) := (true, [([], []), ([], []), ([1], [1]), ([], []), ([2, 3], [2, 3]), ([0, 4, 4], [0, 4]), ([], []), ([6], [6]), ([5, 7, 5], [5, 7]), ([8, 8, 0, 1, 2, 3, 4, 5, 6, 7, 8], [8])])
def dob_Static.B2 : List Nat := [0, 0, 2, 0, 14, 31, 0, 64, 255, 511]
theorem dob_Static.tab2 : rtab .any (opsOf Try.f82 2) = dob_Static.T2 := by kernel_rfl
theorem dob_Static.bits2 : waitsOk dob_Static.T2.2 dob_Static.B2 = true := by kernel_rfl
def dob_Static.T3 : Bool × List (List Nat × List Nat) := (true, [([], []), ([], []), ([1], [1]), ([], []), ([3], [3]), ([], []), ([], []), ([6], [6]), ([5, 7], [5, 7]), ([], []), ([], []), ([9, 10, 8], [9, 10]), ([], []), ([], []), ([12, 13, 11], [12, 13]), ([2, 4, 8, 11, 14], [2, 4, 8, 11, 14]), ([0, 15, 14], [0, 15]), ([16, 16, 0, 1, 2, 3, 4, 5, 6, 7, 8, 9, 10, 11, 12, 13, 14, 15, 16], [16])])
def dob_Static.B3 : List Nat := [0, 0, 2, 0, 8, 0, 0, 64, 224, 0, 0, 2016, 0, 0, 16352, 32766, 65535, 131071]
theorem dob_Static.tab3 : rtab .any (opsOf Try.f82 3) = dob_Static.T3 := by kernel_rfl
theorem dob_Static.bits3 : waitsOk dob_Static.T3.2 dob_Static.B3 = true := by kernel_rfl
theorem dob_Static.calls (k : Nat) (A0_0 : Option Addr) (c0_0 : Nat) (l0_0 : List (S26)) (A0_1 : Option Addr) (c0_1 : Nat) (l0_1 : List Int) (P0_2_ : Nat → Prop) (A0_2 : Option Addr) (c0_2 : Nat) (l0_2 : List Int) (P0_3_ : Nat → Prop) (A0_3 : Option Addr) (c0_3 : Nat) (l0_3 : List Int) (A0_4 : Option Addr) (c0_4 : Nat) (l0_4 : List Int) (A0_5 : Option Addr) (c0_5 : Nat) (l0_5 : List Int) (A0_6 : Option Addr) (c0_6 : Nat) (l0_6 : List (List Int)) (r : List Int) (w : World) (hr0_0 : Kd.C k26 w A0_0 l0_0.length l0_0) (hc0_0 : l0_0.length ≤ c0_0) (hr0_1 : Kd.C (Kd.int .u32) w A0_1 l0_1.length l0_1) (hc0_1 : l0_1.length ≤ c0_1) (hs0_2 : Kd.V (Kd.int .u32) 52 w w.heap.size (fun k_ => P0_2_ k_) (.slice A0_2 l0_2.length c0_2) l0_2) (hs0_3 : Kd.V (Kd.int .u32) 52 w w.heap.size (fun k_ => P0_3_ k_) (.slice A0_3 l0_3.length c0_3) l0_3) (hr0_4 : Kd.C (Kd.int .u32) w A0_4 l0_4.length l0_4) (hc0_4 : l0_4.length ≤ c0_4) (hr0_5 : Kd.C (Kd.int .u32) w A0_5 l0_5.length l0_5) (hc0_5 : l0_5.length ≤ c0_5) (hr0_6 : Kd.C (Kd.slice 2 (Kd.int .i64)) w A0_6 l0_6.length l0_6) (hc0_6 : l0_6.length ≤ c0_6) (h : dob_Static.f k l0_0 l0_1 l0_2 l0_3 l0_4 l0_5 l0_6 = some r) :
  Calls Try.prog 82 #[.agg #[.slice A0_0 l0_0.length c0_0, .slice A0_1 l0_1.length c0_1, .slice A0_2 l0_2.length c0_2, .slice A0_3 l0_3.length c0_3, .slice A0_4 l0_4.length c0_4, .slice A0_5 l0_5.length c0_5, .slice A0_6 l0_6.length c0_6]] w fun e w' => ∃ v0_ : Value, e = .returned (v0_) ∧ Kd.R (Kd.int .u32) 52 w' w.heap.size (fun k_ => (w.heap.size ≤ k_)) v0_ r ∧ Below w.heap.size w w' := by
 have hu31 := Try.underlying31
 have HR0_0 := a9_ hr0_0
 have HC0_0 := a9_ hc0_0
 clear hr0_0 hc0_0
 have HR0_1 := a9_ hr0_1
 have HC0_1 := a9_ hc0_1
 clear hr0_1 hc0_1
 have HO0_2 := a9_ (show Kd.V (Kd.int .u32) 52 w w.heap.size (fun k_ => ((P0_2_ k_ ∨ P0_3_ k_) ∨ w.heap.size ≤ k_)) (.slice A0_2 l0_2.length c0_2) l0_2 from Kd.V_mono hs0_2 (fun k_ hk => .inl (.inl hk)))
 have HO0_3 := a9_ (show Kd.V (Kd.int .u32) 52 w w.heap.size (fun k_ => ((P0_2_ k_ ∨ P0_3_ k_) ∨ w.heap.size ≤ k_)) (.slice A0_3 l0_3.length c0_3) l0_3 from Kd.V_mono hs0_3 (fun k_ hk => .inl (.inr hk)))
 have HR0_4 := a9_ hr0_4
 have HC0_4 := a9_ hc0_4
 clear hr0_4 hc0_4
 have HR0_5 := a9_ hr0_5
 have HC0_5 := a9_ hc0_5
 clear hr0_5 hc0_5
 have HR0_6 := a9_ hr0_6
 have HC0_6 := a9_ hc0_6
 clear hr0_6 hc0_6
 have HB := a9_ (Below.refl w.heap.size w)
 have H : ((rel_Seq.f l0_2 l0_1).bind fun t102 => ((rel_Or.f l0_4 t102).bind fun t105 => ((dob_to.f k l0_0 l0_1 l0_2 l0_3 l0_4 l0_5 l0_6 t105 6).bind fun t108 => ((rel_Seq.f t108 l0_1).bind fun t111 => ((dob_to.f k l0_0 l0_1 l0_2 l0_3 l0_4 l0_5 l0_6 l0_4 2).bind fun t114 => ((dob_to.f k l0_0 l0_1 l0_2 l0_3 l0_4 l0_5 l0_6 t111 1).bind fun t117 => ((dob_to.f k l0_0 l0_1 l0_2 l0_3 l0_4 l0_5 l0_6 t102 2).bind fun t120 => ((dob_all.f k l0_0 l0_1 l0_2 l0_3 l0_4 l0_5 l0_6 (([l0_2, l0_3, t114, t117, t120] : List (List Int)))).bind fun t126 => (some t126))))))))) = some r := h
 clear h
 replace H := Option.bind_eq_some_iff.mp H
 obtain ⟨t102, A20, H⟩ := H
 have A2 := a9_ A20
 clear A20
 replace H := Option.bind_eq_some_iff.mp H
 obtain ⟨t105, A30, H⟩ := H
 have A3 := a9_ A30
 clear A30
 replace H := Option.bind_eq_some_iff.mp H
 obtain ⟨t108, A40, H⟩ := H
 have A4 := a9_ A40
 clear A40
 replace H := Option.bind_eq_some_iff.mp H
 obtain ⟨t111, A50, H⟩ := H
 have A5 := a9_ A50
 clear A50
 replace H := Option.bind_eq_some_iff.mp H
 obtain ⟨t114, A60, H⟩ := H
 have A6 := a9_ A60
 clear A60
 replace H := Option.bind_eq_some_iff.mp H
 obtain ⟨t117, A70, H⟩ := H
 have A7 := a9_ A70
 clear A70
 replace H := Option.bind_eq_some_iff.mp H
 obtain ⟨t120, A80, H⟩ := H
 have A8 := a9_ A80
 clear A80
 obtain ⟨y123, hy123⟩ : ∃ y_ : List (List Int), y_ = (([l0_2, l0_3, t114, t117, t120] : List (List Int))) := ⟨_, rfl⟩
 replace H : ((dob_all.f k l0_0 l0_1 l0_2 l0_3 l0_4 l0_5 l0_6 y123).bind fun t126 => (some t126)) = some r := by first | (rw [hy123]; with_reducible exact H) | (have H2_ := (Option.bind_some _ _).symm.trans H; rw [hy123]; with_reducible exact H2_) | (have H2_ := (Option.bind_some _ _).symm.trans H; with_reducible exact H2_) | with_reducible exact H | (rw [hy123]; exact H) | exact H
 have Ny123 := a9_ hy123
 clear hy123
 replace H := Option.bind_eq_some_iff.mp H
 obtain ⟨t126, A90, H⟩ := H
 have A9 := a9_ A90
 clear A90
 obtain rfl := Option.some.inj H
 go_enter Try.func82, Try.ntmps82
 try go_wp2_with (first | ((with_reducible refine gate_dst (N := 1) rfl ?_); refine box9 (N := 1) (cs := #[.slice A0_0 l0_0.length c0_0, .slice A0_1 l0_1.length c0_1, .slice A0_2 l0_2.length c0_2, .slice A0_3 l0_3.length c0_3, .slice A0_4 l0_4.length c0_4, .slice A0_5 l0_5.length c0_5, .slice A0_6 l0_6.length c0_6]) (t := 31) ?_; intro gb101 hg w10 hbox hb; have n0_ := a9_ (Kd.V_below (Kd.V_elderB (by (with_reducible repeat (first | apply Kd.V_alloc | apply Kd.V_drewN | apply Kd.V_drew)); exact HO0_2.out) gb101 (Nat.le_of_eq hg.symm)) hb); have n1_ := a9_ (Kd.V_below (Kd.V_elderB (by (with_reducible repeat (first | apply Kd.V_alloc | apply Kd.V_drewN | apply Kd.V_drew)); exact HO0_3.out) gb101 (Nat.le_of_eq hg.symm)) hb); have n2_ := a9_ (below_step (bp9 HB.out) hb); have n3_ := a9_ (hbox); have n4_ := a9_ ((by rw [hg]; exact (below_size (bp9 HB.out)) : w.heap.size ≤ gb101)); have n5_ := n4_; clear HO0_2; clear HO0_3; clear HB; have HO0_2 := n0_; have HO0_3 := n1_; have HB := n2_; have BK101 := n3_; have GW101 := n4_; have GE101 := n5_; clear n0_ n1_ n2_ n3_ n4_ n5_; clear hb hbox hg; obtain ⟨hcz11_0, hcz11_1, hcz11_2, hcz11_3, hcz11_4, hcz11_5, hcz11_6, hfz11_0, hfz11_1, hfz11_2, hfz11_3, hfz11_4, hfz11_5, hfz11_6⟩ := cz7 BK101.out) | ((with_reducible refine gate_callee (f := 62) rfl ?_); refine goesL9 (some 9) rfl rfl Try.func62 (by kernel_rfl) rfl #[.slice A0_2 l0_2.length c0_2, .slice A0_1 l0_1.length c0_1] rfl ?_; (with_reducible refine (rel_Seq.calls _ _ l0_2 _ _ l0_1 t102 _ ?side1 ?side2 ?side3 ?side4 A2.out).mono ?_); (case side1 => exact lp9 (Kd.V_reads' HO0_2.out).2.2); (case side2 => exact (Kd.V_reads' HO0_2.out).2.1); (case side3 => exact cp9 HR0_1.out HB.out); (case side4 => exact HC0_1.out); rintro e w12 ⟨v103, rfl, ho0, hb⟩; refine ⟨_, rfl, ?_⟩; have n0_ := a9_ (Kd.V_elder' (by (with_reducible repeat (first | apply Kd.V_alloc | apply Kd.V_drewN | apply Kd.V_drew)); exact HO0_2.out) (Kd.R_base ho0) hb); have n1_ := a9_ (Kd.V_elder' (by (with_reducible repeat (first | apply Kd.V_alloc | apply Kd.V_drewN | apply Kd.V_drew)); exact HO0_3.out) (Kd.R_base ho0) hb); have n2_ := a9_ (Kd.R_lower (Kd.R_newM (M := fun k_ => (w.heap.size ≤ k_)) ho0 (below_size (bp9 HB.out)) (fun k_ h_ => h_)) (below_size (bp9 HB.out))); have n3_ := a9_ (blk_below (kp9 BK101.out) hb); have n4_ := a9_ (below_step (bp9 HB.out) hb); clear HO0_2; clear HO0_3; clear BK101; clear HB; have HO0_2 := n0_; have HO0_3 := n1_; have HO104 := n2_; have BK101 := n3_; have HB := n4_; clear n0_ n1_ n2_ n3_ n4_; (try clear hb); (try clear ho0)))
 have n0_ := a9_ (Kd.V_drew HO0_2.out)
 have n1_ := a9_ (Kd.V_drew HO0_3.out)
 have n2_ := a9_ (Kd.R_drew HO104.out)
 have n3_ := a9_ (blk_drew BK101.out)
 have n4_ := a9_ (below_drew1 HB.out)
 clear HO0_2 HO0_3 HO104 BK101 HB
 revert n0_ n1_ n2_ n3_ n4_; intro HO0_2 HO0_3 HO104 BK101 HB
 obtain ⟨Ao14, co14, eo14⟩ := Kd.R_slice HO104.out
 (first | subst eo14 | (injection eo14 with f1_ f2_ f3_; have f4_ := f1_.symm; have f5_ := f3_.symm; clear f1_ f2_ f3_; subst f4_; subst f5_))
 refine start_ (n := 10) (S := fun w' => w'.cell? ⟨gb101, 0, none⟩ = some (.slice A0_0 l0_0.length c0_0) ∧ w'.cell? ⟨gb101, 1, none⟩ = some (.slice A0_1 l0_1.length c0_1) ∧ w'.cell? ⟨gb101, 2, none⟩ = some (.slice A0_2 l0_2.length c0_2) ∧ w'.cell? ⟨gb101, 3, none⟩ = some (.slice A0_3 l0_3.length c0_3) ∧ w'.cell? ⟨gb101, 4, none⟩ = some (.slice A0_4 l0_4.length c0_4) ∧ w'.cell? ⟨gb101, 5, none⟩ = some (.slice A0_5 l0_5.length c0_5) ∧ w'.cell? ⟨gb101, 6, none⟩ = some (.slice A0_6 l0_6.length c0_6)) (ds := []) #[o9, o9, o9, o9, o9, o9, o9, o9, o9, o9] (by kernel_rfl) rfl rfl ⟨(blk_cell BK101.out 0).trans rfl, (blk_cell BK101.out 1).trans rfl, (blk_cell BK101.out 2).trans rfl, (blk_cell BK101.out 3).trans rfl, (blk_cell BK101.out 4).trans rfl, (blk_cell BK101.out 5).trans rfl, (blk_cell BK101.out 6).trans rfl⟩ (fun hHeld => ?_); refine with_tabW dob_Static.tab2 dob_Static.bits2 (fun HT_ HW_ => ?_)
 generalize w12.drew = w13 at HO0_2 HO0_3 HO104 BK101 HB hHeld ⊢
 refine pureA 1 (some 11) ?_ #[o9, i9, o9, o9, o9, o9, o9, o9, o9, o9] rfl rfl (any_of HT_.out (by kernel_rfl)) ?_ ?_ ?_ ?_
 rotate_left
 ·intro w'; go_simp; with_reducible rfl
 rotate_left
 ·exact put9
 refine pureA 3 (some 13) ?_ #[o9, i9, o9, i9, o9, o9, o9, o9, o9, o9] rfl rfl (any_of HT_.out (by kernel_rfl)) ?_ ?_ ?_ ?_
 rotate_left
 ·intro w'; go_simp; with_reducible rfl
 rotate_left
 ·exact put9
 refine pureA 6 (some 16) ?_ #[o9, i9, o9, i9, o9, o9, i9, o9, o9, o9] rfl rfl (any_of HT_.out (by kernel_rfl)) ?_ ?_ ?_ ?_
 rotate_left
 ·intro w'; go_simp; with_reducible rfl
 rotate_left
 ·exact put9
 refine take_ (i := 0) (N := some 10) (v := ?_) (a' := ?_) #[i9, i9, o9, i9, o9, o9, i9, o9, o9, o9] rfl rfl (take_ofW HT_.out HW_.out (by kernel_rfl)) (fun _ _ _ h => h) (Or.inl ⟨by rfl, ?_⟩) hHeld ?_ ?_
 rotate_left
 ·rintro w' ⟨s0, s1, s2, s3, s4, s5, s6⟩
  go_simp
  with_reducible rfl
 rotate_left
 ·exact put9
 refine take_ (i := 2) (N := some 12) (v := ?_) (a' := ?_) #[i9, i9, i9, i9, o9, o9, i9, o9, o9, o9] rfl rfl (take_ofW HT_.out HW_.out (by kernel_rfl)) (fun _ _ _ h => h) (Or.inl ⟨by rfl, ?_⟩) hHeld ?_ ?_
 rotate_left
 ·rintro w' ⟨s0, s1, s2, s3, s4, s5, s6⟩
  go_simp
  with_reducible rfl
 rotate_left
 ·exact put9
 refine take_ (i := 7) (N := some 17) (v := ?_) (a' := ?_) #[i9, i9, i9, i9, o9, o9, i9, i9, o9, o9] rfl rfl (take_ofW HT_.out HW_.out (by kernel_rfl)) (fun _ _ _ h => h) (Or.inl ⟨by rfl, ?_⟩) hHeld ?_ ?_
 rotate_left
 ·rintro w' ⟨s0, s1, s2, s3, s4, s5, s6⟩
  go_simp
  with_reducible rfl
 rotate_left
 ·exact put9
 refine one_ (i := 4) (N := some 14) #[i9, i9, i9, i9, i9, o9, i9, i9, o9, o9] rfl rfl (one_of HT_.out (by kernel_rfl)) (by decide) (fun K hK => ?_)
 refine goes9 Try.func58 (by kernel_rfl) rfl #[.slice A0_4 l0_4.length c0_4, .slice Ao14 t102.length co14] (by rfl) rfl rfl ?_
 with_reducible refine (rel_Or.calls _ _ l0_4 _ _ t102 t105 _ ?side1 ?side2 ?side3 ?side4 A3.out).mono ?_
 (case side1 => exact cp9 HR0_4.out HB.out)
 (case side2 => exact HC0_4.out)
 (case side3 => exact lp9 (Kd.R_reads' HO104.out).2.2)
 (case side4 => exact (Kd.R_reads' HO104.out).2.1)
 rintro e w15 ⟨v106, rfl, ho0, hb⟩
 refine ⟨_, rfl, ?_⟩
 have n0_ := a9_ (Kd.V_elder' (by (with_reducible repeat (first | apply Kd.V_alloc | apply Kd.V_drewN | apply Kd.V_drew)); exact HO0_2.out) (Kd.R_base ho0) hb)
 have n1_ := a9_ (Kd.V_elder' (by (with_reducible repeat (first | apply Kd.V_alloc | apply Kd.V_drewN | apply Kd.V_drew)); exact HO0_3.out) (Kd.R_base ho0) hb)
 have n2_ := a9_ (Kd.R_elder' (rp9 HO104.out) (Kd.R_base ho0) hb)
 have n3_ := a9_ (Kd.R_lower (Kd.R_new' (Kd.R_newM (M := fun k_ => (w.heap.size ≤ k_)) ho0 (below_size (bp9 HB.out)) (fun k_ h_ => h_)) (Kd.R_lt (rp9 HO104.out))) (below_size (bp9 HB.out)))
 have n4_ := a9_ (blk_below (kp9 BK101.out) hb)
 have n5_ := a9_ (below_step (bp9 HB.out) hb)
 clear HO0_2 HO0_3 HO104 BK101 HB
 revert n0_ n1_ n2_ n3_ n4_ n5_; intro HO0_2 HO0_3 HO104 HO107 BK101 HB
 (try clear hb)
 (try clear ho0)
 obtain ⟨Ao16, co16, eo16⟩ := Kd.R_slice HO107.out
 (first | subst eo16 | (injection eo16 with f1_ f2_ f3_; have f4_ := f1_.symm; have f5_ := f3_.symm; clear f1_ f2_ f3_; subst f4_; subst f5_))
 refine hK.out _ _ ⟨(blk_cell BK101.out 0).trans rfl, (blk_cell BK101.out 1).trans rfl, (blk_cell BK101.out 2).trans rfl, (blk_cell BK101.out 3).trans rfl, (blk_cell BK101.out 4).trans rfl, (blk_cell BK101.out 5).trans rfl, (blk_cell BK101.out 6).trans rfl⟩ (fun hHeld => ?_)
 clear hK K
 refine norm_ (a' := ?_) ?_ ?_
 rotate_left
 ·show Act.put _ (some 14) _ = _
  exact put9
 refine one_ (i := 5) (N := some 15) #[i9, i9, i9, i9, i9, i9, i9, i9, o9, o9] rfl rfl (one_of HT_.out (by kernel_rfl)) (by decide) (fun K hK => ?_)
 refine goes9 Try.func133 (by kernel_rfl) rfl #[.agg #[.slice A0_0 l0_0.length c0_0, .slice A0_1 l0_1.length c0_1, .slice A0_2 l0_2.length c0_2, .slice A0_3 l0_3.length c0_3, .slice A0_4 l0_4.length c0_4, .slice A0_5 l0_5.length c0_5, .slice A0_6 l0_6.length c0_6], .slice Ao16 t105.length co16, .int .i64 6] (by rfl) rfl rfl ?_
 with_reducible refine (dob_to.calls k _ _ l0_0 _ _ l0_1 _ _ l0_2 _ _ l0_3 _ _ l0_4 _ _ l0_5 _ _ l0_6 _ _ t105 6 t108 _ ?side1 ?side2 ?side3 ?side4 ?side5 ?side6 ?side7 ?side8 ?side9 ?side10 ?side11 ?side12 ?side13 ?side14 ?side15 ?side16 A4.out).mono ?_
 (case side1 => exact cp9 HR0_0.out HB.out)
 (case side2 => exact HC0_0.out)
 (case side3 => exact cp9 HR0_1.out HB.out)
 (case side4 => exact HC0_1.out)
 (case side5 => exact lp9 (Kd.V_reads' HO0_2.out).2.2)
 (case side6 => exact (Kd.V_reads' HO0_2.out).2.1)
 (case side7 => exact lp9 (Kd.V_reads' HO0_3.out).2.2)
 (case side8 => exact (Kd.V_reads' HO0_3.out).2.1)
 (case side9 => exact cp9 HR0_4.out HB.out)
 (case side10 => exact HC0_4.out)
 (case side11 => exact cp9 HR0_5.out HB.out)
 (case side12 => exact HC0_5.out)
 (case side13 => exact cp9 HR0_6.out HB.out)
 (case side14 => exact HC0_6.out)
 (case side15 => exact lp9 (Kd.R_reads' HO107.out).2.2)
 (case side16 => exact (Kd.R_reads' HO107.out).2.1)
 rintro e w17 ⟨v109, rfl, ho0, hb⟩
 refine ⟨_, rfl, ?_⟩
 have n0_ := a9_ (Kd.V_elder' (by (with_reducible repeat (first | apply Kd.V_alloc | apply Kd.V_drewN | apply Kd.V_drew)); exact HO0_2.out) (Kd.R_base ho0) hb)
 have n1_ := a9_ (Kd.V_elder' (by (with_reducible repeat (first | apply Kd.V_alloc | apply Kd.V_drewN | apply Kd.V_drew)); exact HO0_3.out) (Kd.R_base ho0) hb)
 have n2_ := a9_ (Kd.R_elder' (rp9 HO104.out) (Kd.R_base ho0) hb)
 have n3_ := a9_ (Kd.R_elder' (rp9 HO107.out) (Kd.R_base ho0) hb)
 have n4_ := a9_ (Kd.R_lower (Kd.R_new' (Kd.R_new' (Kd.R_newM (M := fun k_ => (w.heap.size ≤ k_)) ho0 (below_size (bp9 HB.out)) (fun k_ h_ => h_)) (Kd.R_lt (rp9 HO104.out))) (Kd.R_lt (rp9 HO107.out))) (below_size (bp9 HB.out)))
 have n5_ := a9_ (blk_below (kp9 BK101.out) hb)
 have n6_ := a9_ (below_step (bp9 HB.out) hb)
 clear HO0_2 HO0_3 HO104 HO107 BK101 HB
 revert n0_ n1_ n2_ n3_ n4_ n5_ n6_; intro HO0_2 HO0_3 HO104 HO107 HO110 BK101 HB
 (try clear hb)
 (try clear ho0)
 obtain ⟨Ao18, co18, eo18⟩ := Kd.R_slice HO110.out
 (first | subst eo18 | (injection eo18 with f1_ f2_ f3_; have f4_ := f1_.symm; have f5_ := f3_.symm; clear f1_ f2_ f3_; subst f4_; subst f5_))
 refine hK.out _ _ ⟨(blk_cell BK101.out 0).trans rfl, (blk_cell BK101.out 1).trans rfl, (blk_cell BK101.out 2).trans rfl, (blk_cell BK101.out 3).trans rfl, (blk_cell BK101.out 4).trans rfl, (blk_cell BK101.out 5).trans rfl, (blk_cell BK101.out 6).trans rfl⟩ (fun hHeld => ?_)
 clear hK K
 refine norm_ (a' := ?_) ?_ ?_
 rotate_left
 ·show Act.put _ (some 15) _ = _
  exact put9
 refine one_ (i := 8) (N := some 18) #[i9, i9, i9, i9, i9, i9, i9, i9, i9, o9] rfl rfl (one_of HT_.out (by kernel_rfl)) (by decide) (fun K hK => ?_)
 refine goes9 Try.func62 (by kernel_rfl) rfl #[.slice Ao18 t108.length co18, .slice A0_1 l0_1.length c0_1] (by rfl) rfl rfl ?_
 with_reducible refine (rel_Seq.calls _ _ t108 _ _ l0_1 t111 _ ?side1 ?side2 ?side3 ?side4 A5.out).mono ?_
 (case side1 => exact lp9 (Kd.R_reads' HO110.out).2.2)
 (case side2 => exact (Kd.R_reads' HO110.out).2.1)
 (case side3 => exact cp9 HR0_1.out HB.out)
 (case side4 => exact HC0_1.out)
 rintro e w19 ⟨v112, rfl, ho0, hb⟩
 refine ⟨_, rfl, ?_⟩
 have n0_ := a9_ (Kd.V_elder' (by (with_reducible repeat (first | apply Kd.V_alloc | apply Kd.V_drewN | apply Kd.V_drew)); exact HO0_2.out) (Kd.R_base ho0) hb)
 have n1_ := a9_ (Kd.V_elder' (by (with_reducible repeat (first | apply Kd.V_alloc | apply Kd.V_drewN | apply Kd.V_drew)); exact HO0_3.out) (Kd.R_base ho0) hb)
 have n2_ := a9_ (Kd.R_elder' (rp9 HO104.out) (Kd.R_base ho0) hb)
 have n3_ := a9_ (Kd.R_elder' (rp9 HO107.out) (Kd.R_base ho0) hb)
 have n4_ := a9_ (Kd.R_elder' (rp9 HO110.out) (Kd.R_base ho0) hb)
 have n5_ := a9_ (Kd.R_lower (Kd.R_new' (Kd.R_new' (Kd.R_new' (Kd.R_newM (M := fun k_ => (w.heap.size ≤ k_)) ho0 (below_size (bp9 HB.out)) (fun k_ h_ => h_)) (Kd.R_lt (rp9 HO104.out))) (Kd.R_lt (rp9 HO107.out))) (Kd.R_lt (rp9 HO110.out))) (below_size (bp9 HB.out)))
 have n6_ := a9_ (blk_below (kp9 BK101.out) hb)
 have n7_ := a9_ (below_step (bp9 HB.out) hb)
 clear HO0_2 HO0_3 HO104 HO107 HO110 BK101 HB
 revert n0_ n1_ n2_ n3_ n4_ n5_ n6_ n7_; intro HO0_2 HO0_3 HO104 HO107 HO110 HO113 BK101 HB
 (try clear hb)
 (try clear ho0)
 refine hK.out _ _ ⟨(blk_cell BK101.out 0).trans rfl, (blk_cell BK101.out 1).trans rfl, (blk_cell BK101.out 2).trans rfl, (blk_cell BK101.out 3).trans rfl, (blk_cell BK101.out 4).trans rfl, (blk_cell BK101.out 5).trans rfl, (blk_cell BK101.out 6).trans rfl⟩ (fun hHeld => ?_)
 clear hK K
 refine norm_ (a' := ?_) ?_ ?_
 rotate_left
 ·show Act.put _ (some 18) _ = _
  exact put9
 refine pureA 9 (some 4) ?_ #[i9, i9, i9, i9, i9, i9, i9, i9, i9, i9] rfl rfl (any_of HT_.out (by kernel_rfl)) ?_ ?_ ?_ ?_
 rotate_left
 ·intro w'; go_simp; with_reducible rfl
 rotate_left
 ·exact put9
 refine done_ (done_of HT_.out (by kernel_rfl)) ?_
 try go_wp2
 have n0_ := a9_ (Kd.V_drew HO0_2.out)
 have n1_ := a9_ (Kd.V_drew HO0_3.out)
 have n2_ := a9_ (Kd.R_drew HO104.out)
 have n3_ := a9_ (Kd.R_drew HO107.out)
 have n4_ := a9_ (Kd.R_drew HO110.out)
 have n5_ := a9_ (Kd.R_drew HO113.out)
 have n6_ := a9_ (blk_drew BK101.out)
 have n7_ := a9_ (below_drew1 HB.out)
 clear HO0_2 HO0_3 HO104 HO107 HO110 HO113 BK101 HB
 revert n0_ n1_ n2_ n3_ n4_ n5_ n6_ n7_; intro HO0_2 HO0_3 HO104 HO107 HO110 HO113 BK101 HB
 refine start_ (n := 18) (S := fun w' => w'.cell? ⟨gb101, 0, none⟩ = some (.slice A0_0 l0_0.length c0_0) ∧ w'.cell? ⟨gb101, 1, none⟩ = some (.slice A0_1 l0_1.length c0_1) ∧ w'.cell? ⟨gb101, 2, none⟩ = some (.slice A0_2 l0_2.length c0_2) ∧ w'.cell? ⟨gb101, 3, none⟩ = some (.slice A0_3 l0_3.length c0_3) ∧ w'.cell? ⟨gb101, 4, none⟩ = some (.slice A0_4 l0_4.length c0_4) ∧ w'.cell? ⟨gb101, 5, none⟩ = some (.slice A0_5 l0_5.length c0_5) ∧ w'.cell? ⟨gb101, 6, none⟩ = some (.slice A0_6 l0_6.length c0_6)) (ds := []) #[o9, o9, o9, o9, o9, o9, o9, o9, o9, o9, o9, o9, o9, o9, o9, o9, o9, o9] (by kernel_rfl) rfl rfl ⟨(blk_cell BK101.out 0).trans rfl, (blk_cell BK101.out 1).trans rfl, (blk_cell BK101.out 2).trans rfl, (blk_cell BK101.out 3).trans rfl, (blk_cell BK101.out 4).trans rfl, (blk_cell BK101.out 5).trans rfl, (blk_cell BK101.out 6).trans rfl⟩ (fun hHeld => ?_); refine with_tabW dob_Static.tab3 dob_Static.bits3 (fun HT_ HW_ => ?_)
 generalize w19.drew = w20 at HO0_2 HO0_3 HO104 HO107 HO110 HO113 BK101 HB hHeld ⊢
 refine pureA 1 (some 20) ?_ #[o9, i9, o9, o9, o9, o9, o9, o9, o9, o9, o9, o9, o9, o9, o9, o9, o9, o9] rfl rfl (any_of HT_.out (by kernel_rfl)) ?_ ?_ ?_ ?_
 rotate_left
 ·intro w'; go_simp; with_reducible rfl
 rotate_left
 ·exact put9
 refine pureA 3 (some 22) ?_ #[o9, i9, o9, i9, o9, o9, o9, o9, o9, o9, o9, o9, o9, o9, o9, o9, o9, o9] rfl rfl (any_of HT_.out (by kernel_rfl)) ?_ ?_ ?_ ?_
 rotate_left
 ·intro w'; go_simp; with_reducible rfl
 rotate_left
 ·exact put9
 refine pureA 6 (some 25) ?_ #[o9, i9, o9, i9, o9, o9, i9, o9, o9, o9, o9, o9, o9, o9, o9, o9, o9, o9] rfl rfl (any_of HT_.out (by kernel_rfl)) ?_ ?_ ?_ ?_
 rotate_left
 ·intro w'; go_simp; with_reducible rfl
 rotate_left
 ·exact put9
 refine pureA 10 (some 29) ?_ #[o9, i9, o9, i9, o9, o9, i9, o9, o9, o9, i9, o9, o9, o9, o9, o9, o9, o9] rfl rfl (any_of HT_.out (by kernel_rfl)) ?_ ?_ ?_ ?_
 rotate_left
 ·intro w'; go_simp; with_reducible rfl
 rotate_left
 ·exact put9
 refine pureA 13 (some 32) ?_ #[o9, i9, o9, i9, o9, o9, i9, o9, o9, o9, i9, o9, o9, i9, o9, o9, o9, o9] rfl rfl (any_of HT_.out (by kernel_rfl)) ?_ ?_ ?_ ?_
 rotate_left
 ·intro w'; go_simp; with_reducible rfl
 rotate_left
 ·exact put9
 refine take_ (i := 0) (N := some 19) (v := ?_) (a' := ?_) #[i9, i9, o9, i9, o9, o9, i9, o9, o9, o9, i9, o9, o9, i9, o9, o9, o9, o9] rfl rfl (take_ofW HT_.out HW_.out (by kernel_rfl)) (fun _ _ _ h => h) (Or.inl ⟨by rfl, ?_⟩) hHeld ?_ ?_
 rotate_left
 ·rintro w' ⟨s0, s1, s2, s3, s4, s5, s6⟩
  go_simp
  with_reducible rfl
 rotate_left
 ·exact put9
 refine take_ (i := 2) (N := some 21) (v := ?_) (a' := ?_) #[i9, i9, i9, i9, o9, o9, i9, o9, o9, o9, i9, o9, o9, i9, o9, o9, o9, o9] rfl rfl (take_ofW HT_.out HW_.out (by kernel_rfl)) (fun _ _ _ h => h) (Or.inl ⟨by rfl, ?_⟩) hHeld ?_ ?_
 rotate_left
 ·rintro w' ⟨s0, s1, s2, s3, s4, s5, s6⟩
  go_simp
  with_reducible rfl
 rotate_left
 ·exact put9
 refine take_ (i := 4) (N := some 23) (v := ?_) (a' := ?_) #[i9, i9, i9, i9, i9, o9, i9, o9, o9, o9, i9, o9, o9, i9, o9, o9, o9, o9] rfl rfl (take_ofW HT_.out HW_.out (by kernel_rfl)) (fun _ _ _ h => h) (Or.inl ⟨by rfl, ?_⟩) hHeld ?_ ?_
 rotate_left
 ·rintro w' ⟨s0, s1, s2, s3, s4, s5, s6⟩
  go_simp
  with_reducible rfl
 rotate_left
 ·exact put9
 refine take_ (i := 5) (N := some 24) (v := ?_) (a' := ?_) #[i9, i9, i9, i9, i9, i9, i9, o9, o9, o9, i9, o9, o9, i9, o9, o9, o9, o9] rfl rfl (take_ofW HT_.out HW_.out (by kernel_rfl)) (fun _ _ _ h => h) (Or.inl ⟨by rfl, ?_⟩) hHeld ?_ ?_
 rotate_left
 ·rintro w' ⟨s0, s1, s2, s3, s4, s5, s6⟩
  go_simp
  with_reducible rfl
 rotate_left
 ·exact put9
 refine take_ (i := 7) (N := some 26) (v := ?_) (a' := ?_) #[i9, i9, i9, i9, i9, i9, i9, i9, o9, o9, i9, o9, o9, i9, o9, o9, o9, o9] rfl rfl (take_ofW HT_.out HW_.out (by kernel_rfl)) (fun _ _ _ h => h) (Or.inl ⟨by rfl, ?_⟩) hHeld ?_ ?_
 rotate_left
 ·rintro w' ⟨s0, s1, s2, s3, s4, s5, s6⟩
  go_simp
  with_reducible rfl
 rotate_left
 ·exact put9
 refine take_ (i := 9) (N := some 28) (v := ?_) (a' := ?_) #[i9, i9, i9, i9, i9, i9, i9, i9, o9, i9, i9, o9, o9, i9, o9, o9, o9, o9] rfl rfl (take_ofW HT_.out HW_.out (by kernel_rfl)) (fun _ _ _ h => h) (Or.inl ⟨by rfl, ?_⟩) hHeld ?_ ?_
 rotate_left
 ·rintro w' ⟨s0, s1, s2, s3, s4, s5, s6⟩
  go_simp
  with_reducible rfl
 rotate_left
 ·exact put9
 refine take_ (i := 12) (N := some 31) (v := ?_) (a' := ?_) #[i9, i9, i9, i9, i9, i9, i9, i9, o9, i9, i9, o9, i9, i9, o9, o9, o9, o9] rfl rfl (take_ofW HT_.out HW_.out (by kernel_rfl)) (fun _ _ _ h => h) (Or.inl ⟨by rfl, ?_⟩) hHeld ?_ ?_
 rotate_left
 ·rintro w' ⟨s0, s1, s2, s3, s4, s5, s6⟩
  go_simp
  with_reducible rfl
 rotate_left
 ·exact put9
 refine one_ (i := 8) (N := some 27) #[i9, i9, i9, i9, i9, i9, i9, i9, i9, i9, i9, o9, i9, i9, o9, o9, o9, o9] rfl rfl (one_of HT_.out (by kernel_rfl)) (by decide) (fun K hK => ?_)
 refine goes9 Try.func133 (by kernel_rfl) rfl #[.agg #[.slice A0_0 l0_0.length c0_0, .slice A0_1 l0_1.length c0_1, .slice A0_2 l0_2.length c0_2, .slice A0_3 l0_3.length c0_3, .slice A0_4 l0_4.length c0_4, .slice A0_5 l0_5.length c0_5, .slice A0_6 l0_6.length c0_6], .slice A0_4 l0_4.length c0_4, .int .i64 2] (by rfl) rfl rfl ?_
 with_reducible refine (dob_to.calls k _ _ l0_0 _ _ l0_1 _ _ l0_2 _ _ l0_3 _ _ l0_4 _ _ l0_5 _ _ l0_6 _ _ l0_4 2 t114 _ ?side1 ?side2 ?side3 ?side4 ?side5 ?side6 ?side7 ?side8 ?side9 ?side10 ?side11 ?side12 ?side13 ?side14 ?side15 ?side16 A6.out).mono ?_
 (case side1 => exact cp9 HR0_0.out HB.out)
 (case side2 => exact HC0_0.out)
 (case side3 => exact cp9 HR0_1.out HB.out)
 (case side4 => exact HC0_1.out)
 (case side5 => exact lp9 (Kd.V_reads' HO0_2.out).2.2)
 (case side6 => exact (Kd.V_reads' HO0_2.out).2.1)
 (case side7 => exact lp9 (Kd.V_reads' HO0_3.out).2.2)
 (case side8 => exact (Kd.V_reads' HO0_3.out).2.1)
 (case side9 => exact cp9 HR0_4.out HB.out)
 (case side10 => exact HC0_4.out)
 (case side11 => exact cp9 HR0_5.out HB.out)
 (case side12 => exact HC0_5.out)
 (case side13 => exact cp9 HR0_6.out HB.out)
 (case side14 => exact HC0_6.out)
 (case side15 => exact cp9 HR0_4.out HB.out)
 (case side16 => exact HC0_4.out)
 rintro e w21 ⟨v115, rfl, ho0, hb⟩
 refine ⟨_, rfl, ?_⟩
 have n0_ := a9_ (Kd.V_elder' (by (with_reducible repeat (first | apply Kd.V_alloc | apply Kd.V_drewN | apply Kd.V_drew)); exact HO0_2.out) (Kd.R_base ho0) hb)
 have n1_ := a9_ (Kd.V_elder' (by (with_reducible repeat (first | apply Kd.V_alloc | apply Kd.V_drewN | apply Kd.V_drew)); exact HO0_3.out) (Kd.R_base ho0) hb)
 have n2_ := a9_ (Kd.R_elder' (rp9 HO104.out) (Kd.R_base ho0) hb)
 have n3_ := a9_ (Kd.R_elder' (rp9 HO107.out) (Kd.R_base ho0) hb)
 have n4_ := a9_ (Kd.R_elder' (rp9 HO110.out) (Kd.R_base ho0) hb)
 have n5_ := a9_ (Kd.R_elder' (rp9 HO113.out) (Kd.R_base ho0) hb)
 have n6_ := a9_ (Kd.R_lower (Kd.R_new' (Kd.R_new' (Kd.R_new' (Kd.R_new' (Kd.R_newM (M := fun k_ => (w.heap.size ≤ k_)) ho0 (below_size (bp9 HB.out)) (fun k_ h_ => h_)) (Kd.R_lt (rp9 HO104.out))) (Kd.R_lt (rp9 HO107.out))) (Kd.R_lt (rp9 HO110.out))) (Kd.R_lt (rp9 HO113.out))) (below_size (bp9 HB.out)))
 have n7_ := a9_ (blk_below (kp9 BK101.out) hb)
 have n8_ := a9_ (below_step (bp9 HB.out) hb)
 clear HO0_2 HO0_3 HO104 HO107 HO110 HO113 BK101 HB
 revert n0_ n1_ n2_ n3_ n4_ n5_ n6_ n7_ n8_; intro HO0_2 HO0_3 HO104 HO107 HO110 HO113 HO116 BK101 HB
 (try clear hb)
 (try clear ho0)
 obtain ⟨Ao22, co22, eo22⟩ := Kd.R_slice HO113.out
 (first | subst eo22 | (injection eo22 with f1_ f2_ f3_; have f4_ := f1_.symm; have f5_ := f3_.symm; clear f1_ f2_ f3_; subst f4_; subst f5_))
 refine hK.out _ _ ⟨(blk_cell BK101.out 0).trans rfl, (blk_cell BK101.out 1).trans rfl, (blk_cell BK101.out 2).trans rfl, (blk_cell BK101.out 3).trans rfl, (blk_cell BK101.out 4).trans rfl, (blk_cell BK101.out 5).trans rfl, (blk_cell BK101.out 6).trans rfl⟩ (fun hHeld => ?_)
 clear hK K
 refine norm_ (a' := ?_) ?_ ?_
 rotate_left
 ·show Act.put _ (some 27) _ = _
  exact put9
 refine one_ (i := 11) (N := some 30) #[i9, i9, i9, i9, i9, i9, i9, i9, i9, i9, i9, i9, i9, i9, o9, o9, o9, o9] rfl rfl (one_of HT_.out (by kernel_rfl)) (by decide) (fun K hK => ?_)
 refine goes9 Try.func133 (by kernel_rfl) rfl #[.agg #[.slice A0_0 l0_0.length c0_0, .slice A0_1 l0_1.length c0_1, .slice A0_2 l0_2.length c0_2, .slice A0_3 l0_3.length c0_3, .slice A0_4 l0_4.length c0_4, .slice A0_5 l0_5.length c0_5, .slice A0_6 l0_6.length c0_6], .slice Ao22 t111.length co22, .int .i64 1] (by rfl) rfl rfl ?_
 with_reducible refine (dob_to.calls k _ _ l0_0 _ _ l0_1 _ _ l0_2 _ _ l0_3 _ _ l0_4 _ _ l0_5 _ _ l0_6 _ _ t111 1 t117 _ ?side1 ?side2 ?side3 ?side4 ?side5 ?side6 ?side7 ?side8 ?side9 ?side10 ?side11 ?side12 ?side13 ?side14 ?side15 ?side16 A7.out).mono ?_
 (case side1 => exact cp9 HR0_0.out HB.out)
 (case side2 => exact HC0_0.out)
 (case side3 => exact cp9 HR0_1.out HB.out)
 (case side4 => exact HC0_1.out)
 (case side5 => exact lp9 (Kd.V_reads' HO0_2.out).2.2)
 (case side6 => exact (Kd.V_reads' HO0_2.out).2.1)
 (case side7 => exact lp9 (Kd.V_reads' HO0_3.out).2.2)
 (case side8 => exact (Kd.V_reads' HO0_3.out).2.1)
 (case side9 => exact cp9 HR0_4.out HB.out)
 (case side10 => exact HC0_4.out)
 (case side11 => exact cp9 HR0_5.out HB.out)
 (case side12 => exact HC0_5.out)
 (case side13 => exact cp9 HR0_6.out HB.out)
 (case side14 => exact HC0_6.out)
 (case side15 => exact lp9 (Kd.R_reads' HO113.out).2.2)
 (case side16 => exact (Kd.R_reads' HO113.out).2.1)
 rintro e w23 ⟨v118, rfl, ho0, hb⟩
 refine ⟨_, rfl, ?_⟩
 have n0_ := a9_ (Kd.V_elder' (by (with_reducible repeat (first | apply Kd.V_alloc | apply Kd.V_drewN | apply Kd.V_drew)); exact HO0_2.out) (Kd.R_base ho0) hb)
 have n1_ := a9_ (Kd.V_elder' (by (with_reducible repeat (first | apply Kd.V_alloc | apply Kd.V_drewN | apply Kd.V_drew)); exact HO0_3.out) (Kd.R_base ho0) hb)
 have n2_ := a9_ (Kd.R_elder' (rp9 HO104.out) (Kd.R_base ho0) hb)
 have n3_ := a9_ (Kd.R_elder' (rp9 HO107.out) (Kd.R_base ho0) hb)
 have n4_ := a9_ (Kd.R_elder' (rp9 HO110.out) (Kd.R_base ho0) hb)
 have n5_ := a9_ (Kd.R_elder' (rp9 HO113.out) (Kd.R_base ho0) hb)
 have n6_ := a9_ (Kd.R_elder' (rp9 HO116.out) (Kd.R_base ho0) hb)
 have n7_ := a9_ (Kd.R_lower (Kd.R_new' (Kd.R_new' (Kd.R_new' (Kd.R_new' (Kd.R_new' (Kd.R_newM (M := fun k_ => (w.heap.size ≤ k_)) ho0 (below_size (bp9 HB.out)) (fun k_ h_ => h_)) (Kd.R_lt (rp9 HO104.out))) (Kd.R_lt (rp9 HO107.out))) (Kd.R_lt (rp9 HO110.out))) (Kd.R_lt (rp9 HO113.out))) (Kd.R_lt (rp9 HO116.out))) (below_size (bp9 HB.out)))
 have n8_ := a9_ (blk_below (kp9 BK101.out) hb)
 have n9_ := a9_ (below_step (bp9 HB.out) hb)
 clear HO0_2 HO0_3 HO104 HO107 HO110 HO113 HO116 BK101 HB
 revert n0_ n1_ n2_ n3_ n4_ n5_ n6_ n7_ n8_ n9_; intro HO0_2 HO0_3 HO104 HO107 HO110 HO113 HO116 HO119 BK101 HB
 (try clear hb)
 (try clear ho0)
 refine hK.out _ _ ⟨(blk_cell BK101.out 0).trans rfl, (blk_cell BK101.out 1).trans rfl, (blk_cell BK101.out 2).trans rfl, (blk_cell BK101.out 3).trans rfl, (blk_cell BK101.out 4).trans rfl, (blk_cell BK101.out 5).trans rfl, (blk_cell BK101.out 6).trans rfl⟩ (fun hHeld => ?_)
 clear hK K
 refine norm_ (a' := ?_) ?_ ?_
 rotate_left
 ·show Act.put _ (some 30) _ = _
  exact put9
 refine one_ (i := 14) (N := some 33) #[i9, i9, i9, i9, i9, i9, i9, i9, i9, i9, i9, i9, i9, i9, i9, o9, o9, o9] rfl rfl (one_of HT_.out (by kernel_rfl)) (by decide) (fun K hK => ?_)
 refine goes9 Try.func133 (by kernel_rfl) rfl #[.agg #[.slice A0_0 l0_0.length c0_0, .slice A0_1 l0_1.length c0_1, .slice A0_2 l0_2.length c0_2, .slice A0_3 l0_3.length c0_3, .slice A0_4 l0_4.length c0_4, .slice A0_5 l0_5.length c0_5, .slice A0_6 l0_6.length c0_6], .slice Ao14 t102.length co14, .int .i64 2] (by rfl) rfl rfl ?_
 with_reducible refine (dob_to.calls k _ _ l0_0 _ _ l0_1 _ _ l0_2 _ _ l0_3 _ _ l0_4 _ _ l0_5 _ _ l0_6 _ _ t102 2 t120 _ ?side1 ?side2 ?side3 ?side4 ?side5 ?side6 ?side7 ?side8 ?side9 ?side10 ?side11 ?side12 ?side13 ?side14 ?side15 ?side16 A8.out).mono ?_
 (case side1 => exact cp9 HR0_0.out HB.out)
 (case side2 => exact HC0_0.out)
 (case side3 => exact cp9 HR0_1.out HB.out)
 (case side4 => exact HC0_1.out)
 (case side5 => exact lp9 (Kd.V_reads' HO0_2.out).2.2)
 (case side6 => exact (Kd.V_reads' HO0_2.out).2.1)
 (case side7 => exact lp9 (Kd.V_reads' HO0_3.out).2.2)
 (case side8 => exact (Kd.V_reads' HO0_3.out).2.1)
 (case side9 => exact cp9 HR0_4.out HB.out)
 (case side10 => exact HC0_4.out)
 (case side11 => exact cp9 HR0_5.out HB.out)
 (case side12 => exact HC0_5.out)
 (case side13 => exact cp9 HR0_6.out HB.out)
 (case side14 => exact HC0_6.out)
 (case side15 => exact lp9 (Kd.R_reads' HO104.out).2.2)
 (case side16 => exact (Kd.R_reads' HO104.out).2.1)
 rintro e w24 ⟨v121, rfl, ho0, hb⟩
 refine ⟨_, rfl, ?_⟩
 have n0_ := a9_ (Kd.V_elder' (by (with_reducible repeat (first | apply Kd.V_alloc | apply Kd.V_drewN | apply Kd.V_drew)); exact HO0_2.out) (Kd.R_base ho0) hb)
 have n1_ := a9_ (Kd.V_elder' (by (with_reducible repeat (first | apply Kd.V_alloc | apply Kd.V_drewN | apply Kd.V_drew)); exact HO0_3.out) (Kd.R_base ho0) hb)
 have n2_ := a9_ (Kd.R_elder' (rp9 HO104.out) (Kd.R_base ho0) hb)
 have n3_ := a9_ (Kd.R_elder' (rp9 HO107.out) (Kd.R_base ho0) hb)
 have n4_ := a9_ (Kd.R_elder' (rp9 HO110.out) (Kd.R_base ho0) hb)
 have n5_ := a9_ (Kd.R_elder' (rp9 HO113.out) (Kd.R_base ho0) hb)
 have n6_ := a9_ (Kd.R_elder' (rp9 HO116.out) (Kd.R_base ho0) hb)
 have n7_ := a9_ (Kd.R_elder' (rp9 HO119.out) (Kd.R_base ho0) hb)
 have n8_ := a9_ (Kd.R_lower (Kd.R_new' (Kd.R_new' (Kd.R_new' (Kd.R_new' (Kd.R_new' (Kd.R_new' (Kd.R_newM (M := fun k_ => (w.heap.size ≤ k_)) ho0 (below_size (bp9 HB.out)) (fun k_ h_ => h_)) (Kd.R_lt (rp9 HO104.out))) (Kd.R_lt (rp9 HO107.out))) (Kd.R_lt (rp9 HO110.out))) (Kd.R_lt (rp9 HO113.out))) (Kd.R_lt (rp9 HO116.out))) (Kd.R_lt (rp9 HO119.out))) (below_size (bp9 HB.out)))
 have n9_ := a9_ (blk_below (kp9 BK101.out) hb)
 have n10_ := a9_ (below_step (bp9 HB.out) hb)
 clear HO0_2 HO0_3 HO104 HO107 HO110 HO113 HO116 HO119 BK101 HB
 revert n0_ n1_ n2_ n3_ n4_ n5_ n6_ n7_ n8_ n9_ n10_; intro HO0_2 HO0_3 HO104 HO107 HO110 HO113 HO116 HO119 HO122 BK101 HB
 (try clear hb)
 (try clear ho0)
 obtain ⟨Ao25, co25, eo25⟩ := Kd.R_slice HO116.out
 (first | subst eo25 | (injection eo25 with f1_ f2_ f3_; have f4_ := f1_.symm; have f5_ := f3_.symm; clear f1_ f2_ f3_; subst f4_; subst f5_))
 obtain ⟨Ao26, co26, eo26⟩ := Kd.R_slice HO119.out
 (first | subst eo26 | (injection eo26 with f1_ f2_ f3_; have f4_ := f1_.symm; have f5_ := f3_.symm; clear f1_ f2_ f3_; subst f4_; subst f5_))
 obtain ⟨Ao27, co27, eo27⟩ := Kd.R_slice HO122.out
 (first | subst eo27 | (injection eo27 with f1_ f2_ f3_; have f4_ := f1_.symm; have f5_ := f3_.symm; clear f1_ f2_ f3_; subst f4_; subst f5_))
 refine hK.out _ _ ⟨(blk_cell BK101.out 0).trans rfl, (blk_cell BK101.out 1).trans rfl, (blk_cell BK101.out 2).trans rfl, (blk_cell BK101.out 3).trans rfl, (blk_cell BK101.out 4).trans rfl, (blk_cell BK101.out 5).trans rfl, (blk_cell BK101.out 6).trans rfl⟩ (fun hHeld => ?_)
 clear hK K
 refine norm_ (a' := ?_) ?_ ?_
 rotate_left
 ·show Act.put _ (some 33) _ = _
  exact put9
 refine one_ (i := 15) (N := some 34) #[i9, i9, i9, i9, i9, i9, i9, i9, i9, i9, i9, i9, i9, i9, i9, i9, o9, o9] rfl rfl (one_of HT_.out (by kernel_rfl)) (by decide) (fun K hK => ?_)
 refine Kd.N_lit_step (Kd.slice 52 (Kd.int .u32)) _ 28 ?hg (N' := 34) ?hd (xs := ([l0_2, l0_3, t114, t117, t120] : List (List Int))) (inner := [.slice A0_2 l0_2.length c0_2, .slice A0_3 l0_3.length c0_3, .slice Ao25 t114.length co25, .slice Ao26 t117.length co26, .slice Ao27 t120.length co27]) (ok := (fun k_ => ((P0_2_ k_ ∨ P0_3_ k_) ∨ w.heap.size ≤ k_) ∧ some k_ ≠ (.slice Ao14 t102.length co14 : Value).ownBlock ∧ some k_ ≠ (.slice Ao16 t105.length co16 : Value).ownBlock ∧ some k_ ≠ (.slice Ao18 t108.length co18 : Value).ownBlock ∧ some k_ ≠ (.slice Ao22 t111.length co22 : Value).ownBlock ∧ k_ ≠ gb101)) (okp := (fun k_ => ((P0_2_ k_ ∨ P0_3_ k_) ∨ w.heap.size ≤ k_) ∧ some k_ ≠ (.slice Ao14 t102.length co14 : Value).ownBlock ∧ some k_ ≠ (.slice Ao16 t105.length co16 : Value).ownBlock ∧ some k_ ≠ (.slice Ao18 t108.length co18 : Value).ownBlock ∧ some k_ ≠ (.slice Ao22 t111.length co22 : Value).ownBlock ∧ k_ ≠ gb101)) ?hr ?hp (fun _ hk => hk) ((show ∀ k_, w24.heap.size ≤ k_ → (fun k_ => ((P0_2_ k_ ∨ P0_3_ k_) ∨ w.heap.size ≤ k_) ∧ some k_ ≠ (.slice Ao14 t102.length co14 : Value).ownBlock ∧ some k_ ≠ (.slice Ao16 t105.length co16 : Value).ownBlock ∧ some k_ ≠ (.slice Ao18 t108.length co18 : Value).ownBlock ∧ some k_ ≠ (.slice Ao22 t111.length co22 : Value).ownBlock ∧ k_ ≠ gb101) k_ from fun k_ hk => ⟨(.inr (Nat.le_trans (below_size (bp9 HB.out)) hk)), Kd.fresh' (Kd.R_lt (rp9 HO104.out)) k_ hk, Kd.fresh' (Kd.R_lt (rp9 HO107.out)) k_ hk, Kd.fresh' (Kd.R_lt (rp9 HO110.out)) k_ hk, Kd.fresh' (Kd.R_lt (rp9 HO113.out)) k_ hk, Kd.freshB (g := gb101) (o := .cells #[.slice A0_0 l0_0.length c0_0, .slice A0_1 l0_1.length c0_1, .slice A0_2 l0_2.length c0_2, .slice A0_3 l0_3.length c0_3, .slice A0_4 l0_4.length c0_4, .slice A0_5 l0_5.length c0_5, .slice A0_6 l0_6.length c0_6] 31 (0, 0)) (kp9 BK101.out) k_ hk⟩) _ (Nat.le_refl _)) (Below.refl _ _) (Nat.le_refl _) (by simp) ?_; (case hd => rfl); (case hg => rfl); (case hr => first | (go_simp; done) | (go_simp; rfl)); (case hp => exact (Reps.one (show Kd.FK (Kd.slice 52 (Kd.int .u32)) _ _ l0_2 [.slice A0_2 l0_2.length c0_2] from (Kd.FK_slice_mk (Kd.V_reads' (Kd.V_mono (ok' := (fun k_ => ((P0_2_ k_ ∨ P0_3_ k_) ∨ w.heap.size ≤ k_) ∧ some k_ ≠ (.slice Ao14 t102.length co14 : Value).ownBlock ∧ some k_ ≠ (.slice Ao16 t105.length co16 : Value).ownBlock ∧ some k_ ≠ (.slice Ao18 t108.length co18 : Value).ownBlock ∧ some k_ ≠ (.slice Ao22 t111.length co22 : Value).ownBlock ∧ k_ ≠ gb101)) (HO0_2.out) (fun k_ hk => ⟨hk.1.1.1.1.1.1.1.1, ⟨hk.1.1.1.1.1.1.2, ⟨hk.1.1.1.1.1.2, ⟨hk.1.1.1.1.2, ⟨hk.1.1.1.2, hk.1.1.1.1.1.1.1.2⟩⟩⟩⟩⟩))).2.1 (Kd.V_F (Kd.V_mono (ok' := (fun k_ => ((P0_2_ k_ ∨ P0_3_ k_) ∨ w.heap.size ≤ k_) ∧ some k_ ≠ (.slice Ao14 t102.length co14 : Value).ownBlock ∧ some k_ ≠ (.slice Ao16 t105.length co16 : Value).ownBlock ∧ some k_ ≠ (.slice Ao18 t108.length co18 : Value).ownBlock ∧ some k_ ≠ (.slice Ao22 t111.length co22 : Value).ownBlock ∧ k_ ≠ gb101)) (HO0_2.out) (fun k_ hk => ⟨hk.1.1.1.1.1.1.1.1, ⟨hk.1.1.1.1.1.1.2, ⟨hk.1.1.1.1.1.2, ⟨hk.1.1.1.1.2, ⟨hk.1.1.1.2, hk.1.1.1.1.1.1.1.2⟩⟩⟩⟩⟩))))) (Reps.one (show Kd.FK (Kd.slice 52 (Kd.int .u32)) _ _ l0_3 [.slice A0_3 l0_3.length c0_3] from (Kd.FK_slice_mk (Kd.V_reads' (Kd.V_mono (ok' := (fun k_ => ((P0_2_ k_ ∨ P0_3_ k_) ∨ w.heap.size ≤ k_) ∧ some k_ ≠ (.slice Ao14 t102.length co14 : Value).ownBlock ∧ some k_ ≠ (.slice Ao16 t105.length co16 : Value).ownBlock ∧ some k_ ≠ (.slice Ao18 t108.length co18 : Value).ownBlock ∧ some k_ ≠ (.slice Ao22 t111.length co22 : Value).ownBlock ∧ k_ ≠ gb101)) (HO0_3.out) (fun k_ hk => ⟨hk.1.1.1.1.1.1.1.1, ⟨hk.1.1.1.1.1.1.2, ⟨hk.1.1.1.1.1.2, ⟨hk.1.1.1.1.2, ⟨hk.1.1.1.2, hk.1.1.1.1.1.1.1.2⟩⟩⟩⟩⟩))).2.1 (Kd.V_F (Kd.V_mono (ok' := (fun k_ => ((P0_2_ k_ ∨ P0_3_ k_) ∨ w.heap.size ≤ k_) ∧ some k_ ≠ (.slice Ao14 t102.length co14 : Value).ownBlock ∧ some k_ ≠ (.slice Ao16 t105.length co16 : Value).ownBlock ∧ some k_ ≠ (.slice Ao18 t108.length co18 : Value).ownBlock ∧ some k_ ≠ (.slice Ao22 t111.length co22 : Value).ownBlock ∧ k_ ≠ gb101)) (HO0_3.out) (fun k_ hk => ⟨hk.1.1.1.1.1.1.1.1, ⟨hk.1.1.1.1.1.1.2, ⟨hk.1.1.1.1.1.2, ⟨hk.1.1.1.1.2, ⟨hk.1.1.1.2, hk.1.1.1.1.1.1.1.2⟩⟩⟩⟩⟩))))) (Reps.one (show Kd.FK (Kd.slice 52 (Kd.int .u32)) _ _ t114 [.slice Ao25 t114.length co25] from (Kd.FK_slice_mk (Kd.R_reads' (Kd.R_mono (ok' := (fun k_ => ((P0_2_ k_ ∨ P0_3_ k_) ∨ w.heap.size ≤ k_) ∧ some k_ ≠ (.slice Ao14 t102.length co14 : Value).ownBlock ∧ some k_ ≠ (.slice Ao16 t105.length co16 : Value).ownBlock ∧ some k_ ≠ (.slice Ao18 t108.length co18 : Value).ownBlock ∧ some k_ ≠ (.slice Ao22 t111.length co22 : Value).ownBlock ∧ k_ ≠ gb101)) (Kd.R_types (HO116.out) BK101.out (by decide)) (fun k_ hk => ⟨(.inr (hk.1.1.1.1.1.1.1.1)), ⟨hk.1.1.1.1.1.1.2, ⟨hk.1.1.1.1.1.2, ⟨hk.1.1.1.1.2, ⟨hk.1.1.1.2, hk.2⟩⟩⟩⟩⟩))).2.1 (Kd.R_F (Kd.R_mono (ok' := (fun k_ => ((P0_2_ k_ ∨ P0_3_ k_) ∨ w.heap.size ≤ k_) ∧ some k_ ≠ (.slice Ao14 t102.length co14 : Value).ownBlock ∧ some k_ ≠ (.slice Ao16 t105.length co16 : Value).ownBlock ∧ some k_ ≠ (.slice Ao18 t108.length co18 : Value).ownBlock ∧ some k_ ≠ (.slice Ao22 t111.length co22 : Value).ownBlock ∧ k_ ≠ gb101)) (Kd.R_types (HO116.out) BK101.out (by decide)) (fun k_ hk => ⟨(.inr (hk.1.1.1.1.1.1.1.1)), ⟨hk.1.1.1.1.1.1.2, ⟨hk.1.1.1.1.1.2, ⟨hk.1.1.1.1.2, ⟨hk.1.1.1.2, hk.2⟩⟩⟩⟩⟩))))) (Reps.one (show Kd.FK (Kd.slice 52 (Kd.int .u32)) _ _ t117 [.slice Ao26 t117.length co26] from (Kd.FK_slice_mk (Kd.R_reads' (Kd.R_mono (ok' := (fun k_ => ((P0_2_ k_ ∨ P0_3_ k_) ∨ w.heap.size ≤ k_) ∧ some k_ ≠ (.slice Ao14 t102.length co14 : Value).ownBlock ∧ some k_ ≠ (.slice Ao16 t105.length co16 : Value).ownBlock ∧ some k_ ≠ (.slice Ao18 t108.length co18 : Value).ownBlock ∧ some k_ ≠ (.slice Ao22 t111.length co22 : Value).ownBlock ∧ k_ ≠ gb101)) (Kd.R_types (HO119.out) BK101.out (by decide)) (fun k_ hk => ⟨(.inr (hk.1.1.1.1.1.1.1.1)), ⟨hk.1.1.1.1.1.1.2, ⟨hk.1.1.1.1.1.2, ⟨hk.1.1.1.1.2, ⟨hk.1.1.1.2, hk.2⟩⟩⟩⟩⟩))).2.1 (Kd.R_F (Kd.R_mono (ok' := (fun k_ => ((P0_2_ k_ ∨ P0_3_ k_) ∨ w.heap.size ≤ k_) ∧ some k_ ≠ (.slice Ao14 t102.length co14 : Value).ownBlock ∧ some k_ ≠ (.slice Ao16 t105.length co16 : Value).ownBlock ∧ some k_ ≠ (.slice Ao18 t108.length co18 : Value).ownBlock ∧ some k_ ≠ (.slice Ao22 t111.length co22 : Value).ownBlock ∧ k_ ≠ gb101)) (Kd.R_types (HO119.out) BK101.out (by decide)) (fun k_ hk => ⟨(.inr (hk.1.1.1.1.1.1.1.1)), ⟨hk.1.1.1.1.1.1.2, ⟨hk.1.1.1.1.1.2, ⟨hk.1.1.1.1.2, ⟨hk.1.1.1.2, hk.2⟩⟩⟩⟩⟩))))) (Reps.one (show Kd.FK (Kd.slice 52 (Kd.int .u32)) _ _ t120 [.slice Ao27 t120.length co27] from (Kd.FK_slice_mk (Kd.R_reads' (Kd.R_mono (ok' := (fun k_ => ((P0_2_ k_ ∨ P0_3_ k_) ∨ w.heap.size ≤ k_) ∧ some k_ ≠ (.slice Ao14 t102.length co14 : Value).ownBlock ∧ some k_ ≠ (.slice Ao16 t105.length co16 : Value).ownBlock ∧ some k_ ≠ (.slice Ao18 t108.length co18 : Value).ownBlock ∧ some k_ ≠ (.slice Ao22 t111.length co22 : Value).ownBlock ∧ k_ ≠ gb101)) (Kd.R_types (HO122.out) BK101.out (by decide)) (fun k_ hk => ⟨(.inr (hk.1.1.1.1.1.1.1.1)), ⟨hk.1.1.1.1.1.1.2, ⟨hk.1.1.1.1.1.2, ⟨hk.1.1.1.1.2, ⟨hk.1.1.1.2, hk.2⟩⟩⟩⟩⟩))).2.1 (Kd.R_F (Kd.R_mono (ok' := (fun k_ => ((P0_2_ k_ ∨ P0_3_ k_) ∨ w.heap.size ≤ k_) ∧ some k_ ≠ (.slice Ao14 t102.length co14 : Value).ownBlock ∧ some k_ ≠ (.slice Ao16 t105.length co16 : Value).ownBlock ∧ some k_ ≠ (.slice Ao18 t108.length co18 : Value).ownBlock ∧ some k_ ≠ (.slice Ao22 t111.length co22 : Value).ownBlock ∧ k_ ≠ gb101)) (Kd.R_types (HO122.out) BK101.out (by decide)) (fun k_ hk => ⟨(.inr (hk.1.1.1.1.1.1.1.1)), ⟨hk.1.1.1.1.1.1.2, ⟨hk.1.1.1.1.1.2, ⟨hk.1.1.1.1.2, ⟨hk.1.1.1.2, hk.2⟩⟩⟩⟩⟩))))) (Reps.none _ _)))))))
 intro v124 w28 ho29 hb hg_ hnew_
 clear hg_ hnew_
 (first | rw [← Ny123.out] at ho29 | (simp only [Int.reduceToNat] at ho29; rw [← Ny123.out] at ho29))
 have n0_ := a9_ (Kd.V_elder' (by (with_reducible repeat (first | apply Kd.V_alloc | apply Kd.V_drewN | apply Kd.V_drew)); exact HO0_2.out) (Kd.N_base ho29) hb)
 have n1_ := a9_ (Kd.V_elder' (by (with_reducible repeat (first | apply Kd.V_alloc | apply Kd.V_drewN | apply Kd.V_drew)); exact HO0_3.out) (Kd.N_base ho29) hb)
 have n2_ := a9_ (Kd.R_below (rp9 HO104.out) hb)
 have n3_ := a9_ (Kd.R_below (rp9 HO107.out) hb)
 have n4_ := a9_ (Kd.R_below (rp9 HO110.out) hb)
 have n5_ := a9_ (Kd.R_below (rp9 HO113.out) hb)
 have n6_ := a9_ (Kd.N_lower ho29 (below_size (bp9 HB.out)))
 have n7_ := a9_ (blk_below (kp9 BK101.out) hb)
 have n8_ := a9_ (below_step (bp9 HB.out) hb)
 clear HO0_2 HO0_3 HO104 HO107 HO110 HO113 BK101 HB HO116 HO119 HO122
 revert n0_ n1_ n2_ n3_ n4_ n5_ n6_ n7_ n8_; intro HO0_2 HO0_3 HO104 HO107 HO110 HO113 HO125 BK101 HB
 clear hb ho29
 obtain ⟨Ao30, co30, eo30⟩ := Kd.N_slice HO125.out
 (first | subst eo30 | (injection eo30 with f1_ f2_ f3_; have f4_ := f1_.symm; have f5_ := f3_.symm; clear f1_ f2_ f3_; subst f4_; subst f5_))
 refine hK.out _ _ ⟨(blk_cell BK101.out 0).trans rfl, (blk_cell BK101.out 1).trans rfl, (blk_cell BK101.out 2).trans rfl, (blk_cell BK101.out 3).trans rfl, (blk_cell BK101.out 4).trans rfl, (blk_cell BK101.out 5).trans rfl, (blk_cell BK101.out 6).trans rfl⟩ (fun hHeld => ?_)
 clear hK K
 refine norm_ (a' := ?_) ?_ ?_
 rotate_left
 ·show Act.put _ (some 34) _ = _
  exact put9
 refine one_ (i := 16) (N := some 35) #[i9, i9, i9, i9, i9, i9, i9, i9, i9, i9, i9, i9, i9, i9, i9, i9, i9, o9] rfl rfl (one_of HT_.out (by kernel_rfl)) (by decide) (fun K hK => ?_)
 refine goes9 Try.func132 (by kernel_rfl) rfl #[.agg #[.slice A0_0 l0_0.length c0_0, .slice A0_1 l0_1.length c0_1, .slice A0_2 l0_2.length c0_2, .slice A0_3 l0_3.length c0_3, .slice A0_4 l0_4.length c0_4, .slice A0_5 l0_5.length c0_5, .slice A0_6 l0_6.length c0_6], .slice Ao30 y123.length co30] (by rfl) rfl rfl ?_
 with_reducible refine (dob_all.calls k _ _ l0_0 _ _ l0_1 _ _ l0_2 _ _ l0_3 _ _ l0_4 _ _ l0_5 _ _ l0_6 _ _ y123 t126 _ ?side1 ?side2 ?side3 ?side4 ?side5 ?side6 ?side7 ?side8 ?side9 ?side10 ?side11 ?side12 ?side13 ?side14 ?side15 ?side16 A9.out).mono ?_
 (case side1 => exact cp9 HR0_0.out HB.out)
 (case side2 => exact HC0_0.out)
 (case side3 => exact cp9 HR0_1.out HB.out)
 (case side4 => exact HC0_1.out)
 (case side5 => exact lp9 (Kd.V_reads' HO0_2.out).2.2)
 (case side6 => exact (Kd.V_reads' HO0_2.out).2.1)
 (case side7 => exact lp9 (Kd.V_reads' HO0_3.out).2.2)
 (case side8 => exact (Kd.V_reads' HO0_3.out).2.1)
 (case side9 => exact cp9 HR0_4.out HB.out)
 (case side10 => exact HC0_4.out)
 (case side11 => exact cp9 HR0_5.out HB.out)
 (case side12 => exact HC0_5.out)
 (case side13 => exact cp9 HR0_6.out HB.out)
 (case side14 => exact HC0_6.out)
 (case side15 => exact lp9 (Kd.N_reads' HO125.out).2.2)
 (case side16 => exact (Kd.N_reads' HO125.out).2.1)
 rintro e w31 ⟨v127, rfl, ho0, hb⟩
 refine ⟨_, rfl, ?_⟩
 have n0_ := a9_ (Kd.V_elder' (by (with_reducible repeat (first | apply Kd.V_alloc | apply Kd.V_drewN | apply Kd.V_drew)); exact HO0_2.out) (Kd.R_base ho0) hb)
 have n1_ := a9_ (Kd.V_elder' (by (with_reducible repeat (first | apply Kd.V_alloc | apply Kd.V_drewN | apply Kd.V_drew)); exact HO0_3.out) (Kd.R_base ho0) hb)
 have n2_ := a9_ (Kd.R_elder' (rp9 HO104.out) (Kd.R_base ho0) hb)
 have n3_ := a9_ (Kd.R_elder' (rp9 HO107.out) (Kd.R_base ho0) hb)
 have n4_ := a9_ (Kd.R_elder' (rp9 HO110.out) (Kd.R_base ho0) hb)
 have n5_ := a9_ (Kd.R_elder' (rp9 HO113.out) (Kd.R_base ho0) hb)
 have n6_ := a9_ (Kd.N_elder' (by (with_reducible repeat (first | apply Kd.N_alloc | apply Kd.N_drewN | apply Kd.N_drew)); exact HO125.out) (Kd.R_base ho0) hb)
 have n7_ := a9_ (Kd.R_lower (Kd.R_new' (Kd.R_new' (Kd.R_new' (Kd.R_new' (Kd.R_newM (M := fun k_ => (w.heap.size ≤ k_)) ho0 (below_size (bp9 HB.out)) (fun k_ h_ => h_)) (Kd.R_lt (rp9 HO104.out))) (Kd.R_lt (rp9 HO107.out))) (Kd.R_lt (rp9 HO110.out))) (Kd.R_lt (rp9 HO113.out))) (below_size (bp9 HB.out)))
 have n8_ := a9_ (blk_below (kp9 BK101.out) hb)
 have n9_ := a9_ (below_step (bp9 HB.out) hb)
 clear HO0_2 HO0_3 HO104 HO107 HO110 HO113 HO125 BK101 HB
 revert n0_ n1_ n2_ n3_ n4_ n5_ n6_ n7_ n8_ n9_; intro HO0_2 HO0_3 HO104 HO107 HO110 HO113 HO125 HO128 BK101 HB
 (try clear hb)
 (try clear ho0)
 refine hK.out _ _ ⟨(blk_cell BK101.out 0).trans rfl, (blk_cell BK101.out 1).trans rfl, (blk_cell BK101.out 2).trans rfl, (blk_cell BK101.out 3).trans rfl, (blk_cell BK101.out 4).trans rfl, (blk_cell BK101.out 5).trans rfl, (blk_cell BK101.out 6).trans rfl⟩ (fun hHeld => ?_)
 clear hK K
 refine norm_ (a' := ?_) ?_ ?_
 rotate_left
 ·show Act.put _ (some 35) _ = _
  exact put9
 refine pureA 17 (some 2) ?_ #[i9, i9, i9, i9, i9, i9, i9, i9, i9, i9, i9, i9, i9, i9, i9, i9, i9, i9] rfl rfl (any_of HT_.out (by kernel_rfl)) ?_ ?_ ?_ ?_
 rotate_left
 ·intro w'; go_simp; with_reducible rfl
 rotate_left
 ·exact put9
 refine done_ (done_of HT_.out (by kernel_rfl)) ?_
 try go_wp2
 go_ret
 exact ⟨_, rt9, by (with_reducible repeat (first | apply Kd.R_alloc | apply Kd.R_drewN | apply Kd.R_drew)); exact Kd.R_mono HO128.out (fun _ hk => hk.1.1.1.1.1), bp9 HB.out⟩
def dob_Coi.f (l0_0 : List (S26)) (l0_1 : List Int) (l0_2 : List Int) (l0_3 : List Int) (l0_4 : List Int) (l0_5 : List Int) (l0_6 : List (List Int)) (l1 : List Int) : Option (List Int) := (derive_Within.f l0_0 l0_1 l0_2 l0_3 l0_4 l0_5 l0_6 l1).bind fun t102 => (some t102)
theorem dob_Coi.calls (A0_0 : Option Addr) (c0_0 : Nat) (l0_0 : List (S26)) (A0_1 : Option Addr) (c0_1 : Nat) (l0_1 : List Int) (A0_2 : Option Addr) (c0_2 : Nat) (l0_2 : List Int) (A0_3 : Option Addr) (c0_3 : Nat) (l0_3 : List Int) (A0_4 : Option Addr) (c0_4 : Nat) (l0_4 : List Int) (A0_5 : Option Addr) (c0_5 : Nat) (l0_5 : List Int) (A0_6 : Option Addr) (c0_6 : Nat) (l0_6 : List (List Int)) (A1 : Option Addr) (c1 : Nat) (l1 : List Int) (r : List Int) (w : World) (hr0_0 : Kd.C k26 w A0_0 l0_0.length l0_0) (hc0_0 : l0_0.length ≤ c0_0) (hr0_1 : Kd.C (Kd.int .u32) w A0_1 l0_1.length l0_1) (hc0_1 : l0_1.length ≤ c0_1) (hr0_2 : Kd.C (Kd.int .u32) w A0_2 l0_2.length l0_2) (hc0_2 : l0_2.length ≤ c0_2) (hr0_3 : Kd.C (Kd.int .u32) w A0_3 l0_3.length l0_3) (hc0_3 : l0_3.length ≤ c0_3) (hr0_4 : Kd.C (Kd.int .u32) w A0_4 l0_4.length l0_4) (hc0_4 : l0_4.length ≤ c0_4) (hr0_5 : Kd.C (Kd.int .u32) w A0_5 l0_5.length l0_5) (hc0_5 : l0_5.length ≤ c0_5) (hr0_6 : Kd.C (Kd.slice 2 (Kd.int .i64)) w A0_6 l0_6.length l0_6) (hc0_6 : l0_6.length ≤ c0_6) (hr1 : Kd.C (Kd.int .u32) w A1 l1.length l1) (hc1 : l1.length ≤ c1) (h : dob_Coi.f l0_0 l0_1 l0_2 l0_3 l0_4 l0_5 l0_6 l1 = some r) :
  Calls Try.prog 86 #[.agg #[.slice A0_0 l0_0.length c0_0, .slice A0_1 l0_1.length c0_1, .slice A0_2 l0_2.length c0_2, .slice A0_3 l0_3.length c0_3, .slice A0_4 l0_4.length c0_4, .slice A0_5 l0_5.length c0_5, .slice A0_6 l0_6.length c0_6], .slice A1 l1.length c1] w fun e w' => ∃ v0_ : Value, e = .returned (v0_) ∧ Kd.R (Kd.int .u32) 52 w' w.heap.size (fun _ => True) v0_ r ∧ Below w.heap.size w w' := by
 have hu31 := Try.underlying31
 have HR0_0 := a9_ hr0_0
 have HC0_0 := a9_ hc0_0
 clear hr0_0 hc0_0
 have HR0_1 := a9_ hr0_1
 have HC0_1 := a9_ hc0_1
 clear hr0_1 hc0_1
 have HR0_2 := a9_ hr0_2
 have HC0_2 := a9_ hc0_2
 clear hr0_2 hc0_2
 have HR0_3 := a9_ hr0_3
 have HC0_3 := a9_ hc0_3
 clear hr0_3 hc0_3
 have HR0_4 := a9_ hr0_4
 have HC0_4 := a9_ hc0_4
 clear hr0_4 hc0_4
 have HR0_5 := a9_ hr0_5
 have HC0_5 := a9_ hc0_5
 clear hr0_5 hc0_5
 have HR0_6 := a9_ hr0_6
 have HC0_6 := a9_ hc0_6
 clear hr0_6 hc0_6
 have HR1 := a9_ hr1
 have HC1 := a9_ hc1
 clear hr1 hc1
 have HB := a9_ (Below.refl w.heap.size w)
 have H : ((derive_Within.f l0_0 l0_1 l0_2 l0_3 l0_4 l0_5 l0_6 l1).bind fun t102 => (some t102)) = some r := h
 clear h
 replace H := Option.bind_eq_some_iff.mp H
 obtain ⟨t102, A30, H⟩ := H
 have A3 := a9_ A30
 clear A30
 obtain rfl := Option.some.inj H
 go_enter Try.func86, Try.ntmps86
 go_wp2_with (first | ((with_reducible refine gate_dst (N := 2) rfl ?_); refine box9 (N := 2) (cs := #[.slice A0_0 l0_0.length c0_0, .slice A0_1 l0_1.length c0_1, .slice A0_2 l0_2.length c0_2, .slice A0_3 l0_3.length c0_3, .slice A0_4 l0_4.length c0_4, .slice A0_5 l0_5.length c0_5, .slice A0_6 l0_6.length c0_6]) (t := 31) ?_; intro gb101 hg w4 hbox hb; have n0_ := a9_ (below_step (bp9 HB.out) hb); have n1_ := a9_ (hbox); have n2_ := a9_ ((by rw [hg]; exact (below_size (bp9 HB.out)) : w.heap.size ≤ gb101)); have n3_ := n2_; clear HB; have HB := n0_; have BK101 := n1_; have GW101 := n2_; have GE101 := n3_; clear n0_ n1_ n2_ n3_; clear hb hbox hg; obtain ⟨hcz5_0, hcz5_1, hcz5_2, hcz5_3, hcz5_4, hcz5_5, hcz5_6, hfz5_0, hfz5_1, hfz5_2, hfz5_3, hfz5_4, hfz5_5, hfz5_6⟩ := cz7 BK101.out) | ((with_reducible refine gate_callee (f := 136) rfl ?_); refine goesL9 (some 7) rfl rfl Try.func136 (by kernel_rfl) rfl #[.agg #[.slice A0_0 l0_0.length c0_0, .slice A0_1 l0_1.length c0_1, .slice A0_2 l0_2.length c0_2, .slice A0_3 l0_3.length c0_3, .slice A0_4 l0_4.length c0_4, .slice A0_5 l0_5.length c0_5, .slice A0_6 l0_6.length c0_6], .slice A1 l1.length c1] rfl ?_; (with_reducible refine (derive_Within.calls _ _ l0_0 _ _ l0_1 _ _ l0_2 _ _ l0_3 _ _ l0_4 _ _ l0_5 _ _ l0_6 _ _ l1 t102 _ ?side1 ?side2 ?side3 ?side4 ?side5 ?side6 ?side7 ?side8 ?side9 ?side10 ?side11 ?side12 ?side13 ?side14 ?side15 ?side16 A3.out).mono ?_); (case side1 => exact cp9 HR0_0.out HB.out); (case side2 => exact HC0_0.out); (case side3 => exact cp9 HR0_1.out HB.out); (case side4 => exact HC0_1.out); (case side5 => exact cp9 HR0_2.out HB.out); (case side6 => exact HC0_2.out); (case side7 => exact cp9 HR0_3.out HB.out); (case side8 => exact HC0_3.out); (case side9 => exact cp9 HR0_4.out HB.out); (case side10 => exact HC0_4.out); (case side11 => exact cp9 HR0_5.out HB.out); (case side12 => exact HC0_5.out); (case side13 => exact cp9 HR0_6.out HB.out); (case side14 => exact HC0_6.out); (case side15 => exact cp9 HR1.out HB.out); (case side16 => exact HC1.out); rintro e w6 ⟨v103, rfl, ho0, hb⟩; refine ⟨_, rfl, ?_⟩; have n0_ := a9_ (Kd.R_lower ho0 (below_size (bp9 HB.out))); have n1_ := a9_ (blk_below (kp9 BK101.out) hb); have n2_ := a9_ (below_step (bp9 HB.out) hb); clear BK101; clear HB; have HO104 := n0_; have BK101 := n1_; have HB := n2_; clear n0_ n1_ n2_; (try clear hb); (try clear ho0)))
 go_ret
 exact ⟨_, rt9, by (with_reducible repeat (first | apply Kd.R_alloc | apply Kd.R_drewN | apply Kd.R_drew)); exact HO104.out, bp9 HB.out⟩
def dob_Rfi.f (k : Nat) (l0_0 : List (S26)) (l0_1 : List Int) (l0_2 : List Int) (l0_3 : List Int) (l0_4 : List Int) (l0_5 : List Int) (l0_6 : List (List Int)) (l1 : List Int) : Option (List Int) := (source_Rf.f k l0_0 l0_1 l0_2 l0_3 l0_4 l0_5 l0_6 l1).bind fun t102 => ((derive_Within.f l0_0 l0_1 l0_2 l0_3 l0_4 l0_5 l0_6 t102).bind fun t105 => (some t105))
theorem dob_Rfi.mono : ∀ a0 a1 a2 a3 a4 a5 a6 a7 k, LeO (dob_Rfi.f k a0 a1 a2 a3 a4 a5 a6 a7) (dob_Rfi.f (k + 1) a0 a1 a2 a3 a4 a5 a6 a7) := by
 intro a0 a1 a2 a3 a4 a5 a6 a7 k
 unfold dob_Rfi.f
 repeat' (with_reducible first | exact source_Rf.mono _ _ _ _ _ _ _ _ _ | exact LeO.refl _ | exact LeO.none _ | refine LeO.ite ?_ ?_ | refine LeO.bind ?_ (fun _ => ?_))
theorem dob_Rfi.calls (k : Nat) (A0_0 : Option Addr) (c0_0 : Nat) (l0_0 : List (S26)) (A0_1 : Option Addr) (c0_1 : Nat) (l0_1 : List Int) (A0_2 : Option Addr) (c0_2 : Nat) (l0_2 : List Int) (A0_3 : Option Addr) (c0_3 : Nat) (l0_3 : List Int) (A0_4 : Option Addr) (c0_4 : Nat) (l0_4 : List Int) (A0_5 : Option Addr) (c0_5 : Nat) (l0_5 : List Int) (A0_6 : Option Addr) (c0_6 : Nat) (l0_6 : List (List Int)) (A1 : Option Addr) (c1 : Nat) (l1 : List Int) (r : List Int) (w : World) (hr0_0 : Kd.C k26 w A0_0 l0_0.length l0_0) (hc0_0 : l0_0.length ≤ c0_0) (hr0_1 : Kd.C (Kd.int .u32) w A0_1 l0_1.length l0_1) (hc0_1 : l0_1.length ≤ c0_1) (hr0_2 : Kd.C (Kd.int .u32) w A0_2 l0_2.length l0_2) (hc0_2 : l0_2.length ≤ c0_2) (hr0_3 : Kd.C (Kd.int .u32) w A0_3 l0_3.length l0_3) (hc0_3 : l0_3.length ≤ c0_3) (hr0_4 : Kd.C (Kd.int .u32) w A0_4 l0_4.length l0_4) (hc0_4 : l0_4.length ≤ c0_4) (hr0_5 : Kd.C (Kd.int .u32) w A0_5 l0_5.length l0_5) (hc0_5 : l0_5.length ≤ c0_5) (hr0_6 : Kd.C (Kd.slice 2 (Kd.int .i64)) w A0_6 l0_6.length l0_6) (hc0_6 : l0_6.length ≤ c0_6) (hr1 : Kd.C (Kd.int .i64) w A1 l1.length l1) (hc1 : l1.length ≤ c1) (h : dob_Rfi.f k l0_0 l0_1 l0_2 l0_3 l0_4 l0_5 l0_6 l1 = some r) :
  Calls Try.prog 88 #[.agg #[.slice A0_0 l0_0.length c0_0, .slice A0_1 l0_1.length c0_1, .slice A0_2 l0_2.length c0_2, .slice A0_3 l0_3.length c0_3, .slice A0_4 l0_4.length c0_4, .slice A0_5 l0_5.length c0_5, .slice A0_6 l0_6.length c0_6], .slice A1 l1.length c1] w fun e w' => ∃ v0_ : Value, e = .returned (v0_) ∧ Kd.R (Kd.int .u32) 52 w' w.heap.size (fun _ => True) v0_ r ∧ Below w.heap.size w w' := by
 have hu31 := Try.underlying31
 have HR0_0 := a9_ hr0_0
 have HC0_0 := a9_ hc0_0
 clear hr0_0 hc0_0
 have HR0_1 := a9_ hr0_1
 have HC0_1 := a9_ hc0_1
 clear hr0_1 hc0_1
 have HR0_2 := a9_ hr0_2
 have HC0_2 := a9_ hc0_2
 clear hr0_2 hc0_2
 have HR0_3 := a9_ hr0_3
 have HC0_3 := a9_ hc0_3
 clear hr0_3 hc0_3
 have HR0_4 := a9_ hr0_4
 have HC0_4 := a9_ hc0_4
 clear hr0_4 hc0_4
 have HR0_5 := a9_ hr0_5
 have HC0_5 := a9_ hc0_5
 clear hr0_5 hc0_5
 have HR0_6 := a9_ hr0_6
 have HC0_6 := a9_ hc0_6
 clear hr0_6 hc0_6
 have HR1 := a9_ hr1
 have HC1 := a9_ hc1
 clear hr1 hc1
 have HB := a9_ (Below.refl w.heap.size w)
 have H : ((source_Rf.f k l0_0 l0_1 l0_2 l0_3 l0_4 l0_5 l0_6 l1).bind fun t102 => ((derive_Within.f l0_0 l0_1 l0_2 l0_3 l0_4 l0_5 l0_6 t102).bind fun t105 => (some t105))) = some r := h
 clear h
 replace H := Option.bind_eq_some_iff.mp H
 obtain ⟨t102, A30, H⟩ := H
 have A3 := a9_ A30
 clear A30
 replace H := Option.bind_eq_some_iff.mp H
 obtain ⟨t105, A40, H⟩ := H
 have A4 := a9_ A40
 clear A40
 obtain rfl := Option.some.inj H
 go_enter Try.func88, Try.ntmps88
 try go_wp2_with (first | ((with_reducible refine gate_dst (N := 2) rfl ?_); refine box9 (N := 2) (cs := #[.slice A0_0 l0_0.length c0_0, .slice A0_1 l0_1.length c0_1, .slice A0_2 l0_2.length c0_2, .slice A0_3 l0_3.length c0_3, .slice A0_4 l0_4.length c0_4, .slice A0_5 l0_5.length c0_5, .slice A0_6 l0_6.length c0_6]) (t := 31) ?_; intro gb101 hg w5 hbox hb; have n0_ := a9_ (below_step (bp9 HB.out) hb); have n1_ := a9_ (hbox); have n2_ := a9_ ((by rw [hg]; exact (below_size (bp9 HB.out)) : w.heap.size ≤ gb101)); have n3_ := n2_; clear HB; have HB := n0_; have BK101 := n1_; have GW101 := n2_; have GE101 := n3_; clear n0_ n1_ n2_ n3_; clear hb hbox hg))
 have n0_ := a9_ (blk_drew BK101.out)
 have n1_ := a9_ (below_drew1 HB.out)
 clear BK101 HB
 revert n0_ n1_; intro BK101 HB
 refine start_ (n := 6) (S := fun w' => w'.cell? ⟨gb101, 0, none⟩ = some (.slice A0_0 l0_0.length c0_0) ∧ w'.cell? ⟨gb101, 1, none⟩ = some (.slice A0_1 l0_1.length c0_1) ∧ w'.cell? ⟨gb101, 2, none⟩ = some (.slice A0_2 l0_2.length c0_2) ∧ w'.cell? ⟨gb101, 3, none⟩ = some (.slice A0_3 l0_3.length c0_3) ∧ w'.cell? ⟨gb101, 4, none⟩ = some (.slice A0_4 l0_4.length c0_4) ∧ w'.cell? ⟨gb101, 5, none⟩ = some (.slice A0_5 l0_5.length c0_5) ∧ w'.cell? ⟨gb101, 6, none⟩ = some (.slice A0_6 l0_6.length c0_6)) (ds := []) #[o9, o9, o9, o9, o9, o9] (by kernel_rfl) rfl rfl ⟨(blk_cell BK101.out 0).trans rfl, (blk_cell BK101.out 1).trans rfl, (blk_cell BK101.out 2).trans rfl, (blk_cell BK101.out 3).trans rfl, (blk_cell BK101.out 4).trans rfl, (blk_cell BK101.out 5).trans rfl, (blk_cell BK101.out 6).trans rfl⟩ (fun hHeld => ?_)
 generalize w5.drew = w6 at BK101 HB hHeld ⊢
 refine pureA 2 (some 7) ?_ #[o9, o9, i9, o9, o9, o9] rfl rfl (by kernel_rfl) ?_ ?_ ?_ ?_
 rotate_left
 ·intro w'; go_simp; with_reducible rfl
 rotate_left
 ·exact put9
 refine take_ (i := 0) (N := some 5) (v := ?_) (a' := ?_) #[i9, o9, i9, o9, o9, o9] rfl rfl (by kernel_rfl) (fun _ _ _ h => h) (Or.inl ⟨by rfl, ?_⟩) hHeld ?_ ?_
 rotate_left
 ·rintro w' ⟨s0, s1, s2, s3, s4, s5, s6⟩
  go_simp
  with_reducible rfl
 rotate_left
 ·exact put9
 refine take_ (i := 1) (N := some 6) (v := ?_) (a' := ?_) #[i9, i9, i9, o9, o9, o9] rfl rfl (by kernel_rfl) (fun _ _ _ h => h) (Or.inl ⟨by rfl, ?_⟩) hHeld ?_ ?_
 rotate_left
 ·rintro w' ⟨s0, s1, s2, s3, s4, s5, s6⟩
  go_simp
  with_reducible rfl
 rotate_left
 ·exact put9
 refine one_ (i := 3) (N := some 8) #[i9, i9, i9, i9, o9, o9] rfl rfl (by kernel_rfl) (by decide) (fun K hK => ?_)
 refine goes9 Try.func64 (by kernel_rfl) rfl #[.agg #[.slice A0_0 l0_0.length c0_0, .slice A0_1 l0_1.length c0_1, .slice A0_2 l0_2.length c0_2, .slice A0_3 l0_3.length c0_3, .slice A0_4 l0_4.length c0_4, .slice A0_5 l0_5.length c0_5, .slice A0_6 l0_6.length c0_6], .slice A1 l1.length c1] (by rfl) rfl rfl ?_
 with_reducible refine (source_Rf.calls k _ _ l0_0 _ _ l0_1 _ _ l0_2 _ _ l0_3 _ _ l0_4 _ _ l0_5 _ _ l0_6 _ _ l1 t102 _ ?side1 ?side2 ?side3 ?side4 ?side5 ?side6 ?side7 ?side8 ?side9 ?side10 ?side11 ?side12 ?side13 ?side14 ?side15 ?side16 A3.out).mono ?_
 (case side1 => exact cp9 HR0_0.out HB.out)
 (case side2 => exact HC0_0.out)
 (case side3 => exact cp9 HR0_1.out HB.out)
 (case side4 => exact HC0_1.out)
 (case side5 => exact cp9 HR0_2.out HB.out)
 (case side6 => exact HC0_2.out)
 (case side7 => exact cp9 HR0_3.out HB.out)
 (case side8 => exact HC0_3.out)
 (case side9 => exact cp9 HR0_4.out HB.out)
 (case side10 => exact HC0_4.out)
 (case side11 => exact cp9 HR0_5.out HB.out)
 (case side12 => exact HC0_5.out)
 (case side13 => exact cp9 HR0_6.out HB.out)
 (case side14 => exact HC0_6.out)
 (case side15 => exact cp9 HR1.out HB.out)
 (case side16 => exact HC1.out)
 rintro e w7 ⟨v103, rfl, ho0, hb⟩
 refine ⟨_, rfl, ?_⟩
 have n0_ := a9_ (Kd.R_lower ho0 (below_size (bp9 HB.out)))
 have n1_ := a9_ (blk_below (kp9 BK101.out) hb)
 have n2_ := a9_ (below_step (bp9 HB.out) hb)
 clear BK101 HB
 revert n0_ n1_ n2_; intro HO104 BK101 HB
 (try clear hb)
 (try clear ho0)
 obtain ⟨Ao8, co8, eo8⟩ := Kd.R_slice HO104.out
 (first | subst eo8 | (injection eo8 with f1_ f2_ f3_; have f4_ := f1_.symm; have f5_ := f3_.symm; clear f1_ f2_ f3_; subst f4_; subst f5_))
 refine hK.out _ _ ⟨(blk_cell BK101.out 0).trans rfl, (blk_cell BK101.out 1).trans rfl, (blk_cell BK101.out 2).trans rfl, (blk_cell BK101.out 3).trans rfl, (blk_cell BK101.out 4).trans rfl, (blk_cell BK101.out 5).trans rfl, (blk_cell BK101.out 6).trans rfl⟩ (fun hHeld => ?_)
 clear hK K
 refine norm_ (a' := ?_) ?_ ?_
 rotate_left
 ·show Act.put _ (some 8) _ = _
  exact put9
 refine one_ (i := 4) (N := some 9) #[i9, i9, i9, i9, i9, o9] rfl rfl (by kernel_rfl) (by decide) (fun K hK => ?_)
 refine goes9 Try.func136 (by kernel_rfl) rfl #[.agg #[.slice A0_0 l0_0.length c0_0, .slice A0_1 l0_1.length c0_1, .slice A0_2 l0_2.length c0_2, .slice A0_3 l0_3.length c0_3, .slice A0_4 l0_4.length c0_4, .slice A0_5 l0_5.length c0_5, .slice A0_6 l0_6.length c0_6], .slice Ao8 t102.length co8] (by rfl) rfl rfl ?_
 with_reducible refine (derive_Within.calls _ _ l0_0 _ _ l0_1 _ _ l0_2 _ _ l0_3 _ _ l0_4 _ _ l0_5 _ _ l0_6 _ _ t102 t105 _ ?side1 ?side2 ?side3 ?side4 ?side5 ?side6 ?side7 ?side8 ?side9 ?side10 ?side11 ?side12 ?side13 ?side14 ?side15 ?side16 A4.out).mono ?_
 (case side1 => exact cp9 HR0_0.out HB.out)
 (case side2 => exact HC0_0.out)
 (case side3 => exact cp9 HR0_1.out HB.out)
 (case side4 => exact HC0_1.out)
 (case side5 => exact cp9 HR0_2.out HB.out)
 (case side6 => exact HC0_2.out)
 (case side7 => exact cp9 HR0_3.out HB.out)
 (case side8 => exact HC0_3.out)
 (case side9 => exact cp9 HR0_4.out HB.out)
 (case side10 => exact HC0_4.out)
 (case side11 => exact cp9 HR0_5.out HB.out)
 (case side12 => exact HC0_5.out)
 (case side13 => exact cp9 HR0_6.out HB.out)
 (case side14 => exact HC0_6.out)
 (case side15 => exact lp9 (Kd.R_reads' HO104.out).2.2)
 (case side16 => exact (Kd.R_reads' HO104.out).2.1)
 rintro e w9 ⟨v106, rfl, ho0, hb⟩
 refine ⟨_, rfl, ?_⟩
 have n0_ := a9_ (Kd.R_elder' (rp9 HO104.out) (Kd.R_base ho0) hb)
 have n1_ := a9_ (Kd.R_lower (Kd.R_new' ho0 (Kd.R_lt (rp9 HO104.out))) (below_size (bp9 HB.out)))
 have n2_ := a9_ (blk_below (kp9 BK101.out) hb)
 have n3_ := a9_ (below_step (bp9 HB.out) hb)
 clear HO104 BK101 HB
 revert n0_ n1_ n2_ n3_; intro HO104 HO107 BK101 HB
 (try clear hb)
 (try clear ho0)
 refine hK.out _ _ ⟨(blk_cell BK101.out 0).trans rfl, (blk_cell BK101.out 1).trans rfl, (blk_cell BK101.out 2).trans rfl, (blk_cell BK101.out 3).trans rfl, (blk_cell BK101.out 4).trans rfl, (blk_cell BK101.out 5).trans rfl, (blk_cell BK101.out 6).trans rfl⟩ (fun hHeld => ?_)
 clear hK K
 refine norm_ (a' := ?_) ?_ ?_
 rotate_left
 ·show Act.put _ (some 9) _ = _
  exact put9
 refine pureA 5 (some 4) ?_ #[i9, i9, i9, i9, i9, i9] rfl rfl (by kernel_rfl) ?_ ?_ ?_ ?_
 rotate_left
 ·intro w'; go_simp; with_reducible rfl
 rotate_left
 ·exact put9
 refine done_ (by kernel_rfl) ?_
 try go_wp2
 go_ret
 exact ⟨_, rt9, by (with_reducible repeat (first | apply Kd.R_alloc | apply Kd.R_drewN | apply Kd.R_drew)); exact Kd.R_mono HO107.out (fun _ hk => trivial), bp9 HB.out⟩
def dob_Dob.f (k : Nat) (l0_0 : List (S26)) (l0_1 : List Int) (l0_2 : List Int) (l0_3 : List Int) (l0_4 : List Int) (l0_5 : List Int) (l0_6 : List (List Int)) (l1 : List Int) (l2 : List Int) : Option (List Int) := (rel_Or.f l0_4 l0_3).bind fun t102 => ((dob_Coi.f l0_0 l0_1 l0_2 l0_3 l0_4 l0_5 l0_6 l2).bind fun t105 => ((rel_Seq.f t102 t105).bind fun t108 => ((rel_Or.f l0_2 l0_3).bind fun t111 => ((dob_Rfi.f k l0_0 l0_1 l0_2 l0_3 l0_4 l0_5 l0_6 l1).bind fun t114 => ((rel_Seq.f t111 t114).bind fun t117 => ((dob_Static.f k l0_0 l0_1 l0_2 l0_3 l0_4 l0_5 l0_6).bind fun t120 => ((dob_all.f k l0_0 l0_1 l0_2 l0_3 l0_4 l0_5 l0_6 (([t120, t108, t117] : List (List Int)))).bind fun t126 => (some t126))))))))
theorem dob_Dob.mono : ∀ a0 a1 a2 a3 a4 a5 a6 a7 a8 k, LeO (dob_Dob.f k a0 a1 a2 a3 a4 a5 a6 a7 a8) (dob_Dob.f (k + 1) a0 a1 a2 a3 a4 a5 a6 a7 a8) := by
 intro a0 a1 a2 a3 a4 a5 a6 a7 a8 k
 unfold dob_Dob.f
 repeat' (with_reducible first | exact dob_Rfi.mono _ _ _ _ _ _ _ _ _ | exact dob_Static.mono _ _ _ _ _ _ _ _ | exact dob_all.mono _ _ _ _ _ _ _ _ _ | exact LeO.refl _ | exact LeO.none _ | refine LeO.ite ?_ ?_ | refine LeO.bind ?_ (fun _ => ?_))
def dob_Dob.T1 : Bool × List (List Nat × List Nat) := (true, [([], []), ([0], [0]), ([], []), ([2], [2]), ([1, 3], [1, 3]), ([], []), ([], []), ([5, 6, 4], [5, 6]), ([4, 7, 7], [4, 7]), ([8, 8, 0, 1, 2, 3, 4, 5, 6, 7, 8], [8])])
def dob_Dob.B1 : List Nat := [0, 1, 0, 4, 15, 0, 0, 127, 255, 511]
theorem dob_Dob.tab1 : rtab .any (opsOf Try.f80 1) = dob_Dob.T1 := by kernel_rfl
theorem dob_Dob.bits1 : waitsOk dob_Dob.T1.2 dob_Dob.B1 = true := by kernel_rfl
def dob_Dob.T2 : Bool × List (List Nat × List Nat) := (true, [([], []), ([0], [0]), ([], []), ([2], [2]), ([1, 3], [1, 3]), ([], []), ([], []), ([5, 6, 4], [5, 6]), ([4, 7, 7], [4, 7]), ([8, 8, 0, 1, 2, 3, 4, 5, 6, 7, 8], [8])])
def dob_Dob.B2 : List Nat := [0, 1, 0, 4, 15, 0, 0, 127, 255, 511]
theorem dob_Dob.tab2 : rtab .any (opsOf Try.f80 2) = dob_Dob.T2 := by kernel_rfl
theorem dob_Dob.bits2 : waitsOk dob_Dob.T2.2 dob_Dob.B2 = true := by kernel_rfl
def dob_Dob.T3 : Bool × List (List Nat × List Nat) := (true, [([], []), ([], []), ([1], [1]), ([], []), ([], []), ([2, 3, 4], [2, 3, 4]), ([0, 5, 2], [0, 5]), ([6, 6, 0, 1, 2, 3, 4, 5, 6], [6])])
def dob_Dob.B3 : List Nat := [0, 0, 2, 0, 0, 30, 63, 127]
theorem dob_Dob.tab3 : rtab .any (opsOf Try.f80 3) = dob_Dob.T3 := by kernel_rfl
theorem dob_Dob.bits3 : waitsOk dob_Dob.T3.2 dob_Dob.B3 = true := by kernel_rfl
theorem dob_Dob.calls (k : Nat) (A0_0 : Option Addr) (c0_0 : Nat) (l0_0 : List (S26)) (A0_1 : Option Addr) (c0_1 : Nat) (l0_1 : List Int) (A0_2 : Option Addr) (c0_2 : Nat) (l0_2 : List Int) (A0_3 : Option Addr) (c0_3 : Nat) (l0_3 : List Int) (A0_4 : Option Addr) (c0_4 : Nat) (l0_4 : List Int) (A0_5 : Option Addr) (c0_5 : Nat) (l0_5 : List Int) (A0_6 : Option Addr) (c0_6 : Nat) (l0_6 : List (List Int)) (A1 : Option Addr) (c1 : Nat) (l1 : List Int) (A2 : Option Addr) (c2 : Nat) (l2 : List Int) (r : List Int) (w : World) (hr0_0 : Kd.C k26 w A0_0 l0_0.length l0_0) (hc0_0 : l0_0.length ≤ c0_0) (hr0_1 : Kd.C (Kd.int .u32) w A0_1 l0_1.length l0_1) (hc0_1 : l0_1.length ≤ c0_1) (hr0_2 : Kd.C (Kd.int .u32) w A0_2 l0_2.length l0_2) (hc0_2 : l0_2.length ≤ c0_2) (hr0_3 : Kd.C (Kd.int .u32) w A0_3 l0_3.length l0_3) (hc0_3 : l0_3.length ≤ c0_3) (hr0_4 : Kd.C (Kd.int .u32) w A0_4 l0_4.length l0_4) (hc0_4 : l0_4.length ≤ c0_4) (hr0_5 : Kd.C (Kd.int .u32) w A0_5 l0_5.length l0_5) (hc0_5 : l0_5.length ≤ c0_5) (hr0_6 : Kd.C (Kd.slice 2 (Kd.int .i64)) w A0_6 l0_6.length l0_6) (hc0_6 : l0_6.length ≤ c0_6) (hr1 : Kd.C (Kd.int .i64) w A1 l1.length l1) (hc1 : l1.length ≤ c1) (hr2 : Kd.C (Kd.int .u32) w A2 l2.length l2) (hc2 : l2.length ≤ c2) (h : dob_Dob.f k l0_0 l0_1 l0_2 l0_3 l0_4 l0_5 l0_6 l1 l2 = some r) :
  Calls Try.prog 80 #[.agg #[.slice A0_0 l0_0.length c0_0, .slice A0_1 l0_1.length c0_1, .slice A0_2 l0_2.length c0_2, .slice A0_3 l0_3.length c0_3, .slice A0_4 l0_4.length c0_4, .slice A0_5 l0_5.length c0_5, .slice A0_6 l0_6.length c0_6], .slice A1 l1.length c1, .slice A2 l2.length c2] w fun e w' => ∃ v0_ : Value, e = .returned (v0_) ∧ Kd.R (Kd.int .u32) 52 w' w.heap.size (fun _ => True) v0_ r ∧ Below w.heap.size w w' := by
 have hu31 := Try.underlying31
 have HR0_0 := a9_ hr0_0
 have HC0_0 := a9_ hc0_0
 clear hr0_0 hc0_0
 have HR0_1 := a9_ hr0_1
 have HC0_1 := a9_ hc0_1
 clear hr0_1 hc0_1
 have HR0_2 := a9_ hr0_2
 have HC0_2 := a9_ hc0_2
 clear hr0_2 hc0_2
 have HR0_3 := a9_ hr0_3
 have HC0_3 := a9_ hc0_3
 clear hr0_3 hc0_3
 have HR0_4 := a9_ hr0_4
 have HC0_4 := a9_ hc0_4
 clear hr0_4 hc0_4
 have HR0_5 := a9_ hr0_5
 have HC0_5 := a9_ hc0_5
 clear hr0_5 hc0_5
 have HR0_6 := a9_ hr0_6
 have HC0_6 := a9_ hc0_6
 clear hr0_6 hc0_6
 have HR1 := a9_ hr1
 have HC1 := a9_ hc1
 clear hr1 hc1
 have HR2 := a9_ hr2
 have HC2 := a9_ hc2
 clear hr2 hc2
 have HB := a9_ (Below.refl w.heap.size w)
 have H : ((rel_Or.f l0_4 l0_3).bind fun t102 => ((dob_Coi.f l0_0 l0_1 l0_2 l0_3 l0_4 l0_5 l0_6 l2).bind fun t105 => ((rel_Seq.f t102 t105).bind fun t108 => ((rel_Or.f l0_2 l0_3).bind fun t111 => ((dob_Rfi.f k l0_0 l0_1 l0_2 l0_3 l0_4 l0_5 l0_6 l1).bind fun t114 => ((rel_Seq.f t111 t114).bind fun t117 => ((dob_Static.f k l0_0 l0_1 l0_2 l0_3 l0_4 l0_5 l0_6).bind fun t120 => ((dob_all.f k l0_0 l0_1 l0_2 l0_3 l0_4 l0_5 l0_6 (([t120, t108, t117] : List (List Int)))).bind fun t126 => (some t126))))))))) = some r := h
 clear h
 replace H := Option.bind_eq_some_iff.mp H
 obtain ⟨t102, A40, H⟩ := H
 have A4 := a9_ A40
 clear A40
 replace H := Option.bind_eq_some_iff.mp H
 obtain ⟨t105, A50, H⟩ := H
 have A5 := a9_ A50
 clear A50
 replace H := Option.bind_eq_some_iff.mp H
 obtain ⟨t108, A60, H⟩ := H
 have A6 := a9_ A60
 clear A60
 replace H := Option.bind_eq_some_iff.mp H
 obtain ⟨t111, A70, H⟩ := H
 have A7 := a9_ A70
 clear A70
 replace H := Option.bind_eq_some_iff.mp H
 obtain ⟨t114, A80, H⟩ := H
 have A8 := a9_ A80
 clear A80
 replace H := Option.bind_eq_some_iff.mp H
 obtain ⟨t117, A90, H⟩ := H
 have A9 := a9_ A90
 clear A90
 replace H := Option.bind_eq_some_iff.mp H
 obtain ⟨t120, A100, H⟩ := H
 have A10 := a9_ A100
 clear A100
 obtain ⟨y123, hy123⟩ : ∃ y_ : List (List Int), y_ = (([t120, t108, t117] : List (List Int))) := ⟨_, rfl⟩
 replace H : ((dob_all.f k l0_0 l0_1 l0_2 l0_3 l0_4 l0_5 l0_6 y123).bind fun t126 => (some t126)) = some r := by first | (rw [hy123]; with_reducible exact H) | (have H2_ := (Option.bind_some _ _).symm.trans H; rw [hy123]; with_reducible exact H2_) | (have H2_ := (Option.bind_some _ _).symm.trans H; with_reducible exact H2_) | with_reducible exact H | (rw [hy123]; exact H) | exact H
 have Ny123 := a9_ hy123
 clear hy123
 replace H := Option.bind_eq_some_iff.mp H
 obtain ⟨t126, A110, H⟩ := H
 have A11 := a9_ A110
 clear A110
 obtain rfl := Option.some.inj H
 go_enter Try.func80, Try.ntmps80
 try go_wp2_with (first | ((with_reducible refine gate_dst (N := 3) rfl ?_); refine box9 (N := 3) (cs := #[.slice A0_0 l0_0.length c0_0, .slice A0_1 l0_1.length c0_1, .slice A0_2 l0_2.length c0_2, .slice A0_3 l0_3.length c0_3, .slice A0_4 l0_4.length c0_4, .slice A0_5 l0_5.length c0_5, .slice A0_6 l0_6.length c0_6]) (t := 31) ?_; intro gb101 hg w12 hbox hb; have n0_ := a9_ (below_step (bp9 HB.out) hb); have n1_ := a9_ (hbox); have n2_ := a9_ ((by rw [hg]; exact (below_size (bp9 HB.out)) : w.heap.size ≤ gb101)); have n3_ := n2_; clear HB; have HB := n0_; have BK101 := n1_; have GW101 := n2_; have GE101 := n3_; clear n0_ n1_ n2_ n3_; clear hb hbox hg))
 have n0_ := a9_ (blk_drew BK101.out)
 have n1_ := a9_ (below_drew1 HB.out)
 clear BK101 HB
 revert n0_ n1_; intro BK101 HB
 refine start_ (n := 10) (S := fun w' => w'.cell? ⟨gb101, 0, none⟩ = some (.slice A0_0 l0_0.length c0_0) ∧ w'.cell? ⟨gb101, 1, none⟩ = some (.slice A0_1 l0_1.length c0_1) ∧ w'.cell? ⟨gb101, 2, none⟩ = some (.slice A0_2 l0_2.length c0_2) ∧ w'.cell? ⟨gb101, 3, none⟩ = some (.slice A0_3 l0_3.length c0_3) ∧ w'.cell? ⟨gb101, 4, none⟩ = some (.slice A0_4 l0_4.length c0_4) ∧ w'.cell? ⟨gb101, 5, none⟩ = some (.slice A0_5 l0_5.length c0_5) ∧ w'.cell? ⟨gb101, 6, none⟩ = some (.slice A0_6 l0_6.length c0_6)) (ds := []) #[o9, o9, o9, o9, o9, o9, o9, o9, o9, o9] (by kernel_rfl) rfl rfl ⟨(blk_cell BK101.out 0).trans rfl, (blk_cell BK101.out 1).trans rfl, (blk_cell BK101.out 2).trans rfl, (blk_cell BK101.out 3).trans rfl, (blk_cell BK101.out 4).trans rfl, (blk_cell BK101.out 5).trans rfl, (blk_cell BK101.out 6).trans rfl⟩ (fun hHeld => ?_); refine with_tabW dob_Dob.tab1 dob_Dob.bits1 (fun HT_ HW_ => ?_)
 generalize w12.drew = w13 at BK101 HB hHeld ⊢
 refine pureA 0 (some 9) ?_ #[i9, o9, o9, o9, o9, o9, o9, o9, o9, o9] rfl rfl (any_of HT_.out (by kernel_rfl)) ?_ ?_ ?_ ?_
 rotate_left
 ·intro w'; go_simp; with_reducible rfl
 rotate_left
 ·exact put9
 refine pureA 2 (some 11) ?_ #[i9, o9, i9, o9, o9, o9, o9, o9, o9, o9] rfl rfl (any_of HT_.out (by kernel_rfl)) ?_ ?_ ?_ ?_
 rotate_left
 ·intro w'; go_simp; with_reducible rfl
 rotate_left
 ·exact put9
 refine pureA 6 (some 15) ?_ #[i9, o9, i9, o9, o9, o9, i9, o9, o9, o9] rfl rfl (any_of HT_.out (by kernel_rfl)) ?_ ?_ ?_ ?_
 rotate_left
 ·intro w'; go_simp; with_reducible rfl
 rotate_left
 ·exact put9
 refine take_ (i := 1) (N := some 10) (v := ?_) (a' := ?_) #[i9, i9, i9, o9, o9, o9, i9, o9, o9, o9] rfl rfl (take_ofW HT_.out HW_.out (by kernel_rfl)) (fun _ _ _ h => h) (Or.inl ⟨by rfl, ?_⟩) hHeld ?_ ?_
 rotate_left
 ·rintro w' ⟨s0, s1, s2, s3, s4, s5, s6⟩
  go_simp
  with_reducible rfl
 rotate_left
 ·exact put9
 refine take_ (i := 3) (N := some 12) (v := ?_) (a' := ?_) #[i9, i9, i9, i9, o9, o9, i9, o9, o9, o9] rfl rfl (take_ofW HT_.out HW_.out (by kernel_rfl)) (fun _ _ _ h => h) (Or.inl ⟨by rfl, ?_⟩) hHeld ?_ ?_
 rotate_left
 ·rintro w' ⟨s0, s1, s2, s3, s4, s5, s6⟩
  go_simp
  with_reducible rfl
 rotate_left
 ·exact put9
 refine take_ (i := 5) (N := some 14) (v := ?_) (a' := ?_) #[i9, i9, i9, i9, o9, i9, i9, o9, o9, o9] rfl rfl (take_ofW HT_.out HW_.out (by kernel_rfl)) (fun _ _ _ h => h) (Or.inl ⟨by rfl, ?_⟩) hHeld ?_ ?_
 rotate_left
 ·rintro w' ⟨s0, s1, s2, s3, s4, s5, s6⟩
  go_simp
  with_reducible rfl
 rotate_left
 ·exact put9
 refine one_ (i := 4) (N := some 13) #[i9, i9, i9, i9, i9, i9, i9, o9, o9, o9] rfl rfl (one_of HT_.out (by kernel_rfl)) (by decide) (fun K hK => ?_)
 refine goes9 Try.func58 (by kernel_rfl) rfl #[.slice A0_4 l0_4.length c0_4, .slice A0_3 l0_3.length c0_3] (by rfl) rfl rfl ?_
 with_reducible refine (rel_Or.calls _ _ l0_4 _ _ l0_3 t102 _ ?side1 ?side2 ?side3 ?side4 A4.out).mono ?_
 (case side1 => exact cp9 HR0_4.out HB.out)
 (case side2 => exact HC0_4.out)
 (case side3 => exact cp9 HR0_3.out HB.out)
 (case side4 => exact HC0_3.out)
 rintro e w14 ⟨v103, rfl, ho0, hb⟩
 refine ⟨_, rfl, ?_⟩
 have n0_ := a9_ (Kd.R_lower ho0 (below_size (bp9 HB.out)))
 have n1_ := a9_ (blk_below (kp9 BK101.out) hb)
 have n2_ := a9_ (below_step (bp9 HB.out) hb)
 clear BK101 HB
 revert n0_ n1_ n2_; intro HO104 BK101 HB
 (try clear hb)
 (try clear ho0)
 refine hK.out _ _ ⟨(blk_cell BK101.out 0).trans rfl, (blk_cell BK101.out 1).trans rfl, (blk_cell BK101.out 2).trans rfl, (blk_cell BK101.out 3).trans rfl, (blk_cell BK101.out 4).trans rfl, (blk_cell BK101.out 5).trans rfl, (blk_cell BK101.out 6).trans rfl⟩ (fun hHeld => ?_)
 clear hK K
 refine norm_ (a' := ?_) ?_ ?_
 rotate_left
 ·show Act.put _ (some 13) _ = _
  exact put9
 refine one_ (i := 7) (N := some 16) #[i9, i9, i9, i9, i9, i9, i9, i9, o9, o9] rfl rfl (one_of HT_.out (by kernel_rfl)) (by decide) (fun K hK => ?_)
 refine goes9 Try.func86 (by kernel_rfl) rfl #[.agg #[.slice A0_0 l0_0.length c0_0, .slice A0_1 l0_1.length c0_1, .slice A0_2 l0_2.length c0_2, .slice A0_3 l0_3.length c0_3, .slice A0_4 l0_4.length c0_4, .slice A0_5 l0_5.length c0_5, .slice A0_6 l0_6.length c0_6], .slice A2 l2.length c2] (by rfl) rfl rfl ?_
 with_reducible refine (dob_Coi.calls _ _ l0_0 _ _ l0_1 _ _ l0_2 _ _ l0_3 _ _ l0_4 _ _ l0_5 _ _ l0_6 _ _ l2 t105 _ ?side1 ?side2 ?side3 ?side4 ?side5 ?side6 ?side7 ?side8 ?side9 ?side10 ?side11 ?side12 ?side13 ?side14 ?side15 ?side16 A5.out).mono ?_
 (case side1 => exact cp9 HR0_0.out HB.out)
 (case side2 => exact HC0_0.out)
 (case side3 => exact cp9 HR0_1.out HB.out)
 (case side4 => exact HC0_1.out)
 (case side5 => exact cp9 HR0_2.out HB.out)
 (case side6 => exact HC0_2.out)
 (case side7 => exact cp9 HR0_3.out HB.out)
 (case side8 => exact HC0_3.out)
 (case side9 => exact cp9 HR0_4.out HB.out)
 (case side10 => exact HC0_4.out)
 (case side11 => exact cp9 HR0_5.out HB.out)
 (case side12 => exact HC0_5.out)
 (case side13 => exact cp9 HR0_6.out HB.out)
 (case side14 => exact HC0_6.out)
 (case side15 => exact cp9 HR2.out HB.out)
 (case side16 => exact HC2.out)
 rintro e w15 ⟨v106, rfl, ho0, hb⟩
 refine ⟨_, rfl, ?_⟩
 have n0_ := a9_ (Kd.R_elder' (rp9 HO104.out) (Kd.R_base ho0) hb)
 have n1_ := a9_ (Kd.R_lower (Kd.R_new' ho0 (Kd.R_lt (rp9 HO104.out))) (below_size (bp9 HB.out)))
 have n2_ := a9_ (blk_below (kp9 BK101.out) hb)
 have n3_ := a9_ (below_step (bp9 HB.out) hb)
 clear HO104 BK101 HB
 revert n0_ n1_ n2_ n3_; intro HO104 HO107 BK101 HB
 (try clear hb)
 (try clear ho0)
 obtain ⟨Ao16, co16, eo16⟩ := Kd.R_slice HO104.out
 (first | subst eo16 | (injection eo16 with f1_ f2_ f3_; have f4_ := f1_.symm; have f5_ := f3_.symm; clear f1_ f2_ f3_; subst f4_; subst f5_))
 obtain ⟨Ao17, co17, eo17⟩ := Kd.R_slice HO107.out
 (first | subst eo17 | (injection eo17 with f1_ f2_ f3_; have f4_ := f1_.symm; have f5_ := f3_.symm; clear f1_ f2_ f3_; subst f4_; subst f5_))
 refine hK.out _ _ ⟨(blk_cell BK101.out 0).trans rfl, (blk_cell BK101.out 1).trans rfl, (blk_cell BK101.out 2).trans rfl, (blk_cell BK101.out 3).trans rfl, (blk_cell BK101.out 4).trans rfl, (blk_cell BK101.out 5).trans rfl, (blk_cell BK101.out 6).trans rfl⟩ (fun hHeld => ?_)
 clear hK K
 refine norm_ (a' := ?_) ?_ ?_
 rotate_left
 ·show Act.put _ (some 16) _ = _
  exact put9
 refine one_ (i := 8) (N := some 17) #[i9, i9, i9, i9, i9, i9, i9, i9, i9, o9] rfl rfl (one_of HT_.out (by kernel_rfl)) (by decide) (fun K hK => ?_)
 refine goes9 Try.func62 (by kernel_rfl) rfl #[.slice Ao16 t102.length co16, .slice Ao17 t105.length co17] (by rfl) rfl rfl ?_
 with_reducible refine (rel_Seq.calls _ _ t102 _ _ t105 t108 _ ?side1 ?side2 ?side3 ?side4 A6.out).mono ?_
 (case side1 => exact lp9 (Kd.R_reads' HO104.out).2.2)
 (case side2 => exact (Kd.R_reads' HO104.out).2.1)
 (case side3 => exact lp9 (Kd.R_reads' HO107.out).2.2)
 (case side4 => exact (Kd.R_reads' HO107.out).2.1)
 rintro e w18 ⟨v109, rfl, ho0, hb⟩
 refine ⟨_, rfl, ?_⟩
 have n0_ := a9_ (Kd.R_elder' (rp9 HO104.out) (Kd.R_base ho0) hb)
 have n1_ := a9_ (Kd.R_elder' (rp9 HO107.out) (Kd.R_base ho0) hb)
 have n2_ := a9_ (Kd.R_lower (Kd.R_new' (Kd.R_new' ho0 (Kd.R_lt (rp9 HO104.out))) (Kd.R_lt (rp9 HO107.out))) (below_size (bp9 HB.out)))
 have n3_ := a9_ (blk_below (kp9 BK101.out) hb)
 have n4_ := a9_ (below_step (bp9 HB.out) hb)
 clear HO104 HO107 BK101 HB
 revert n0_ n1_ n2_ n3_ n4_; intro HO104 HO107 HO110 BK101 HB
 (try clear hb)
 (try clear ho0)
 refine hK.out _ _ ⟨(blk_cell BK101.out 0).trans rfl, (blk_cell BK101.out 1).trans rfl, (blk_cell BK101.out 2).trans rfl, (blk_cell BK101.out 3).trans rfl, (blk_cell BK101.out 4).trans rfl, (blk_cell BK101.out 5).trans rfl, (blk_cell BK101.out 6).trans rfl⟩ (fun hHeld => ?_)
 clear hK K
 refine norm_ (a' := ?_) ?_ ?_
 rotate_left
 ·show Act.put _ (some 17) _ = _
  exact put9
 refine pureA 9 (some 7) ?_ #[i9, i9, i9, i9, i9, i9, i9, i9, i9, i9] rfl rfl (any_of HT_.out (by kernel_rfl)) ?_ ?_ ?_ ?_
 rotate_left
 ·intro w'; go_simp; with_reducible rfl
 rotate_left
 ·exact put9
 refine done_ (done_of HT_.out (by kernel_rfl)) ?_
 try go_wp2
 have n0_ := a9_ (Kd.R_drew HO104.out)
 have n1_ := a9_ (Kd.R_drew HO107.out)
 have n2_ := a9_ (Kd.R_drew HO110.out)
 have n3_ := a9_ (blk_drew BK101.out)
 have n4_ := a9_ (below_drew1 HB.out)
 clear HO104 HO107 HO110 BK101 HB
 revert n0_ n1_ n2_ n3_ n4_; intro HO104 HO107 HO110 BK101 HB
 refine start_ (n := 10) (S := fun w' => w'.cell? ⟨gb101, 0, none⟩ = some (.slice A0_0 l0_0.length c0_0) ∧ w'.cell? ⟨gb101, 1, none⟩ = some (.slice A0_1 l0_1.length c0_1) ∧ w'.cell? ⟨gb101, 2, none⟩ = some (.slice A0_2 l0_2.length c0_2) ∧ w'.cell? ⟨gb101, 3, none⟩ = some (.slice A0_3 l0_3.length c0_3) ∧ w'.cell? ⟨gb101, 4, none⟩ = some (.slice A0_4 l0_4.length c0_4) ∧ w'.cell? ⟨gb101, 5, none⟩ = some (.slice A0_5 l0_5.length c0_5) ∧ w'.cell? ⟨gb101, 6, none⟩ = some (.slice A0_6 l0_6.length c0_6)) (ds := []) #[o9, o9, o9, o9, o9, o9, o9, o9, o9, o9] (by kernel_rfl) rfl rfl ⟨(blk_cell BK101.out 0).trans rfl, (blk_cell BK101.out 1).trans rfl, (blk_cell BK101.out 2).trans rfl, (blk_cell BK101.out 3).trans rfl, (blk_cell BK101.out 4).trans rfl, (blk_cell BK101.out 5).trans rfl, (blk_cell BK101.out 6).trans rfl⟩ (fun hHeld => ?_); refine with_tabW dob_Dob.tab2 dob_Dob.bits2 (fun HT_ HW_ => ?_)
 generalize w18.drew = w19 at HO104 HO107 HO110 BK101 HB hHeld ⊢
 refine pureA 0 (some 18) ?_ #[i9, o9, o9, o9, o9, o9, o9, o9, o9, o9] rfl rfl (any_of HT_.out (by kernel_rfl)) ?_ ?_ ?_ ?_
 rotate_left
 ·intro w'; go_simp; with_reducible rfl
 rotate_left
 ·exact put9
 refine pureA 2 (some 20) ?_ #[i9, o9, i9, o9, o9, o9, o9, o9, o9, o9] rfl rfl (any_of HT_.out (by kernel_rfl)) ?_ ?_ ?_ ?_
 rotate_left
 ·intro w'; go_simp; with_reducible rfl
 rotate_left
 ·exact put9
 refine pureA 6 (some 24) ?_ #[i9, o9, i9, o9, o9, o9, i9, o9, o9, o9] rfl rfl (any_of HT_.out (by kernel_rfl)) ?_ ?_ ?_ ?_
 rotate_left
 ·intro w'; go_simp; with_reducible rfl
 rotate_left
 ·exact put9
 refine take_ (i := 1) (N := some 19) (v := ?_) (a' := ?_) #[i9, i9, i9, o9, o9, o9, i9, o9, o9, o9] rfl rfl (take_ofW HT_.out HW_.out (by kernel_rfl)) (fun _ _ _ h => h) (Or.inl ⟨by rfl, ?_⟩) hHeld ?_ ?_
 rotate_left
 ·rintro w' ⟨s0, s1, s2, s3, s4, s5, s6⟩
  go_simp
  with_reducible rfl
 rotate_left
 ·exact put9
 refine take_ (i := 3) (N := some 21) (v := ?_) (a' := ?_) #[i9, i9, i9, i9, o9, o9, i9, o9, o9, o9] rfl rfl (take_ofW HT_.out HW_.out (by kernel_rfl)) (fun _ _ _ h => h) (Or.inl ⟨by rfl, ?_⟩) hHeld ?_ ?_
 rotate_left
 ·rintro w' ⟨s0, s1, s2, s3, s4, s5, s6⟩
  go_simp
  with_reducible rfl
 rotate_left
 ·exact put9
 refine take_ (i := 5) (N := some 23) (v := ?_) (a' := ?_) #[i9, i9, i9, i9, o9, i9, i9, o9, o9, o9] rfl rfl (take_ofW HT_.out HW_.out (by kernel_rfl)) (fun _ _ _ h => h) (Or.inl ⟨by rfl, ?_⟩) hHeld ?_ ?_
 rotate_left
 ·rintro w' ⟨s0, s1, s2, s3, s4, s5, s6⟩
  go_simp
  with_reducible rfl
 rotate_left
 ·exact put9
 refine one_ (i := 4) (N := some 22) #[i9, i9, i9, i9, i9, i9, i9, o9, o9, o9] rfl rfl (one_of HT_.out (by kernel_rfl)) (by decide) (fun K hK => ?_)
 refine goes9 Try.func58 (by kernel_rfl) rfl #[.slice A0_2 l0_2.length c0_2, .slice A0_3 l0_3.length c0_3] (by rfl) rfl rfl ?_
 with_reducible refine (rel_Or.calls _ _ l0_2 _ _ l0_3 t111 _ ?side1 ?side2 ?side3 ?side4 A7.out).mono ?_
 (case side1 => exact cp9 HR0_2.out HB.out)
 (case side2 => exact HC0_2.out)
 (case side3 => exact cp9 HR0_3.out HB.out)
 (case side4 => exact HC0_3.out)
 rintro e w20 ⟨v112, rfl, ho0, hb⟩
 refine ⟨_, rfl, ?_⟩
 have n0_ := a9_ (Kd.R_elder' (rp9 HO104.out) (Kd.R_base ho0) hb)
 have n1_ := a9_ (Kd.R_elder' (rp9 HO107.out) (Kd.R_base ho0) hb)
 have n2_ := a9_ (Kd.R_elder' (rp9 HO110.out) (Kd.R_base ho0) hb)
 have n3_ := a9_ (Kd.R_lower (Kd.R_new' (Kd.R_new' (Kd.R_new' ho0 (Kd.R_lt (rp9 HO104.out))) (Kd.R_lt (rp9 HO107.out))) (Kd.R_lt (rp9 HO110.out))) (below_size (bp9 HB.out)))
 have n4_ := a9_ (blk_below (kp9 BK101.out) hb)
 have n5_ := a9_ (below_step (bp9 HB.out) hb)
 clear HO104 HO107 HO110 BK101 HB
 revert n0_ n1_ n2_ n3_ n4_ n5_; intro HO104 HO107 HO110 HO113 BK101 HB
 (try clear hb)
 (try clear ho0)
 refine hK.out _ _ ⟨(blk_cell BK101.out 0).trans rfl, (blk_cell BK101.out 1).trans rfl, (blk_cell BK101.out 2).trans rfl, (blk_cell BK101.out 3).trans rfl, (blk_cell BK101.out 4).trans rfl, (blk_cell BK101.out 5).trans rfl, (blk_cell BK101.out 6).trans rfl⟩ (fun hHeld => ?_)
 clear hK K
 refine norm_ (a' := ?_) ?_ ?_
 rotate_left
 ·show Act.put _ (some 22) _ = _
  exact put9
 refine one_ (i := 7) (N := some 25) #[i9, i9, i9, i9, i9, i9, i9, i9, o9, o9] rfl rfl (one_of HT_.out (by kernel_rfl)) (by decide) (fun K hK => ?_)
 refine goes9 Try.func88 (by kernel_rfl) rfl #[.agg #[.slice A0_0 l0_0.length c0_0, .slice A0_1 l0_1.length c0_1, .slice A0_2 l0_2.length c0_2, .slice A0_3 l0_3.length c0_3, .slice A0_4 l0_4.length c0_4, .slice A0_5 l0_5.length c0_5, .slice A0_6 l0_6.length c0_6], .slice A1 l1.length c1] (by rfl) rfl rfl ?_
 with_reducible refine (dob_Rfi.calls k _ _ l0_0 _ _ l0_1 _ _ l0_2 _ _ l0_3 _ _ l0_4 _ _ l0_5 _ _ l0_6 _ _ l1 t114 _ ?side1 ?side2 ?side3 ?side4 ?side5 ?side6 ?side7 ?side8 ?side9 ?side10 ?side11 ?side12 ?side13 ?side14 ?side15 ?side16 A8.out).mono ?_
 (case side1 => exact cp9 HR0_0.out HB.out)
 (case side2 => exact HC0_0.out)
 (case side3 => exact cp9 HR0_1.out HB.out)
 (case side4 => exact HC0_1.out)
 (case side5 => exact cp9 HR0_2.out HB.out)
 (case side6 => exact HC0_2.out)
 (case side7 => exact cp9 HR0_3.out HB.out)
 (case side8 => exact HC0_3.out)
 (case side9 => exact cp9 HR0_4.out HB.out)
 (case side10 => exact HC0_4.out)
 (case side11 => exact cp9 HR0_5.out HB.out)
 (case side12 => exact HC0_5.out)
 (case side13 => exact cp9 HR0_6.out HB.out)
 (case side14 => exact HC0_6.out)
 (case side15 => exact cp9 HR1.out HB.out)
 (case side16 => exact HC1.out)
 rintro e w21 ⟨v115, rfl, ho0, hb⟩
 refine ⟨_, rfl, ?_⟩
 have n0_ := a9_ (Kd.R_elder' (rp9 HO104.out) (Kd.R_base ho0) hb)
 have n1_ := a9_ (Kd.R_elder' (rp9 HO107.out) (Kd.R_base ho0) hb)
 have n2_ := a9_ (Kd.R_elder' (rp9 HO110.out) (Kd.R_base ho0) hb)
 have n3_ := a9_ (Kd.R_elder' (rp9 HO113.out) (Kd.R_base ho0) hb)
 have n4_ := a9_ (Kd.R_lower (Kd.R_new' (Kd.R_new' (Kd.R_new' (Kd.R_new' ho0 (Kd.R_lt (rp9 HO104.out))) (Kd.R_lt (rp9 HO107.out))) (Kd.R_lt (rp9 HO110.out))) (Kd.R_lt (rp9 HO113.out))) (below_size (bp9 HB.out)))
 have n5_ := a9_ (blk_below (kp9 BK101.out) hb)
 have n6_ := a9_ (below_step (bp9 HB.out) hb)
 clear HO104 HO107 HO110 HO113 BK101 HB
 revert n0_ n1_ n2_ n3_ n4_ n5_ n6_; intro HO104 HO107 HO110 HO113 HO116 BK101 HB
 (try clear hb)
 (try clear ho0)
 obtain ⟨Ao22, co22, eo22⟩ := Kd.R_slice HO113.out
 (first | subst eo22 | (injection eo22 with f1_ f2_ f3_; have f4_ := f1_.symm; have f5_ := f3_.symm; clear f1_ f2_ f3_; subst f4_; subst f5_))
 obtain ⟨Ao23, co23, eo23⟩ := Kd.R_slice HO116.out
 (first | subst eo23 | (injection eo23 with f1_ f2_ f3_; have f4_ := f1_.symm; have f5_ := f3_.symm; clear f1_ f2_ f3_; subst f4_; subst f5_))
 refine hK.out _ _ ⟨(blk_cell BK101.out 0).trans rfl, (blk_cell BK101.out 1).trans rfl, (blk_cell BK101.out 2).trans rfl, (blk_cell BK101.out 3).trans rfl, (blk_cell BK101.out 4).trans rfl, (blk_cell BK101.out 5).trans rfl, (blk_cell BK101.out 6).trans rfl⟩ (fun hHeld => ?_)
 clear hK K
 refine norm_ (a' := ?_) ?_ ?_
 rotate_left
 ·show Act.put _ (some 25) _ = _
  exact put9
 refine one_ (i := 8) (N := some 26) #[i9, i9, i9, i9, i9, i9, i9, i9, i9, o9] rfl rfl (one_of HT_.out (by kernel_rfl)) (by decide) (fun K hK => ?_)
 refine goes9 Try.func62 (by kernel_rfl) rfl #[.slice Ao22 t111.length co22, .slice Ao23 t114.length co23] (by rfl) rfl rfl ?_
 with_reducible refine (rel_Seq.calls _ _ t111 _ _ t114 t117 _ ?side1 ?side2 ?side3 ?side4 A9.out).mono ?_
 (case side1 => exact lp9 (Kd.R_reads' HO113.out).2.2)
 (case side2 => exact (Kd.R_reads' HO113.out).2.1)
 (case side3 => exact lp9 (Kd.R_reads' HO116.out).2.2)
 (case side4 => exact (Kd.R_reads' HO116.out).2.1)
 rintro e w24 ⟨v118, rfl, ho0, hb⟩
 refine ⟨_, rfl, ?_⟩
 have n0_ := a9_ (Kd.R_elder' (rp9 HO104.out) (Kd.R_base ho0) hb)
 have n1_ := a9_ (Kd.R_elder' (rp9 HO107.out) (Kd.R_base ho0) hb)
 have n2_ := a9_ (Kd.R_elder' (rp9 HO110.out) (Kd.R_base ho0) hb)
 have n3_ := a9_ (Kd.R_elder' (rp9 HO113.out) (Kd.R_base ho0) hb)
 have n4_ := a9_ (Kd.R_elder' (rp9 HO116.out) (Kd.R_base ho0) hb)
 have n5_ := a9_ (Kd.R_lower (Kd.R_new' (Kd.R_new' (Kd.R_new' (Kd.R_new' (Kd.R_new' ho0 (Kd.R_lt (rp9 HO104.out))) (Kd.R_lt (rp9 HO107.out))) (Kd.R_lt (rp9 HO110.out))) (Kd.R_lt (rp9 HO113.out))) (Kd.R_lt (rp9 HO116.out))) (below_size (bp9 HB.out)))
 have n6_ := a9_ (blk_below (kp9 BK101.out) hb)
 have n7_ := a9_ (below_step (bp9 HB.out) hb)
 clear HO104 HO107 HO110 HO113 HO116 BK101 HB
 revert n0_ n1_ n2_ n3_ n4_ n5_ n6_ n7_; intro HO104 HO107 HO110 HO113 HO116 HO119 BK101 HB
 (try clear hb)
 (try clear ho0)
 refine hK.out _ _ ⟨(blk_cell BK101.out 0).trans rfl, (blk_cell BK101.out 1).trans rfl, (blk_cell BK101.out 2).trans rfl, (blk_cell BK101.out 3).trans rfl, (blk_cell BK101.out 4).trans rfl, (blk_cell BK101.out 5).trans rfl, (blk_cell BK101.out 6).trans rfl⟩ (fun hHeld => ?_)
 clear hK K
 refine norm_ (a' := ?_) ?_ ?_
 rotate_left
 ·show Act.put _ (some 26) _ = _
  exact put9
 refine pureA 9 (some 8) ?_ #[i9, i9, i9, i9, i9, i9, i9, i9, i9, i9] rfl rfl (any_of HT_.out (by kernel_rfl)) ?_ ?_ ?_ ?_
 rotate_left
 ·intro w'; go_simp; with_reducible rfl
 rotate_left
 ·exact put9
 refine done_ (done_of HT_.out (by kernel_rfl)) ?_
 try go_wp2
 have n0_ := a9_ (Kd.R_drew HO104.out)
 have n1_ := a9_ (Kd.R_drew HO107.out)
 have n2_ := a9_ (Kd.R_drew HO110.out)
 have n3_ := a9_ (Kd.R_drew HO113.out)
 have n4_ := a9_ (Kd.R_drew HO116.out)
 have n5_ := a9_ (Kd.R_drew HO119.out)
 have n6_ := a9_ (blk_drew BK101.out)
 have n7_ := a9_ (below_drew1 HB.out)
 clear HO104 HO107 HO110 HO113 HO116 HO119 BK101 HB
 revert n0_ n1_ n2_ n3_ n4_ n5_ n6_ n7_; intro HO104 HO107 HO110 HO113 HO116 HO119 BK101 HB
 refine start_ (n := 8) (S := fun w' => w'.cell? ⟨gb101, 0, none⟩ = some (.slice A0_0 l0_0.length c0_0) ∧ w'.cell? ⟨gb101, 1, none⟩ = some (.slice A0_1 l0_1.length c0_1) ∧ w'.cell? ⟨gb101, 2, none⟩ = some (.slice A0_2 l0_2.length c0_2) ∧ w'.cell? ⟨gb101, 3, none⟩ = some (.slice A0_3 l0_3.length c0_3) ∧ w'.cell? ⟨gb101, 4, none⟩ = some (.slice A0_4 l0_4.length c0_4) ∧ w'.cell? ⟨gb101, 5, none⟩ = some (.slice A0_5 l0_5.length c0_5) ∧ w'.cell? ⟨gb101, 6, none⟩ = some (.slice A0_6 l0_6.length c0_6)) (ds := []) #[o9, o9, o9, o9, o9, o9, o9, o9] (by kernel_rfl) rfl rfl ⟨(blk_cell BK101.out 0).trans rfl, (blk_cell BK101.out 1).trans rfl, (blk_cell BK101.out 2).trans rfl, (blk_cell BK101.out 3).trans rfl, (blk_cell BK101.out 4).trans rfl, (blk_cell BK101.out 5).trans rfl, (blk_cell BK101.out 6).trans rfl⟩ (fun hHeld => ?_); refine with_tabW dob_Dob.tab3 dob_Dob.bits3 (fun HT_ HW_ => ?_)
 generalize w24.drew = w25 at HO104 HO107 HO110 HO113 HO116 HO119 BK101 HB hHeld ⊢
 refine pureA 3 (some 30) ?_ #[o9, o9, o9, i9, o9, o9, o9, o9] rfl rfl (any_of HT_.out (by kernel_rfl)) ?_ ?_ ?_ ?_
 rotate_left
 ·intro w'; go_simp; with_reducible rfl
 rotate_left
 ·exact put9
 refine pureA 4 (some 31) ?_ #[o9, o9, o9, i9, i9, o9, o9, o9] rfl rfl (any_of HT_.out (by kernel_rfl)) ?_ ?_ ?_ ?_
 rotate_left
 ·intro w'; go_simp; with_reducible rfl
 rotate_left
 ·exact put9
 refine take_ (i := 0) (N := some 27) (v := ?_) (a' := ?_) #[i9, o9, o9, i9, i9, o9, o9, o9] rfl rfl (take_ofW HT_.out HW_.out (by kernel_rfl)) (fun _ _ _ h => h) (Or.inl ⟨by rfl, ?_⟩) hHeld ?_ ?_
 rotate_left
 ·rintro w' ⟨s0, s1, s2, s3, s4, s5, s6⟩
  go_simp
  with_reducible rfl
 rotate_left
 ·exact put9
 refine take_ (i := 1) (N := some 28) (v := ?_) (a' := ?_) #[i9, i9, o9, i9, i9, o9, o9, o9] rfl rfl (take_ofW HT_.out HW_.out (by kernel_rfl)) (fun _ _ _ h => h) (Or.inl ⟨by rfl, ?_⟩) hHeld ?_ ?_
 rotate_left
 ·rintro w' ⟨s0, s1, s2, s3, s4, s5, s6⟩
  go_simp
  with_reducible rfl
 rotate_left
 ·exact put9
 refine one_ (i := 2) (N := some 29) #[i9, i9, i9, i9, i9, o9, o9, o9] rfl rfl (one_of HT_.out (by kernel_rfl)) (by decide) (fun K hK => ?_)
 refine goes9 Try.func82 (by kernel_rfl) rfl #[.agg #[.slice A0_0 l0_0.length c0_0, .slice A0_1 l0_1.length c0_1, .slice A0_2 l0_2.length c0_2, .slice A0_3 l0_3.length c0_3, .slice A0_4 l0_4.length c0_4, .slice A0_5 l0_5.length c0_5, .slice A0_6 l0_6.length c0_6]] (by rfl) rfl rfl ?_
 with_reducible refine (dob_Static.calls k _ _ l0_0 _ _ l0_1 (fun k_ => k_ < w.heap.size) _ _ l0_2 (fun k_ => k_ < w.heap.size) _ _ l0_3 _ _ l0_4 _ _ l0_5 _ _ l0_6 t120 _ ?side1 ?side2 ?side3 ?side4 ?side5 ?side6 ?side7 ?side8 ?side9 ?side10 ?side11 ?side12 A10.out).mono ?_
 (case side1 => exact cp9 HR0_0.out HB.out)
 (case side2 => exact HC0_0.out)
 (case side3 => exact cp9 HR0_1.out HB.out)
 (case side4 => exact HC0_1.out)
 (case side5 => exact Kd.V_mk HC0_2.out (Kd.F_below (Kd.C_F (Kd.heap_int .u32) HR0_2.out) (bp9 HB.out)))
 (case side6 => exact Kd.V_mk HC0_3.out (Kd.F_below (Kd.C_F (Kd.heap_int .u32) HR0_3.out) (bp9 HB.out)))
 (case side7 => exact cp9 HR0_4.out HB.out)
 (case side8 => exact HC0_4.out)
 (case side9 => exact cp9 HR0_5.out HB.out)
 (case side10 => exact HC0_5.out)
 (case side11 => exact cp9 HR0_6.out HB.out)
 (case side12 => exact HC0_6.out)
 rintro e w26 ⟨v121, rfl, ho0, hb⟩
 refine ⟨_, rfl, ?_⟩
 have n0_ := a9_ (Kd.R_elder' (rp9 HO104.out) (Kd.R_base ho0) hb)
 have n1_ := a9_ (Kd.R_elder' (rp9 HO107.out) (Kd.R_base ho0) hb)
 have n2_ := a9_ (Kd.R_elder' (rp9 HO110.out) (Kd.R_base ho0) hb)
 have n3_ := a9_ (Kd.R_elder' (rp9 HO113.out) (Kd.R_base ho0) hb)
 have n4_ := a9_ (Kd.R_elder' (rp9 HO116.out) (Kd.R_base ho0) hb)
 have n5_ := a9_ (Kd.R_elder' (rp9 HO119.out) (Kd.R_base ho0) hb)
 have n6_ := a9_ (Kd.R_lower (Kd.R_new' (Kd.R_new' (Kd.R_new' (Kd.R_new' (Kd.R_new' (Kd.R_new' (Kd.R_mono (ok' := fun k_ => True) ho0 (fun _ hk_ => trivial)) (Kd.R_lt (rp9 HO104.out))) (Kd.R_lt (rp9 HO107.out))) (Kd.R_lt (rp9 HO110.out))) (Kd.R_lt (rp9 HO113.out))) (Kd.R_lt (rp9 HO116.out))) (Kd.R_lt (rp9 HO119.out))) (below_size (bp9 HB.out)))
 have n7_ := a9_ (blk_below (kp9 BK101.out) hb)
 have n8_ := a9_ (below_step (bp9 HB.out) hb)
 clear HO104 HO107 HO110 HO113 HO116 HO119 BK101 HB
 revert n0_ n1_ n2_ n3_ n4_ n5_ n6_ n7_ n8_; intro HO104 HO107 HO110 HO113 HO116 HO119 HO122 BK101 HB
 (try clear hb)
 (try clear ho0)
 obtain ⟨Ao27, co27, eo27⟩ := Kd.R_slice HO122.out
 (first | subst eo27 | (injection eo27 with f1_ f2_ f3_; have f4_ := f1_.symm; have f5_ := f3_.symm; clear f1_ f2_ f3_; subst f4_; subst f5_))
 obtain ⟨Ao28, co28, eo28⟩ := Kd.R_slice HO110.out
 (first | subst eo28 | (injection eo28 with f1_ f2_ f3_; have f4_ := f1_.symm; have f5_ := f3_.symm; clear f1_ f2_ f3_; subst f4_; subst f5_))
 obtain ⟨Ao29, co29, eo29⟩ := Kd.R_slice HO119.out
 (first | subst eo29 | (injection eo29 with f1_ f2_ f3_; have f4_ := f1_.symm; have f5_ := f3_.symm; clear f1_ f2_ f3_; subst f4_; subst f5_))
 refine hK.out _ _ ⟨(blk_cell BK101.out 0).trans rfl, (blk_cell BK101.out 1).trans rfl, (blk_cell BK101.out 2).trans rfl, (blk_cell BK101.out 3).trans rfl, (blk_cell BK101.out 4).trans rfl, (blk_cell BK101.out 5).trans rfl, (blk_cell BK101.out 6).trans rfl⟩ (fun hHeld => ?_)
 clear hK K
 refine norm_ (a' := ?_) ?_ ?_
 rotate_left
 ·show Act.put _ (some 29) _ = _
  exact put9
 refine one_ (i := 5) (N := some 32) #[i9, i9, i9, i9, i9, i9, o9, o9] rfl rfl (one_of HT_.out (by kernel_rfl)) (by decide) (fun K hK => ?_)
 refine Kd.N_lit_step (Kd.slice 52 (Kd.int .u32)) _ 28 ?hg (N' := 32) ?hd (xs := ([t120, t108, t117] : List (List Int))) (inner := [.slice Ao27 t120.length co27, .slice Ao28 t108.length co28, .slice Ao29 t117.length co29]) (ok := (fun k_ => some k_ ≠ (.slice Ao16 t102.length co16 : Value).ownBlock ∧ some k_ ≠ (.slice Ao17 t105.length co17 : Value).ownBlock ∧ some k_ ≠ (.slice Ao22 t111.length co22 : Value).ownBlock ∧ some k_ ≠ (.slice Ao23 t114.length co23 : Value).ownBlock ∧ k_ ≠ gb101)) (okp := (fun k_ => some k_ ≠ (.slice Ao16 t102.length co16 : Value).ownBlock ∧ some k_ ≠ (.slice Ao17 t105.length co17 : Value).ownBlock ∧ some k_ ≠ (.slice Ao22 t111.length co22 : Value).ownBlock ∧ some k_ ≠ (.slice Ao23 t114.length co23 : Value).ownBlock ∧ k_ ≠ gb101)) ?hr ?hp (fun _ hk => hk) ((show ∀ k_, w26.heap.size ≤ k_ → (fun k_ => some k_ ≠ (.slice Ao16 t102.length co16 : Value).ownBlock ∧ some k_ ≠ (.slice Ao17 t105.length co17 : Value).ownBlock ∧ some k_ ≠ (.slice Ao22 t111.length co22 : Value).ownBlock ∧ some k_ ≠ (.slice Ao23 t114.length co23 : Value).ownBlock ∧ k_ ≠ gb101) k_ from fun k_ hk => ⟨Kd.fresh' (Kd.R_lt (rp9 HO104.out)) k_ hk, Kd.fresh' (Kd.R_lt (rp9 HO107.out)) k_ hk, Kd.fresh' (Kd.R_lt (rp9 HO113.out)) k_ hk, Kd.fresh' (Kd.R_lt (rp9 HO116.out)) k_ hk, Kd.freshB (g := gb101) (o := .cells #[.slice A0_0 l0_0.length c0_0, .slice A0_1 l0_1.length c0_1, .slice A0_2 l0_2.length c0_2, .slice A0_3 l0_3.length c0_3, .slice A0_4 l0_4.length c0_4, .slice A0_5 l0_5.length c0_5, .slice A0_6 l0_6.length c0_6] 31 (0, 0)) (kp9 BK101.out) k_ hk⟩) _ (Nat.le_refl _)) (Below.refl _ _) (Nat.le_refl _) (by simp) ?_; (case hd => rfl); (case hg => rfl); (case hr => first | (go_simp; done) | (go_simp; rfl)); (case hp => exact (Reps.one (show Kd.FK (Kd.slice 52 (Kd.int .u32)) _ _ t120 [.slice Ao27 t120.length co27] from (Kd.FK_slice_mk (Kd.R_reads' (Kd.R_mono (ok' := (fun k_ => some k_ ≠ (.slice Ao16 t102.length co16 : Value).ownBlock ∧ some k_ ≠ (.slice Ao17 t105.length co17 : Value).ownBlock ∧ some k_ ≠ (.slice Ao22 t111.length co22 : Value).ownBlock ∧ some k_ ≠ (.slice Ao23 t114.length co23 : Value).ownBlock ∧ k_ ≠ gb101)) (Kd.R_types (HO122.out) BK101.out (by decide)) (fun k_ hk => ⟨hk.1.1.1.1.1.1.2, ⟨hk.1.1.1.1.1.2, ⟨hk.1.1.1.2, ⟨hk.1.1.2, hk.2⟩⟩⟩⟩))).2.1 (Kd.R_F (Kd.R_mono (ok' := (fun k_ => some k_ ≠ (.slice Ao16 t102.length co16 : Value).ownBlock ∧ some k_ ≠ (.slice Ao17 t105.length co17 : Value).ownBlock ∧ some k_ ≠ (.slice Ao22 t111.length co22 : Value).ownBlock ∧ some k_ ≠ (.slice Ao23 t114.length co23 : Value).ownBlock ∧ k_ ≠ gb101)) (Kd.R_types (HO122.out) BK101.out (by decide)) (fun k_ hk => ⟨hk.1.1.1.1.1.1.2, ⟨hk.1.1.1.1.1.2, ⟨hk.1.1.1.2, ⟨hk.1.1.2, hk.2⟩⟩⟩⟩))))) (Reps.one (show Kd.FK (Kd.slice 52 (Kd.int .u32)) _ _ t108 [.slice Ao28 t108.length co28] from (Kd.FK_slice_mk (Kd.R_reads' (Kd.R_mono (ok' := (fun k_ => some k_ ≠ (.slice Ao16 t102.length co16 : Value).ownBlock ∧ some k_ ≠ (.slice Ao17 t105.length co17 : Value).ownBlock ∧ some k_ ≠ (.slice Ao22 t111.length co22 : Value).ownBlock ∧ some k_ ≠ (.slice Ao23 t114.length co23 : Value).ownBlock ∧ k_ ≠ gb101)) (Kd.R_types (HO110.out) BK101.out (by decide)) (fun k_ hk => ⟨hk.1.1.1.1.1.1.2, ⟨hk.1.1.1.1.1.2, ⟨hk.1.1.1.1.2, ⟨hk.1.1.1.2, hk.2⟩⟩⟩⟩))).2.1 (Kd.R_F (Kd.R_mono (ok' := (fun k_ => some k_ ≠ (.slice Ao16 t102.length co16 : Value).ownBlock ∧ some k_ ≠ (.slice Ao17 t105.length co17 : Value).ownBlock ∧ some k_ ≠ (.slice Ao22 t111.length co22 : Value).ownBlock ∧ some k_ ≠ (.slice Ao23 t114.length co23 : Value).ownBlock ∧ k_ ≠ gb101)) (Kd.R_types (HO110.out) BK101.out (by decide)) (fun k_ hk => ⟨hk.1.1.1.1.1.1.2, ⟨hk.1.1.1.1.1.2, ⟨hk.1.1.1.1.2, ⟨hk.1.1.1.2, hk.2⟩⟩⟩⟩))))) (Reps.one (show Kd.FK (Kd.slice 52 (Kd.int .u32)) _ _ t117 [.slice Ao29 t117.length co29] from (Kd.FK_slice_mk (Kd.R_reads' (Kd.R_mono (ok' := (fun k_ => some k_ ≠ (.slice Ao16 t102.length co16 : Value).ownBlock ∧ some k_ ≠ (.slice Ao17 t105.length co17 : Value).ownBlock ∧ some k_ ≠ (.slice Ao22 t111.length co22 : Value).ownBlock ∧ some k_ ≠ (.slice Ao23 t114.length co23 : Value).ownBlock ∧ k_ ≠ gb101)) (Kd.R_types (HO119.out) BK101.out (by decide)) (fun k_ hk => ⟨hk.1.1.1.1.1.1.2, ⟨hk.1.1.1.1.1.2, ⟨hk.1.1.1.2, ⟨hk.1.1.2, hk.2⟩⟩⟩⟩))).2.1 (Kd.R_F (Kd.R_mono (ok' := (fun k_ => some k_ ≠ (.slice Ao16 t102.length co16 : Value).ownBlock ∧ some k_ ≠ (.slice Ao17 t105.length co17 : Value).ownBlock ∧ some k_ ≠ (.slice Ao22 t111.length co22 : Value).ownBlock ∧ some k_ ≠ (.slice Ao23 t114.length co23 : Value).ownBlock ∧ k_ ≠ gb101)) (Kd.R_types (HO119.out) BK101.out (by decide)) (fun k_ hk => ⟨hk.1.1.1.1.1.1.2, ⟨hk.1.1.1.1.1.2, ⟨hk.1.1.1.2, ⟨hk.1.1.2, hk.2⟩⟩⟩⟩))))) (Reps.none _ _)))))
 intro v124 w30 ho31 hb hg_ hnew_
 clear hg_ hnew_
 (first | rw [← Ny123.out] at ho31 | (simp only [Int.reduceToNat] at ho31; rw [← Ny123.out] at ho31))
 have n0_ := a9_ (Kd.R_below (rp9 HO104.out) hb)
 have n1_ := a9_ (Kd.R_below (rp9 HO107.out) hb)
 have n2_ := a9_ (Kd.R_below (rp9 HO113.out) hb)
 have n3_ := a9_ (Kd.R_below (rp9 HO116.out) hb)
 have n4_ := a9_ (Kd.N_lower ho31 (below_size (bp9 HB.out)))
 have n5_ := a9_ (blk_below (kp9 BK101.out) hb)
 have n6_ := a9_ (below_step (bp9 HB.out) hb)
 clear HO104 HO107 HO113 HO116 BK101 HB HO110 HO119 HO122
 revert n0_ n1_ n2_ n3_ n4_ n5_ n6_; intro HO104 HO107 HO113 HO116 HO125 BK101 HB
 clear hb ho31
 obtain ⟨Ao32, co32, eo32⟩ := Kd.N_slice HO125.out
 (first | subst eo32 | (injection eo32 with f1_ f2_ f3_; have f4_ := f1_.symm; have f5_ := f3_.symm; clear f1_ f2_ f3_; subst f4_; subst f5_))
 refine hK.out _ _ ⟨(blk_cell BK101.out 0).trans rfl, (blk_cell BK101.out 1).trans rfl, (blk_cell BK101.out 2).trans rfl, (blk_cell BK101.out 3).trans rfl, (blk_cell BK101.out 4).trans rfl, (blk_cell BK101.out 5).trans rfl, (blk_cell BK101.out 6).trans rfl⟩ (fun hHeld => ?_)
 clear hK K
 refine norm_ (a' := ?_) ?_ ?_
 rotate_left
 ·show Act.put _ (some 32) _ = _
  exact put9
 refine one_ (i := 6) (N := some 33) #[i9, i9, i9, i9, i9, i9, i9, o9] rfl rfl (one_of HT_.out (by kernel_rfl)) (by decide) (fun K hK => ?_)
 refine goes9 Try.func132 (by kernel_rfl) rfl #[.agg #[.slice A0_0 l0_0.length c0_0, .slice A0_1 l0_1.length c0_1, .slice A0_2 l0_2.length c0_2, .slice A0_3 l0_3.length c0_3, .slice A0_4 l0_4.length c0_4, .slice A0_5 l0_5.length c0_5, .slice A0_6 l0_6.length c0_6], .slice Ao32 y123.length co32] (by rfl) rfl rfl ?_
 with_reducible refine (dob_all.calls k _ _ l0_0 _ _ l0_1 _ _ l0_2 _ _ l0_3 _ _ l0_4 _ _ l0_5 _ _ l0_6 _ _ y123 t126 _ ?side1 ?side2 ?side3 ?side4 ?side5 ?side6 ?side7 ?side8 ?side9 ?side10 ?side11 ?side12 ?side13 ?side14 ?side15 ?side16 A11.out).mono ?_
 (case side1 => exact cp9 HR0_0.out HB.out)
 (case side2 => exact HC0_0.out)
 (case side3 => exact cp9 HR0_1.out HB.out)
 (case side4 => exact HC0_1.out)
 (case side5 => exact cp9 HR0_2.out HB.out)
 (case side6 => exact HC0_2.out)
 (case side7 => exact cp9 HR0_3.out HB.out)
 (case side8 => exact HC0_3.out)
 (case side9 => exact cp9 HR0_4.out HB.out)
 (case side10 => exact HC0_4.out)
 (case side11 => exact cp9 HR0_5.out HB.out)
 (case side12 => exact HC0_5.out)
 (case side13 => exact cp9 HR0_6.out HB.out)
 (case side14 => exact HC0_6.out)
 (case side15 => exact lp9 (Kd.N_reads' HO125.out).2.2)
 (case side16 => exact (Kd.N_reads' HO125.out).2.1)
 rintro e w33 ⟨v127, rfl, ho0, hb⟩
 refine ⟨_, rfl, ?_⟩
 have n0_ := a9_ (Kd.R_elder' (rp9 HO104.out) (Kd.R_base ho0) hb)
 have n1_ := a9_ (Kd.R_elder' (rp9 HO107.out) (Kd.R_base ho0) hb)
 have n2_ := a9_ (Kd.R_elder' (rp9 HO113.out) (Kd.R_base ho0) hb)
 have n3_ := a9_ (Kd.R_elder' (rp9 HO116.out) (Kd.R_base ho0) hb)
 have n4_ := a9_ (Kd.N_elder' (by (with_reducible repeat (first | apply Kd.N_alloc | apply Kd.N_drewN | apply Kd.N_drew)); exact HO125.out) (Kd.R_base ho0) hb)
 have n5_ := a9_ (Kd.R_lower (Kd.R_new' (Kd.R_new' (Kd.R_new' (Kd.R_new' ho0 (Kd.R_lt (rp9 HO104.out))) (Kd.R_lt (rp9 HO107.out))) (Kd.R_lt (rp9 HO113.out))) (Kd.R_lt (rp9 HO116.out))) (below_size (bp9 HB.out)))
 have n6_ := a9_ (blk_below (kp9 BK101.out) hb)
 have n7_ := a9_ (below_step (bp9 HB.out) hb)
 clear HO104 HO107 HO113 HO116 HO125 BK101 HB
 revert n0_ n1_ n2_ n3_ n4_ n5_ n6_ n7_; intro HO104 HO107 HO113 HO116 HO125 HO128 BK101 HB
 (try clear hb)
 (try clear ho0)
 refine hK.out _ _ ⟨(blk_cell BK101.out 0).trans rfl, (blk_cell BK101.out 1).trans rfl, (blk_cell BK101.out 2).trans rfl, (blk_cell BK101.out 3).trans rfl, (blk_cell BK101.out 4).trans rfl, (blk_cell BK101.out 5).trans rfl, (blk_cell BK101.out 6).trans rfl⟩ (fun hHeld => ?_)
 clear hK K
 refine norm_ (a' := ?_) ?_ ?_
 rotate_left
 ·show Act.put _ (some 33) _ = _
  exact put9
 refine pureA 7 (some 6) ?_ #[i9, i9, i9, i9, i9, i9, i9, i9] rfl rfl (any_of HT_.out (by kernel_rfl)) ?_ ?_ ?_ ?_
 rotate_left
 ·intro w'; go_simp; with_reducible rfl
 rotate_left
 ·exact put9
 refine done_ (done_of HT_.out (by kernel_rfl)) ?_
 try go_wp2
 go_ret
 exact ⟨_, rt9, by (with_reducible repeat (first | apply Kd.R_alloc | apply Kd.R_drewN | apply Kd.R_drew)); exact Kd.R_mono HO128.out (fun _ hk => trivial), bp9 HB.out⟩
end Go.Proofs.Ytbamkkdikeedoaa.G
