-- Written by drive.py, a program of this seat's session, out of the translation.
import Derived.Test.YtbamkkdikeedoaaG0
import Derived.Test.YtbamkkdikeedoaaGDob
import Derived.Test.YtbamkkdikeedoaaGRel
import Derived.Test.YtbamkkdikeedoaaHandExec
import Derived.Test.YtbamkkdikeedoaaHandRel
import Derived.Test.YtbamkkdikeedoaaHandCz
namespace Go.Proofs.Ytbamkkdikeedoaa.G
open Go.RowKit Go.Proofs.YtbamkkdikeedoaaW.PrintWords Go.Proofs.YtbamkkdikeedoaaW.PrintLast Go.Proofs.YtbamkkdikeedoaaW.PrintMore
set_option maxHeartbeats 8000000
set_option maxRecDepth 100000
set_option linter.unusedVariables false
set_option linter.unusedSimpArgs false
def bob_all.l0 : Nat → List Int → List (List Int) → Int → Int → List (S26) → List Int → List Int → List Int → List Int → List Int → List (List Int) → Option (List Int)
 | 0, _, _, _, _, _, _, _, _, _, _, _ => none
 | k + 1, x5, x12, x13, x14, x102000, x102001, x102002, x102003, x102004, x102005, x102006 => if x14 < x13 then (if 0 ≤ x14 then (if x14 < (x12.length : Int) then ((rel_Or.f x5 (rd_L7 x12 x14)).bind fun t106 => (bob_all.l0 k t106 x12 x13 (wrap64 (x14 + 1)) x102000 x102001 x102002 x102003 x102004 x102005 x102006)) else (none)) else (none)) else ((dob_Memory.f k x102000 x102001 x102002 x102003 x102004 x102005 x102006 x5).bind fun t109 => (some t109))
def bob_all.f (k : Nat) (l0_0 : List (S26)) (l0_1 : List Int) (l0_2 : List Int) (l0_3 : List Int) (l0_4 : List Int) (l0_5 : List Int) (l0_6 : List (List Int)) (l1 : List (List Int)) : Option (List Int) := (rel_New.f (l0_0.length : Int)).bind fun t102 => (bob_all.l0 k t102 l1 (l1.length : Int) 0 l0_0 l0_1 l0_2 l0_3 l0_4 l0_5 l0_6)
theorem bob_all.mono_l : ∀ k, (∀ y0 y1 y2 y3 y4 y5 y6 y7 y8 y9 y10, LeO (bob_all.l0 k y0 y1 y2 y3 y4 y5 y6 y7 y8 y9 y10) (bob_all.l0 (k + 1) y0 y1 y2 y3 y4 y5 y6 y7 y8 y9 y10))
 | 0 => fun _ _ _ _ _ _ _ _ _ _ _ r h => by simp [bob_all.l0] at h
 | k + 1 => by
  have ih0 := bob_all.mono_l k
  ·intro y0 y1 y2 y3 y4 y5 y6 y7 y8 y9 y10
   unfold bob_all.l0
   repeat' (with_reducible first | exact ih0 _ _ _ _ _ _ _ _ _ _ _ | exact dob_Memory.mono _ _ _ _ _ _ _ _ _ | exact LeO.refl _ | exact LeO.none _ | refine LeO.ite ?_ ?_ | refine LeO.bind ?_ (fun _ => ?_))
theorem bob_all.mono : ∀ a0 a1 a2 a3 a4 a5 a6 a7 k, LeO (bob_all.f k a0 a1 a2 a3 a4 a5 a6 a7) (bob_all.f (k + 1) a0 a1 a2 a3 a4 a5 a6 a7) := by
 intro a0 a1 a2 a3 a4 a5 a6 a7 k
 have ih0 := bob_all.mono_l k
 unfold bob_all.f
 repeat' (with_reducible first | exact ih0 _ _ _ _ _ _ _ _ _ _ _ | exact dob_Memory.mono _ _ _ _ _ _ _ _ _ | exact LeO.refl _ | exact LeO.none _ | refine LeO.ite ?_ ?_ | refine LeO.bind ?_ (fun _ => ?_))
theorem bob_all.calls (k : Nat) (A0_0 : Option Addr) (c0_0 : Nat) (l0_0 : List (S26)) (A0_1 : Option Addr) (c0_1 : Nat) (l0_1 : List Int) (A0_2 : Option Addr) (c0_2 : Nat) (l0_2 : List Int) (A0_3 : Option Addr) (c0_3 : Nat) (l0_3 : List Int) (A0_4 : Option Addr) (c0_4 : Nat) (l0_4 : List Int) (A0_5 : Option Addr) (c0_5 : Nat) (l0_5 : List Int) (A0_6 : Option Addr) (c0_6 : Nat) (l0_6 : List (List Int)) (A1 : Option Addr) (c1 : Nat) (l1 : List (List Int)) (r : List Int) (w : World) (hr0_0 : Kd.C k26 w A0_0 l0_0.length l0_0) (hc0_0 : l0_0.length ≤ c0_0) (hr0_1 : Kd.C (Kd.int .u32) w A0_1 l0_1.length l0_1) (hc0_1 : l0_1.length ≤ c0_1) (hr0_2 : Kd.C (Kd.int .u32) w A0_2 l0_2.length l0_2) (hc0_2 : l0_2.length ≤ c0_2) (hr0_3 : Kd.C (Kd.int .u32) w A0_3 l0_3.length l0_3) (hc0_3 : l0_3.length ≤ c0_3) (hr0_4 : Kd.C (Kd.int .u32) w A0_4 l0_4.length l0_4) (hc0_4 : l0_4.length ≤ c0_4) (hr0_5 : Kd.C (Kd.int .u32) w A0_5 l0_5.length l0_5) (hc0_5 : l0_5.length ≤ c0_5) (hr0_6 : Kd.C (Kd.slice 2 (Kd.int .i64)) w A0_6 l0_6.length l0_6) (hc0_6 : l0_6.length ≤ c0_6) (hr1 : Kd.C (Kd.slice 52 (Kd.int .u32)) w A1 l1.length l1) (hc1 : l1.length ≤ c1) (h : bob_all.f k l0_0 l0_1 l0_2 l0_3 l0_4 l0_5 l0_6 l1 = some r) :
  Calls Try.prog 126 #[.agg #[.slice A0_0 l0_0.length c0_0, .slice A0_1 l0_1.length c0_1, .slice A0_2 l0_2.length c0_2, .slice A0_3 l0_3.length c0_3, .slice A0_4 l0_4.length c0_4, .slice A0_5 l0_5.length c0_5, .slice A0_6 l0_6.length c0_6], .slice A1 l1.length c1] w fun e w' => ∃ v0_ : Value, e = .returned (v0_) ∧ Kd.R (Kd.int .u32) 52 w' w.heap.size (fun _ => True) v0_ r ∧ Below w.heap.size w w' := by
 have hu31 := Try.underlying31
 have HR0_0 := a9_ hr0_0
 have HC0_0 := a9_ hc0_0
 clear hr0_0 hc0_0
 have HR0_1 := a9_ hr0_1
 have HC0_1 := a9_ hc0_1
 clear hr0_1 hc0_1
 have HR0_2 := a9_ hr0_2
 have HC0_2 := a9_ hc0_2
 clear hr0_2 hc0_2
 have HR0_3 := a9_ hr0_3
 have HC0_3 := a9_ hc0_3
 clear hr0_3 hc0_3
 have HR0_4 := a9_ hr0_4
 have HC0_4 := a9_ hc0_4
 clear hr0_4 hc0_4
 have HR0_5 := a9_ hr0_5
 have HC0_5 := a9_ hc0_5
 clear hr0_5 hc0_5
 have HR0_6 := a9_ hr0_6
 have HC0_6 := a9_ hc0_6
 clear hr0_6 hc0_6
 have HR1 := a9_ hr1
 have HC1 := a9_ hc1
 clear hr1 hc1
 have HB := a9_ (Below.refl w.heap.size w)
 have H : ((rel_New.f (l0_0.length : Int)).bind fun t102 => (bob_all.l0 k t102 l1 (l1.length : Int) 0 l0_0 l0_1 l0_2 l0_3 l0_4 l0_5 l0_6)) = some r := h
 clear h
 replace H := Option.bind_eq_some_iff.mp H
 obtain ⟨t102, A30, H⟩ := H
 have A3 := a9_ A30
 clear A30
 have H' := a9_ H
 clear H
 go_enter Try.func126, Try.ntmps126
 go_wp2_with (first | ((with_reducible refine gate_dst (N := 2) rfl ?_); refine box9 (N := 2) (cs := #[.slice A0_0 l0_0.length c0_0, .slice A0_1 l0_1.length c0_1, .slice A0_2 l0_2.length c0_2, .slice A0_3 l0_3.length c0_3, .slice A0_4 l0_4.length c0_4, .slice A0_5 l0_5.length c0_5, .slice A0_6 l0_6.length c0_6]) (t := 31) ?_; intro gb101 hg w4 hbox hb; have n0_ := a9_ (below_step (bp9 HB.out) hb); have n1_ := a9_ (hbox); have n2_ := a9_ ((by rw [hg]; exact (below_size (bp9 HB.out)) : w.heap.size ≤ gb101)); have n3_ := n2_; clear HB; have HB := n0_; have BK101 := n1_; have GW101 := n2_; have GE101 := n3_; clear n0_ n1_ n2_ n3_; clear hb hbox hg; obtain ⟨hcz5_0, hcz5_1, hcz5_2, hcz5_3, hcz5_4, hcz5_5, hcz5_6, hfz5_0, hfz5_1, hfz5_2, hfz5_3, hfz5_4, hfz5_5, hfz5_6⟩ := cz7 BK101.out) | ((with_reducible refine gate_callee (f := 37) rfl ?_); refine goesL9 (some 11) rfl rfl Try.func37 (by kernel_rfl) rfl #[.int .i64 (l0_0.length : Int)] rfl ?_; (with_reducible refine (rel_New.calls (l0_0.length : Int) t102 _ A3.out).mono ?_); rintro e w6 ⟨v103, rfl, ho0, hb⟩; refine ⟨_, rfl, ?_⟩; have n0_ := a9_ (Kd.R_lower ho0 (below_size (bp9 HB.out))); have n1_ := a9_ (blk_below (kp9 BK101.out) hb); have n2_ := a9_ (below_step (bp9 HB.out) hb); clear BK101; clear HB; have HO104 := n0_; have BK101 := n1_; have HB := n2_; clear n0_ n1_ n2_; (try clear hb); (try clear ho0)))
 go_loopg [5, 14] k (fun kq v5 v14 w' => ∃ (x5_1 : List Int) (x14_1 : Int), v14 = .int .i64 x14_1 ∧ Aside0 (bob_all.l0 kq x5_1 l1 (l1.length : Int) x14_1 l0_0 l0_1 l0_2 l0_3 l0_4 l0_5 l0_6 = some r) ∧ Aside0 (kq ≤ k) ∧ Aside0 (Kd.R (Kd.int .u32) 52 w' w.heap.size (fun _ => True) v5 x5_1) ∧ Aside0 (w'.heap[gb101]? = some (.cells #[(.slice A0_0 l0_0.length c0_0), (.slice A0_1 l0_1.length c0_1), (.slice A0_2 l0_2.length c0_2), (.slice A0_3 l0_3.length c0_3), (.slice A0_4 l0_4.length c0_4), (.slice A0_5 l0_5.length c0_5), (.slice A0_6 l0_6.length c0_6)] 31 (0, 0))) ∧ Aside0 (Below w.heap.size w w'))
 case atStart => exact ⟨(t102), (0), rs9, H', ⟨Nat.le_refl _⟩, ⟨rp9 HO104.out⟩, ⟨kp9 BK101.out⟩, ⟨bp9 HB.out⟩⟩
 case round =>
  clear H'
  try clear c1
  try clear p2
  try clear c3
  try clear hcz5_0 hcz5_1 hcz5_2 hcz5_3 hcz5_4 hcz5_5 hcz5_6
  try clear hfz5_0 hfz5_1 hfz5_2 hfz5_3 hfz5_4 hfz5_5 hfz5_6
  obtain ⟨x5_1, x14_1, rfl, HA, HK1, HO_5, BK101, HB⟩ := hrel
  cases gk with
  | zero => exact absurd HA.out (by simp [bob_all.l0])
  | succ k1 =>
   have H := HA.out
   clear HA
   simp only [bob_all.l0] at H
   by_cases c7 : x14_1 < (l1.length : Int)
   ·rw [if_pos c7] at H
    have c7b0 : decide (x14_1 < (l1.length : Int)) = true := decide_eq_true c7
    clear c7
    by_cases c8 : 0 ≤ x14_1
    ·rw [if_pos c8] at H
     have c8b0 : decide (0 ≤ x14_1) = true := decide_eq_true c8
     clear c8
     by_cases c9 : x14_1 < (l1.length : Int)
     ·rw [if_pos c9] at H
      have c9b0 : decide (x14_1 < (l1.length : Int)) = true := decide_eq_true c9
      clear c9
      replace H := Option.bind_eq_some_iff.mp H
      obtain ⟨t106, A100, H⟩ := H
      have A10 := a9_ A100
      clear A100
      have H' := a9_ H
      clear H
      have p105 : 0 ≤ (x14_1 : Int) := of_decide_eq_true (by first | (with_reducible assumption) | assumption)
      have q105 : x14_1 < (l1.length : Int) := of_decide_eq_true (by first | (with_reducible assumption) | assumption)
      obtain ⟨ad105, A105_0, c105_0, e105, hx105_0, hl105_0, hi105_0⟩ := at_L7 HR1.out x14_1 p105 q105
      cases e105
      replace hx105_0 := hb9 HB.out hx105_0
      have HR105_0 := a9_ hi105_0
      have HC105_0 := a9_ hl105_0
      clear hi105_0 hl105_0
      replace p105 := eq_true p105
      replace q105 := eq_true q105
      obtain ⟨Ao11, co11, eo11⟩ := Kd.R_slice HO_5.out
      subst eo11
      go_wp2_with (first | ((with_reducible refine gate_callee (f := 58) rfl ?_); refine goesL9 (some 20) rfl rfl Try.func58 (by kernel_rfl) rfl #[.slice Ao11 x5_1.length co11, .slice A105_0 (rd_L7 l1 x14_1).length c105_0] rfl ?_; (with_reducible refine (rel_Or.calls _ _ x5_1 _ _ (rd_L7 l1 x14_1) t106 _ ?side1 ?side2 ?side3 ?side4 A10.out).mono ?_); (case side1 => exact lp9 (Kd.R_reads' HO_5.out).2.2); (case side2 => exact (Kd.R_reads' HO_5.out).2.1); (case side3 => exact cp9 HR105_0.out HB.out); (case side4 => exact HC105_0.out); rintro e w12 ⟨v107, rfl, ho0, hb⟩; refine ⟨_, rfl, ?_⟩; have n0_ := a9_ (Kd.R_elder' (rp9 HO_5.out) (Kd.R_base ho0) hb); have n1_ := a9_ (Kd.R_lower (Kd.R_new' ho0 (Kd.R_lt (rp9 HO_5.out))) (below_size (bp9 HB.out))); have n2_ := a9_ (blk_below (kp9 BK101.out) hb); have n3_ := a9_ (below_step (bp9 HB.out) hb); clear HO_5; clear BK101; clear HB; have HO_5 := n0_; have HO108 := n1_; have BK101 := n2_; have HB := n3_; clear n0_ n1_ n2_ n3_; (try clear hb); (try clear ho0)))
      go_roundg k1
      case measure => have := HK1.out; omega
      case rel => exact ⟨(t106), (wrap64 (x14_1 + 1)), rs9, H', ⟨by have := HK1.out; omega⟩, ⟨by (with_reducible repeat (first | apply Kd.R_alloc | apply Kd.R_drewN | apply Kd.R_drew)); exact Kd.R_mono HO108.out (fun _ hk => trivial)⟩, ⟨kp9 BK101.out⟩, ⟨bp9 HB.out⟩⟩
     ·rw [if_neg c9] at H
      exact absurd H (by simp)
    ·rw [if_neg c8] at H
     exact absurd H (by simp)
   ·rw [if_neg c7] at H
    have c7b0 : decide (x14_1 < (l1.length : Int)) = false := decide_eq_false c7
    clear c7
    replace H := Option.bind_eq_some_iff.mp H
    obtain ⟨t109, A130, H⟩ := H
    have A13 := a9_ A130
    clear A130
    obtain rfl := Option.some.inj H
    obtain ⟨hcz14_0, hcz14_1, hcz14_2, hcz14_3, hcz14_4, hcz14_5, hcz14_6, hfz14_0, hfz14_1, hfz14_2, hfz14_3, hfz14_4, hfz14_5, hfz14_6⟩ := cz7 BK101.out
    obtain ⟨Ao15, co15, eo15⟩ := Kd.R_slice HO_5.out
    subst eo15
    go_wp2_with (first | ((with_reducible refine gate_callee (f := 84) rfl ?_); refine goesL9 (some 24) rfl rfl Try.func84 (by kernel_rfl) rfl #[.agg #[.slice A0_0 l0_0.length c0_0, .slice A0_1 l0_1.length c0_1, .slice A0_2 l0_2.length c0_2, .slice A0_3 l0_3.length c0_3, .slice A0_4 l0_4.length c0_4, .slice A0_5 l0_5.length c0_5, .slice A0_6 l0_6.length c0_6], .slice Ao15 x5_1.length co15] rfl ?_; (with_reducible refine (dob_Memory.calls k1 _ _ l0_0 _ _ l0_1 _ _ l0_2 _ _ l0_3 _ _ l0_4 _ _ l0_5 _ _ l0_6 _ _ x5_1 t109 _ ?side1 ?side2 ?side3 ?side4 ?side5 ?side6 ?side7 ?side8 ?side9 ?side10 ?side11 ?side12 ?side13 ?side14 ?side15 ?side16 A13.out).mono ?_); (case side1 => exact cp9 HR0_0.out HB.out); (case side2 => exact HC0_0.out); (case side3 => exact cp9 HR0_1.out HB.out); (case side4 => exact HC0_1.out); (case side5 => exact cp9 HR0_2.out HB.out); (case side6 => exact HC0_2.out); (case side7 => exact cp9 HR0_3.out HB.out); (case side8 => exact HC0_3.out); (case side9 => exact cp9 HR0_4.out HB.out); (case side10 => exact HC0_4.out); (case side11 => exact cp9 HR0_5.out HB.out); (case side12 => exact HC0_5.out); (case side13 => exact cp9 HR0_6.out HB.out); (case side14 => exact HC0_6.out); (case side15 => exact lp9 (Kd.R_reads' HO_5.out).2.2); (case side16 => exact (Kd.R_reads' HO_5.out).2.1); rintro e w16 ⟨v110, rfl, ho0, hb⟩; refine ⟨_, rfl, ?_⟩; have n0_ := a9_ (Kd.R_elder' (rp9 HO_5.out) (Kd.R_base ho0) hb); have n1_ := a9_ (Kd.R_lower (Kd.R_new' ho0 (Kd.R_lt (rp9 HO_5.out))) (below_size (bp9 HB.out))); have n2_ := a9_ (blk_below (kp9 BK101.out) hb); have n3_ := a9_ (below_step (bp9 HB.out) hb); clear HO_5; clear BK101; clear HB; have HO_5 := n0_; have HO111 := n1_; have BK101 := n2_; have HB := n3_; clear n0_ n1_ n2_ n3_; (try clear hb); (try clear ho0)))
    go_ret
    exact ⟨_, rt9, by (with_reducible repeat (first | apply Kd.R_alloc | apply Kd.R_drewN | apply Kd.R_drew)); exact Kd.R_mono HO111.out (fun _ hk => trivial), bp9 HB.out⟩
def bob_over.f (k : Nat) (l0_0 : List (S26)) (l0_1 : List Int) (l0_2 : List Int) (l0_3 : List Int) (l0_4 : List Int) (l0_5 : List Int) (l0_6 : List (List Int)) (a1 : Int) (a2 : Int) (a3 : Int) : Option (List Int) := (exec_Kinds.f l0_0 l0_1 l0_2 l0_3 l0_4 l0_5 l0_6 (([a2] : List Int))).bind fun t105 => ((rel_Only.f k l0_1 a1 t105).bind fun t106 => ((rel_Only.f k l0_1 t105 a3).bind fun t109 => ((rel_Seq.f t106 t109).bind fun t112 => (some t112))))
theorem bob_over.mono : ∀ a0 a1 a2 a3 a4 a5 a6 a7 a8 a9 k, LeO (bob_over.f k a0 a1 a2 a3 a4 a5 a6 a7 a8 a9) (bob_over.f (k + 1) a0 a1 a2 a3 a4 a5 a6 a7 a8 a9) := by
 intro a0 a1 a2 a3 a4 a5 a6 a7 a8 a9 k
 unfold bob_over.f
 repeat' (with_reducible first | exact rel_Only.mono _ _ _ _ | exact LeO.refl _ | exact LeO.none _ | refine LeO.ite ?_ ?_ | refine LeO.bind ?_ (fun _ => ?_))
def bob_over.T2 : Bool × List (List Nat × List Nat) := (true, [([], []), ([0], [0]), ([], []), ([], []), ([1, 2, 3], [1, 2, 3]), ([], []), ([5], [5]), ([], []), ([], []), ([6, 7, 8, 4], [6, 7, 8]), ([4, 9, 9], [4, 9]), ([10, 10, 0, 1, 2, 3, 4, 5, 6, 7, 8, 9, 10], [10])])
def bob_over.B2 : List Nat := [0, 1, 0, 0, 15, 0, 32, 0, 0, 511, 1023, 2047]
theorem bob_over.tab2 : rtab .any (opsOf Try.f127 2) = bob_over.T2 := by kernel_rfl
theorem bob_over.bits2 : waitsOk bob_over.T2.2 bob_over.B2 = true := by kernel_rfl
theorem bob_over.calls (k : Nat) (A0_0 : Option Addr) (c0_0 : Nat) (l0_0 : List (S26)) (A0_1 : Option Addr) (c0_1 : Nat) (l0_1 : List Int) (A0_2 : Option Addr) (c0_2 : Nat) (l0_2 : List Int) (A0_3 : Option Addr) (c0_3 : Nat) (l0_3 : List Int) (A0_4 : Option Addr) (c0_4 : Nat) (l0_4 : List Int) (A0_5 : Option Addr) (c0_5 : Nat) (l0_5 : List Int) (A0_6 : Option Addr) (c0_6 : Nat) (l0_6 : List (List Int)) (a1 : Int) (a2 : Int) (a3 : Int) (r : List Int) (w : World) (hr0_0 : Kd.C k26 w A0_0 l0_0.length l0_0) (hc0_0 : l0_0.length ≤ c0_0) (hr0_1 : Kd.C (Kd.int .u32) w A0_1 l0_1.length l0_1) (hc0_1 : l0_1.length ≤ c0_1) (hr0_2 : Kd.C (Kd.int .u32) w A0_2 l0_2.length l0_2) (hc0_2 : l0_2.length ≤ c0_2) (hr0_3 : Kd.C (Kd.int .u32) w A0_3 l0_3.length l0_3) (hc0_3 : l0_3.length ≤ c0_3) (hr0_4 : Kd.C (Kd.int .u32) w A0_4 l0_4.length l0_4) (hc0_4 : l0_4.length ≤ c0_4) (hr0_5 : Kd.C (Kd.int .u32) w A0_5 l0_5.length l0_5) (hc0_5 : l0_5.length ≤ c0_5) (hr0_6 : Kd.C (Kd.slice 2 (Kd.int .i64)) w A0_6 l0_6.length l0_6) (hc0_6 : l0_6.length ≤ c0_6) (h : bob_over.f k l0_0 l0_1 l0_2 l0_3 l0_4 l0_5 l0_6 a1 a2 a3 = some r) :
  Calls Try.prog 127 #[.agg #[.slice A0_0 l0_0.length c0_0, .slice A0_1 l0_1.length c0_1, .slice A0_2 l0_2.length c0_2, .slice A0_3 l0_3.length c0_3, .slice A0_4 l0_4.length c0_4, .slice A0_5 l0_5.length c0_5, .slice A0_6 l0_6.length c0_6], .int .u32 a1, .int .i64 a2, .int .u32 a3] w fun e w' => ∃ v0_ : Value, e = .returned (v0_) ∧ Kd.R (Kd.int .u32) 52 w' w.heap.size (fun _ => True) v0_ r ∧ Below w.heap.size w w' := by
 have hu31 := Try.underlying31
 have HR0_0 := a9_ hr0_0
 have HC0_0 := a9_ hc0_0
 clear hr0_0 hc0_0
 have HR0_1 := a9_ hr0_1
 have HC0_1 := a9_ hc0_1
 clear hr0_1 hc0_1
 have HR0_2 := a9_ hr0_2
 have HC0_2 := a9_ hc0_2
 clear hr0_2 hc0_2
 have HR0_3 := a9_ hr0_3
 have HC0_3 := a9_ hc0_3
 clear hr0_3 hc0_3
 have HR0_4 := a9_ hr0_4
 have HC0_4 := a9_ hc0_4
 clear hr0_4 hc0_4
 have HR0_5 := a9_ hr0_5
 have HC0_5 := a9_ hc0_5
 clear hr0_5 hc0_5
 have HR0_6 := a9_ hr0_6
 have HC0_6 := a9_ hc0_6
 clear hr0_6 hc0_6
 have HB := a9_ (Below.refl w.heap.size w)
 have H : ((exec_Kinds.f l0_0 l0_1 l0_2 l0_3 l0_4 l0_5 l0_6 (([a2] : List Int))).bind fun t105 => ((rel_Only.f k l0_1 a1 t105).bind fun t106 => ((rel_Only.f k l0_1 t105 a3).bind fun t109 => ((rel_Seq.f t106 t109).bind fun t112 => (some t112))))) = some r := h
 clear h
 obtain ⟨y102, hy102⟩ : ∃ y_ : List Int, y_ = (([a2] : List Int)) := ⟨_, rfl⟩
 replace H : ((exec_Kinds.f l0_0 l0_1 l0_2 l0_3 l0_4 l0_5 l0_6 y102).bind fun t105 => ((rel_Only.f k l0_1 a1 t105).bind fun t106 => ((rel_Only.f k l0_1 t105 a3).bind fun t109 => ((rel_Seq.f t106 t109).bind fun t112 => (some t112))))) = some r := by first | (rw [hy102]; with_reducible exact H) | (have H2_ := (Option.bind_some _ _).symm.trans H; rw [hy102]; with_reducible exact H2_) | (have H2_ := (Option.bind_some _ _).symm.trans H; with_reducible exact H2_) | with_reducible exact H | (rw [hy102]; exact H) | exact H
 have Ny102 := a9_ hy102
 clear hy102
 replace H := Option.bind_eq_some_iff.mp H
 obtain ⟨t105, A50, H⟩ := H
 have A5 := a9_ A50
 clear A50
 replace H := Option.bind_eq_some_iff.mp H
 obtain ⟨t106, A60, H⟩ := H
 have A6 := a9_ A60
 clear A60
 replace H := Option.bind_eq_some_iff.mp H
 obtain ⟨t109, A70, H⟩ := H
 have A7 := a9_ A70
 clear A70
 replace H := Option.bind_eq_some_iff.mp H
 obtain ⟨t112, A80, H⟩ := H
 have A8 := a9_ A80
 clear A80
 obtain rfl := Option.some.inj H
 go_enter Try.func127, Try.ntmps127
 try go_wp2_with (first | ((with_reducible refine gate_dst (N := 4) rfl ?_); refine box9 (N := 4) (cs := #[.slice A0_0 l0_0.length c0_0, .slice A0_1 l0_1.length c0_1, .slice A0_2 l0_2.length c0_2, .slice A0_3 l0_3.length c0_3, .slice A0_4 l0_4.length c0_4, .slice A0_5 l0_5.length c0_5, .slice A0_6 l0_6.length c0_6]) (t := 31) ?_; intro gb101 hg w9 hbox hb; have n0_ := a9_ (below_step (bp9 HB.out) hb); have n1_ := a9_ (hbox); have n2_ := a9_ ((by rw [hg]; exact (below_size (bp9 HB.out)) : w.heap.size ≤ gb101)); have n3_ := n2_; clear HB; have HB := n0_; have BK101 := n1_; have GW101 := n2_; have GE101 := n3_; clear n0_ n1_ n2_ n3_; clear hb hbox hg; obtain ⟨hcz10_0, hcz10_1, hcz10_2, hcz10_3, hcz10_4, hcz10_5, hcz10_6, hfz10_0, hfz10_1, hfz10_2, hfz10_3, hfz10_4, hfz10_5, hfz10_6⟩ := cz7 BK101.out) | ((with_reducible refine gate_dst (N := 12) rfl ?_); refine Kd.R_lit (Kd.int .i64) _ 3 ?hg (N := 12) ?hd (xs := ([a2] : List Int)) (inner := [.int .i64 a2]) (ok := fun _ => True) (okp := fun _ => True) ?hr ?hp (fun _ hk => hk) trivial (Below.refl _ _) (Nat.le_refl _) (by simp) ?_; (case hd => rfl); (case hg => rfl); (case hr => first | (go_simp; done) | (go_simp; rfl)); (case hp => exact (Reps.one (show Kd.M (Kd.int .i64) _ _ _ a2 [.int .i64 a2] from rfl) (Reps.none _ _))); intro v103 w11 ho12 hb hg_ hnew_; clear hg_ hnew_; (first | rw [← Ny102.out] at ho12 | (simp only [Int.reduceToNat] at ho12; rw [← Ny102.out] at ho12)); have n0_ := a9_ (Kd.R_lower ho12 (below_size (bp9 HB.out))); have n1_ := a9_ (blk_below (kp9 BK101.out) hb); have n2_ := a9_ (below_step (bp9 HB.out) hb); clear BK101; clear HB; have HO104 := n0_; have BK101 := n1_; have HB := n2_; clear n0_ n1_ n2_; clear hb ho12; obtain ⟨Ao13, co13, eo13⟩ := Kd.R_slice HO104.out; subst eo13) | ((with_reducible refine gate_callee (f := 74) rfl ?_); refine goesL9 (some 13) rfl rfl Try.func74 (by kernel_rfl) rfl #[.agg #[.slice A0_0 l0_0.length c0_0, .slice A0_1 l0_1.length c0_1, .slice A0_2 l0_2.length c0_2, .slice A0_3 l0_3.length c0_3, .slice A0_4 l0_4.length c0_4, .slice A0_5 l0_5.length c0_5, .slice A0_6 l0_6.length c0_6], .slice Ao13 y102.length co13] rfl ?_; (with_reducible refine (exec_Kinds.calls _ _ l0_0 _ _ l0_1 _ _ l0_2 _ _ l0_3 _ _ l0_4 _ _ l0_5 _ _ l0_6 _ _ y102 t105 _ ?side1 ?side2 ?side3 ?side4 ?side5 ?side6 ?side7 ?side8 ?side9 ?side10 ?side11 ?side12 ?side13 ?side14 ?side15 ?side16 A5.out).mono ?_); (case side1 => exact cp9 HR0_0.out HB.out); (case side2 => exact HC0_0.out); (case side3 => exact cp9 HR0_1.out HB.out); (case side4 => exact HC0_1.out); (case side5 => exact cp9 HR0_2.out HB.out); (case side6 => exact HC0_2.out); (case side7 => exact cp9 HR0_3.out HB.out); (case side8 => exact HC0_3.out); (case side9 => exact cp9 HR0_4.out HB.out); (case side10 => exact HC0_4.out); (case side11 => exact cp9 HR0_5.out HB.out); (case side12 => exact HC0_5.out); (case side13 => exact cp9 HR0_6.out HB.out); (case side14 => exact HC0_6.out); (case side15 => exact lp9 (Kd.R_reads' HO104.out).2.2); (case side16 => exact (Kd.R_reads' HO104.out).2.1); rintro e w14 ⟨rfl, hb⟩; refine ⟨_, rfl, ?_⟩; have n0_ := a9_ (Kd.R_below (rp9 HO104.out) hb); have n1_ := a9_ (blk_below (kp9 BK101.out) hb); have n2_ := a9_ (below_step (bp9 HB.out) hb); clear HO104; clear BK101; clear HB; have HO104 := n0_; have BK101 := n1_; have HB := n2_; clear n0_ n1_ n2_; (try clear hb); (try clear hi)))
 have n0_ := a9_ (Kd.R_drew HO104.out)
 have n1_ := a9_ (blk_drew BK101.out)
 have n2_ := a9_ (below_drew1 HB.out)
 clear HO104 BK101 HB
 revert n0_ n1_ n2_; intro HO104 BK101 HB
 refine start_ (n := 12) (S := fun w' => w'.cell? ⟨gb101, 0, none⟩ = some (.slice A0_0 l0_0.length c0_0) ∧ w'.cell? ⟨gb101, 1, none⟩ = some (.slice A0_1 l0_1.length c0_1) ∧ w'.cell? ⟨gb101, 2, none⟩ = some (.slice A0_2 l0_2.length c0_2) ∧ w'.cell? ⟨gb101, 3, none⟩ = some (.slice A0_3 l0_3.length c0_3) ∧ w'.cell? ⟨gb101, 4, none⟩ = some (.slice A0_4 l0_4.length c0_4) ∧ w'.cell? ⟨gb101, 5, none⟩ = some (.slice A0_5 l0_5.length c0_5) ∧ w'.cell? ⟨gb101, 6, none⟩ = some (.slice A0_6 l0_6.length c0_6)) (ds := []) #[o9, o9, o9, o9, o9, o9, o9, o9, o9, o9, o9, o9] (by kernel_rfl) rfl rfl ⟨(blk_cell BK101.out 0).trans rfl, (blk_cell BK101.out 1).trans rfl, (blk_cell BK101.out 2).trans rfl, (blk_cell BK101.out 3).trans rfl, (blk_cell BK101.out 4).trans rfl, (blk_cell BK101.out 5).trans rfl, (blk_cell BK101.out 6).trans rfl⟩ (fun hHeld => ?_); refine with_tabW bob_over.tab2 bob_over.bits2 (fun HT_ HW_ => ?_)
 generalize w14.drew = w15 at HO104 BK101 HB hHeld ⊢
 refine pureA 0 (some 14) ?_ #[i9, o9, o9, o9, o9, o9, o9, o9, o9, o9, o9, o9] rfl rfl (any_of HT_.out (by kernel_rfl)) ?_ ?_ ?_ ?_
 rotate_left
 ·intro w'; go_simp; with_reducible rfl
 rotate_left
 ·exact put9
 refine pureA 2 (some 16) ?_ #[i9, o9, i9, o9, o9, o9, o9, o9, o9, o9, o9, o9] rfl rfl (any_of HT_.out (by kernel_rfl)) ?_ ?_ ?_ ?_
 rotate_left
 ·intro w'; go_simp; with_reducible rfl
 rotate_left
 ·exact put9
 refine pureA 3 (some 17) ?_ #[i9, o9, i9, i9, o9, o9, o9, o9, o9, o9, o9, o9] rfl rfl (any_of HT_.out (by kernel_rfl)) ?_ ?_ ?_ ?_
 rotate_left
 ·intro w'; go_simp; with_reducible rfl
 rotate_left
 ·exact put9
 refine pureA 5 (some 19) ?_ #[i9, o9, i9, i9, o9, i9, o9, o9, o9, o9, o9, o9] rfl rfl (any_of HT_.out (by kernel_rfl)) ?_ ?_ ?_ ?_
 rotate_left
 ·intro w'; go_simp; with_reducible rfl
 rotate_left
 ·exact put9
 refine pureA 7 (some 21) ?_ #[i9, o9, i9, i9, o9, i9, o9, i9, o9, o9, o9, o9] rfl rfl (any_of HT_.out (by kernel_rfl)) ?_ ?_ ?_ ?_
 rotate_left
 ·intro w'; go_simp; with_reducible rfl
 rotate_left
 ·exact put9
 refine pureA 8 (some 22) ?_ #[i9, o9, i9, i9, o9, i9, o9, i9, i9, o9, o9, o9] rfl rfl (any_of HT_.out (by kernel_rfl)) ?_ ?_ ?_ ?_
 rotate_left
 ·intro w'; go_simp; with_reducible rfl
 rotate_left
 ·exact put9
 refine take_ (i := 1) (N := some 15) (v := ?_) (a' := ?_) #[i9, i9, i9, i9, o9, i9, o9, i9, i9, o9, o9, o9] rfl rfl (take_ofW HT_.out HW_.out (by kernel_rfl)) (fun _ _ _ h => h) (Or.inl ⟨by rfl, ?_⟩) hHeld ?_ ?_
 rotate_left
 ·rintro w' ⟨s0, s1, s2, s3, s4, s5, s6⟩
  go_simp
  with_reducible rfl
 rotate_left
 ·exact put9
 refine take_ (i := 6) (N := some 20) (v := ?_) (a' := ?_) #[i9, i9, i9, i9, o9, i9, i9, i9, i9, o9, o9, o9] rfl rfl (take_ofW HT_.out HW_.out (by kernel_rfl)) (fun _ _ _ h => h) (Or.inl ⟨by rfl, ?_⟩) hHeld ?_ ?_
 rotate_left
 ·rintro w' ⟨s0, s1, s2, s3, s4, s5, s6⟩
  go_simp
  with_reducible rfl
 rotate_left
 ·exact put9
 refine one_ (i := 4) (N := some 18) #[i9, i9, i9, i9, i9, i9, i9, i9, i9, o9, o9, o9] rfl rfl (one_of HT_.out (by kernel_rfl)) (by decide) (fun K hK => ?_)
 refine goes9 Try.func54 (by kernel_rfl) rfl #[.slice A0_1 l0_1.length c0_1, .int .u32 a1, .int .u32 t105] (by rfl) rfl rfl ?_
 with_reducible refine (rel_Only.calls k _ _ l0_1 a1 t105 t106 _ ?side1 ?side2 A6.out).mono ?_
 (case side1 => exact cp9 HR0_1.out HB.out)
 (case side2 => exact HC0_1.out)
 rintro e w16 ⟨v107, rfl, ho0, hb⟩
 refine ⟨_, rfl, ?_⟩
 have n0_ := a9_ (Kd.R_below (rp9 HO104.out) hb)
 have n1_ := a9_ (Kd.R_lower ho0 (below_size (bp9 HB.out)))
 have n2_ := a9_ (blk_below (kp9 BK101.out) hb)
 have n3_ := a9_ (below_step (bp9 HB.out) hb)
 clear HO104 BK101 HB
 revert n0_ n1_ n2_ n3_; intro HO104 HO108 BK101 HB
 (try clear hb)
 (try clear ho0)
 refine hK.out _ _ ⟨(blk_cell BK101.out 0).trans rfl, (blk_cell BK101.out 1).trans rfl, (blk_cell BK101.out 2).trans rfl, (blk_cell BK101.out 3).trans rfl, (blk_cell BK101.out 4).trans rfl, (blk_cell BK101.out 5).trans rfl, (blk_cell BK101.out 6).trans rfl⟩ (fun hHeld => ?_)
 clear hK K
 refine norm_ (a' := ?_) ?_ ?_
 rotate_left
 ·show Act.put _ (some 18) _ = _
  exact put9
 refine one_ (i := 9) (N := some 23) #[i9, i9, i9, i9, i9, i9, i9, i9, i9, i9, o9, o9] rfl rfl (one_of HT_.out (by kernel_rfl)) (by decide) (fun K hK => ?_)
 refine goes9 Try.func54 (by kernel_rfl) rfl #[.slice A0_1 l0_1.length c0_1, .int .u32 t105, .int .u32 a3] (by rfl) rfl rfl ?_
 with_reducible refine (rel_Only.calls k _ _ l0_1 t105 a3 t109 _ ?side1 ?side2 A7.out).mono ?_
 (case side1 => exact cp9 HR0_1.out HB.out)
 (case side2 => exact HC0_1.out)
 rintro e w17 ⟨v110, rfl, ho0, hb⟩
 refine ⟨_, rfl, ?_⟩
 have n0_ := a9_ (Kd.R_below (rp9 HO104.out) hb)
 have n1_ := a9_ (Kd.R_elder' (rp9 HO108.out) (Kd.R_base ho0) hb)
 have n2_ := a9_ (Kd.R_lower (Kd.R_new' ho0 (Kd.R_lt (rp9 HO108.out))) (below_size (bp9 HB.out)))
 have n3_ := a9_ (blk_below (kp9 BK101.out) hb)
 have n4_ := a9_ (below_step (bp9 HB.out) hb)
 clear HO104 HO108 BK101 HB
 revert n0_ n1_ n2_ n3_ n4_; intro HO104 HO108 HO111 BK101 HB
 (try clear hb)
 (try clear ho0)
 obtain ⟨Ao18, co18, eo18⟩ := Kd.R_slice HO108.out
 (first | subst eo18 | (injection eo18 with f1_ f2_ f3_; have f4_ := f1_.symm; have f5_ := f3_.symm; clear f1_ f2_ f3_; subst f4_; subst f5_))
 obtain ⟨Ao19, co19, eo19⟩ := Kd.R_slice HO111.out
 (first | subst eo19 | (injection eo19 with f1_ f2_ f3_; have f4_ := f1_.symm; have f5_ := f3_.symm; clear f1_ f2_ f3_; subst f4_; subst f5_))
 refine hK.out _ _ ⟨(blk_cell BK101.out 0).trans rfl, (blk_cell BK101.out 1).trans rfl, (blk_cell BK101.out 2).trans rfl, (blk_cell BK101.out 3).trans rfl, (blk_cell BK101.out 4).trans rfl, (blk_cell BK101.out 5).trans rfl, (blk_cell BK101.out 6).trans rfl⟩ (fun hHeld => ?_)
 clear hK K
 refine norm_ (a' := ?_) ?_ ?_
 rotate_left
 ·show Act.put _ (some 23) _ = _
  exact put9
 refine one_ (i := 10) (N := some 24) #[i9, i9, i9, i9, i9, i9, i9, i9, i9, i9, i9, o9] rfl rfl (one_of HT_.out (by kernel_rfl)) (by decide) (fun K hK => ?_)
 refine goes9 Try.func62 (by kernel_rfl) rfl #[.slice Ao18 t106.length co18, .slice Ao19 t109.length co19] (by rfl) rfl rfl ?_
 with_reducible refine (rel_Seq.calls _ _ t106 _ _ t109 t112 _ ?side1 ?side2 ?side3 ?side4 A8.out).mono ?_
 (case side1 => exact lp9 (Kd.R_reads' HO108.out).2.2)
 (case side2 => exact (Kd.R_reads' HO108.out).2.1)
 (case side3 => exact lp9 (Kd.R_reads' HO111.out).2.2)
 (case side4 => exact (Kd.R_reads' HO111.out).2.1)
 rintro e w20 ⟨v113, rfl, ho0, hb⟩
 refine ⟨_, rfl, ?_⟩
 have n0_ := a9_ (Kd.R_below (rp9 HO104.out) hb)
 have n1_ := a9_ (Kd.R_elder' (rp9 HO108.out) (Kd.R_base ho0) hb)
 have n2_ := a9_ (Kd.R_elder' (rp9 HO111.out) (Kd.R_base ho0) hb)
 have n3_ := a9_ (Kd.R_lower (Kd.R_new' (Kd.R_new' ho0 (Kd.R_lt (rp9 HO108.out))) (Kd.R_lt (rp9 HO111.out))) (below_size (bp9 HB.out)))
 have n4_ := a9_ (blk_below (kp9 BK101.out) hb)
 have n5_ := a9_ (below_step (bp9 HB.out) hb)
 clear HO104 HO108 HO111 BK101 HB
 revert n0_ n1_ n2_ n3_ n4_ n5_; intro HO104 HO108 HO111 HO114 BK101 HB
 (try clear hb)
 (try clear ho0)
 refine hK.out _ _ ⟨(blk_cell BK101.out 0).trans rfl, (blk_cell BK101.out 1).trans rfl, (blk_cell BK101.out 2).trans rfl, (blk_cell BK101.out 3).trans rfl, (blk_cell BK101.out 4).trans rfl, (blk_cell BK101.out 5).trans rfl, (blk_cell BK101.out 6).trans rfl⟩ (fun hHeld => ?_)
 clear hK K
 refine norm_ (a' := ?_) ?_ ?_
 rotate_left
 ·show Act.put _ (some 24) _ = _
  exact put9
 refine pureA 11 (some 8) ?_ #[i9, i9, i9, i9, i9, i9, i9, i9, i9, i9, i9, i9] rfl rfl (any_of HT_.out (by kernel_rfl)) ?_ ?_ ?_ ?_
 rotate_left
 ·intro w'; go_simp; with_reducible rfl
 rotate_left
 ·exact put9
 refine done_ (done_of HT_.out (by kernel_rfl)) ?_
 try go_wp2
 go_ret
 exact ⟨_, rt9, by (with_reducible repeat (first | apply Kd.R_alloc | apply Kd.R_drewN | apply Kd.R_drew)); exact Kd.R_mono HO114.out (fun _ hk => trivial), bp9 HB.out⟩
def bob_Fences.f (k : Nat) (l0_0 : List (S26)) (l0_1 : List Int) (l0_2 : List Int) (l0_3 : List Int) (l0_4 : List Int) (l0_5 : List Int) (l0_6 : List (List Int)) : Option (List Int) := (exec_Kinds.f l0_0 l0_1 l0_2 l0_3 l0_4 l0_5 l0_6 (([1] : List Int))).bind fun t105 => ((exec_Kinds.f l0_0 l0_1 l0_2 l0_3 l0_4 l0_5 l0_6 (([2] : List Int))).bind fun t109 => ((bob_over.f k l0_0 l0_1 l0_2 l0_3 l0_4 l0_5 l0_6 4294967295 3 4294967295).bind fun t110 => ((bob_over.f k l0_0 l0_1 l0_2 l0_3 l0_4 l0_5 l0_6 t105 4 4294967295).bind fun t113 => ((bob_over.f k l0_0 l0_1 l0_2 l0_3 l0_4 l0_5 l0_6 t109 5 t109).bind fun t116 => ((bob_all.f k l0_0 l0_1 l0_2 l0_3 l0_4 l0_5 l0_6 (([t110, t113, t116] : List (List Int)))).bind fun t122 => (some t122))))))
theorem bob_Fences.mono : ∀ a0 a1 a2 a3 a4 a5 a6 k, LeO (bob_Fences.f k a0 a1 a2 a3 a4 a5 a6) (bob_Fences.f (k + 1) a0 a1 a2 a3 a4 a5 a6) := by
 intro a0 a1 a2 a3 a4 a5 a6 k
 unfold bob_Fences.f
 repeat' (with_reducible first | exact bob_all.mono _ _ _ _ _ _ _ _ _ | exact bob_over.mono _ _ _ _ _ _ _ _ _ _ _ | exact LeO.refl _ | exact LeO.none _ | refine LeO.ite ?_ ?_ | refine LeO.bind ?_ (fun _ => ?_))
def bob_Fences.T1 : Bool × List (List Nat × List Nat) := (true, [([], []), ([], []), ([0, 1], [0, 1]), ([], []), ([], []), ([3, 4, 2], [3, 4]), ([2, 5, 0, 1, 2], [2]), ([5, 6, 0, 1, 2, 3, 4, 5, 6], [5])])
def bob_Fences.B1 : List Nat := [0, 0, 3, 0, 0, 31, 63, 127]
theorem bob_Fences.tab1 : rtab .any (opsOf Try.f73 1) = bob_Fences.T1 := by kernel_rfl
theorem bob_Fences.bits1 : waitsOk bob_Fences.T1.2 bob_Fences.B1 = true := by kernel_rfl
def bob_Fences.T2 : Bool × List (List Nat × List Nat) := (true, [([], []), ([], []), ([1], [1]), ([], []), ([], []), ([3, 4, 2], [3, 4]), ([], []), ([], []), ([], []), ([6, 7, 8, 5], [6, 7, 8]), ([2, 5, 9], [2, 5, 9]), ([0, 10, 9], [0, 10]), ([11, 11, 0, 1, 2, 3, 4, 5, 6, 7, 8, 9, 10, 11], [11])])
def bob_Fences.B2 : List Nat := [0, 0, 2, 0, 0, 30, 0, 0, 0, 510, 1022, 2047, 4095]
theorem bob_Fences.tab2 : rtab .any (opsOf Try.f73 2) = bob_Fences.T2 := by kernel_rfl
theorem bob_Fences.bits2 : waitsOk bob_Fences.T2.2 bob_Fences.B2 = true := by kernel_rfl
theorem bob_Fences.calls (k : Nat) (A0_0 : Option Addr) (c0_0 : Nat) (l0_0 : List (S26)) (A0_1 : Option Addr) (c0_1 : Nat) (l0_1 : List Int) (A0_2 : Option Addr) (c0_2 : Nat) (l0_2 : List Int) (A0_3 : Option Addr) (c0_3 : Nat) (l0_3 : List Int) (A0_4 : Option Addr) (c0_4 : Nat) (l0_4 : List Int) (A0_5 : Option Addr) (c0_5 : Nat) (l0_5 : List Int) (A0_6 : Option Addr) (c0_6 : Nat) (l0_6 : List (List Int)) (r : List Int) (w : World) (hr0_0 : Kd.C k26 w A0_0 l0_0.length l0_0) (hc0_0 : l0_0.length ≤ c0_0) (hr0_1 : Kd.C (Kd.int .u32) w A0_1 l0_1.length l0_1) (hc0_1 : l0_1.length ≤ c0_1) (hr0_2 : Kd.C (Kd.int .u32) w A0_2 l0_2.length l0_2) (hc0_2 : l0_2.length ≤ c0_2) (hr0_3 : Kd.C (Kd.int .u32) w A0_3 l0_3.length l0_3) (hc0_3 : l0_3.length ≤ c0_3) (hr0_4 : Kd.C (Kd.int .u32) w A0_4 l0_4.length l0_4) (hc0_4 : l0_4.length ≤ c0_4) (hr0_5 : Kd.C (Kd.int .u32) w A0_5 l0_5.length l0_5) (hc0_5 : l0_5.length ≤ c0_5) (hr0_6 : Kd.C (Kd.slice 2 (Kd.int .i64)) w A0_6 l0_6.length l0_6) (hc0_6 : l0_6.length ≤ c0_6) (h : bob_Fences.f k l0_0 l0_1 l0_2 l0_3 l0_4 l0_5 l0_6 = some r) :
  Calls Try.prog 73 #[.agg #[.slice A0_0 l0_0.length c0_0, .slice A0_1 l0_1.length c0_1, .slice A0_2 l0_2.length c0_2, .slice A0_3 l0_3.length c0_3, .slice A0_4 l0_4.length c0_4, .slice A0_5 l0_5.length c0_5, .slice A0_6 l0_6.length c0_6]] w fun e w' => ∃ v0_ : Value, e = .returned (v0_) ∧ Kd.R (Kd.int .u32) 52 w' w.heap.size (fun _ => True) v0_ r ∧ Below w.heap.size w w' := by
 have hu31 := Try.underlying31
 have HR0_0 := a9_ hr0_0
 have HC0_0 := a9_ hc0_0
 clear hr0_0 hc0_0
 have HR0_1 := a9_ hr0_1
 have HC0_1 := a9_ hc0_1
 clear hr0_1 hc0_1
 have HR0_2 := a9_ hr0_2
 have HC0_2 := a9_ hc0_2
 clear hr0_2 hc0_2
 have HR0_3 := a9_ hr0_3
 have HC0_3 := a9_ hc0_3
 clear hr0_3 hc0_3
 have HR0_4 := a9_ hr0_4
 have HC0_4 := a9_ hc0_4
 clear hr0_4 hc0_4
 have HR0_5 := a9_ hr0_5
 have HC0_5 := a9_ hc0_5
 clear hr0_5 hc0_5
 have HR0_6 := a9_ hr0_6
 have HC0_6 := a9_ hc0_6
 clear hr0_6 hc0_6
 have HB := a9_ (Below.refl w.heap.size w)
 have H : ((exec_Kinds.f l0_0 l0_1 l0_2 l0_3 l0_4 l0_5 l0_6 (([1] : List Int))).bind fun t105 => ((exec_Kinds.f l0_0 l0_1 l0_2 l0_3 l0_4 l0_5 l0_6 (([2] : List Int))).bind fun t109 => ((bob_over.f k l0_0 l0_1 l0_2 l0_3 l0_4 l0_5 l0_6 4294967295 3 4294967295).bind fun t110 => ((bob_over.f k l0_0 l0_1 l0_2 l0_3 l0_4 l0_5 l0_6 t105 4 4294967295).bind fun t113 => ((bob_over.f k l0_0 l0_1 l0_2 l0_3 l0_4 l0_5 l0_6 t109 5 t109).bind fun t116 => ((bob_all.f k l0_0 l0_1 l0_2 l0_3 l0_4 l0_5 l0_6 (([t110, t113, t116] : List (List Int)))).bind fun t122 => (some t122))))))) = some r := h
 clear h
 obtain ⟨y102, hy102⟩ : ∃ y_ : List Int, y_ = (([1] : List Int)) := ⟨_, rfl⟩
 replace H : ((exec_Kinds.f l0_0 l0_1 l0_2 l0_3 l0_4 l0_5 l0_6 y102).bind fun t105 => ((exec_Kinds.f l0_0 l0_1 l0_2 l0_3 l0_4 l0_5 l0_6 (([2] : List Int))).bind fun t109 => ((bob_over.f k l0_0 l0_1 l0_2 l0_3 l0_4 l0_5 l0_6 4294967295 3 4294967295).bind fun t110 => ((bob_over.f k l0_0 l0_1 l0_2 l0_3 l0_4 l0_5 l0_6 t105 4 4294967295).bind fun t113 => ((bob_over.f k l0_0 l0_1 l0_2 l0_3 l0_4 l0_5 l0_6 t109 5 t109).bind fun t116 => ((bob_all.f k l0_0 l0_1 l0_2 l0_3 l0_4 l0_5 l0_6 (([t110, t113, t116] : List (List Int)))).bind fun t122 => (some t122))))))) = some r := by first | (rw [hy102]; with_reducible exact H) | (have H2_ := (Option.bind_some _ _).symm.trans H; rw [hy102]; with_reducible exact H2_) | (have H2_ := (Option.bind_some _ _).symm.trans H; with_reducible exact H2_) | with_reducible exact H | (rw [hy102]; exact H) | exact H
 have Ny102 := a9_ hy102
 clear hy102
 replace H := Option.bind_eq_some_iff.mp H
 obtain ⟨t105, A20, H⟩ := H
 have A2 := a9_ A20
 clear A20
 obtain ⟨y106, hy106⟩ : ∃ y_ : List Int, y_ = (([2] : List Int)) := ⟨_, rfl⟩
 replace H : ((exec_Kinds.f l0_0 l0_1 l0_2 l0_3 l0_4 l0_5 l0_6 y106).bind fun t109 => ((bob_over.f k l0_0 l0_1 l0_2 l0_3 l0_4 l0_5 l0_6 4294967295 3 4294967295).bind fun t110 => ((bob_over.f k l0_0 l0_1 l0_2 l0_3 l0_4 l0_5 l0_6 t105 4 4294967295).bind fun t113 => ((bob_over.f k l0_0 l0_1 l0_2 l0_3 l0_4 l0_5 l0_6 t109 5 t109).bind fun t116 => ((bob_all.f k l0_0 l0_1 l0_2 l0_3 l0_4 l0_5 l0_6 (([t110, t113, t116] : List (List Int)))).bind fun t122 => (some t122)))))) = some r := by first | (rw [hy106]; with_reducible exact H) | (have H2_ := (Option.bind_some _ _).symm.trans H; rw [hy106]; with_reducible exact H2_) | (have H2_ := (Option.bind_some _ _).symm.trans H; with_reducible exact H2_) | with_reducible exact H | (rw [hy106]; exact H) | exact H
 have Ny106 := a9_ hy106
 clear hy106
 replace H := Option.bind_eq_some_iff.mp H
 obtain ⟨t109, A30, H⟩ := H
 have A3 := a9_ A30
 clear A30
 replace H := Option.bind_eq_some_iff.mp H
 obtain ⟨t110, A40, H⟩ := H
 have A4 := a9_ A40
 clear A40
 replace H := Option.bind_eq_some_iff.mp H
 obtain ⟨t113, A50, H⟩ := H
 have A5 := a9_ A50
 clear A50
 replace H := Option.bind_eq_some_iff.mp H
 obtain ⟨t116, A60, H⟩ := H
 have A6 := a9_ A60
 clear A60
 obtain ⟨y119, hy119⟩ : ∃ y_ : List (List Int), y_ = (([t110, t113, t116] : List (List Int))) := ⟨_, rfl⟩
 replace H : ((bob_all.f k l0_0 l0_1 l0_2 l0_3 l0_4 l0_5 l0_6 y119).bind fun t122 => (some t122)) = some r := by first | (rw [hy119]; with_reducible exact H) | (have H2_ := (Option.bind_some _ _).symm.trans H; rw [hy119]; with_reducible exact H2_) | (have H2_ := (Option.bind_some _ _).symm.trans H; with_reducible exact H2_) | with_reducible exact H | (rw [hy119]; exact H) | exact H
 have Ny119 := a9_ hy119
 clear hy119
 replace H := Option.bind_eq_some_iff.mp H
 obtain ⟨t122, A70, H⟩ := H
 have A7 := a9_ A70
 clear A70
 obtain rfl := Option.some.inj H
 go_enter Try.func73, Try.ntmps73
 try go_wp2_with (first | ((with_reducible refine gate_dst (N := 1) rfl ?_); refine box9 (N := 1) (cs := #[.slice A0_0 l0_0.length c0_0, .slice A0_1 l0_1.length c0_1, .slice A0_2 l0_2.length c0_2, .slice A0_3 l0_3.length c0_3, .slice A0_4 l0_4.length c0_4, .slice A0_5 l0_5.length c0_5, .slice A0_6 l0_6.length c0_6]) (t := 31) ?_; intro gb101 hg w8 hbox hb; have n0_ := a9_ (below_step (bp9 HB.out) hb); have n1_ := a9_ (hbox); have n2_ := a9_ ((by rw [hg]; exact (below_size (bp9 HB.out)) : w.heap.size ≤ gb101)); have n3_ := n2_; clear HB; have HB := n0_; have BK101 := n1_; have GW101 := n2_; have GE101 := n3_; clear n0_ n1_ n2_ n3_; clear hb hbox hg))
 have n0_ := a9_ (blk_drew BK101.out)
 have n1_ := a9_ (below_drew1 HB.out)
 clear BK101 HB
 revert n0_ n1_; intro BK101 HB
 refine start_ (n := 8) (S := fun w' => True) (ds := []) #[o9, o9, o9, o9, o9, o9, o9, o9] (by kernel_rfl) rfl rfl trivial (fun hHeld => ?_); refine with_tabW bob_Fences.tab1 bob_Fences.bits1 (fun HT_ HW_ => ?_)
 generalize w8.drew = w9 at BK101 HB hHeld ⊢
 refine inv_at [0, 1, 2, 3, 4, 5, 6, 7] (fun a0_ b a w' => ∃ (v103 : Value) (v107 : Value), a = putSel a0_ b [(0, 5, .agg #[.slice A0_0 l0_0.length c0_0, .slice A0_1 l0_1.length c0_1, .slice A0_2 l0_2.length c0_2, .slice A0_3 l0_3.length c0_3, .slice A0_4 l0_4.length c0_4, .slice A0_5 l0_5.length c0_5, .slice A0_6 l0_6.length c0_6]), (1, 6, v103), (2, 7, .int .u32 t105), (3, 8, .agg #[.slice A0_0 l0_0.length c0_0, .slice A0_1 l0_1.length c0_1, .slice A0_2 l0_2.length c0_2, .slice A0_3 l0_3.length c0_3, .slice A0_4 l0_4.length c0_4, .slice A0_5 l0_5.length c0_5, .slice A0_6 l0_6.length c0_6]), (4, 9, v107), (5, 10, .int .u32 t109), (6, 3, .int .u32 t105), (7, 4, .int .u32 t109)] ∧ (w'.heap[gb101]? = some (.cells #[.slice A0_0 l0_0.length c0_0, .slice A0_1 l0_1.length c0_1, .slice A0_2 l0_2.length c0_2, .slice A0_3 l0_3.length c0_3, .slice A0_4 l0_4.length c0_4, .slice A0_5 l0_5.length c0_5, .slice A0_6 l0_6.length c0_6] 31 (0, 0))) ∧ (Below w.heap.size w w') ∧ (b 1 = true → Kd.R (Kd.int .i64) 3 w' w.heap.size (fun _ => True) v103 y102) ∧ (b 4 = true → Kd.R (Kd.int .i64) 3 w' w.heap.size (fun _ => True) v107 y106)) HT_.out HW_.out (by kernel_rfl) (by kernel_rfl) ?_ ?_ ?_
 ·exact ⟨.bool false, .bool false, by simp only [putSel, Bool.false_eq_true, if_false], BK101.out, HB.out, fun h_ => absurd h_ (by decide), fun h_ => absurd h_ (by decide)⟩
 ·skip
  clear BK101 HB
  refine steps_cons ?_ ?_
  ·rintro b a w' ⟨v103, v107, ha, Q_BK101, Q_HB, Q_HO104, Q_HO108⟩ hb_ hon hoff
   refine ⟨_, rfl, fun K hK => ?_⟩
   have e1 : a.tmps[1]? = some (.pointer (some ⟨gb101, 0, none⟩)) := by rw [ha]; exact (putSel_off rfl).trans rfl
   replace ha := a9_ ha
   have BK101 := a9_ Q_BK101
   have HB := a9_ Q_HB
   have hc0_ : w'.cell? ⟨gb101, 0, none⟩ = some (.slice A0_0 l0_0.length c0_0) := (blk_cell BK101.out 0).trans rfl
   have hc1_ : w'.cell? ⟨gb101, 1, none⟩ = some (.slice A0_1 l0_1.length c0_1) := (blk_cell BK101.out 1).trans rfl
   have hc2_ : w'.cell? ⟨gb101, 2, none⟩ = some (.slice A0_2 l0_2.length c0_2) := (blk_cell BK101.out 2).trans rfl
   have hc3_ : w'.cell? ⟨gb101, 3, none⟩ = some (.slice A0_3 l0_3.length c0_3) := (blk_cell BK101.out 3).trans rfl
   have hc4_ : w'.cell? ⟨gb101, 4, none⟩ = some (.slice A0_4 l0_4.length c0_4) := (blk_cell BK101.out 4).trans rfl
   have hc5_ : w'.cell? ⟨gb101, 5, none⟩ = some (.slice A0_5 l0_5.length c0_5) := (blk_cell BK101.out 5).trans rfl
   have hc6_ : w'.cell? ⟨gb101, 6, none⟩ = some (.slice A0_6 l0_6.length c0_6) := (blk_cell BK101.out 6).trans rfl
   refine value_ (w1 := w') (v := .agg #[.slice A0_0 l0_0.length c0_0, .slice A0_1 l0_1.length c0_1, .slice A0_2 l0_2.length c0_2, .slice A0_3 l0_3.length c0_3, .slice A0_4 l0_4.length c0_4, .slice A0_5 l0_5.length c0_5, .slice A0_6 l0_6.length c0_6]) (by rfl) rfl ?_ ?_
   ·go_simp
    (try simp only [i64_w])
    try rfl
   refine hK.out _ _ ⟨v103, v107, (by rw [ha.out]; exact putSel_upk 0 hb_ rfl rfl rfl), Q_BK101, Q_HB, Q_HO104, Q_HO108⟩
  refine steps_cons ?_ ?_
  ·rintro b a w' ⟨v103, v107, ha, Q_BK101, Q_HB, Q_HO104, Q_HO108⟩ hb_ hon hoff
   refine ⟨_, rfl, fun K hK => ?_⟩
   replace ha := a9_ ha
   have BK101 := a9_ Q_BK101
   have HB := a9_ Q_HB
   refine Kd.R_lit_step (Kd.int .i64) _ 3 ?hg (N := 6) ?hd (xs := ([1] : List Int)) (inner := [.int .i64 1]) (ok := fun _ => True) (okp := fun _ => True) ?hr ?hp (fun _ hk => hk) trivial (Below.refl _ _) (Nat.le_refl _) (by simp) ?_; (case hd => rfl); (case hg => rfl); (case hr => first | (go_simp; done) | (go_simp; rfl)); (case hp => exact (Reps.one (show Kd.M (Kd.int .i64) _ _ _ 1 [.int .i64 1] from rfl) (Reps.none _ _)))
   intro v103 w10 ho11 hb hg_ hnew_
   clear hg_ hnew_
   (first | rw [← Ny102.out] at ho11 | (simp only [Int.reduceToNat] at ho11; rw [← Ny102.out] at ho11))
   have n0_ := a9_ (Kd.R_lower ho11 (below_size (bp9 HB.out)))
   have n1_ := a9_ (blk_below (kp9 BK101.out) hb)
   have n2_ := a9_ (below_step (bp9 HB.out) hb)
   have z_HO108 := fun (h0_ : b 4 = true) => (show Kd.R (Kd.int .i64) 3 w10 w.heap.size (fun _ => True) v107 y106 from by first | exact (Kd.R_elder' (by (with_reducible repeat (first | apply Kd.R_alloc | apply Kd.R_drewN | apply Kd.R_drew)); exact (Q_HO108 h0_)) (Kd.R_base ho11) hb) | exact Kd.R_mono (Kd.R_elder' (by (with_reducible repeat (first | apply Kd.R_alloc | apply Kd.R_drewN | apply Kd.R_drew)); exact (Q_HO108 h0_)) (Kd.R_base ho11) hb) (fun _ h_ => by first | trivial | exact h_ | exact h_.1))
   clear BK101 HB
   revert n0_ n1_ n2_; intro HO104 BK101 HB
   clear hb ho11
   refine hK.out _ _ ⟨v103, v107, (by rw [ha.out]; exact putSel_upk 1 hb_ rfl rfl rfl), (kp9 BK101.out), (bp9 HB.out), fun _ => (rp9 HO104.out), z_HO108⟩
  refine steps_cons ?_ ?_
  ·rintro b a w' ⟨v103, v107, ha, Q_BK101, Q_HB, Q_HO104, Q_HO108⟩ hb_ hon hoff
   refine ⟨_, rfl, fun K hK => ?_⟩
   have e5 : a.tmps[5]? = some (.agg #[.slice A0_0 l0_0.length c0_0, .slice A0_1 l0_1.length c0_1, .slice A0_2 l0_2.length c0_2, .slice A0_3 l0_3.length c0_3, .slice A0_4 l0_4.length c0_4, .slice A0_5 l0_5.length c0_5, .slice A0_6 l0_6.length c0_6]) := by rw [ha]; exact putSel_on (e := (0, 5, .agg #[.slice A0_0 l0_0.length c0_0, .slice A0_1 l0_1.length c0_1, .slice A0_2 l0_2.length c0_2, .slice A0_3 l0_3.length c0_3, .slice A0_4 l0_4.length c0_4, .slice A0_5 l0_5.length c0_5, .slice A0_6 l0_6.length c0_6])) 0 rfl rfl (hon 0 (by kernel_rfl)) rfl
   have e6 : a.tmps[6]? = some (v103) := by rw [ha]; exact putSel_on (e := (1, 6, v103)) 1 rfl rfl (hon 1 (by kernel_rfl)) rfl
   replace ha := a9_ ha
   have BK101 := a9_ Q_BK101
   have HB := a9_ Q_HB
   have HO104 := a9_ (Q_HO104 (hon 1 (by kernel_rfl)))
   obtain ⟨Ao13, co13, eo13⟩ := Kd.R_slice HO104.out
   (first | subst eo13 | (injection eo13 with f1_ f2_ f3_; have f4_ := f1_.symm; have f5_ := f3_.symm; clear f1_ f2_ f3_; subst f4_; subst f5_))
   refine goes_ Try.func74 (by kernel_rfl) rfl #[.agg #[.slice A0_0 l0_0.length c0_0, .slice A0_1 l0_1.length c0_1, .slice A0_2 l0_2.length c0_2, .slice A0_3 l0_3.length c0_3, .slice A0_4 l0_4.length c0_4, .slice A0_5 l0_5.length c0_5, .slice A0_6 l0_6.length c0_6], .slice Ao13 y102.length co13] (by rfl) rfl rfl (by first | (simp only [List.map_toArray, List.map_cons, List.map_nil, Act.eval, Array.getD_eq_getD_getElem?, Option.getD_some, e5, e6]; done) | (simp only [List.map_toArray, List.map_cons, List.map_nil, Act.eval, Array.getD_eq_getD_getElem?, Option.getD_some, e5, e6]; rfl)) ?_
   with_reducible refine (exec_Kinds.calls _ _ l0_0 _ _ l0_1 _ _ l0_2 _ _ l0_3 _ _ l0_4 _ _ l0_5 _ _ l0_6 _ _ y102 t105 _ ?side1 ?side2 ?side3 ?side4 ?side5 ?side6 ?side7 ?side8 ?side9 ?side10 ?side11 ?side12 ?side13 ?side14 ?side15 ?side16 A2.out).mono ?_
   (case side1 => exact cp9 HR0_0.out HB.out)
   (case side2 => exact HC0_0.out)
   (case side3 => exact cp9 HR0_1.out HB.out)
   (case side4 => exact HC0_1.out)
   (case side5 => exact cp9 HR0_2.out HB.out)
   (case side6 => exact HC0_2.out)
   (case side7 => exact cp9 HR0_3.out HB.out)
   (case side8 => exact HC0_3.out)
   (case side9 => exact cp9 HR0_4.out HB.out)
   (case side10 => exact HC0_4.out)
   (case side11 => exact cp9 HR0_5.out HB.out)
   (case side12 => exact HC0_5.out)
   (case side13 => exact cp9 HR0_6.out HB.out)
   (case side14 => exact HC0_6.out)
   (case side15 => exact lp9 (Kd.R_reads' HO104.out).2.2)
   (case side16 => exact (Kd.R_reads' HO104.out).2.1)
   rintro e w14 ⟨rfl, hb⟩
   refine ⟨_, rfl, ?_⟩
   have n0_ := a9_ (Kd.R_below (rp9 HO104.out) hb)
   have n1_ := a9_ (blk_below (kp9 BK101.out) hb)
   have n2_ := a9_ (below_step (bp9 HB.out) hb)
   have z_HO108 := fun (h0_ : b 4 = true) => (show Kd.R (Kd.int .i64) 3 w14 w.heap.size (fun _ => True) v107 y106 from by first | exact (Kd.R_below (by (with_reducible repeat (first | apply Kd.R_alloc | apply Kd.R_drewN | apply Kd.R_drew)); exact (Q_HO108 h0_)) hb) | exact Kd.R_mono (Kd.R_below (by (with_reducible repeat (first | apply Kd.R_alloc | apply Kd.R_drewN | apply Kd.R_drew)); exact (Q_HO108 h0_)) hb) (fun _ h_ => by first | trivial | exact h_ | exact h_.1))
   clear HO104 BK101 HB
   revert n0_ n1_ n2_; intro HO104 BK101 HB
   (try clear hb)
   refine hK.out _ _ ⟨.slice Ao13 y102.length co13, v107, (by rw [ha.out]; exact putSel_upk 2 hb_ rfl rfl rfl), (kp9 BK101.out), (bp9 HB.out), fun _ => (rp9 HO104.out), z_HO108⟩
  refine steps_cons ?_ ?_
  ·rintro b a w' ⟨v103, v107, ha, Q_BK101, Q_HB, Q_HO104, Q_HO108⟩ hb_ hon hoff
   refine ⟨_, rfl, fun K hK => ?_⟩
   have e1 : a.tmps[1]? = some (.pointer (some ⟨gb101, 0, none⟩)) := by rw [ha]; exact (putSel_off rfl).trans rfl
   replace ha := a9_ ha
   have BK101 := a9_ Q_BK101
   have HB := a9_ Q_HB
   have hc0_ : w'.cell? ⟨gb101, 0, none⟩ = some (.slice A0_0 l0_0.length c0_0) := (blk_cell BK101.out 0).trans rfl
   have hc1_ : w'.cell? ⟨gb101, 1, none⟩ = some (.slice A0_1 l0_1.length c0_1) := (blk_cell BK101.out 1).trans rfl
   have hc2_ : w'.cell? ⟨gb101, 2, none⟩ = some (.slice A0_2 l0_2.length c0_2) := (blk_cell BK101.out 2).trans rfl
   have hc3_ : w'.cell? ⟨gb101, 3, none⟩ = some (.slice A0_3 l0_3.length c0_3) := (blk_cell BK101.out 3).trans rfl
   have hc4_ : w'.cell? ⟨gb101, 4, none⟩ = some (.slice A0_4 l0_4.length c0_4) := (blk_cell BK101.out 4).trans rfl
   have hc5_ : w'.cell? ⟨gb101, 5, none⟩ = some (.slice A0_5 l0_5.length c0_5) := (blk_cell BK101.out 5).trans rfl
   have hc6_ : w'.cell? ⟨gb101, 6, none⟩ = some (.slice A0_6 l0_6.length c0_6) := (blk_cell BK101.out 6).trans rfl
   refine value_ (w1 := w') (v := .agg #[.slice A0_0 l0_0.length c0_0, .slice A0_1 l0_1.length c0_1, .slice A0_2 l0_2.length c0_2, .slice A0_3 l0_3.length c0_3, .slice A0_4 l0_4.length c0_4, .slice A0_5 l0_5.length c0_5, .slice A0_6 l0_6.length c0_6]) (by rfl) rfl ?_ ?_
   ·go_simp
    (try simp only [i64_w])
    try rfl
   refine hK.out _ _ ⟨v103, v107, (by rw [ha.out]; exact putSel_upk 3 hb_ rfl rfl rfl), Q_BK101, Q_HB, Q_HO104, Q_HO108⟩
  refine steps_cons ?_ ?_
  ·rintro b a w' ⟨v103, v107, ha, Q_BK101, Q_HB, Q_HO104, Q_HO108⟩ hb_ hon hoff
   refine ⟨_, rfl, fun K hK => ?_⟩
   replace ha := a9_ ha
   have BK101 := a9_ Q_BK101
   have HB := a9_ Q_HB
   refine Kd.R_lit_step (Kd.int .i64) _ 3 ?hg (N := 9) ?hd (xs := ([2] : List Int)) (inner := [.int .i64 2]) (ok := fun _ => True) (okp := fun _ => True) ?hr ?hp (fun _ hk => hk) trivial (Below.refl _ _) (Nat.le_refl _) (by simp) ?_; (case hd => rfl); (case hg => rfl); (case hr => first | (go_simp; done) | (go_simp; rfl)); (case hp => exact (Reps.one (show Kd.M (Kd.int .i64) _ _ _ 2 [.int .i64 2] from rfl) (Reps.none _ _)))
   intro v107 w10 ho11 hb hg_ hnew_
   clear hg_ hnew_
   (first | rw [← Ny106.out] at ho11 | (simp only [Int.reduceToNat] at ho11; rw [← Ny106.out] at ho11))
   have n0_ := a9_ (Kd.R_lower ho11 (below_size (bp9 HB.out)))
   have n1_ := a9_ (blk_below (kp9 BK101.out) hb)
   have n2_ := a9_ (below_step (bp9 HB.out) hb)
   have z_HO104 := fun (h0_ : b 1 = true) => (show Kd.R (Kd.int .i64) 3 w10 w.heap.size (fun _ => True) v103 y102 from by first | exact (Kd.R_elder' (by (with_reducible repeat (first | apply Kd.R_alloc | apply Kd.R_drewN | apply Kd.R_drew)); exact (Q_HO104 h0_)) (Kd.R_base ho11) hb) | exact Kd.R_mono (Kd.R_elder' (by (with_reducible repeat (first | apply Kd.R_alloc | apply Kd.R_drewN | apply Kd.R_drew)); exact (Q_HO104 h0_)) (Kd.R_base ho11) hb) (fun _ h_ => by first | trivial | exact h_ | exact h_.1))
   clear BK101 HB
   revert n0_ n1_ n2_; intro HO108 BK101 HB
   clear hb ho11
   refine hK.out _ _ ⟨v103, v107, (by rw [ha.out]; exact putSel_upk 4 hb_ rfl rfl rfl), (kp9 BK101.out), (bp9 HB.out), z_HO104, fun _ => (rp9 HO108.out)⟩
  refine steps_cons ?_ ?_
  ·rintro b a w' ⟨v103, v107, ha, Q_BK101, Q_HB, Q_HO104, Q_HO108⟩ hb_ hon hoff
   refine ⟨_, rfl, fun K hK => ?_⟩
   have e8 : a.tmps[8]? = some (.agg #[.slice A0_0 l0_0.length c0_0, .slice A0_1 l0_1.length c0_1, .slice A0_2 l0_2.length c0_2, .slice A0_3 l0_3.length c0_3, .slice A0_4 l0_4.length c0_4, .slice A0_5 l0_5.length c0_5, .slice A0_6 l0_6.length c0_6]) := by rw [ha]; exact putSel_on (e := (3, 8, .agg #[.slice A0_0 l0_0.length c0_0, .slice A0_1 l0_1.length c0_1, .slice A0_2 l0_2.length c0_2, .slice A0_3 l0_3.length c0_3, .slice A0_4 l0_4.length c0_4, .slice A0_5 l0_5.length c0_5, .slice A0_6 l0_6.length c0_6])) 3 rfl rfl (hon 3 (by kernel_rfl)) rfl
   have e9 : a.tmps[9]? = some (v107) := by rw [ha]; exact putSel_on (e := (4, 9, v107)) 4 rfl rfl (hon 4 (by kernel_rfl)) rfl
   replace ha := a9_ ha
   have BK101 := a9_ Q_BK101
   have HB := a9_ Q_HB
   have HO104 := a9_ (Q_HO104 (hon 1 (by kernel_rfl)))
   have HO108 := a9_ (Q_HO108 (hon 4 (by kernel_rfl)))
   obtain ⟨Ao17, co17, eo17⟩ := Kd.R_slice HO108.out
   (first | subst eo17 | (injection eo17 with f1_ f2_ f3_; have f4_ := f1_.symm; have f5_ := f3_.symm; clear f1_ f2_ f3_; subst f4_; subst f5_))
   refine goes_ Try.func74 (by kernel_rfl) rfl #[.agg #[.slice A0_0 l0_0.length c0_0, .slice A0_1 l0_1.length c0_1, .slice A0_2 l0_2.length c0_2, .slice A0_3 l0_3.length c0_3, .slice A0_4 l0_4.length c0_4, .slice A0_5 l0_5.length c0_5, .slice A0_6 l0_6.length c0_6], .slice Ao17 y106.length co17] (by rfl) rfl rfl (by first | (simp only [List.map_toArray, List.map_cons, List.map_nil, Act.eval, Array.getD_eq_getD_getElem?, Option.getD_some, e8, e9]; done) | (simp only [List.map_toArray, List.map_cons, List.map_nil, Act.eval, Array.getD_eq_getD_getElem?, Option.getD_some, e8, e9]; rfl)) ?_
   with_reducible refine (exec_Kinds.calls _ _ l0_0 _ _ l0_1 _ _ l0_2 _ _ l0_3 _ _ l0_4 _ _ l0_5 _ _ l0_6 _ _ y106 t109 _ ?side1 ?side2 ?side3 ?side4 ?side5 ?side6 ?side7 ?side8 ?side9 ?side10 ?side11 ?side12 ?side13 ?side14 ?side15 ?side16 A3.out).mono ?_
   (case side1 => exact cp9 HR0_0.out HB.out)
   (case side2 => exact HC0_0.out)
   (case side3 => exact cp9 HR0_1.out HB.out)
   (case side4 => exact HC0_1.out)
   (case side5 => exact cp9 HR0_2.out HB.out)
   (case side6 => exact HC0_2.out)
   (case side7 => exact cp9 HR0_3.out HB.out)
   (case side8 => exact HC0_3.out)
   (case side9 => exact cp9 HR0_4.out HB.out)
   (case side10 => exact HC0_4.out)
   (case side11 => exact cp9 HR0_5.out HB.out)
   (case side12 => exact HC0_5.out)
   (case side13 => exact cp9 HR0_6.out HB.out)
   (case side14 => exact HC0_6.out)
   (case side15 => exact lp9 (Kd.R_reads' HO108.out).2.2)
   (case side16 => exact (Kd.R_reads' HO108.out).2.1)
   rintro e w18 ⟨rfl, hb⟩
   refine ⟨_, rfl, ?_⟩
   have n0_ := a9_ (Kd.R_below (rp9 HO104.out) hb)
   have n1_ := a9_ (Kd.R_below (rp9 HO108.out) hb)
   have n2_ := a9_ (blk_below (kp9 BK101.out) hb)
   have n3_ := a9_ (below_step (bp9 HB.out) hb)
   clear HO104 HO108 BK101 HB
   revert n0_ n1_ n2_ n3_; intro HO104 HO108 BK101 HB
   (try clear hb)
   refine hK.out _ _ ⟨v103, .slice Ao17 y106.length co17, (by rw [ha.out]; exact putSel_upk 5 hb_ rfl rfl rfl), (kp9 BK101.out), (bp9 HB.out), fun _ => (rp9 HO104.out), fun _ => (rp9 HO108.out)⟩
  refine steps_cons ?_ ?_
  ·rintro b a w' ⟨v103, v107, ha, Q_BK101, Q_HB, Q_HO104, Q_HO108⟩ hb_ hon hoff
   refine ⟨_, rfl, fun K hK => ?_⟩
   have e7 : a.tmps[7]? = some (.int .u32 t105) := by rw [ha]; exact putSel_on (e := (2, 7, .int .u32 t105)) 2 rfl rfl (hon 2 (by kernel_rfl)) rfl
   replace ha := a9_ ha
   have BK101 := a9_ Q_BK101
   have HB := a9_ Q_HB
   have HO104 := a9_ (Q_HO104 (hon 1 (by kernel_rfl)))
   have HO108 := a9_ (Q_HO108 (hon 4 (by kernel_rfl)))
   refine value_ (w1 := w') (v := .int .u32 t105) (by rfl) rfl ?_ ?_
   ·go_simp
    (try simp only [i64_w])
    try rfl
   refine hK.out _ _ ⟨v103, v107, (by rw [ha.out]; exact putSel_upk 6 hb_ rfl rfl rfl), Q_BK101, Q_HB, Q_HO104, Q_HO108⟩
  refine steps_cons ?_ ?_
  ·rintro b a w' ⟨v103, v107, ha, Q_BK101, Q_HB, Q_HO104, Q_HO108⟩ hb_ hon hoff
   refine ⟨_, rfl, fun K hK => ?_⟩
   have e10 : a.tmps[10]? = some (.int .u32 t109) := by rw [ha]; exact putSel_on (e := (5, 10, .int .u32 t109)) 5 rfl rfl (hon 5 (by kernel_rfl)) rfl
   replace ha := a9_ ha
   have BK101 := a9_ Q_BK101
   have HB := a9_ Q_HB
   have HO104 := a9_ (Q_HO104 (hon 1 (by kernel_rfl)))
   have HO108 := a9_ (Q_HO108 (hon 4 (by kernel_rfl)))
   refine value_ (w1 := w') (v := .int .u32 t109) (by rfl) rfl ?_ ?_
   ·go_simp
    (try simp only [i64_w])
    try rfl
   refine hK.out _ _ ⟨v103, v107, (by rw [ha.out]; exact putSel_upk 7 hb_ rfl rfl rfl), Q_BK101, Q_HB, Q_HO104, Q_HO108⟩
  exact steps_nil
 rintro b a w18 hall ⟨v103, v107, ha, Q_BK101, Q_HB, Q_HO104, Q_HO108⟩
 clear BK101 HB
 have hb0_ := hall 0 (by kernel_rfl)
 have hb1_ := hall 1 (by kernel_rfl)
 have hb2_ := hall 2 (by kernel_rfl)
 have hb3_ := hall 3 (by kernel_rfl)
 have hb4_ := hall 4 (by kernel_rfl)
 have hb5_ := hall 5 (by kernel_rfl)
 have hb6_ := hall 6 (by kernel_rfl)
 have hb7_ := hall 7 (by kernel_rfl)
 subst ha
 simp only [putSel, hb0_, hb1_, hb2_, hb3_, hb4_, hb5_, hb6_, hb7_, if_true, Act.put, List.setIfInBounds_toArray, List.set_cons_zero, List.set_cons_succ]
 have BK101 := a9_ Q_BK101
 clear Q_BK101
 have HB := a9_ Q_HB
 clear Q_HB
 have HO104 := a9_ (Q_HO104 hb1_)
 clear Q_HO104
 have HO108 := a9_ (Q_HO108 hb4_)
 clear Q_HO108
 clear hall hb0_ hb1_ hb2_ hb3_ hb4_ hb5_ hb6_ hb7_
 try go_wp2
 have n0_ := a9_ (Kd.R_drew HO104.out)
 have n1_ := a9_ (Kd.R_drew HO108.out)
 have n2_ := a9_ (blk_drew BK101.out)
 have n3_ := a9_ (below_drew1 HB.out)
 clear HO104 HO108 BK101 HB
 revert n0_ n1_ n2_ n3_; intro HO104 HO108 BK101 HB
 refine start_ (n := 13) (S := fun w' => w'.cell? ⟨gb101, 0, none⟩ = some (.slice A0_0 l0_0.length c0_0) ∧ w'.cell? ⟨gb101, 1, none⟩ = some (.slice A0_1 l0_1.length c0_1) ∧ w'.cell? ⟨gb101, 2, none⟩ = some (.slice A0_2 l0_2.length c0_2) ∧ w'.cell? ⟨gb101, 3, none⟩ = some (.slice A0_3 l0_3.length c0_3) ∧ w'.cell? ⟨gb101, 4, none⟩ = some (.slice A0_4 l0_4.length c0_4) ∧ w'.cell? ⟨gb101, 5, none⟩ = some (.slice A0_5 l0_5.length c0_5) ∧ w'.cell? ⟨gb101, 6, none⟩ = some (.slice A0_6 l0_6.length c0_6)) (ds := []) #[o9, o9, o9, o9, o9, o9, o9, o9, o9, o9, o9, o9, o9] (by kernel_rfl) rfl rfl ⟨(blk_cell BK101.out 0).trans rfl, (blk_cell BK101.out 1).trans rfl, (blk_cell BK101.out 2).trans rfl, (blk_cell BK101.out 3).trans rfl, (blk_cell BK101.out 4).trans rfl, (blk_cell BK101.out 5).trans rfl, (blk_cell BK101.out 6).trans rfl⟩ (fun hHeld => ?_); refine with_tabW bob_Fences.tab2 bob_Fences.bits2 (fun HT_ HW_ => ?_)
 generalize w18.drew = w19 at HO104 HO108 BK101 HB hHeld ⊢
 refine pureA 4 (some 15) ?_ #[o9, o9, o9, o9, i9, o9, o9, o9, o9, o9, o9, o9, o9] rfl rfl (any_of HT_.out (by kernel_rfl)) ?_ ?_ ?_ ?_
 rotate_left
 ·intro w'; go_simp; with_reducible rfl
 rotate_left
 ·exact put9
 refine pureA 7 (some 18) ?_ #[o9, o9, o9, o9, i9, o9, o9, i9, o9, o9, o9, o9, o9] rfl rfl (any_of HT_.out (by kernel_rfl)) ?_ ?_ ?_ ?_
 rotate_left
 ·intro w'; go_simp; with_reducible rfl
 rotate_left
 ·exact put9
 refine pureA 8 (some 19) ?_ #[o9, o9, o9, o9, i9, o9, o9, i9, i9, o9, o9, o9, o9] rfl rfl (any_of HT_.out (by kernel_rfl)) ?_ ?_ ?_ ?_
 rotate_left
 ·intro w'; go_simp; with_reducible rfl
 rotate_left
 ·exact put9
 refine take_ (i := 0) (N := some 11) (v := ?_) (a' := ?_) #[i9, o9, o9, o9, i9, o9, o9, i9, i9, o9, o9, o9, o9] rfl rfl (take_ofW HT_.out HW_.out (by kernel_rfl)) (fun _ _ _ h => h) (Or.inl ⟨by rfl, ?_⟩) hHeld ?_ ?_
 rotate_left
 ·rintro w' ⟨s0, s1, s2, s3, s4, s5, s6⟩
  go_simp
  with_reducible rfl
 rotate_left
 ·exact put9
 refine take_ (i := 1) (N := some 12) (v := ?_) (a' := ?_) #[i9, i9, o9, o9, i9, o9, o9, i9, i9, o9, o9, o9, o9] rfl rfl (take_ofW HT_.out HW_.out (by kernel_rfl)) (fun _ _ _ h => h) (Or.inl ⟨by rfl, ?_⟩) hHeld ?_ ?_
 rotate_left
 ·rintro w' ⟨s0, s1, s2, s3, s4, s5, s6⟩
  go_simp
  with_reducible rfl
 rotate_left
 ·exact put9
 refine take_ (i := 3) (N := some 14) (v := ?_) (a' := ?_) #[i9, i9, o9, i9, i9, o9, o9, i9, i9, o9, o9, o9, o9] rfl rfl (take_ofW HT_.out HW_.out (by kernel_rfl)) (fun _ _ _ h => h) (Or.inl ⟨by rfl, ?_⟩) hHeld ?_ ?_
 rotate_left
 ·rintro w' ⟨s0, s1, s2, s3, s4, s5, s6⟩
  go_simp
  with_reducible rfl
 rotate_left
 ·exact put9
 refine take_ (i := 6) (N := some 17) (v := ?_) (a' := ?_) #[i9, i9, o9, i9, i9, o9, i9, i9, i9, o9, o9, o9, o9] rfl rfl (take_ofW HT_.out HW_.out (by kernel_rfl)) (fun _ _ _ h => h) (Or.inl ⟨by rfl, ?_⟩) hHeld ?_ ?_
 rotate_left
 ·rintro w' ⟨s0, s1, s2, s3, s4, s5, s6⟩
  go_simp
  with_reducible rfl
 rotate_left
 ·exact put9
 refine one_ (i := 2) (N := some 13) #[i9, i9, i9, i9, i9, o9, i9, i9, i9, o9, o9, o9, o9] rfl rfl (one_of HT_.out (by kernel_rfl)) (by decide) (fun K hK => ?_)
 refine goes9 Try.func127 (by kernel_rfl) rfl #[.agg #[.slice A0_0 l0_0.length c0_0, .slice A0_1 l0_1.length c0_1, .slice A0_2 l0_2.length c0_2, .slice A0_3 l0_3.length c0_3, .slice A0_4 l0_4.length c0_4, .slice A0_5 l0_5.length c0_5, .slice A0_6 l0_6.length c0_6], .int .u32 4294967295, .int .i64 3, .int .u32 4294967295] (by rfl) rfl rfl ?_
 with_reducible refine (bob_over.calls k _ _ l0_0 _ _ l0_1 _ _ l0_2 _ _ l0_3 _ _ l0_4 _ _ l0_5 _ _ l0_6 4294967295 3 4294967295 t110 _ ?side1 ?side2 ?side3 ?side4 ?side5 ?side6 ?side7 ?side8 ?side9 ?side10 ?side11 ?side12 ?side13 ?side14 A4.out).mono ?_
 (case side1 => exact cp9 HR0_0.out HB.out)
 (case side2 => exact HC0_0.out)
 (case side3 => exact cp9 HR0_1.out HB.out)
 (case side4 => exact HC0_1.out)
 (case side5 => exact cp9 HR0_2.out HB.out)
 (case side6 => exact HC0_2.out)
 (case side7 => exact cp9 HR0_3.out HB.out)
 (case side8 => exact HC0_3.out)
 (case side9 => exact cp9 HR0_4.out HB.out)
 (case side10 => exact HC0_4.out)
 (case side11 => exact cp9 HR0_5.out HB.out)
 (case side12 => exact HC0_5.out)
 (case side13 => exact cp9 HR0_6.out HB.out)
 (case side14 => exact HC0_6.out)
 rintro e w20 ⟨v111, rfl, ho0, hb⟩
 refine ⟨_, rfl, ?_⟩
 have n0_ := a9_ (Kd.R_below (rp9 HO104.out) hb)
 have n1_ := a9_ (Kd.R_below (rp9 HO108.out) hb)
 have n2_ := a9_ (Kd.R_lower ho0 (below_size (bp9 HB.out)))
 have n3_ := a9_ (blk_below (kp9 BK101.out) hb)
 have n4_ := a9_ (below_step (bp9 HB.out) hb)
 clear HO104 HO108 BK101 HB
 revert n0_ n1_ n2_ n3_ n4_; intro HO104 HO108 HO112 BK101 HB
 (try clear hb)
 (try clear ho0)
 refine hK.out _ _ ⟨(blk_cell BK101.out 0).trans rfl, (blk_cell BK101.out 1).trans rfl, (blk_cell BK101.out 2).trans rfl, (blk_cell BK101.out 3).trans rfl, (blk_cell BK101.out 4).trans rfl, (blk_cell BK101.out 5).trans rfl, (blk_cell BK101.out 6).trans rfl⟩ (fun hHeld => ?_)
 clear hK K
 refine norm_ (a' := ?_) ?_ ?_
 rotate_left
 ·show Act.put _ (some 13) _ = _
  exact put9
 refine one_ (i := 5) (N := some 16) #[i9, i9, i9, i9, i9, i9, i9, i9, i9, o9, o9, o9, o9] rfl rfl (one_of HT_.out (by kernel_rfl)) (by decide) (fun K hK => ?_)
 refine goes9 Try.func127 (by kernel_rfl) rfl #[.agg #[.slice A0_0 l0_0.length c0_0, .slice A0_1 l0_1.length c0_1, .slice A0_2 l0_2.length c0_2, .slice A0_3 l0_3.length c0_3, .slice A0_4 l0_4.length c0_4, .slice A0_5 l0_5.length c0_5, .slice A0_6 l0_6.length c0_6], .int .u32 t105, .int .i64 4, .int .u32 4294967295] (by rfl) rfl rfl ?_
 with_reducible refine (bob_over.calls k _ _ l0_0 _ _ l0_1 _ _ l0_2 _ _ l0_3 _ _ l0_4 _ _ l0_5 _ _ l0_6 t105 4 4294967295 t113 _ ?side1 ?side2 ?side3 ?side4 ?side5 ?side6 ?side7 ?side8 ?side9 ?side10 ?side11 ?side12 ?side13 ?side14 A5.out).mono ?_
 (case side1 => exact cp9 HR0_0.out HB.out)
 (case side2 => exact HC0_0.out)
 (case side3 => exact cp9 HR0_1.out HB.out)
 (case side4 => exact HC0_1.out)
 (case side5 => exact cp9 HR0_2.out HB.out)
 (case side6 => exact HC0_2.out)
 (case side7 => exact cp9 HR0_3.out HB.out)
 (case side8 => exact HC0_3.out)
 (case side9 => exact cp9 HR0_4.out HB.out)
 (case side10 => exact HC0_4.out)
 (case side11 => exact cp9 HR0_5.out HB.out)
 (case side12 => exact HC0_5.out)
 (case side13 => exact cp9 HR0_6.out HB.out)
 (case side14 => exact HC0_6.out)
 rintro e w21 ⟨v114, rfl, ho0, hb⟩
 refine ⟨_, rfl, ?_⟩
 have n0_ := a9_ (Kd.R_below (rp9 HO104.out) hb)
 have n1_ := a9_ (Kd.R_below (rp9 HO108.out) hb)
 have n2_ := a9_ (Kd.R_elder' (rp9 HO112.out) (Kd.R_base ho0) hb)
 have n3_ := a9_ (Kd.R_lower (Kd.R_new' ho0 (Kd.R_lt (rp9 HO112.out))) (below_size (bp9 HB.out)))
 have n4_ := a9_ (blk_below (kp9 BK101.out) hb)
 have n5_ := a9_ (below_step (bp9 HB.out) hb)
 clear HO104 HO108 HO112 BK101 HB
 revert n0_ n1_ n2_ n3_ n4_ n5_; intro HO104 HO108 HO112 HO115 BK101 HB
 (try clear hb)
 (try clear ho0)
 refine hK.out _ _ ⟨(blk_cell BK101.out 0).trans rfl, (blk_cell BK101.out 1).trans rfl, (blk_cell BK101.out 2).trans rfl, (blk_cell BK101.out 3).trans rfl, (blk_cell BK101.out 4).trans rfl, (blk_cell BK101.out 5).trans rfl, (blk_cell BK101.out 6).trans rfl⟩ (fun hHeld => ?_)
 clear hK K
 refine norm_ (a' := ?_) ?_ ?_
 rotate_left
 ·show Act.put _ (some 16) _ = _
  exact put9
 refine one_ (i := 9) (N := some 20) #[i9, i9, i9, i9, i9, i9, i9, i9, i9, i9, o9, o9, o9] rfl rfl (one_of HT_.out (by kernel_rfl)) (by decide) (fun K hK => ?_)
 refine goes9 Try.func127 (by kernel_rfl) rfl #[.agg #[.slice A0_0 l0_0.length c0_0, .slice A0_1 l0_1.length c0_1, .slice A0_2 l0_2.length c0_2, .slice A0_3 l0_3.length c0_3, .slice A0_4 l0_4.length c0_4, .slice A0_5 l0_5.length c0_5, .slice A0_6 l0_6.length c0_6], .int .u32 t109, .int .i64 5, .int .u32 t109] (by rfl) rfl rfl ?_
 with_reducible refine (bob_over.calls k _ _ l0_0 _ _ l0_1 _ _ l0_2 _ _ l0_3 _ _ l0_4 _ _ l0_5 _ _ l0_6 t109 5 t109 t116 _ ?side1 ?side2 ?side3 ?side4 ?side5 ?side6 ?side7 ?side8 ?side9 ?side10 ?side11 ?side12 ?side13 ?side14 A6.out).mono ?_
 (case side1 => exact cp9 HR0_0.out HB.out)
 (case side2 => exact HC0_0.out)
 (case side3 => exact cp9 HR0_1.out HB.out)
 (case side4 => exact HC0_1.out)
 (case side5 => exact cp9 HR0_2.out HB.out)
 (case side6 => exact HC0_2.out)
 (case side7 => exact cp9 HR0_3.out HB.out)
 (case side8 => exact HC0_3.out)
 (case side9 => exact cp9 HR0_4.out HB.out)
 (case side10 => exact HC0_4.out)
 (case side11 => exact cp9 HR0_5.out HB.out)
 (case side12 => exact HC0_5.out)
 (case side13 => exact cp9 HR0_6.out HB.out)
 (case side14 => exact HC0_6.out)
 rintro e w22 ⟨v117, rfl, ho0, hb⟩
 refine ⟨_, rfl, ?_⟩
 have n0_ := a9_ (Kd.R_below (rp9 HO104.out) hb)
 have n1_ := a9_ (Kd.R_below (rp9 HO108.out) hb)
 have n2_ := a9_ (Kd.R_elder' (rp9 HO112.out) (Kd.R_base ho0) hb)
 have n3_ := a9_ (Kd.R_elder' (rp9 HO115.out) (Kd.R_base ho0) hb)
 have n4_ := a9_ (Kd.R_lower (Kd.R_new' (Kd.R_new' ho0 (Kd.R_lt (rp9 HO112.out))) (Kd.R_lt (rp9 HO115.out))) (below_size (bp9 HB.out)))
 have n5_ := a9_ (blk_below (kp9 BK101.out) hb)
 have n6_ := a9_ (below_step (bp9 HB.out) hb)
 clear HO104 HO108 HO112 HO115 BK101 HB
 revert n0_ n1_ n2_ n3_ n4_ n5_ n6_; intro HO104 HO108 HO112 HO115 HO118 BK101 HB
 (try clear hb)
 (try clear ho0)
 obtain ⟨Ao23, co23, eo23⟩ := Kd.R_slice HO112.out
 (first | subst eo23 | (injection eo23 with f1_ f2_ f3_; have f4_ := f1_.symm; have f5_ := f3_.symm; clear f1_ f2_ f3_; subst f4_; subst f5_))
 obtain ⟨Ao24, co24, eo24⟩ := Kd.R_slice HO115.out
 (first | subst eo24 | (injection eo24 with f1_ f2_ f3_; have f4_ := f1_.symm; have f5_ := f3_.symm; clear f1_ f2_ f3_; subst f4_; subst f5_))
 obtain ⟨Ao25, co25, eo25⟩ := Kd.R_slice HO118.out
 (first | subst eo25 | (injection eo25 with f1_ f2_ f3_; have f4_ := f1_.symm; have f5_ := f3_.symm; clear f1_ f2_ f3_; subst f4_; subst f5_))
 refine hK.out _ _ ⟨(blk_cell BK101.out 0).trans rfl, (blk_cell BK101.out 1).trans rfl, (blk_cell BK101.out 2).trans rfl, (blk_cell BK101.out 3).trans rfl, (blk_cell BK101.out 4).trans rfl, (blk_cell BK101.out 5).trans rfl, (blk_cell BK101.out 6).trans rfl⟩ (fun hHeld => ?_)
 clear hK K
 refine norm_ (a' := ?_) ?_ ?_
 rotate_left
 ·show Act.put _ (some 20) _ = _
  exact put9
 refine one_ (i := 10) (N := some 21) #[i9, i9, i9, i9, i9, i9, i9, i9, i9, i9, i9, o9, o9] rfl rfl (one_of HT_.out (by kernel_rfl)) (by decide) (fun K hK => ?_)
 refine Kd.N_lit_step (Kd.slice 52 (Kd.int .u32)) _ 28 ?hg (N' := 21) ?hd (xs := ([t110, t113, t116] : List (List Int))) (inner := [.slice Ao23 t110.length co23, .slice Ao24 t113.length co24, .slice Ao25 t116.length co25]) (ok := (fun k_ => some k_ ≠ (v103 : Value).ownBlock ∧ some k_ ≠ (v107 : Value).ownBlock ∧ k_ ≠ gb101)) (okp := (fun k_ => some k_ ≠ (v103 : Value).ownBlock ∧ some k_ ≠ (v107 : Value).ownBlock ∧ k_ ≠ gb101)) ?hr ?hp (fun _ hk => hk) ((show ∀ k_, w22.heap.size ≤ k_ → (fun k_ => some k_ ≠ (v103 : Value).ownBlock ∧ some k_ ≠ (v107 : Value).ownBlock ∧ k_ ≠ gb101) k_ from fun k_ hk => ⟨Kd.fresh' (Kd.R_lt (rp9 HO104.out)) k_ hk, Kd.fresh' (Kd.R_lt (rp9 HO108.out)) k_ hk, Kd.freshB (g := gb101) (o := .cells #[.slice A0_0 l0_0.length c0_0, .slice A0_1 l0_1.length c0_1, .slice A0_2 l0_2.length c0_2, .slice A0_3 l0_3.length c0_3, .slice A0_4 l0_4.length c0_4, .slice A0_5 l0_5.length c0_5, .slice A0_6 l0_6.length c0_6] 31 (0, 0)) (kp9 BK101.out) k_ hk⟩) _ (Nat.le_refl _)) (Below.refl _ _) (Nat.le_refl _) (by simp) ?_; (case hd => rfl); (case hg => rfl); (case hr => first | (go_simp; done) | (go_simp; rfl)); (case hp => exact (Reps.one (show Kd.FK (Kd.slice 52 (Kd.int .u32)) _ _ t110 [.slice Ao23 t110.length co23] from (Kd.FK_slice_mk (Kd.R_reads' (Kd.R_mono (ok' := (fun k_ => some k_ ≠ (v103 : Value).ownBlock ∧ some k_ ≠ (v107 : Value).ownBlock ∧ k_ ≠ gb101)) (Kd.R_types (Kd.R_apart' (Kd.R_apart' (HO112.out) (Kd.R_typed HO104.out) (by decide)) (Kd.R_typed HO108.out) (by decide)) BK101.out (by decide)) (fun k_ hk => ⟨hk.1.1.2, ⟨hk.1.2, hk.2⟩⟩))).2.1 (Kd.R_F (Kd.R_mono (ok' := (fun k_ => some k_ ≠ (v103 : Value).ownBlock ∧ some k_ ≠ (v107 : Value).ownBlock ∧ k_ ≠ gb101)) (Kd.R_types (Kd.R_apart' (Kd.R_apart' (HO112.out) (Kd.R_typed HO104.out) (by decide)) (Kd.R_typed HO108.out) (by decide)) BK101.out (by decide)) (fun k_ hk => ⟨hk.1.1.2, ⟨hk.1.2, hk.2⟩⟩))))) (Reps.one (show Kd.FK (Kd.slice 52 (Kd.int .u32)) _ _ t113 [.slice Ao24 t113.length co24] from (Kd.FK_slice_mk (Kd.R_reads' (Kd.R_mono (ok' := (fun k_ => some k_ ≠ (v103 : Value).ownBlock ∧ some k_ ≠ (v107 : Value).ownBlock ∧ k_ ≠ gb101)) (Kd.R_types (Kd.R_apart' (Kd.R_apart' (HO115.out) (Kd.R_typed HO104.out) (by decide)) (Kd.R_typed HO108.out) (by decide)) BK101.out (by decide)) (fun k_ hk => ⟨hk.1.1.2, ⟨hk.1.2, hk.2⟩⟩))).2.1 (Kd.R_F (Kd.R_mono (ok' := (fun k_ => some k_ ≠ (v103 : Value).ownBlock ∧ some k_ ≠ (v107 : Value).ownBlock ∧ k_ ≠ gb101)) (Kd.R_types (Kd.R_apart' (Kd.R_apart' (HO115.out) (Kd.R_typed HO104.out) (by decide)) (Kd.R_typed HO108.out) (by decide)) BK101.out (by decide)) (fun k_ hk => ⟨hk.1.1.2, ⟨hk.1.2, hk.2⟩⟩))))) (Reps.one (show Kd.FK (Kd.slice 52 (Kd.int .u32)) _ _ t116 [.slice Ao25 t116.length co25] from (Kd.FK_slice_mk (Kd.R_reads' (Kd.R_mono (ok' := (fun k_ => some k_ ≠ (v103 : Value).ownBlock ∧ some k_ ≠ (v107 : Value).ownBlock ∧ k_ ≠ gb101)) (Kd.R_types (Kd.R_apart' (Kd.R_apart' (HO118.out) (Kd.R_typed HO104.out) (by decide)) (Kd.R_typed HO108.out) (by decide)) BK101.out (by decide)) (fun k_ hk => ⟨hk.1.1.2, ⟨hk.1.2, hk.2⟩⟩))).2.1 (Kd.R_F (Kd.R_mono (ok' := (fun k_ => some k_ ≠ (v103 : Value).ownBlock ∧ some k_ ≠ (v107 : Value).ownBlock ∧ k_ ≠ gb101)) (Kd.R_types (Kd.R_apart' (Kd.R_apart' (HO118.out) (Kd.R_typed HO104.out) (by decide)) (Kd.R_typed HO108.out) (by decide)) BK101.out (by decide)) (fun k_ hk => ⟨hk.1.1.2, ⟨hk.1.2, hk.2⟩⟩))))) (Reps.none _ _)))))
 intro v120 w26 ho27 hb hg_ hnew_
 clear hg_ hnew_
 (first | rw [← Ny119.out] at ho27 | (simp only [Int.reduceToNat] at ho27; rw [← Ny119.out] at ho27))
 have n0_ := a9_ (Kd.R_below (rp9 HO104.out) hb)
 have n1_ := a9_ (Kd.R_below (rp9 HO108.out) hb)
 have n2_ := a9_ (Kd.N_lower ho27 (below_size (bp9 HB.out)))
 have n3_ := a9_ (blk_below (kp9 BK101.out) hb)
 have n4_ := a9_ (below_step (bp9 HB.out) hb)
 clear HO104 HO108 BK101 HB HO112 HO115 HO118
 revert n0_ n1_ n2_ n3_ n4_; intro HO104 HO108 HO121 BK101 HB
 clear hb ho27
 obtain ⟨Ao28, co28, eo28⟩ := Kd.N_slice HO121.out
 (first | subst eo28 | (injection eo28 with f1_ f2_ f3_; have f4_ := f1_.symm; have f5_ := f3_.symm; clear f1_ f2_ f3_; subst f4_; subst f5_))
 refine hK.out _ _ ⟨(blk_cell BK101.out 0).trans rfl, (blk_cell BK101.out 1).trans rfl, (blk_cell BK101.out 2).trans rfl, (blk_cell BK101.out 3).trans rfl, (blk_cell BK101.out 4).trans rfl, (blk_cell BK101.out 5).trans rfl, (blk_cell BK101.out 6).trans rfl⟩ (fun hHeld => ?_)
 clear hK K
 refine norm_ (a' := ?_) ?_ ?_
 rotate_left
 ·show Act.put _ (some 21) _ = _
  exact put9
 refine one_ (i := 11) (N := some 22) #[i9, i9, i9, i9, i9, i9, i9, i9, i9, i9, i9, i9, o9] rfl rfl (one_of HT_.out (by kernel_rfl)) (by decide) (fun K hK => ?_)
 refine goes9 Try.func126 (by kernel_rfl) rfl #[.agg #[.slice A0_0 l0_0.length c0_0, .slice A0_1 l0_1.length c0_1, .slice A0_2 l0_2.length c0_2, .slice A0_3 l0_3.length c0_3, .slice A0_4 l0_4.length c0_4, .slice A0_5 l0_5.length c0_5, .slice A0_6 l0_6.length c0_6], .slice Ao28 y119.length co28] (by rfl) rfl rfl ?_
 with_reducible refine (bob_all.calls k _ _ l0_0 _ _ l0_1 _ _ l0_2 _ _ l0_3 _ _ l0_4 _ _ l0_5 _ _ l0_6 _ _ y119 t122 _ ?side1 ?side2 ?side3 ?side4 ?side5 ?side6 ?side7 ?side8 ?side9 ?side10 ?side11 ?side12 ?side13 ?side14 ?side15 ?side16 A7.out).mono ?_
 (case side1 => exact cp9 HR0_0.out HB.out)
 (case side2 => exact HC0_0.out)
 (case side3 => exact cp9 HR0_1.out HB.out)
 (case side4 => exact HC0_1.out)
 (case side5 => exact cp9 HR0_2.out HB.out)
 (case side6 => exact HC0_2.out)
 (case side7 => exact cp9 HR0_3.out HB.out)
 (case side8 => exact HC0_3.out)
 (case side9 => exact cp9 HR0_4.out HB.out)
 (case side10 => exact HC0_4.out)
 (case side11 => exact cp9 HR0_5.out HB.out)
 (case side12 => exact HC0_5.out)
 (case side13 => exact cp9 HR0_6.out HB.out)
 (case side14 => exact HC0_6.out)
 (case side15 => exact lp9 (Kd.N_reads' HO121.out).2.2)
 (case side16 => exact (Kd.N_reads' HO121.out).2.1)
 rintro e w29 ⟨v123, rfl, ho0, hb⟩
 refine ⟨_, rfl, ?_⟩
 have n0_ := a9_ (Kd.R_below (rp9 HO104.out) hb)
 have n1_ := a9_ (Kd.R_below (rp9 HO108.out) hb)
 have n2_ := a9_ (Kd.N_elder' (by (with_reducible repeat (first | apply Kd.N_alloc | apply Kd.N_drewN | apply Kd.N_drew)); exact HO121.out) (Kd.R_base ho0) hb)
 have n3_ := a9_ (Kd.R_lower ho0 (below_size (bp9 HB.out)))
 have n4_ := a9_ (blk_below (kp9 BK101.out) hb)
 have n5_ := a9_ (below_step (bp9 HB.out) hb)
 clear HO104 HO108 HO121 BK101 HB
 revert n0_ n1_ n2_ n3_ n4_ n5_; intro HO104 HO108 HO121 HO124 BK101 HB
 (try clear hb)
 (try clear ho0)
 refine hK.out _ _ ⟨(blk_cell BK101.out 0).trans rfl, (blk_cell BK101.out 1).trans rfl, (blk_cell BK101.out 2).trans rfl, (blk_cell BK101.out 3).trans rfl, (blk_cell BK101.out 4).trans rfl, (blk_cell BK101.out 5).trans rfl, (blk_cell BK101.out 6).trans rfl⟩ (fun hHeld => ?_)
 clear hK K
 refine norm_ (a' := ?_) ?_ ?_
 rotate_left
 ·show Act.put _ (some 22) _ = _
  exact put9
 refine pureA 12 (some 2) ?_ #[i9, i9, i9, i9, i9, i9, i9, i9, i9, i9, i9, i9, i9] rfl rfl (any_of HT_.out (by kernel_rfl)) ?_ ?_ ?_ ?_
 rotate_left
 ·intro w'; go_simp; with_reducible rfl
 rotate_left
 ·exact put9
 refine done_ (done_of HT_.out (by kernel_rfl)) ?_
 try go_wp2
 go_ret
 exact ⟨_, rt9, by (with_reducible repeat (first | apply Kd.R_alloc | apply Kd.R_drewN | apply Kd.R_drew)); exact HO124.out, bp9 HB.out⟩
def bob_Orders.f (k : Nat) (l0_0 : List (S26)) (l0_1 : List Int) (l0_2 : List Int) (l0_3 : List Int) (l0_4 : List Int) (l0_5 : List Int) (l0_6 : List (List Int)) : Option (List Int) := (bob_Acquires.f l0_0 l0_1 l0_2 l0_3 l0_4 l0_5 l0_6).bind fun t102 => ((bob_Releases.f l0_0 l0_1 l0_2 l0_3 l0_4 l0_5 l0_6).bind fun t103 => ((rel_Only.f k l0_1 t102 4294967295).bind fun t104 => ((rel_Only.f k l0_1 4294967295 t103).bind fun t107 => ((rel_Only.f k l0_1 t103 t102).bind fun t110 => ((bob_all.f k l0_0 l0_1 l0_2 l0_3 l0_4 l0_5 l0_6 (([t104, t107, t110] : List (List Int)))).bind fun t116 => (some t116))))))
def bob_Orders.T2 : Bool × List (List Nat × List Nat) := (true, [([], []), ([], []), ([1], [1]), ([], []), ([2, 3], [2, 3]), ([], []), ([5], [5]), ([], []), ([6, 7, 4], [6, 7]), ([], []), ([9], [9]), ([], []), ([], []), ([10, 11, 12, 8], [10, 11, 12]), ([4, 8, 13], [4, 8, 13]), ([0, 14, 13], [0, 14]), ([15, 15, 0, 1, 2, 3, 4, 5, 6, 7, 8, 9, 10, 11, 12, 13, 14, 15], [15])])
def bob_Orders.B2 : List Nat := [0, 0, 2, 0, 14, 0, 32, 0, 254, 0, 512, 0, 0, 8190, 16382, 32767, 65535]
theorem bob_Orders.tab2 : rtab .any (opsOf Try.f75 2) = bob_Orders.T2 := by kernel_rfl
theorem bob_Orders.bits2 : waitsOk bob_Orders.T2.2 bob_Orders.B2 = true := by kernel_rfl
theorem bob_Orders.calls (k : Nat) (A0_0 : Option Addr) (c0_0 : Nat) (l0_0 : List (S26)) (A0_1 : Option Addr) (c0_1 : Nat) (l0_1 : List Int) (A0_2 : Option Addr) (c0_2 : Nat) (l0_2 : List Int) (A0_3 : Option Addr) (c0_3 : Nat) (l0_3 : List Int) (A0_4 : Option Addr) (c0_4 : Nat) (l0_4 : List Int) (A0_5 : Option Addr) (c0_5 : Nat) (l0_5 : List Int) (A0_6 : Option Addr) (c0_6 : Nat) (l0_6 : List (List Int)) (r : List Int) (w : World) (hr0_0 : Kd.C k26 w A0_0 l0_0.length l0_0) (hc0_0 : l0_0.length ≤ c0_0) (hr0_1 : Kd.C (Kd.int .u32) w A0_1 l0_1.length l0_1) (hc0_1 : l0_1.length ≤ c0_1) (hr0_2 : Kd.C (Kd.int .u32) w A0_2 l0_2.length l0_2) (hc0_2 : l0_2.length ≤ c0_2) (hr0_3 : Kd.C (Kd.int .u32) w A0_3 l0_3.length l0_3) (hc0_3 : l0_3.length ≤ c0_3) (hr0_4 : Kd.C (Kd.int .u32) w A0_4 l0_4.length l0_4) (hc0_4 : l0_4.length ≤ c0_4) (hr0_5 : Kd.C (Kd.int .u32) w A0_5 l0_5.length l0_5) (hc0_5 : l0_5.length ≤ c0_5) (hr0_6 : Kd.C (Kd.slice 2 (Kd.int .i64)) w A0_6 l0_6.length l0_6) (hc0_6 : l0_6.length ≤ c0_6) (h : bob_Orders.f k l0_0 l0_1 l0_2 l0_3 l0_4 l0_5 l0_6 = some r) :
  Calls Try.prog 75 #[.agg #[.slice A0_0 l0_0.length c0_0, .slice A0_1 l0_1.length c0_1, .slice A0_2 l0_2.length c0_2, .slice A0_3 l0_3.length c0_3, .slice A0_4 l0_4.length c0_4, .slice A0_5 l0_5.length c0_5, .slice A0_6 l0_6.length c0_6]] w fun e w' => ∃ v0_ : Value, e = .returned (v0_) ∧ Kd.R (Kd.int .u32) 52 w' w.heap.size (fun _ => True) v0_ r ∧ Below w.heap.size w w' := by
 have hu31 := Try.underlying31
 have HR0_0 := a9_ hr0_0
 have HC0_0 := a9_ hc0_0
 clear hr0_0 hc0_0
 have HR0_1 := a9_ hr0_1
 have HC0_1 := a9_ hc0_1
 clear hr0_1 hc0_1
 have HR0_2 := a9_ hr0_2
 have HC0_2 := a9_ hc0_2
 clear hr0_2 hc0_2
 have HR0_3 := a9_ hr0_3
 have HC0_3 := a9_ hc0_3
 clear hr0_3 hc0_3
 have HR0_4 := a9_ hr0_4
 have HC0_4 := a9_ hc0_4
 clear hr0_4 hc0_4
 have HR0_5 := a9_ hr0_5
 have HC0_5 := a9_ hc0_5
 clear hr0_5 hc0_5
 have HR0_6 := a9_ hr0_6
 have HC0_6 := a9_ hc0_6
 clear hr0_6 hc0_6
 have HB := a9_ (Below.refl w.heap.size w)
 have H : ((bob_Acquires.f l0_0 l0_1 l0_2 l0_3 l0_4 l0_5 l0_6).bind fun t102 => ((bob_Releases.f l0_0 l0_1 l0_2 l0_3 l0_4 l0_5 l0_6).bind fun t103 => ((rel_Only.f k l0_1 t102 4294967295).bind fun t104 => ((rel_Only.f k l0_1 4294967295 t103).bind fun t107 => ((rel_Only.f k l0_1 t103 t102).bind fun t110 => ((bob_all.f k l0_0 l0_1 l0_2 l0_3 l0_4 l0_5 l0_6 (([t104, t107, t110] : List (List Int)))).bind fun t116 => (some t116))))))) = some r := h
 clear h
 replace H := Option.bind_eq_some_iff.mp H
 obtain ⟨t102, A20, H⟩ := H
 have A2 := a9_ A20
 clear A20
 replace H := Option.bind_eq_some_iff.mp H
 obtain ⟨t103, A30, H⟩ := H
 have A3 := a9_ A30
 clear A30
 replace H := Option.bind_eq_some_iff.mp H
 obtain ⟨t104, A40, H⟩ := H
 have A4 := a9_ A40
 clear A40
 replace H := Option.bind_eq_some_iff.mp H
 obtain ⟨t107, A50, H⟩ := H
 have A5 := a9_ A50
 clear A50
 replace H := Option.bind_eq_some_iff.mp H
 obtain ⟨t110, A60, H⟩ := H
 have A6 := a9_ A60
 clear A60
 obtain ⟨y113, hy113⟩ : ∃ y_ : List (List Int), y_ = (([t104, t107, t110] : List (List Int))) := ⟨_, rfl⟩
 replace H : ((bob_all.f k l0_0 l0_1 l0_2 l0_3 l0_4 l0_5 l0_6 y113).bind fun t116 => (some t116)) = some r := by first | (rw [hy113]; with_reducible exact H) | (have H2_ := (Option.bind_some _ _).symm.trans H; rw [hy113]; with_reducible exact H2_) | (have H2_ := (Option.bind_some _ _).symm.trans H; with_reducible exact H2_) | with_reducible exact H | (rw [hy113]; exact H) | exact H
 have Ny113 := a9_ hy113
 clear hy113
 replace H := Option.bind_eq_some_iff.mp H
 obtain ⟨t116, A70, H⟩ := H
 have A7 := a9_ A70
 clear A70
 obtain rfl := Option.some.inj H
 go_enter Try.func75, Try.ntmps75
 try go_wp2_with (first | ((with_reducible refine gate_dst (N := 1) rfl ?_); refine box9 (N := 1) (cs := #[.slice A0_0 l0_0.length c0_0, .slice A0_1 l0_1.length c0_1, .slice A0_2 l0_2.length c0_2, .slice A0_3 l0_3.length c0_3, .slice A0_4 l0_4.length c0_4, .slice A0_5 l0_5.length c0_5, .slice A0_6 l0_6.length c0_6]) (t := 31) ?_; intro gb101 hg w8 hbox hb; have n0_ := a9_ (below_step (bp9 HB.out) hb); have n1_ := a9_ (hbox); have n2_ := a9_ ((by rw [hg]; exact (below_size (bp9 HB.out)) : w.heap.size ≤ gb101)); have n3_ := n2_; clear HB; have HB := n0_; have BK101 := n1_; have GW101 := n2_; have GE101 := n3_; clear n0_ n1_ n2_ n3_; clear hb hbox hg))
 have n0_ := a9_ (blk_drew BK101.out)
 have n1_ := a9_ (below_drew1 HB.out)
 clear BK101 HB
 revert n0_ n1_; intro BK101 HB
 refine start_ (n := 6) (S := fun w' => w'.cell? ⟨gb101, 0, none⟩ = some (.slice A0_0 l0_0.length c0_0) ∧ w'.cell? ⟨gb101, 1, none⟩ = some (.slice A0_1 l0_1.length c0_1) ∧ w'.cell? ⟨gb101, 2, none⟩ = some (.slice A0_2 l0_2.length c0_2) ∧ w'.cell? ⟨gb101, 3, none⟩ = some (.slice A0_3 l0_3.length c0_3) ∧ w'.cell? ⟨gb101, 4, none⟩ = some (.slice A0_4 l0_4.length c0_4) ∧ w'.cell? ⟨gb101, 5, none⟩ = some (.slice A0_5 l0_5.length c0_5) ∧ w'.cell? ⟨gb101, 6, none⟩ = some (.slice A0_6 l0_6.length c0_6)) (ds := []) #[o9, o9, o9, o9, o9, o9] (by kernel_rfl) rfl rfl ⟨(blk_cell BK101.out 0).trans rfl, (blk_cell BK101.out 1).trans rfl, (blk_cell BK101.out 2).trans rfl, (blk_cell BK101.out 3).trans rfl, (blk_cell BK101.out 4).trans rfl, (blk_cell BK101.out 5).trans rfl, (blk_cell BK101.out 6).trans rfl⟩ (fun hHeld => ?_)
 generalize w8.drew = w9 at BK101 HB hHeld ⊢
 refine take_ (i := 0) (N := some 5) (v := ?_) (a' := ?_) #[i9, o9, o9, o9, o9, o9] rfl rfl (by kernel_rfl) (fun _ _ _ h => h) (Or.inl ⟨by rfl, ?_⟩) hHeld ?_ ?_
 rotate_left
 ·rintro w' ⟨s0, s1, s2, s3, s4, s5, s6⟩
  go_simp
  with_reducible rfl
 rotate_left
 ·exact put9
 refine take_ (i := 2) (N := some 7) (v := ?_) (a' := ?_) #[i9, o9, i9, o9, o9, o9] rfl rfl (by kernel_rfl) (fun _ _ _ h => h) (Or.inl ⟨by rfl, ?_⟩) hHeld ?_ ?_
 rotate_left
 ·rintro w' ⟨s0, s1, s2, s3, s4, s5, s6⟩
  go_simp
  with_reducible rfl
 rotate_left
 ·exact put9
 refine one_ (i := 1) (N := some 6) #[i9, i9, i9, o9, o9, o9] rfl rfl (by kernel_rfl) (by decide) (fun K hK => ?_)
 refine goes9 Try.func76 (by kernel_rfl) rfl #[.agg #[.slice A0_0 l0_0.length c0_0, .slice A0_1 l0_1.length c0_1, .slice A0_2 l0_2.length c0_2, .slice A0_3 l0_3.length c0_3, .slice A0_4 l0_4.length c0_4, .slice A0_5 l0_5.length c0_5, .slice A0_6 l0_6.length c0_6]] (by rfl) rfl rfl ?_
 with_reducible refine (bob_Acquires.calls _ _ l0_0 _ _ l0_1 _ _ l0_2 _ _ l0_3 _ _ l0_4 _ _ l0_5 _ _ l0_6 t102 _ ?side1 ?side2 ?side3 ?side4 ?side5 ?side6 ?side7 ?side8 ?side9 ?side10 ?side11 ?side12 ?side13 ?side14 A2.out).mono ?_
 (case side1 => exact cp9 HR0_0.out HB.out)
 (case side2 => exact HC0_0.out)
 (case side3 => exact cp9 HR0_1.out HB.out)
 (case side4 => exact HC0_1.out)
 (case side5 => exact cp9 HR0_2.out HB.out)
 (case side6 => exact HC0_2.out)
 (case side7 => exact cp9 HR0_3.out HB.out)
 (case side8 => exact HC0_3.out)
 (case side9 => exact cp9 HR0_4.out HB.out)
 (case side10 => exact HC0_4.out)
 (case side11 => exact cp9 HR0_5.out HB.out)
 (case side12 => exact HC0_5.out)
 (case side13 => exact cp9 HR0_6.out HB.out)
 (case side14 => exact HC0_6.out)
 rintro e w10 ⟨rfl, hb⟩
 refine ⟨_, rfl, ?_⟩
 have n0_ := a9_ (blk_below (kp9 BK101.out) hb)
 have n1_ := a9_ (below_step (bp9 HB.out) hb)
 clear BK101 HB
 revert n0_ n1_; intro BK101 HB
 (try clear hb)
 refine hK.out _ _ ⟨(blk_cell BK101.out 0).trans rfl, (blk_cell BK101.out 1).trans rfl, (blk_cell BK101.out 2).trans rfl, (blk_cell BK101.out 3).trans rfl, (blk_cell BK101.out 4).trans rfl, (blk_cell BK101.out 5).trans rfl, (blk_cell BK101.out 6).trans rfl⟩ (fun hHeld => ?_)
 clear hK K
 refine norm_ (a' := ?_) ?_ ?_
 rotate_left
 ·show Act.put _ (some 6) _ = _
  exact put9
 refine one_ (i := 3) (N := some 8) #[i9, i9, i9, i9, o9, o9] rfl rfl (by kernel_rfl) (by decide) (fun K hK => ?_)
 refine goes9 Try.func77 (by kernel_rfl) rfl #[.agg #[.slice A0_0 l0_0.length c0_0, .slice A0_1 l0_1.length c0_1, .slice A0_2 l0_2.length c0_2, .slice A0_3 l0_3.length c0_3, .slice A0_4 l0_4.length c0_4, .slice A0_5 l0_5.length c0_5, .slice A0_6 l0_6.length c0_6]] (by rfl) rfl rfl ?_
 with_reducible refine (bob_Releases.calls _ _ l0_0 _ _ l0_1 _ _ l0_2 _ _ l0_3 _ _ l0_4 _ _ l0_5 _ _ l0_6 t103 _ ?side1 ?side2 ?side3 ?side4 ?side5 ?side6 ?side7 ?side8 ?side9 ?side10 ?side11 ?side12 ?side13 ?side14 A3.out).mono ?_
 (case side1 => exact cp9 HR0_0.out HB.out)
 (case side2 => exact HC0_0.out)
 (case side3 => exact cp9 HR0_1.out HB.out)
 (case side4 => exact HC0_1.out)
 (case side5 => exact cp9 HR0_2.out HB.out)
 (case side6 => exact HC0_2.out)
 (case side7 => exact cp9 HR0_3.out HB.out)
 (case side8 => exact HC0_3.out)
 (case side9 => exact cp9 HR0_4.out HB.out)
 (case side10 => exact HC0_4.out)
 (case side11 => exact cp9 HR0_5.out HB.out)
 (case side12 => exact HC0_5.out)
 (case side13 => exact cp9 HR0_6.out HB.out)
 (case side14 => exact HC0_6.out)
 rintro e w11 ⟨rfl, hb⟩
 refine ⟨_, rfl, ?_⟩
 have n0_ := a9_ (blk_below (kp9 BK101.out) hb)
 have n1_ := a9_ (below_step (bp9 HB.out) hb)
 clear BK101 HB
 revert n0_ n1_; intro BK101 HB
 (try clear hb)
 refine hK.out _ _ ⟨(blk_cell BK101.out 0).trans rfl, (blk_cell BK101.out 1).trans rfl, (blk_cell BK101.out 2).trans rfl, (blk_cell BK101.out 3).trans rfl, (blk_cell BK101.out 4).trans rfl, (blk_cell BK101.out 5).trans rfl, (blk_cell BK101.out 6).trans rfl⟩ (fun hHeld => ?_)
 clear hK K
 refine norm_ (a' := ?_) ?_ ?_
 rotate_left
 ·show Act.put _ (some 8) _ = _
  exact put9
 refine pureA 4 (some 3) ?_ #[i9, i9, i9, i9, i9, o9] rfl rfl (by kernel_rfl) ?_ ?_ ?_ ?_
 rotate_left
 ·intro w'; go_simp; with_reducible rfl
 rotate_left
 ·exact put9
 refine pureA 5 (some 4) ?_ #[i9, i9, i9, i9, i9, i9] rfl rfl (by kernel_rfl) ?_ ?_ ?_ ?_
 rotate_left
 ·intro w'; go_simp; with_reducible rfl
 rotate_left
 ·exact put9
 refine done_ (by kernel_rfl) ?_
 try go_wp2
 have n0_ := a9_ (blk_drew BK101.out)
 have n1_ := a9_ (below_drew1 HB.out)
 clear BK101 HB
 revert n0_ n1_; intro BK101 HB
 refine start_ (n := 17) (S := fun w' => w'.cell? ⟨gb101, 0, none⟩ = some (.slice A0_0 l0_0.length c0_0) ∧ w'.cell? ⟨gb101, 1, none⟩ = some (.slice A0_1 l0_1.length c0_1) ∧ w'.cell? ⟨gb101, 2, none⟩ = some (.slice A0_2 l0_2.length c0_2) ∧ w'.cell? ⟨gb101, 3, none⟩ = some (.slice A0_3 l0_3.length c0_3) ∧ w'.cell? ⟨gb101, 4, none⟩ = some (.slice A0_4 l0_4.length c0_4) ∧ w'.cell? ⟨gb101, 5, none⟩ = some (.slice A0_5 l0_5.length c0_5) ∧ w'.cell? ⟨gb101, 6, none⟩ = some (.slice A0_6 l0_6.length c0_6)) (ds := []) #[o9, o9, o9, o9, o9, o9, o9, o9, o9, o9, o9, o9, o9, o9, o9, o9, o9] (by kernel_rfl) rfl rfl ⟨(blk_cell BK101.out 0).trans rfl, (blk_cell BK101.out 1).trans rfl, (blk_cell BK101.out 2).trans rfl, (blk_cell BK101.out 3).trans rfl, (blk_cell BK101.out 4).trans rfl, (blk_cell BK101.out 5).trans rfl, (blk_cell BK101.out 6).trans rfl⟩ (fun hHeld => ?_); refine with_tabW bob_Orders.tab2 bob_Orders.bits2 (fun HT_ HW_ => ?_)
 generalize w11.drew = w12 at BK101 HB hHeld ⊢
 refine pureA 1 (some 10) ?_ #[o9, i9, o9, o9, o9, o9, o9, o9, o9, o9, o9, o9, o9, o9, o9, o9, o9] rfl rfl (any_of HT_.out (by kernel_rfl)) ?_ ?_ ?_ ?_
 rotate_left
 ·intro w'; go_simp; with_reducible rfl
 rotate_left
 ·exact put9
 refine pureA 3 (some 12) ?_ #[o9, i9, o9, i9, o9, o9, o9, o9, o9, o9, o9, o9, o9, o9, o9, o9, o9] rfl rfl (any_of HT_.out (by kernel_rfl)) ?_ ?_ ?_ ?_
 rotate_left
 ·intro w'; go_simp; with_reducible rfl
 rotate_left
 ·exact put9
 refine pureA 5 (some 14) ?_ #[o9, i9, o9, i9, o9, i9, o9, o9, o9, o9, o9, o9, o9, o9, o9, o9, o9] rfl rfl (any_of HT_.out (by kernel_rfl)) ?_ ?_ ?_ ?_
 rotate_left
 ·intro w'; go_simp; with_reducible rfl
 rotate_left
 ·exact put9
 refine pureA 7 (some 16) ?_ #[o9, i9, o9, i9, o9, i9, o9, i9, o9, o9, o9, o9, o9, o9, o9, o9, o9] rfl rfl (any_of HT_.out (by kernel_rfl)) ?_ ?_ ?_ ?_
 rotate_left
 ·intro w'; go_simp; with_reducible rfl
 rotate_left
 ·exact put9
 refine pureA 9 (some 18) ?_ #[o9, i9, o9, i9, o9, i9, o9, i9, o9, i9, o9, o9, o9, o9, o9, o9, o9] rfl rfl (any_of HT_.out (by kernel_rfl)) ?_ ?_ ?_ ?_
 rotate_left
 ·intro w'; go_simp; with_reducible rfl
 rotate_left
 ·exact put9
 refine pureA 11 (some 20) ?_ #[o9, i9, o9, i9, o9, i9, o9, i9, o9, i9, o9, i9, o9, o9, o9, o9, o9] rfl rfl (any_of HT_.out (by kernel_rfl)) ?_ ?_ ?_ ?_
 rotate_left
 ·intro w'; go_simp; with_reducible rfl
 rotate_left
 ·exact put9
 refine pureA 12 (some 21) ?_ #[o9, i9, o9, i9, o9, i9, o9, i9, o9, i9, o9, i9, i9, o9, o9, o9, o9] rfl rfl (any_of HT_.out (by kernel_rfl)) ?_ ?_ ?_ ?_
 rotate_left
 ·intro w'; go_simp; with_reducible rfl
 rotate_left
 ·exact put9
 refine take_ (i := 0) (N := some 9) (v := ?_) (a' := ?_) #[i9, i9, o9, i9, o9, i9, o9, i9, o9, i9, o9, i9, i9, o9, o9, o9, o9] rfl rfl (take_ofW HT_.out HW_.out (by kernel_rfl)) (fun _ _ _ h => h) (Or.inl ⟨by rfl, ?_⟩) hHeld ?_ ?_
 rotate_left
 ·rintro w' ⟨s0, s1, s2, s3, s4, s5, s6⟩
  go_simp
  with_reducible rfl
 rotate_left
 ·exact put9
 refine take_ (i := 2) (N := some 11) (v := ?_) (a' := ?_) #[i9, i9, i9, i9, o9, i9, o9, i9, o9, i9, o9, i9, i9, o9, o9, o9, o9] rfl rfl (take_ofW HT_.out HW_.out (by kernel_rfl)) (fun _ _ _ h => h) (Or.inl ⟨by rfl, ?_⟩) hHeld ?_ ?_
 rotate_left
 ·rintro w' ⟨s0, s1, s2, s3, s4, s5, s6⟩
  go_simp
  with_reducible rfl
 rotate_left
 ·exact put9
 refine take_ (i := 6) (N := some 15) (v := ?_) (a' := ?_) #[i9, i9, i9, i9, o9, i9, i9, i9, o9, i9, o9, i9, i9, o9, o9, o9, o9] rfl rfl (take_ofW HT_.out HW_.out (by kernel_rfl)) (fun _ _ _ h => h) (Or.inl ⟨by rfl, ?_⟩) hHeld ?_ ?_
 rotate_left
 ·rintro w' ⟨s0, s1, s2, s3, s4, s5, s6⟩
  go_simp
  with_reducible rfl
 rotate_left
 ·exact put9
 refine take_ (i := 10) (N := some 19) (v := ?_) (a' := ?_) #[i9, i9, i9, i9, o9, i9, i9, i9, o9, i9, i9, i9, i9, o9, o9, o9, o9] rfl rfl (take_ofW HT_.out HW_.out (by kernel_rfl)) (fun _ _ _ h => h) (Or.inl ⟨by rfl, ?_⟩) hHeld ?_ ?_
 rotate_left
 ·rintro w' ⟨s0, s1, s2, s3, s4, s5, s6⟩
  go_simp
  with_reducible rfl
 rotate_left
 ·exact put9
 refine one_ (i := 4) (N := some 13) #[i9, i9, i9, i9, i9, i9, i9, i9, o9, i9, i9, i9, i9, o9, o9, o9, o9] rfl rfl (one_of HT_.out (by kernel_rfl)) (by decide) (fun K hK => ?_)
 refine goes9 Try.func54 (by kernel_rfl) rfl #[.slice A0_1 l0_1.length c0_1, .int .u32 t102, .int .u32 4294967295] (by rfl) rfl rfl ?_
 with_reducible refine (rel_Only.calls k _ _ l0_1 t102 4294967295 t104 _ ?side1 ?side2 A4.out).mono ?_
 (case side1 => exact cp9 HR0_1.out HB.out)
 (case side2 => exact HC0_1.out)
 rintro e w13 ⟨v105, rfl, ho0, hb⟩
 refine ⟨_, rfl, ?_⟩
 have n0_ := a9_ (Kd.R_lower ho0 (below_size (bp9 HB.out)))
 have n1_ := a9_ (blk_below (kp9 BK101.out) hb)
 have n2_ := a9_ (below_step (bp9 HB.out) hb)
 clear BK101 HB
 revert n0_ n1_ n2_; intro HO106 BK101 HB
 (try clear hb)
 (try clear ho0)
 refine hK.out _ _ ⟨(blk_cell BK101.out 0).trans rfl, (blk_cell BK101.out 1).trans rfl, (blk_cell BK101.out 2).trans rfl, (blk_cell BK101.out 3).trans rfl, (blk_cell BK101.out 4).trans rfl, (blk_cell BK101.out 5).trans rfl, (blk_cell BK101.out 6).trans rfl⟩ (fun hHeld => ?_)
 clear hK K
 refine norm_ (a' := ?_) ?_ ?_
 rotate_left
 ·show Act.put _ (some 13) _ = _
  exact put9
 refine one_ (i := 8) (N := some 17) #[i9, i9, i9, i9, i9, i9, i9, i9, i9, i9, i9, i9, i9, o9, o9, o9, o9] rfl rfl (one_of HT_.out (by kernel_rfl)) (by decide) (fun K hK => ?_)
 refine goes9 Try.func54 (by kernel_rfl) rfl #[.slice A0_1 l0_1.length c0_1, .int .u32 4294967295, .int .u32 t103] (by rfl) rfl rfl ?_
 with_reducible refine (rel_Only.calls k _ _ l0_1 4294967295 t103 t107 _ ?side1 ?side2 A5.out).mono ?_
 (case side1 => exact cp9 HR0_1.out HB.out)
 (case side2 => exact HC0_1.out)
 rintro e w14 ⟨v108, rfl, ho0, hb⟩
 refine ⟨_, rfl, ?_⟩
 have n0_ := a9_ (Kd.R_elder' (rp9 HO106.out) (Kd.R_base ho0) hb)
 have n1_ := a9_ (Kd.R_lower (Kd.R_new' ho0 (Kd.R_lt (rp9 HO106.out))) (below_size (bp9 HB.out)))
 have n2_ := a9_ (blk_below (kp9 BK101.out) hb)
 have n3_ := a9_ (below_step (bp9 HB.out) hb)
 clear HO106 BK101 HB
 revert n0_ n1_ n2_ n3_; intro HO106 HO109 BK101 HB
 (try clear hb)
 (try clear ho0)
 refine hK.out _ _ ⟨(blk_cell BK101.out 0).trans rfl, (blk_cell BK101.out 1).trans rfl, (blk_cell BK101.out 2).trans rfl, (blk_cell BK101.out 3).trans rfl, (blk_cell BK101.out 4).trans rfl, (blk_cell BK101.out 5).trans rfl, (blk_cell BK101.out 6).trans rfl⟩ (fun hHeld => ?_)
 clear hK K
 refine norm_ (a' := ?_) ?_ ?_
 rotate_left
 ·show Act.put _ (some 17) _ = _
  exact put9
 refine one_ (i := 13) (N := some 22) #[i9, i9, i9, i9, i9, i9, i9, i9, i9, i9, i9, i9, i9, i9, o9, o9, o9] rfl rfl (one_of HT_.out (by kernel_rfl)) (by decide) (fun K hK => ?_)
 refine goes9 Try.func54 (by kernel_rfl) rfl #[.slice A0_1 l0_1.length c0_1, .int .u32 t103, .int .u32 t102] (by rfl) rfl rfl ?_
 with_reducible refine (rel_Only.calls k _ _ l0_1 t103 t102 t110 _ ?side1 ?side2 A6.out).mono ?_
 (case side1 => exact cp9 HR0_1.out HB.out)
 (case side2 => exact HC0_1.out)
 rintro e w15 ⟨v111, rfl, ho0, hb⟩
 refine ⟨_, rfl, ?_⟩
 have n0_ := a9_ (Kd.R_elder' (rp9 HO106.out) (Kd.R_base ho0) hb)
 have n1_ := a9_ (Kd.R_elder' (rp9 HO109.out) (Kd.R_base ho0) hb)
 have n2_ := a9_ (Kd.R_lower (Kd.R_new' (Kd.R_new' ho0 (Kd.R_lt (rp9 HO106.out))) (Kd.R_lt (rp9 HO109.out))) (below_size (bp9 HB.out)))
 have n3_ := a9_ (blk_below (kp9 BK101.out) hb)
 have n4_ := a9_ (below_step (bp9 HB.out) hb)
 clear HO106 HO109 BK101 HB
 revert n0_ n1_ n2_ n3_ n4_; intro HO106 HO109 HO112 BK101 HB
 (try clear hb)
 (try clear ho0)
 obtain ⟨Ao16, co16, eo16⟩ := Kd.R_slice HO106.out
 (first | subst eo16 | (injection eo16 with f1_ f2_ f3_; have f4_ := f1_.symm; have f5_ := f3_.symm; clear f1_ f2_ f3_; subst f4_; subst f5_))
 obtain ⟨Ao17, co17, eo17⟩ := Kd.R_slice HO109.out
 (first | subst eo17 | (injection eo17 with f1_ f2_ f3_; have f4_ := f1_.symm; have f5_ := f3_.symm; clear f1_ f2_ f3_; subst f4_; subst f5_))
 obtain ⟨Ao18, co18, eo18⟩ := Kd.R_slice HO112.out
 (first | subst eo18 | (injection eo18 with f1_ f2_ f3_; have f4_ := f1_.symm; have f5_ := f3_.symm; clear f1_ f2_ f3_; subst f4_; subst f5_))
 refine hK.out _ _ ⟨(blk_cell BK101.out 0).trans rfl, (blk_cell BK101.out 1).trans rfl, (blk_cell BK101.out 2).trans rfl, (blk_cell BK101.out 3).trans rfl, (blk_cell BK101.out 4).trans rfl, (blk_cell BK101.out 5).trans rfl, (blk_cell BK101.out 6).trans rfl⟩ (fun hHeld => ?_)
 clear hK K
 refine norm_ (a' := ?_) ?_ ?_
 rotate_left
 ·show Act.put _ (some 22) _ = _
  exact put9
 refine one_ (i := 14) (N := some 23) #[i9, i9, i9, i9, i9, i9, i9, i9, i9, i9, i9, i9, i9, i9, i9, o9, o9] rfl rfl (one_of HT_.out (by kernel_rfl)) (by decide) (fun K hK => ?_)
 refine Kd.N_lit_step (Kd.slice 52 (Kd.int .u32)) _ 28 ?hg (N' := 23) ?hd (xs := ([t104, t107, t110] : List (List Int))) (inner := [.slice Ao16 t104.length co16, .slice Ao17 t107.length co17, .slice Ao18 t110.length co18]) (ok := (fun k_ => k_ ≠ gb101)) (okp := (fun k_ => k_ ≠ gb101)) ?hr ?hp (fun _ hk => hk) ((show ∀ k_, w15.heap.size ≤ k_ → (fun k_ => k_ ≠ gb101) k_ from fun k_ hk => Kd.freshB (g := gb101) (o := .cells #[.slice A0_0 l0_0.length c0_0, .slice A0_1 l0_1.length c0_1, .slice A0_2 l0_2.length c0_2, .slice A0_3 l0_3.length c0_3, .slice A0_4 l0_4.length c0_4, .slice A0_5 l0_5.length c0_5, .slice A0_6 l0_6.length c0_6] 31 (0, 0)) (kp9 BK101.out) k_ hk) _ (Nat.le_refl _)) (Below.refl _ _) (Nat.le_refl _) (by simp) ?_; (case hd => rfl); (case hg => rfl); (case hr => first | (go_simp; done) | (go_simp; rfl)); (case hp => exact (Reps.one (show Kd.FK (Kd.slice 52 (Kd.int .u32)) _ _ t104 [.slice Ao16 t104.length co16] from (Kd.FK_slice_mk (Kd.R_reads' (Kd.R_mono (ok' := (fun k_ => k_ ≠ gb101)) (Kd.R_types (HO106.out) BK101.out (by decide)) (fun k_ hk => hk.2))).2.1 (Kd.R_F (Kd.R_mono (ok' := (fun k_ => k_ ≠ gb101)) (Kd.R_types (HO106.out) BK101.out (by decide)) (fun k_ hk => hk.2))))) (Reps.one (show Kd.FK (Kd.slice 52 (Kd.int .u32)) _ _ t107 [.slice Ao17 t107.length co17] from (Kd.FK_slice_mk (Kd.R_reads' (Kd.R_mono (ok' := (fun k_ => k_ ≠ gb101)) (Kd.R_types (HO109.out) BK101.out (by decide)) (fun k_ hk => hk.2))).2.1 (Kd.R_F (Kd.R_mono (ok' := (fun k_ => k_ ≠ gb101)) (Kd.R_types (HO109.out) BK101.out (by decide)) (fun k_ hk => hk.2))))) (Reps.one (show Kd.FK (Kd.slice 52 (Kd.int .u32)) _ _ t110 [.slice Ao18 t110.length co18] from (Kd.FK_slice_mk (Kd.R_reads' (Kd.R_mono (ok' := (fun k_ => k_ ≠ gb101)) (Kd.R_types (HO112.out) BK101.out (by decide)) (fun k_ hk => hk.2))).2.1 (Kd.R_F (Kd.R_mono (ok' := (fun k_ => k_ ≠ gb101)) (Kd.R_types (HO112.out) BK101.out (by decide)) (fun k_ hk => hk.2))))) (Reps.none _ _)))))
 intro v114 w19 ho20 hb hg_ hnew_
 clear hg_ hnew_
 (first | rw [← Ny113.out] at ho20 | (simp only [Int.reduceToNat] at ho20; rw [← Ny113.out] at ho20))
 have n0_ := a9_ (Kd.N_lower ho20 (below_size (bp9 HB.out)))
 have n1_ := a9_ (blk_below (kp9 BK101.out) hb)
 have n2_ := a9_ (below_step (bp9 HB.out) hb)
 clear BK101 HB HO106 HO109 HO112
 revert n0_ n1_ n2_; intro HO115 BK101 HB
 clear hb ho20
 obtain ⟨Ao21, co21, eo21⟩ := Kd.N_slice HO115.out
 (first | subst eo21 | (injection eo21 with f1_ f2_ f3_; have f4_ := f1_.symm; have f5_ := f3_.symm; clear f1_ f2_ f3_; subst f4_; subst f5_))
 refine hK.out _ _ ⟨(blk_cell BK101.out 0).trans rfl, (blk_cell BK101.out 1).trans rfl, (blk_cell BK101.out 2).trans rfl, (blk_cell BK101.out 3).trans rfl, (blk_cell BK101.out 4).trans rfl, (blk_cell BK101.out 5).trans rfl, (blk_cell BK101.out 6).trans rfl⟩ (fun hHeld => ?_)
 clear hK K
 refine norm_ (a' := ?_) ?_ ?_
 rotate_left
 ·show Act.put _ (some 23) _ = _
  exact put9
 refine one_ (i := 15) (N := some 24) #[i9, i9, i9, i9, i9, i9, i9, i9, i9, i9, i9, i9, i9, i9, i9, i9, o9] rfl rfl (one_of HT_.out (by kernel_rfl)) (by decide) (fun K hK => ?_)
 refine goes9 Try.func126 (by kernel_rfl) rfl #[.agg #[.slice A0_0 l0_0.length c0_0, .slice A0_1 l0_1.length c0_1, .slice A0_2 l0_2.length c0_2, .slice A0_3 l0_3.length c0_3, .slice A0_4 l0_4.length c0_4, .slice A0_5 l0_5.length c0_5, .slice A0_6 l0_6.length c0_6], .slice Ao21 y113.length co21] (by rfl) rfl rfl ?_
 with_reducible refine (bob_all.calls k _ _ l0_0 _ _ l0_1 _ _ l0_2 _ _ l0_3 _ _ l0_4 _ _ l0_5 _ _ l0_6 _ _ y113 t116 _ ?side1 ?side2 ?side3 ?side4 ?side5 ?side6 ?side7 ?side8 ?side9 ?side10 ?side11 ?side12 ?side13 ?side14 ?side15 ?side16 A7.out).mono ?_
 (case side1 => exact cp9 HR0_0.out HB.out)
 (case side2 => exact HC0_0.out)
 (case side3 => exact cp9 HR0_1.out HB.out)
 (case side4 => exact HC0_1.out)
 (case side5 => exact cp9 HR0_2.out HB.out)
 (case side6 => exact HC0_2.out)
 (case side7 => exact cp9 HR0_3.out HB.out)
 (case side8 => exact HC0_3.out)
 (case side9 => exact cp9 HR0_4.out HB.out)
 (case side10 => exact HC0_4.out)
 (case side11 => exact cp9 HR0_5.out HB.out)
 (case side12 => exact HC0_5.out)
 (case side13 => exact cp9 HR0_6.out HB.out)
 (case side14 => exact HC0_6.out)
 (case side15 => exact lp9 (Kd.N_reads' HO115.out).2.2)
 (case side16 => exact (Kd.N_reads' HO115.out).2.1)
 rintro e w22 ⟨v117, rfl, ho0, hb⟩
 refine ⟨_, rfl, ?_⟩
 have n0_ := a9_ (Kd.N_elder' (by (with_reducible repeat (first | apply Kd.N_alloc | apply Kd.N_drewN | apply Kd.N_drew)); exact HO115.out) (Kd.R_base ho0) hb)
 have n1_ := a9_ (Kd.R_lower ho0 (below_size (bp9 HB.out)))
 have n2_ := a9_ (blk_below (kp9 BK101.out) hb)
 have n3_ := a9_ (below_step (bp9 HB.out) hb)
 clear HO115 BK101 HB
 revert n0_ n1_ n2_ n3_; intro HO115 HO118 BK101 HB
 (try clear hb)
 (try clear ho0)
 refine hK.out _ _ ⟨(blk_cell BK101.out 0).trans rfl, (blk_cell BK101.out 1).trans rfl, (blk_cell BK101.out 2).trans rfl, (blk_cell BK101.out 3).trans rfl, (blk_cell BK101.out 4).trans rfl, (blk_cell BK101.out 5).trans rfl, (blk_cell BK101.out 6).trans rfl⟩ (fun hHeld => ?_)
 clear hK K
 refine norm_ (a' := ?_) ?_ ?_
 rotate_left
 ·show Act.put _ (some 24) _ = _
  exact put9
 refine pureA 16 (some 2) ?_ #[i9, i9, i9, i9, i9, i9, i9, i9, i9, i9, i9, i9, i9, i9, i9, i9, i9] rfl rfl (any_of HT_.out (by kernel_rfl)) ?_ ?_ ?_ ?_
 rotate_left
 ·intro w'; go_simp; with_reducible rfl
 rotate_left
 ·exact put9
 refine done_ (done_of HT_.out (by kernel_rfl)) ?_
 try go_wp2
 go_ret
 exact ⟨_, rt9, by (with_reducible repeat (first | apply Kd.R_alloc | apply Kd.R_drewN | apply Kd.R_drew)); exact HO118.out, bp9 HB.out⟩
def bob_Bob.f (k : Nat) (l0_0 : List (S26)) (l0_1 : List Int) (l0_2 : List Int) (l0_3 : List Int) (l0_4 : List Int) (l0_5 : List Int) (l0_6 : List (List Int)) (l1 : List Int) : Option (List Int) := (bob_Releases.f l0_0 l0_1 l0_2 l0_3 l0_4 l0_5 l0_6).bind fun t102 => ((rel_Only.f k l0_1 4294967295 t102).bind fun t103 => ((dob_Coi.f l0_0 l0_1 l0_2 l0_3 l0_4 l0_5 l0_6 l1).bind fun t106 => ((rel_Seq.f t103 t106).bind fun t109 => ((bob_Fences.f k l0_0 l0_1 l0_2 l0_3 l0_4 l0_5 l0_6).bind fun t112 => ((bob_Orders.f k l0_0 l0_1 l0_2 l0_3 l0_4 l0_5 l0_6).bind fun t115 => ((bob_all.f k l0_0 l0_1 l0_2 l0_3 l0_4 l0_5 l0_6 (([t112, t115, t109] : List (List Int)))).bind fun t121 => (some t121)))))))
def bob_Bob.T1 : Bool × List (List Nat × List Nat) := (true, [([], []), ([0], [0]), ([], []), ([2], [2]), ([1, 3, 3], [1, 3]), ([], []), ([], []), ([5, 6, 4], [5, 6]), ([4, 7, 7], [4, 7]), ([8, 8, 0, 1, 2, 3, 4, 5, 6, 7, 8], [8])])
def bob_Bob.B1 : List Nat := [0, 1, 0, 4, 15, 0, 0, 127, 255, 511]
theorem bob_Bob.tab1 : rtab .any (opsOf Try.f95 1) = bob_Bob.T1 := by kernel_rfl
theorem bob_Bob.bits1 : waitsOk bob_Bob.T1.2 bob_Bob.B1 = true := by kernel_rfl
def bob_Bob.T2 : Bool × List (List Nat × List Nat) := (true, [([], []), ([], []), ([1], [1]), ([], []), ([3, 2], [3]), ([], []), ([2, 4, 5], [2, 4, 5]), ([0, 6, 4], [0, 6]), ([7, 7, 0, 1, 2, 3, 4, 5, 6, 7], [7])])
def bob_Bob.B2 : List Nat := [0, 0, 2, 0, 14, 0, 62, 127, 255]
theorem bob_Bob.tab2 : rtab .any (opsOf Try.f95 2) = bob_Bob.T2 := by kernel_rfl
theorem bob_Bob.bits2 : waitsOk bob_Bob.T2.2 bob_Bob.B2 = true := by kernel_rfl
theorem bob_Bob.calls (k : Nat) (A0_0 : Option Addr) (c0_0 : Nat) (l0_0 : List (S26)) (A0_1 : Option Addr) (c0_1 : Nat) (l0_1 : List Int) (A0_2 : Option Addr) (c0_2 : Nat) (l0_2 : List Int) (A0_3 : Option Addr) (c0_3 : Nat) (l0_3 : List Int) (A0_4 : Option Addr) (c0_4 : Nat) (l0_4 : List Int) (A0_5 : Option Addr) (c0_5 : Nat) (l0_5 : List Int) (A0_6 : Option Addr) (c0_6 : Nat) (l0_6 : List (List Int)) (A1 : Option Addr) (c1 : Nat) (l1 : List Int) (r : List Int) (w : World) (hr0_0 : Kd.C k26 w A0_0 l0_0.length l0_0) (hc0_0 : l0_0.length ≤ c0_0) (hr0_1 : Kd.C (Kd.int .u32) w A0_1 l0_1.length l0_1) (hc0_1 : l0_1.length ≤ c0_1) (hr0_2 : Kd.C (Kd.int .u32) w A0_2 l0_2.length l0_2) (hc0_2 : l0_2.length ≤ c0_2) (hr0_3 : Kd.C (Kd.int .u32) w A0_3 l0_3.length l0_3) (hc0_3 : l0_3.length ≤ c0_3) (hr0_4 : Kd.C (Kd.int .u32) w A0_4 l0_4.length l0_4) (hc0_4 : l0_4.length ≤ c0_4) (hr0_5 : Kd.C (Kd.int .u32) w A0_5 l0_5.length l0_5) (hc0_5 : l0_5.length ≤ c0_5) (hr0_6 : Kd.C (Kd.slice 2 (Kd.int .i64)) w A0_6 l0_6.length l0_6) (hc0_6 : l0_6.length ≤ c0_6) (hr1 : Kd.C (Kd.int .u32) w A1 l1.length l1) (hc1 : l1.length ≤ c1) (h : bob_Bob.f k l0_0 l0_1 l0_2 l0_3 l0_4 l0_5 l0_6 l1 = some r) :
  Calls Try.prog 95 #[.agg #[.slice A0_0 l0_0.length c0_0, .slice A0_1 l0_1.length c0_1, .slice A0_2 l0_2.length c0_2, .slice A0_3 l0_3.length c0_3, .slice A0_4 l0_4.length c0_4, .slice A0_5 l0_5.length c0_5, .slice A0_6 l0_6.length c0_6], .slice A1 l1.length c1] w fun e w' => ∃ v0_ : Value, e = .returned (v0_) ∧ Kd.R (Kd.int .u32) 52 w' w.heap.size (fun _ => True) v0_ r ∧ Below w.heap.size w w' := by
 have hu31 := Try.underlying31
 have HR0_0 := a9_ hr0_0
 have HC0_0 := a9_ hc0_0
 clear hr0_0 hc0_0
 have HR0_1 := a9_ hr0_1
 have HC0_1 := a9_ hc0_1
 clear hr0_1 hc0_1
 have HR0_2 := a9_ hr0_2
 have HC0_2 := a9_ hc0_2
 clear hr0_2 hc0_2
 have HR0_3 := a9_ hr0_3
 have HC0_3 := a9_ hc0_3
 clear hr0_3 hc0_3
 have HR0_4 := a9_ hr0_4
 have HC0_4 := a9_ hc0_4
 clear hr0_4 hc0_4
 have HR0_5 := a9_ hr0_5
 have HC0_5 := a9_ hc0_5
 clear hr0_5 hc0_5
 have HR0_6 := a9_ hr0_6
 have HC0_6 := a9_ hc0_6
 clear hr0_6 hc0_6
 have HR1 := a9_ hr1
 have HC1 := a9_ hc1
 clear hr1 hc1
 have HB := a9_ (Below.refl w.heap.size w)
 have H : ((bob_Releases.f l0_0 l0_1 l0_2 l0_3 l0_4 l0_5 l0_6).bind fun t102 => ((rel_Only.f k l0_1 4294967295 t102).bind fun t103 => ((dob_Coi.f l0_0 l0_1 l0_2 l0_3 l0_4 l0_5 l0_6 l1).bind fun t106 => ((rel_Seq.f t103 t106).bind fun t109 => ((bob_Fences.f k l0_0 l0_1 l0_2 l0_3 l0_4 l0_5 l0_6).bind fun t112 => ((bob_Orders.f k l0_0 l0_1 l0_2 l0_3 l0_4 l0_5 l0_6).bind fun t115 => ((bob_all.f k l0_0 l0_1 l0_2 l0_3 l0_4 l0_5 l0_6 (([t112, t115, t109] : List (List Int)))).bind fun t121 => (some t121)))))))) = some r := h
 clear h
 replace H := Option.bind_eq_some_iff.mp H
 obtain ⟨t102, A30, H⟩ := H
 have A3 := a9_ A30
 clear A30
 replace H := Option.bind_eq_some_iff.mp H
 obtain ⟨t103, A40, H⟩ := H
 have A4 := a9_ A40
 clear A40
 replace H := Option.bind_eq_some_iff.mp H
 obtain ⟨t106, A50, H⟩ := H
 have A5 := a9_ A50
 clear A50
 replace H := Option.bind_eq_some_iff.mp H
 obtain ⟨t109, A60, H⟩ := H
 have A6 := a9_ A60
 clear A60
 replace H := Option.bind_eq_some_iff.mp H
 obtain ⟨t112, A70, H⟩ := H
 have A7 := a9_ A70
 clear A70
 replace H := Option.bind_eq_some_iff.mp H
 obtain ⟨t115, A80, H⟩ := H
 have A8 := a9_ A80
 clear A80
 obtain ⟨y118, hy118⟩ : ∃ y_ : List (List Int), y_ = (([t112, t115, t109] : List (List Int))) := ⟨_, rfl⟩
 replace H : ((bob_all.f k l0_0 l0_1 l0_2 l0_3 l0_4 l0_5 l0_6 y118).bind fun t121 => (some t121)) = some r := by first | (rw [hy118]; with_reducible exact H) | (have H2_ := (Option.bind_some _ _).symm.trans H; rw [hy118]; with_reducible exact H2_) | (have H2_ := (Option.bind_some _ _).symm.trans H; with_reducible exact H2_) | with_reducible exact H | (rw [hy118]; exact H) | exact H
 have Ny118 := a9_ hy118
 clear hy118
 replace H := Option.bind_eq_some_iff.mp H
 obtain ⟨t121, A90, H⟩ := H
 have A9 := a9_ A90
 clear A90
 obtain rfl := Option.some.inj H
 go_enter Try.func95, Try.ntmps95
 try go_wp2_with (first | ((with_reducible refine gate_dst (N := 2) rfl ?_); refine box9 (N := 2) (cs := #[.slice A0_0 l0_0.length c0_0, .slice A0_1 l0_1.length c0_1, .slice A0_2 l0_2.length c0_2, .slice A0_3 l0_3.length c0_3, .slice A0_4 l0_4.length c0_4, .slice A0_5 l0_5.length c0_5, .slice A0_6 l0_6.length c0_6]) (t := 31) ?_; intro gb101 hg w10 hbox hb; have n0_ := a9_ (below_step (bp9 HB.out) hb); have n1_ := a9_ (hbox); have n2_ := a9_ ((by rw [hg]; exact (below_size (bp9 HB.out)) : w.heap.size ≤ gb101)); have n3_ := n2_; clear HB; have HB := n0_; have BK101 := n1_; have GW101 := n2_; have GE101 := n3_; clear n0_ n1_ n2_ n3_; clear hb hbox hg))
 have n0_ := a9_ (blk_drew BK101.out)
 have n1_ := a9_ (below_drew1 HB.out)
 clear BK101 HB
 revert n0_ n1_; intro BK101 HB
 refine start_ (n := 10) (S := fun w' => w'.cell? ⟨gb101, 0, none⟩ = some (.slice A0_0 l0_0.length c0_0) ∧ w'.cell? ⟨gb101, 1, none⟩ = some (.slice A0_1 l0_1.length c0_1) ∧ w'.cell? ⟨gb101, 2, none⟩ = some (.slice A0_2 l0_2.length c0_2) ∧ w'.cell? ⟨gb101, 3, none⟩ = some (.slice A0_3 l0_3.length c0_3) ∧ w'.cell? ⟨gb101, 4, none⟩ = some (.slice A0_4 l0_4.length c0_4) ∧ w'.cell? ⟨gb101, 5, none⟩ = some (.slice A0_5 l0_5.length c0_5) ∧ w'.cell? ⟨gb101, 6, none⟩ = some (.slice A0_6 l0_6.length c0_6)) (ds := []) #[o9, o9, o9, o9, o9, o9, o9, o9, o9, o9] (by kernel_rfl) rfl rfl ⟨(blk_cell BK101.out 0).trans rfl, (blk_cell BK101.out 1).trans rfl, (blk_cell BK101.out 2).trans rfl, (blk_cell BK101.out 3).trans rfl, (blk_cell BK101.out 4).trans rfl, (blk_cell BK101.out 5).trans rfl, (blk_cell BK101.out 6).trans rfl⟩ (fun hHeld => ?_); refine with_tabW bob_Bob.tab1 bob_Bob.bits1 (fun HT_ HW_ => ?_)
 generalize w10.drew = w11 at BK101 HB hHeld ⊢
 refine pureA 0 (some 6) ?_ #[i9, o9, o9, o9, o9, o9, o9, o9, o9, o9] rfl rfl (any_of HT_.out (by kernel_rfl)) ?_ ?_ ?_ ?_
 rotate_left
 ·intro w'; go_simp; with_reducible rfl
 rotate_left
 ·exact put9
 refine pureA 6 (some 12) ?_ #[i9, o9, o9, o9, o9, o9, i9, o9, o9, o9] rfl rfl (any_of HT_.out (by kernel_rfl)) ?_ ?_ ?_ ?_
 rotate_left
 ·intro w'; go_simp; with_reducible rfl
 rotate_left
 ·exact put9
 refine take_ (i := 1) (N := some 7) (v := ?_) (a' := ?_) #[i9, i9, o9, o9, o9, o9, i9, o9, o9, o9] rfl rfl (take_ofW HT_.out HW_.out (by kernel_rfl)) (fun _ _ _ h => h) (Or.inl ⟨by rfl, ?_⟩) hHeld ?_ ?_
 rotate_left
 ·rintro w' ⟨s0, s1, s2, s3, s4, s5, s6⟩
  go_simp
  with_reducible rfl
 rotate_left
 ·exact put9
 refine take_ (i := 2) (N := some 8) (v := ?_) (a' := ?_) #[i9, i9, i9, o9, o9, o9, i9, o9, o9, o9] rfl rfl (take_ofW HT_.out HW_.out (by kernel_rfl)) (fun _ _ _ h => h) (Or.inl ⟨by rfl, ?_⟩) hHeld ?_ ?_
 rotate_left
 ·rintro w' ⟨s0, s1, s2, s3, s4, s5, s6⟩
  go_simp
  with_reducible rfl
 rotate_left
 ·exact put9
 refine take_ (i := 5) (N := some 11) (v := ?_) (a' := ?_) #[i9, i9, i9, o9, o9, i9, i9, o9, o9, o9] rfl rfl (take_ofW HT_.out HW_.out (by kernel_rfl)) (fun _ _ _ h => h) (Or.inl ⟨by rfl, ?_⟩) hHeld ?_ ?_
 rotate_left
 ·rintro w' ⟨s0, s1, s2, s3, s4, s5, s6⟩
  go_simp
  with_reducible rfl
 rotate_left
 ·exact put9
 refine one_ (i := 3) (N := some 9) #[i9, i9, i9, i9, o9, i9, i9, o9, o9, o9] rfl rfl (one_of HT_.out (by kernel_rfl)) (by decide) (fun K hK => ?_)
 refine goes9 Try.func77 (by kernel_rfl) rfl #[.agg #[.slice A0_0 l0_0.length c0_0, .slice A0_1 l0_1.length c0_1, .slice A0_2 l0_2.length c0_2, .slice A0_3 l0_3.length c0_3, .slice A0_4 l0_4.length c0_4, .slice A0_5 l0_5.length c0_5, .slice A0_6 l0_6.length c0_6]] (by rfl) rfl rfl ?_
 with_reducible refine (bob_Releases.calls _ _ l0_0 _ _ l0_1 _ _ l0_2 _ _ l0_3 _ _ l0_4 _ _ l0_5 _ _ l0_6 t102 _ ?side1 ?side2 ?side3 ?side4 ?side5 ?side6 ?side7 ?side8 ?side9 ?side10 ?side11 ?side12 ?side13 ?side14 A3.out).mono ?_
 (case side1 => exact cp9 HR0_0.out HB.out)
 (case side2 => exact HC0_0.out)
 (case side3 => exact cp9 HR0_1.out HB.out)
 (case side4 => exact HC0_1.out)
 (case side5 => exact cp9 HR0_2.out HB.out)
 (case side6 => exact HC0_2.out)
 (case side7 => exact cp9 HR0_3.out HB.out)
 (case side8 => exact HC0_3.out)
 (case side9 => exact cp9 HR0_4.out HB.out)
 (case side10 => exact HC0_4.out)
 (case side11 => exact cp9 HR0_5.out HB.out)
 (case side12 => exact HC0_5.out)
 (case side13 => exact cp9 HR0_6.out HB.out)
 (case side14 => exact HC0_6.out)
 rintro e w12 ⟨rfl, hb⟩
 refine ⟨_, rfl, ?_⟩
 have n0_ := a9_ (blk_below (kp9 BK101.out) hb)
 have n1_ := a9_ (below_step (bp9 HB.out) hb)
 clear BK101 HB
 revert n0_ n1_; intro BK101 HB
 (try clear hb)
 refine hK.out _ _ ⟨(blk_cell BK101.out 0).trans rfl, (blk_cell BK101.out 1).trans rfl, (blk_cell BK101.out 2).trans rfl, (blk_cell BK101.out 3).trans rfl, (blk_cell BK101.out 4).trans rfl, (blk_cell BK101.out 5).trans rfl, (blk_cell BK101.out 6).trans rfl⟩ (fun hHeld => ?_)
 clear hK K
 refine norm_ (a' := ?_) ?_ ?_
 rotate_left
 ·show Act.put _ (some 9) _ = _
  exact put9
 refine one_ (i := 4) (N := some 10) #[i9, i9, i9, i9, i9, i9, i9, o9, o9, o9] rfl rfl (one_of HT_.out (by kernel_rfl)) (by decide) (fun K hK => ?_)
 refine goes9 Try.func54 (by kernel_rfl) rfl #[.slice A0_1 l0_1.length c0_1, .int .u32 4294967295, .int .u32 t102] (by rfl) rfl rfl ?_
 with_reducible refine (rel_Only.calls k _ _ l0_1 4294967295 t102 t103 _ ?side1 ?side2 A4.out).mono ?_
 (case side1 => exact cp9 HR0_1.out HB.out)
 (case side2 => exact HC0_1.out)
 rintro e w13 ⟨v104, rfl, ho0, hb⟩
 refine ⟨_, rfl, ?_⟩
 have n0_ := a9_ (Kd.R_lower ho0 (below_size (bp9 HB.out)))
 have n1_ := a9_ (blk_below (kp9 BK101.out) hb)
 have n2_ := a9_ (below_step (bp9 HB.out) hb)
 clear BK101 HB
 revert n0_ n1_ n2_; intro HO105 BK101 HB
 (try clear hb)
 (try clear ho0)
 refine hK.out _ _ ⟨(blk_cell BK101.out 0).trans rfl, (blk_cell BK101.out 1).trans rfl, (blk_cell BK101.out 2).trans rfl, (blk_cell BK101.out 3).trans rfl, (blk_cell BK101.out 4).trans rfl, (blk_cell BK101.out 5).trans rfl, (blk_cell BK101.out 6).trans rfl⟩ (fun hHeld => ?_)
 clear hK K
 refine norm_ (a' := ?_) ?_ ?_
 rotate_left
 ·show Act.put _ (some 10) _ = _
  exact put9
 refine one_ (i := 7) (N := some 13) #[i9, i9, i9, i9, i9, i9, i9, i9, o9, o9] rfl rfl (one_of HT_.out (by kernel_rfl)) (by decide) (fun K hK => ?_)
 refine goes9 Try.func86 (by kernel_rfl) rfl #[.agg #[.slice A0_0 l0_0.length c0_0, .slice A0_1 l0_1.length c0_1, .slice A0_2 l0_2.length c0_2, .slice A0_3 l0_3.length c0_3, .slice A0_4 l0_4.length c0_4, .slice A0_5 l0_5.length c0_5, .slice A0_6 l0_6.length c0_6], .slice A1 l1.length c1] (by rfl) rfl rfl ?_
 with_reducible refine (dob_Coi.calls _ _ l0_0 _ _ l0_1 _ _ l0_2 _ _ l0_3 _ _ l0_4 _ _ l0_5 _ _ l0_6 _ _ l1 t106 _ ?side1 ?side2 ?side3 ?side4 ?side5 ?side6 ?side7 ?side8 ?side9 ?side10 ?side11 ?side12 ?side13 ?side14 ?side15 ?side16 A5.out).mono ?_
 (case side1 => exact cp9 HR0_0.out HB.out)
 (case side2 => exact HC0_0.out)
 (case side3 => exact cp9 HR0_1.out HB.out)
 (case side4 => exact HC0_1.out)
 (case side5 => exact cp9 HR0_2.out HB.out)
 (case side6 => exact HC0_2.out)
 (case side7 => exact cp9 HR0_3.out HB.out)
 (case side8 => exact HC0_3.out)
 (case side9 => exact cp9 HR0_4.out HB.out)
 (case side10 => exact HC0_4.out)
 (case side11 => exact cp9 HR0_5.out HB.out)
 (case side12 => exact HC0_5.out)
 (case side13 => exact cp9 HR0_6.out HB.out)
 (case side14 => exact HC0_6.out)
 (case side15 => exact cp9 HR1.out HB.out)
 (case side16 => exact HC1.out)
 rintro e w14 ⟨v107, rfl, ho0, hb⟩
 refine ⟨_, rfl, ?_⟩
 have n0_ := a9_ (Kd.R_elder' (rp9 HO105.out) (Kd.R_base ho0) hb)
 have n1_ := a9_ (Kd.R_lower (Kd.R_new' ho0 (Kd.R_lt (rp9 HO105.out))) (below_size (bp9 HB.out)))
 have n2_ := a9_ (blk_below (kp9 BK101.out) hb)
 have n3_ := a9_ (below_step (bp9 HB.out) hb)
 clear HO105 BK101 HB
 revert n0_ n1_ n2_ n3_; intro HO105 HO108 BK101 HB
 (try clear hb)
 (try clear ho0)
 obtain ⟨Ao15, co15, eo15⟩ := Kd.R_slice HO105.out
 (first | subst eo15 | (injection eo15 with f1_ f2_ f3_; have f4_ := f1_.symm; have f5_ := f3_.symm; clear f1_ f2_ f3_; subst f4_; subst f5_))
 obtain ⟨Ao16, co16, eo16⟩ := Kd.R_slice HO108.out
 (first | subst eo16 | (injection eo16 with f1_ f2_ f3_; have f4_ := f1_.symm; have f5_ := f3_.symm; clear f1_ f2_ f3_; subst f4_; subst f5_))
 refine hK.out _ _ ⟨(blk_cell BK101.out 0).trans rfl, (blk_cell BK101.out 1).trans rfl, (blk_cell BK101.out 2).trans rfl, (blk_cell BK101.out 3).trans rfl, (blk_cell BK101.out 4).trans rfl, (blk_cell BK101.out 5).trans rfl, (blk_cell BK101.out 6).trans rfl⟩ (fun hHeld => ?_)
 clear hK K
 refine norm_ (a' := ?_) ?_ ?_
 rotate_left
 ·show Act.put _ (some 13) _ = _
  exact put9
 refine one_ (i := 8) (N := some 14) #[i9, i9, i9, i9, i9, i9, i9, i9, i9, o9] rfl rfl (one_of HT_.out (by kernel_rfl)) (by decide) (fun K hK => ?_)
 refine goes9 Try.func62 (by kernel_rfl) rfl #[.slice Ao15 t103.length co15, .slice Ao16 t106.length co16] (by rfl) rfl rfl ?_
 with_reducible refine (rel_Seq.calls _ _ t103 _ _ t106 t109 _ ?side1 ?side2 ?side3 ?side4 A6.out).mono ?_
 (case side1 => exact lp9 (Kd.R_reads' HO105.out).2.2)
 (case side2 => exact (Kd.R_reads' HO105.out).2.1)
 (case side3 => exact lp9 (Kd.R_reads' HO108.out).2.2)
 (case side4 => exact (Kd.R_reads' HO108.out).2.1)
 rintro e w17 ⟨v110, rfl, ho0, hb⟩
 refine ⟨_, rfl, ?_⟩
 have n0_ := a9_ (Kd.R_elder' (rp9 HO105.out) (Kd.R_base ho0) hb)
 have n1_ := a9_ (Kd.R_elder' (rp9 HO108.out) (Kd.R_base ho0) hb)
 have n2_ := a9_ (Kd.R_lower (Kd.R_new' (Kd.R_new' ho0 (Kd.R_lt (rp9 HO105.out))) (Kd.R_lt (rp9 HO108.out))) (below_size (bp9 HB.out)))
 have n3_ := a9_ (blk_below (kp9 BK101.out) hb)
 have n4_ := a9_ (below_step (bp9 HB.out) hb)
 clear HO105 HO108 BK101 HB
 revert n0_ n1_ n2_ n3_ n4_; intro HO105 HO108 HO111 BK101 HB
 (try clear hb)
 (try clear ho0)
 refine hK.out _ _ ⟨(blk_cell BK101.out 0).trans rfl, (blk_cell BK101.out 1).trans rfl, (blk_cell BK101.out 2).trans rfl, (blk_cell BK101.out 3).trans rfl, (blk_cell BK101.out 4).trans rfl, (blk_cell BK101.out 5).trans rfl, (blk_cell BK101.out 6).trans rfl⟩ (fun hHeld => ?_)
 clear hK K
 refine norm_ (a' := ?_) ?_ ?_
 rotate_left
 ·show Act.put _ (some 14) _ = _
  exact put9
 refine pureA 9 (some 5) ?_ #[i9, i9, i9, i9, i9, i9, i9, i9, i9, i9] rfl rfl (any_of HT_.out (by kernel_rfl)) ?_ ?_ ?_ ?_
 rotate_left
 ·intro w'; go_simp; with_reducible rfl
 rotate_left
 ·exact put9
 refine done_ (done_of HT_.out (by kernel_rfl)) ?_
 try go_wp2
 have n0_ := a9_ (Kd.R_drew HO105.out)
 have n1_ := a9_ (Kd.R_drew HO108.out)
 have n2_ := a9_ (Kd.R_drew HO111.out)
 have n3_ := a9_ (blk_drew BK101.out)
 have n4_ := a9_ (below_drew1 HB.out)
 clear HO105 HO108 HO111 BK101 HB
 revert n0_ n1_ n2_ n3_ n4_; intro HO105 HO108 HO111 BK101 HB
 refine start_ (n := 9) (S := fun w' => w'.cell? ⟨gb101, 0, none⟩ = some (.slice A0_0 l0_0.length c0_0) ∧ w'.cell? ⟨gb101, 1, none⟩ = some (.slice A0_1 l0_1.length c0_1) ∧ w'.cell? ⟨gb101, 2, none⟩ = some (.slice A0_2 l0_2.length c0_2) ∧ w'.cell? ⟨gb101, 3, none⟩ = some (.slice A0_3 l0_3.length c0_3) ∧ w'.cell? ⟨gb101, 4, none⟩ = some (.slice A0_4 l0_4.length c0_4) ∧ w'.cell? ⟨gb101, 5, none⟩ = some (.slice A0_5 l0_5.length c0_5) ∧ w'.cell? ⟨gb101, 6, none⟩ = some (.slice A0_6 l0_6.length c0_6)) (ds := []) #[o9, o9, o9, o9, o9, o9, o9, o9, o9] (by kernel_rfl) rfl rfl ⟨(blk_cell BK101.out 0).trans rfl, (blk_cell BK101.out 1).trans rfl, (blk_cell BK101.out 2).trans rfl, (blk_cell BK101.out 3).trans rfl, (blk_cell BK101.out 4).trans rfl, (blk_cell BK101.out 5).trans rfl, (blk_cell BK101.out 6).trans rfl⟩ (fun hHeld => ?_); refine with_tabW bob_Bob.tab2 bob_Bob.bits2 (fun HT_ HW_ => ?_)
 generalize w17.drew = w18 at HO105 HO108 HO111 BK101 HB hHeld ⊢
 refine pureA 5 (some 20) ?_ #[o9, o9, o9, o9, o9, i9, o9, o9, o9] rfl rfl (any_of HT_.out (by kernel_rfl)) ?_ ?_ ?_ ?_
 rotate_left
 ·intro w'; go_simp; with_reducible rfl
 rotate_left
 ·exact put9
 refine take_ (i := 0) (N := some 15) (v := ?_) (a' := ?_) #[i9, o9, o9, o9, o9, i9, o9, o9, o9] rfl rfl (take_ofW HT_.out HW_.out (by kernel_rfl)) (fun _ _ _ h => h) (Or.inl ⟨by rfl, ?_⟩) hHeld ?_ ?_
 rotate_left
 ·rintro w' ⟨s0, s1, s2, s3, s4, s5, s6⟩
  go_simp
  with_reducible rfl
 rotate_left
 ·exact put9
 refine take_ (i := 1) (N := some 16) (v := ?_) (a' := ?_) #[i9, i9, o9, o9, o9, i9, o9, o9, o9] rfl rfl (take_ofW HT_.out HW_.out (by kernel_rfl)) (fun _ _ _ h => h) (Or.inl ⟨by rfl, ?_⟩) hHeld ?_ ?_
 rotate_left
 ·rintro w' ⟨s0, s1, s2, s3, s4, s5, s6⟩
  go_simp
  with_reducible rfl
 rotate_left
 ·exact put9
 refine take_ (i := 3) (N := some 18) (v := ?_) (a' := ?_) #[i9, i9, o9, i9, o9, i9, o9, o9, o9] rfl rfl (take_ofW HT_.out HW_.out (by kernel_rfl)) (fun _ _ _ h => h) (Or.inl ⟨by rfl, ?_⟩) hHeld ?_ ?_
 rotate_left
 ·rintro w' ⟨s0, s1, s2, s3, s4, s5, s6⟩
  go_simp
  with_reducible rfl
 rotate_left
 ·exact put9
 refine one_ (i := 2) (N := some 17) #[i9, i9, i9, i9, o9, i9, o9, o9, o9] rfl rfl (one_of HT_.out (by kernel_rfl)) (by decide) (fun K hK => ?_)
 refine goes9 Try.func73 (by kernel_rfl) rfl #[.agg #[.slice A0_0 l0_0.length c0_0, .slice A0_1 l0_1.length c0_1, .slice A0_2 l0_2.length c0_2, .slice A0_3 l0_3.length c0_3, .slice A0_4 l0_4.length c0_4, .slice A0_5 l0_5.length c0_5, .slice A0_6 l0_6.length c0_6]] (by rfl) rfl rfl ?_
 with_reducible refine (bob_Fences.calls k _ _ l0_0 _ _ l0_1 _ _ l0_2 _ _ l0_3 _ _ l0_4 _ _ l0_5 _ _ l0_6 t112 _ ?side1 ?side2 ?side3 ?side4 ?side5 ?side6 ?side7 ?side8 ?side9 ?side10 ?side11 ?side12 ?side13 ?side14 A7.out).mono ?_
 (case side1 => exact cp9 HR0_0.out HB.out)
 (case side2 => exact HC0_0.out)
 (case side3 => exact cp9 HR0_1.out HB.out)
 (case side4 => exact HC0_1.out)
 (case side5 => exact cp9 HR0_2.out HB.out)
 (case side6 => exact HC0_2.out)
 (case side7 => exact cp9 HR0_3.out HB.out)
 (case side8 => exact HC0_3.out)
 (case side9 => exact cp9 HR0_4.out HB.out)
 (case side10 => exact HC0_4.out)
 (case side11 => exact cp9 HR0_5.out HB.out)
 (case side12 => exact HC0_5.out)
 (case side13 => exact cp9 HR0_6.out HB.out)
 (case side14 => exact HC0_6.out)
 rintro e w19 ⟨v113, rfl, ho0, hb⟩
 refine ⟨_, rfl, ?_⟩
 have n0_ := a9_ (Kd.R_elder' (rp9 HO105.out) (Kd.R_base ho0) hb)
 have n1_ := a9_ (Kd.R_elder' (rp9 HO108.out) (Kd.R_base ho0) hb)
 have n2_ := a9_ (Kd.R_elder' (rp9 HO111.out) (Kd.R_base ho0) hb)
 have n3_ := a9_ (Kd.R_lower (Kd.R_new' (Kd.R_new' (Kd.R_new' ho0 (Kd.R_lt (rp9 HO105.out))) (Kd.R_lt (rp9 HO108.out))) (Kd.R_lt (rp9 HO111.out))) (below_size (bp9 HB.out)))
 have n4_ := a9_ (blk_below (kp9 BK101.out) hb)
 have n5_ := a9_ (below_step (bp9 HB.out) hb)
 clear HO105 HO108 HO111 BK101 HB
 revert n0_ n1_ n2_ n3_ n4_ n5_; intro HO105 HO108 HO111 HO114 BK101 HB
 (try clear hb)
 (try clear ho0)
 refine hK.out _ _ ⟨(blk_cell BK101.out 0).trans rfl, (blk_cell BK101.out 1).trans rfl, (blk_cell BK101.out 2).trans rfl, (blk_cell BK101.out 3).trans rfl, (blk_cell BK101.out 4).trans rfl, (blk_cell BK101.out 5).trans rfl, (blk_cell BK101.out 6).trans rfl⟩ (fun hHeld => ?_)
 clear hK K
 refine norm_ (a' := ?_) ?_ ?_
 rotate_left
 ·show Act.put _ (some 17) _ = _
  exact put9
 refine one_ (i := 4) (N := some 19) #[i9, i9, i9, i9, i9, i9, o9, o9, o9] rfl rfl (one_of HT_.out (by kernel_rfl)) (by decide) (fun K hK => ?_)
 refine goes9 Try.func75 (by kernel_rfl) rfl #[.agg #[.slice A0_0 l0_0.length c0_0, .slice A0_1 l0_1.length c0_1, .slice A0_2 l0_2.length c0_2, .slice A0_3 l0_3.length c0_3, .slice A0_4 l0_4.length c0_4, .slice A0_5 l0_5.length c0_5, .slice A0_6 l0_6.length c0_6]] (by rfl) rfl rfl ?_
 with_reducible refine (bob_Orders.calls k _ _ l0_0 _ _ l0_1 _ _ l0_2 _ _ l0_3 _ _ l0_4 _ _ l0_5 _ _ l0_6 t115 _ ?side1 ?side2 ?side3 ?side4 ?side5 ?side6 ?side7 ?side8 ?side9 ?side10 ?side11 ?side12 ?side13 ?side14 A8.out).mono ?_
 (case side1 => exact cp9 HR0_0.out HB.out)
 (case side2 => exact HC0_0.out)
 (case side3 => exact cp9 HR0_1.out HB.out)
 (case side4 => exact HC0_1.out)
 (case side5 => exact cp9 HR0_2.out HB.out)
 (case side6 => exact HC0_2.out)
 (case side7 => exact cp9 HR0_3.out HB.out)
 (case side8 => exact HC0_3.out)
 (case side9 => exact cp9 HR0_4.out HB.out)
 (case side10 => exact HC0_4.out)
 (case side11 => exact cp9 HR0_5.out HB.out)
 (case side12 => exact HC0_5.out)
 (case side13 => exact cp9 HR0_6.out HB.out)
 (case side14 => exact HC0_6.out)
 rintro e w20 ⟨v116, rfl, ho0, hb⟩
 refine ⟨_, rfl, ?_⟩
 have n0_ := a9_ (Kd.R_elder' (rp9 HO105.out) (Kd.R_base ho0) hb)
 have n1_ := a9_ (Kd.R_elder' (rp9 HO108.out) (Kd.R_base ho0) hb)
 have n2_ := a9_ (Kd.R_elder' (rp9 HO111.out) (Kd.R_base ho0) hb)
 have n3_ := a9_ (Kd.R_elder' (rp9 HO114.out) (Kd.R_base ho0) hb)
 have n4_ := a9_ (Kd.R_lower (Kd.R_new' (Kd.R_new' (Kd.R_new' (Kd.R_new' ho0 (Kd.R_lt (rp9 HO105.out))) (Kd.R_lt (rp9 HO108.out))) (Kd.R_lt (rp9 HO111.out))) (Kd.R_lt (rp9 HO114.out))) (below_size (bp9 HB.out)))
 have n5_ := a9_ (blk_below (kp9 BK101.out) hb)
 have n6_ := a9_ (below_step (bp9 HB.out) hb)
 clear HO105 HO108 HO111 HO114 BK101 HB
 revert n0_ n1_ n2_ n3_ n4_ n5_ n6_; intro HO105 HO108 HO111 HO114 HO117 BK101 HB
 (try clear hb)
 (try clear ho0)
 obtain ⟨Ao21, co21, eo21⟩ := Kd.R_slice HO114.out
 (first | subst eo21 | (injection eo21 with f1_ f2_ f3_; have f4_ := f1_.symm; have f5_ := f3_.symm; clear f1_ f2_ f3_; subst f4_; subst f5_))
 obtain ⟨Ao22, co22, eo22⟩ := Kd.R_slice HO117.out
 (first | subst eo22 | (injection eo22 with f1_ f2_ f3_; have f4_ := f1_.symm; have f5_ := f3_.symm; clear f1_ f2_ f3_; subst f4_; subst f5_))
 obtain ⟨Ao23, co23, eo23⟩ := Kd.R_slice HO111.out
 (first | subst eo23 | (injection eo23 with f1_ f2_ f3_; have f4_ := f1_.symm; have f5_ := f3_.symm; clear f1_ f2_ f3_; subst f4_; subst f5_))
 refine hK.out _ _ ⟨(blk_cell BK101.out 0).trans rfl, (blk_cell BK101.out 1).trans rfl, (blk_cell BK101.out 2).trans rfl, (blk_cell BK101.out 3).trans rfl, (blk_cell BK101.out 4).trans rfl, (blk_cell BK101.out 5).trans rfl, (blk_cell BK101.out 6).trans rfl⟩ (fun hHeld => ?_)
 clear hK K
 refine norm_ (a' := ?_) ?_ ?_
 rotate_left
 ·show Act.put _ (some 19) _ = _
  exact put9
 refine one_ (i := 6) (N := some 21) #[i9, i9, i9, i9, i9, i9, i9, o9, o9] rfl rfl (one_of HT_.out (by kernel_rfl)) (by decide) (fun K hK => ?_)
 refine Kd.N_lit_step (Kd.slice 52 (Kd.int .u32)) _ 28 ?hg (N' := 21) ?hd (xs := ([t112, t115, t109] : List (List Int))) (inner := [.slice Ao21 t112.length co21, .slice Ao22 t115.length co22, .slice Ao23 t109.length co23]) (ok := (fun k_ => some k_ ≠ (.slice Ao15 t103.length co15 : Value).ownBlock ∧ some k_ ≠ (.slice Ao16 t106.length co16 : Value).ownBlock ∧ k_ ≠ gb101)) (okp := (fun k_ => some k_ ≠ (.slice Ao15 t103.length co15 : Value).ownBlock ∧ some k_ ≠ (.slice Ao16 t106.length co16 : Value).ownBlock ∧ k_ ≠ gb101)) ?hr ?hp (fun _ hk => hk) ((show ∀ k_, w20.heap.size ≤ k_ → (fun k_ => some k_ ≠ (.slice Ao15 t103.length co15 : Value).ownBlock ∧ some k_ ≠ (.slice Ao16 t106.length co16 : Value).ownBlock ∧ k_ ≠ gb101) k_ from fun k_ hk => ⟨Kd.fresh' (Kd.R_lt (rp9 HO105.out)) k_ hk, Kd.fresh' (Kd.R_lt (rp9 HO108.out)) k_ hk, Kd.freshB (g := gb101) (o := .cells #[.slice A0_0 l0_0.length c0_0, .slice A0_1 l0_1.length c0_1, .slice A0_2 l0_2.length c0_2, .slice A0_3 l0_3.length c0_3, .slice A0_4 l0_4.length c0_4, .slice A0_5 l0_5.length c0_5, .slice A0_6 l0_6.length c0_6] 31 (0, 0)) (kp9 BK101.out) k_ hk⟩) _ (Nat.le_refl _)) (Below.refl _ _) (Nat.le_refl _) (by simp) ?_; (case hd => rfl); (case hg => rfl); (case hr => first | (go_simp; done) | (go_simp; rfl)); (case hp => exact (Reps.one (show Kd.FK (Kd.slice 52 (Kd.int .u32)) _ _ t112 [.slice Ao21 t112.length co21] from (Kd.FK_slice_mk (Kd.R_reads' (Kd.R_mono (ok' := (fun k_ => some k_ ≠ (.slice Ao15 t103.length co15 : Value).ownBlock ∧ some k_ ≠ (.slice Ao16 t106.length co16 : Value).ownBlock ∧ k_ ≠ gb101)) (Kd.R_types (HO114.out) BK101.out (by decide)) (fun k_ hk => ⟨hk.1.1.1.1.2, ⟨hk.1.1.1.2, hk.2⟩⟩))).2.1 (Kd.R_F (Kd.R_mono (ok' := (fun k_ => some k_ ≠ (.slice Ao15 t103.length co15 : Value).ownBlock ∧ some k_ ≠ (.slice Ao16 t106.length co16 : Value).ownBlock ∧ k_ ≠ gb101)) (Kd.R_types (HO114.out) BK101.out (by decide)) (fun k_ hk => ⟨hk.1.1.1.1.2, ⟨hk.1.1.1.2, hk.2⟩⟩))))) (Reps.one (show Kd.FK (Kd.slice 52 (Kd.int .u32)) _ _ t115 [.slice Ao22 t115.length co22] from (Kd.FK_slice_mk (Kd.R_reads' (Kd.R_mono (ok' := (fun k_ => some k_ ≠ (.slice Ao15 t103.length co15 : Value).ownBlock ∧ some k_ ≠ (.slice Ao16 t106.length co16 : Value).ownBlock ∧ k_ ≠ gb101)) (Kd.R_types (HO117.out) BK101.out (by decide)) (fun k_ hk => ⟨hk.1.1.1.1.2, ⟨hk.1.1.1.2, hk.2⟩⟩))).2.1 (Kd.R_F (Kd.R_mono (ok' := (fun k_ => some k_ ≠ (.slice Ao15 t103.length co15 : Value).ownBlock ∧ some k_ ≠ (.slice Ao16 t106.length co16 : Value).ownBlock ∧ k_ ≠ gb101)) (Kd.R_types (HO117.out) BK101.out (by decide)) (fun k_ hk => ⟨hk.1.1.1.1.2, ⟨hk.1.1.1.2, hk.2⟩⟩))))) (Reps.one (show Kd.FK (Kd.slice 52 (Kd.int .u32)) _ _ t109 [.slice Ao23 t109.length co23] from (Kd.FK_slice_mk (Kd.R_reads' (Kd.R_mono (ok' := (fun k_ => some k_ ≠ (.slice Ao15 t103.length co15 : Value).ownBlock ∧ some k_ ≠ (.slice Ao16 t106.length co16 : Value).ownBlock ∧ k_ ≠ gb101)) (Kd.R_types (HO111.out) BK101.out (by decide)) (fun k_ hk => ⟨hk.1.1.1.1.2, ⟨hk.1.1.1.2, hk.2⟩⟩))).2.1 (Kd.R_F (Kd.R_mono (ok' := (fun k_ => some k_ ≠ (.slice Ao15 t103.length co15 : Value).ownBlock ∧ some k_ ≠ (.slice Ao16 t106.length co16 : Value).ownBlock ∧ k_ ≠ gb101)) (Kd.R_types (HO111.out) BK101.out (by decide)) (fun k_ hk => ⟨hk.1.1.1.1.2, ⟨hk.1.1.1.2, hk.2⟩⟩))))) (Reps.none _ _)))))
 intro v119 w24 ho25 hb hg_ hnew_
 clear hg_ hnew_
 (first | rw [← Ny118.out] at ho25 | (simp only [Int.reduceToNat] at ho25; rw [← Ny118.out] at ho25))
 have n0_ := a9_ (Kd.R_below (rp9 HO105.out) hb)
 have n1_ := a9_ (Kd.R_below (rp9 HO108.out) hb)
 have n2_ := a9_ (Kd.N_lower ho25 (below_size (bp9 HB.out)))
 have n3_ := a9_ (blk_below (kp9 BK101.out) hb)
 have n4_ := a9_ (below_step (bp9 HB.out) hb)
 clear HO105 HO108 BK101 HB HO111 HO114 HO117
 revert n0_ n1_ n2_ n3_ n4_; intro HO105 HO108 HO120 BK101 HB
 clear hb ho25
 obtain ⟨Ao26, co26, eo26⟩ := Kd.N_slice HO120.out
 (first | subst eo26 | (injection eo26 with f1_ f2_ f3_; have f4_ := f1_.symm; have f5_ := f3_.symm; clear f1_ f2_ f3_; subst f4_; subst f5_))
 refine hK.out _ _ ⟨(blk_cell BK101.out 0).trans rfl, (blk_cell BK101.out 1).trans rfl, (blk_cell BK101.out 2).trans rfl, (blk_cell BK101.out 3).trans rfl, (blk_cell BK101.out 4).trans rfl, (blk_cell BK101.out 5).trans rfl, (blk_cell BK101.out 6).trans rfl⟩ (fun hHeld => ?_)
 clear hK K
 refine norm_ (a' := ?_) ?_ ?_
 rotate_left
 ·show Act.put _ (some 21) _ = _
  exact put9
 refine one_ (i := 7) (N := some 22) #[i9, i9, i9, i9, i9, i9, i9, i9, o9] rfl rfl (one_of HT_.out (by kernel_rfl)) (by decide) (fun K hK => ?_)
 refine goes9 Try.func126 (by kernel_rfl) rfl #[.agg #[.slice A0_0 l0_0.length c0_0, .slice A0_1 l0_1.length c0_1, .slice A0_2 l0_2.length c0_2, .slice A0_3 l0_3.length c0_3, .slice A0_4 l0_4.length c0_4, .slice A0_5 l0_5.length c0_5, .slice A0_6 l0_6.length c0_6], .slice Ao26 y118.length co26] (by rfl) rfl rfl ?_
 with_reducible refine (bob_all.calls k _ _ l0_0 _ _ l0_1 _ _ l0_2 _ _ l0_3 _ _ l0_4 _ _ l0_5 _ _ l0_6 _ _ y118 t121 _ ?side1 ?side2 ?side3 ?side4 ?side5 ?side6 ?side7 ?side8 ?side9 ?side10 ?side11 ?side12 ?side13 ?side14 ?side15 ?side16 A9.out).mono ?_
 (case side1 => exact cp9 HR0_0.out HB.out)
 (case side2 => exact HC0_0.out)
 (case side3 => exact cp9 HR0_1.out HB.out)
 (case side4 => exact HC0_1.out)
 (case side5 => exact cp9 HR0_2.out HB.out)
 (case side6 => exact HC0_2.out)
 (case side7 => exact cp9 HR0_3.out HB.out)
 (case side8 => exact HC0_3.out)
 (case side9 => exact cp9 HR0_4.out HB.out)
 (case side10 => exact HC0_4.out)
 (case side11 => exact cp9 HR0_5.out HB.out)
 (case side12 => exact HC0_5.out)
 (case side13 => exact cp9 HR0_6.out HB.out)
 (case side14 => exact HC0_6.out)
 (case side15 => exact lp9 (Kd.N_reads' HO120.out).2.2)
 (case side16 => exact (Kd.N_reads' HO120.out).2.1)
 rintro e w27 ⟨v122, rfl, ho0, hb⟩
 refine ⟨_, rfl, ?_⟩
 have n0_ := a9_ (Kd.R_elder' (rp9 HO105.out) (Kd.R_base ho0) hb)
 have n1_ := a9_ (Kd.R_elder' (rp9 HO108.out) (Kd.R_base ho0) hb)
 have n2_ := a9_ (Kd.N_elder' (by (with_reducible repeat (first | apply Kd.N_alloc | apply Kd.N_drewN | apply Kd.N_drew)); exact HO120.out) (Kd.R_base ho0) hb)
 have n3_ := a9_ (Kd.R_lower (Kd.R_new' (Kd.R_new' ho0 (Kd.R_lt (rp9 HO105.out))) (Kd.R_lt (rp9 HO108.out))) (below_size (bp9 HB.out)))
 have n4_ := a9_ (blk_below (kp9 BK101.out) hb)
 have n5_ := a9_ (below_step (bp9 HB.out) hb)
 clear HO105 HO108 HO120 BK101 HB
 revert n0_ n1_ n2_ n3_ n4_ n5_; intro HO105 HO108 HO120 HO123 BK101 HB
 (try clear hb)
 (try clear ho0)
 refine hK.out _ _ ⟨(blk_cell BK101.out 0).trans rfl, (blk_cell BK101.out 1).trans rfl, (blk_cell BK101.out 2).trans rfl, (blk_cell BK101.out 3).trans rfl, (blk_cell BK101.out 4).trans rfl, (blk_cell BK101.out 5).trans rfl, (blk_cell BK101.out 6).trans rfl⟩ (fun hHeld => ?_)
 clear hK K
 refine norm_ (a' := ?_) ?_ ?_
 rotate_left
 ·show Act.put _ (some 22) _ = _
  exact put9
 refine pureA 8 (some 4) ?_ #[i9, i9, i9, i9, i9, i9, i9, i9, i9] rfl rfl (any_of HT_.out (by kernel_rfl)) ?_ ?_ ?_ ?_
 rotate_left
 ·intro w'; go_simp; with_reducible rfl
 rotate_left
 ·exact put9
 refine done_ (done_of HT_.out (by kernel_rfl)) ?_
 try go_wp2
 go_ret
 exact ⟨_, rt9, by (with_reducible repeat (first | apply Kd.R_alloc | apply Kd.R_drewN | apply Kd.R_drew)); exact Kd.R_mono HO123.out (fun _ hk => trivial), bp9 HB.out⟩
def bob_Aob.T7 : Bool × List (List Nat × List Nat) := (true, [([], []), ([], []), ([1], [1]), ([], []), ([], []), ([3, 4], [3, 4]), ([], []), ([], []), ([7, 5], [7]), ([5, 6, 8, 8], [5, 6, 8]), ([2, 9], [2, 9]), ([0, 10, 9], [0, 10]), ([11, 11, 0, 1, 2, 3, 4, 5, 6, 7, 8, 9, 10, 11], [11])])
def bob_Aob.B7 : List Nat := [0, 0, 2, 0, 0, 24, 0, 0, 184, 504, 1022, 2047, 4095]
theorem bob_Aob.tab7 : rtab .any (opsOf Try.f97 7) = bob_Aob.T7 := by kernel_rfl
theorem bob_Aob.bits7 : waitsOk bob_Aob.T7.2 bob_Aob.B7 = true := by kernel_rfl
end Go.Proofs.Ytbamkkdikeedoaa.G
