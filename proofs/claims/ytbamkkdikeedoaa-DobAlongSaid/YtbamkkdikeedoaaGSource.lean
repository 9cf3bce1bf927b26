-- Written by drive.py, a program of this seat's session, out of the translation.
import Derived.Test.YtbamkkdikeedoaaG0
import Derived.Test.YtbamkkdikeedoaaGRel
import Derived.Test.YtbamkkdikeedoaaGSlices
import Derived.Test.YtbamkkdikeedoaaHandCz
namespace Go.Proofs.Ytbamkkdikeedoaa.G
open Go.RowKit Go.Proofs.YtbamkkdikeedoaaW.PrintWords Go.Proofs.YtbamkkdikeedoaaW.PrintLast Go.Proofs.YtbamkkdikeedoaaW.PrintMore
set_option linter.unusedVariables false
set_option linter.unusedSimpArgs false
def source_Rf.l0 : Nat → List Int → List Int → Int → Int → Option (List Int)
 | 0, _, _, _, _ => none
 | k + 1, x5, x12, x13, x14 => if x14 < x13 then (if 0 ≤ x14 then (if x14 < (x12.length : Int) then ((rel_Put.f k x5 (rd x12 x14) x14).bind fun t106 => (source_Rf.l0 k t106 x12 x13 (wrap64 (x14 + 1)))) else (none)) else (none)) else (some x5)
def source_Rf.f (k : Nat) (l0_0 : List (S26)) (l0_1 : List Int) (l0_2 : List Int) (l0_3 : List Int) (l0_4 : List Int) (l0_5 : List Int) (l0_6 : List (List Int)) (l1 : List Int) : Option (List Int) := (rel_New.f (l0_0.length : Int)).bind fun t102 => (source_Rf.l0 k t102 l1 (l1.length : Int) 0)
theorem source_Rf.mono_l : ∀ k, (∀ y0 y1 y2 y3, LeO (source_Rf.l0 k y0 y1 y2 y3) (source_Rf.l0 (k + 1) y0 y1 y2 y3))
 | 0 => fun _ _ _ _ r h => by simp [source_Rf.l0] at h
 | k + 1 => by
  have ih0 := source_Rf.mono_l k
  ·intro y0 y1 y2 y3
   unfold source_Rf.l0
   repeat' (with_reducible first | exact ih0 _ _ _ _ | exact rel_Put.mono _ _ _ _ | exact LeO.refl _ | exact LeO.none _ | refine LeO.ite ?_ ?_ | refine LeO.bind ?_ (fun _ => ?_))
theorem source_Rf.mono : ∀ a0 a1 a2 a3 a4 a5 a6 a7 k, LeO (source_Rf.f k a0 a1 a2 a3 a4 a5 a6 a7) (source_Rf.f (k + 1) a0 a1 a2 a3 a4 a5 a6 a7) := by
 intro a0 a1 a2 a3 a4 a5 a6 a7 k
 have ih0 := source_Rf.mono_l k
 unfold source_Rf.f
 repeat' (with_reducible first | exact ih0 _ _ _ _ | exact rel_Put.mono _ _ _ _ | exact LeO.refl _ | exact LeO.none _ | refine LeO.ite ?_ ?_ | refine LeO.bind ?_ (fun _ => ?_))
set_option maxHeartbeats 8000000 in
set_option maxRecDepth 100000 in
theorem source_Rf.calls (k : Nat) (A0_0 : Option Addr) (c0_0 : Nat) (l0_0 : List (S26)) (A0_1 : Option Addr) (c0_1 : Nat) (l0_1 : List Int) (A0_2 : Option Addr) (c0_2 : Nat) (l0_2 : List Int) (A0_3 : Option Addr) (c0_3 : Nat) (l0_3 : List Int) (A0_4 : Option Addr) (c0_4 : Nat) (l0_4 : List Int) (A0_5 : Option Addr) (c0_5 : Nat) (l0_5 : List Int) (A0_6 : Option Addr) (c0_6 : Nat) (l0_6 : List (List Int)) (A1 : Option Addr) (c1 : Nat) (l1 : List Int) (r : List Int) (w : World) (hr0_0 : Kd.C k26 w A0_0 l0_0.length l0_0) (hc0_0 : l0_0.length ≤ c0_0) (hr0_1 : Kd.C (Kd.int .u32) w A0_1 l0_1.length l0_1) (hc0_1 : l0_1.length ≤ c0_1) (hr0_2 : Kd.C (Kd.int .u32) w A0_2 l0_2.length l0_2) (hc0_2 : l0_2.length ≤ c0_2) (hr0_3 : Kd.C (Kd.int .u32) w A0_3 l0_3.length l0_3) (hc0_3 : l0_3.length ≤ c0_3) (hr0_4 : Kd.C (Kd.int .u32) w A0_4 l0_4.length l0_4) (hc0_4 : l0_4.length ≤ c0_4) (hr0_5 : Kd.C (Kd.int .u32) w A0_5 l0_5.length l0_5) (hc0_5 : l0_5.length ≤ c0_5) (hr0_6 : Kd.C (Kd.slice 2 (Kd.int .i64)) w A0_6 l0_6.length l0_6) (hc0_6 : l0_6.length ≤ c0_6) (hr1 : Kd.C (Kd.int .i64) w A1 l1.length l1) (hc1 : l1.length ≤ c1) (h : source_Rf.f k l0_0 l0_1 l0_2 l0_3 l0_4 l0_5 l0_6 l1 = some r) :
  Calls Try.prog 64 #[.agg #[.slice A0_0 l0_0.length c0_0, .slice A0_1 l0_1.length c0_1, .slice A0_2 l0_2.length c0_2, .slice A0_3 l0_3.length c0_3, .slice A0_4 l0_4.length c0_4, .slice A0_5 l0_5.length c0_5, .slice A0_6 l0_6.length c0_6], .slice A1 l1.length c1] w fun e w' => ∃ v0_ : Value, e = .returned (v0_) ∧ Kd.R (Kd.int .u32) 52 w' w.heap.size (fun _ => True) v0_ r ∧ Below w.heap.size w w' := by
 have hu31 := Try.underlying31
 have HR0_0 := a9_ hr0_0
 have HC0_0 := a9_ hc0_0
 clear hr0_0 hc0_0
 have HR0_1 := a9_ hr0_1
 have HC0_1 := a9_ hc0_1
 clear hr0_1 hc0_1
 have HR0_2 := a9_ hr0_2
 have HC0_2 := a9_ hc0_2
 clear hr0_2 hc0_2
 have HR0_3 := a9_ hr0_3
 have HC0_3 := a9_ hc0_3
 clear hr0_3 hc0_3
 have HR0_4 := a9_ hr0_4
 have HC0_4 := a9_ hc0_4
 clear hr0_4 hc0_4
 have HR0_5 := a9_ hr0_5
 have HC0_5 := a9_ hc0_5
 clear hr0_5 hc0_5
 have HR0_6 := a9_ hr0_6
 have HC0_6 := a9_ hc0_6
 clear hr0_6 hc0_6
 have HR1 := a9_ hr1
 have HC1 := a9_ hc1
 clear hr1 hc1
 have HB := a9_ (Below.refl w.heap.size w)
 have H : ((rel_New.f (l0_0.length : Int)).bind fun t102 => (source_Rf.l0 k t102 l1 (l1.length : Int) 0)) = some r := h
 clear h
 replace H := Option.bind_eq_some_iff.mp H
 obtain ⟨t102, A30, H⟩ := H
 have A3 := a9_ A30
 clear A30
 have H' := a9_ H
 clear H
 go_enter Try.func64, Try.ntmps64
 go_wp2_with (first | ((with_reducible refine gate_dst (N := 2) rfl ?_); refine box9 (N := 2) (cs := #[.slice A0_0 l0_0.length c0_0, .slice A0_1 l0_1.length c0_1, .slice A0_2 l0_2.length c0_2, .slice A0_3 l0_3.length c0_3, .slice A0_4 l0_4.length c0_4, .slice A0_5 l0_5.length c0_5, .slice A0_6 l0_6.length c0_6]) (t := 31) ?_; intro gb101 hg w4 hbox hb; have n0_ := a9_ (below_step (bp9 HB.out) hb); have n1_ := a9_ (hbox); have n2_ := a9_ ((by rw [hg]; exact (below_size (bp9 HB.out)) : w.heap.size ≤ gb101)); have n3_ := n2_; clear HB; have HB := n0_; have BK101 := n1_; have GW101 := n2_; have GE101 := n3_; clear n0_ n1_ n2_ n3_; clear hb hbox hg; obtain ⟨hcz5_0, hcz5_1, hcz5_2, hcz5_3, hcz5_4, hcz5_5, hcz5_6, hfz5_0, hfz5_1, hfz5_2, hfz5_3, hfz5_4, hfz5_5, hfz5_6⟩ := cz7 BK101.out) | ((with_reducible refine gate_callee (f := 37) rfl ?_); refine goesL9 (some 11) rfl rfl Try.func37 (by kernel_rfl) rfl #[.int .i64 (l0_0.length : Int)] rfl ?_; (with_reducible refine (rel_New.calls (l0_0.length : Int) t102 _ A3.out).mono ?_); rintro e w6 ⟨v103, rfl, ho0, hb⟩; refine ⟨_, rfl, ?_⟩; have n0_ := a9_ (Kd.R_lower ho0 (below_size (bp9 HB.out))); have n1_ := a9_ (blk_below (kp9 BK101.out) hb); have n2_ := a9_ (below_step (bp9 HB.out) hb); clear BK101; clear HB; have HO104 := n0_; have BK101 := n1_; have HB := n2_; clear n0_ n1_ n2_; (try clear hb); (try clear ho0)))
 go_loopg [5, 14] k (fun kq v5 v14 w' => ∃ (x5_1 : List Int) (x14_1 : Int), v14 = .int .i64 x14_1 ∧ Aside0 (source_Rf.l0 kq x5_1 l1 (l1.length : Int) x14_1 = some r) ∧ Aside0 (kq ≤ k) ∧ Aside0 (Kd.R (Kd.int .u32) 52 w' w.heap.size (fun _ => True) v5 x5_1) ∧ Aside0 (w'.heap[gb101]? = some (.cells #[(.slice A0_0 l0_0.length c0_0), (.slice A0_1 l0_1.length c0_1), (.slice A0_2 l0_2.length c0_2), (.slice A0_3 l0_3.length c0_3), (.slice A0_4 l0_4.length c0_4), (.slice A0_5 l0_5.length c0_5), (.slice A0_6 l0_6.length c0_6)] 31 (0, 0))) ∧ Aside0 (Below w.heap.size w w'))
 case atStart => exact ⟨(t102), (0), rs9, H', ⟨Nat.le_refl _⟩, ⟨rp9 HO104.out⟩, ⟨kp9 BK101.out⟩, ⟨bp9 HB.out⟩⟩
 case round =>
  clear H'
  try clear c1
  try clear p2
  try clear c3
  try clear c6
  try clear hcz5_0 hcz5_1 hcz5_2 hcz5_3 hcz5_4 hcz5_5 hcz5_6
  try clear hfz5_0 hfz5_1 hfz5_2 hfz5_3 hfz5_4 hfz5_5 hfz5_6
  obtain ⟨x5_1, x14_1, rfl, HA, HK1, HO_5, BK101, HB⟩ := hrel
  cases gk with
  | zero => exact absurd HA.out (by simp [source_Rf.l0])
  | succ k1 =>
   have H := HA.out
   clear HA
   simp only [source_Rf.l0] at H
   by_cases c7 : x14_1 < (l1.length : Int)
   ·rw [if_pos c7] at H
    have c7b0 : decide (x14_1 < (l1.length : Int)) = true := decide_eq_true c7
    clear c7
    by_cases c8 : 0 ≤ x14_1
    ·rw [if_pos c8] at H
     have c8b0 : decide (0 ≤ x14_1) = true := decide_eq_true c8
     clear c8
     by_cases c9 : x14_1 < (l1.length : Int)
     ·rw [if_pos c9] at H
      have c9b0 : decide (x14_1 < (l1.length : Int)) = true := decide_eq_true c9
      clear c9
      replace H := Option.bind_eq_some_iff.mp H
      obtain ⟨t106, A100, H⟩ := H
      have A10 := a9_ A100
      clear A100
      have H' := a9_ H
      clear H
      have p105 : 0 ≤ (x14_1 : Int) := of_decide_eq_true (by first | (with_reducible assumption) | assumption)
      have q105 : x14_1 < (l1.length : Int) := of_decide_eq_true (by first | (with_reducible assumption) | assumption)
      obtain ⟨ad105, e105, hx105_0⟩ := Kd.at_int HR1.out x14_1 p105 q105
      cases e105
      replace hx105_0 := hb9 HB.out hx105_0
      replace p105 := eq_true p105
      replace q105 := eq_true q105
      obtain ⟨Ao11, co11, eo11⟩ := Kd.R_slice HO_5.out
      subst eo11
      go_wp2_with (first | ((with_reducible refine gate_callee (f := 40) rfl ?_); refine goesL9 (some 22) rfl rfl Try.func40 (by kernel_rfl) rfl #[.slice Ao11 x5_1.length co11, .int .i64 (rd l1 x14_1), .int .i64 x14_1] rfl ?_; (with_reducible refine (rel_Put.calls k1 _ _ x5_1 (rd l1 x14_1) x14_1 t106 _ ?side1 ?side2 A10.out).mono ?_); (case side1 => exact lp9 (Kd.R_reads' HO_5.out).2.2); (case side2 => exact (Kd.R_reads' HO_5.out).2.1); rintro e w12 ⟨v107, rfl, ho0, hb⟩; refine ⟨_, rfl, ?_⟩; have n0_ := a9_ (Kd.R_elder' (rp9 HO_5.out) (Kd.R_base ho0) hb); have n1_ := a9_ (Kd.R_lower (Kd.R_new' ho0 (Kd.R_lt (rp9 HO_5.out))) (below_size (bp9 HB.out))); have n2_ := a9_ (blk_below (kp9 BK101.out) hb); have n3_ := a9_ (below_step (bp9 HB.out) hb); clear HO_5; clear BK101; clear HB; have HO_5 := n0_; have HO108 := n1_; have BK101 := n2_; have HB := n3_; clear n0_ n1_ n2_ n3_; (try clear hb); (try clear ho0)))
      go_roundg k1
      case measure => have := HK1.out; omega
      case rel => exact ⟨(t106), (wrap64 (x14_1 + 1)), rs9, H', ⟨by have := HK1.out; omega⟩, ⟨by (with_reducible repeat (first | apply Kd.R_alloc | apply Kd.R_drewN | apply Kd.R_drew)); exact Kd.R_mono HO108.out (fun _ hk => trivial)⟩, ⟨kp9 BK101.out⟩, ⟨bp9 HB.out⟩⟩
     ·rw [if_neg c9] at H
      exact absurd H (by simp)
    ·rw [if_neg c8] at H
     exact absurd H (by simp)
   ·rw [if_neg c7] at H
    have c7b0 : decide (x14_1 < (l1.length : Int)) = false := decide_eq_false c7
    clear c7
    obtain rfl := Option.some.inj H
    go_wp2
    go_ret
    exact ⟨_, rt9, by (with_reducible repeat (first | apply Kd.R_alloc | apply Kd.R_drewN | apply Kd.R_drew)); exact HO_5.out, bp9 HB.out⟩
end Go.Proofs.Ytbamkkdikeedoaa.G
