-- Written by drive.py, a program of this seat's session, out of the translation.
import Derived.Test.YtbamkkdikeedoaaGDobAlongD
import Derived.Test.YtbamkkdikeedoaaG0
import Derived.Test.YtbamkkdikeedoaaGCupolalaw14
import Derived.Test.YtbamkkdikeedoaaGCupolaref10b
import Derived.Test.YtbamkkdikeedoaaGDob
import Derived.Test.YtbamkkdikeedoaaGRel
import Derived.Test.YtbamkkdikeedoaaHandMade
import Derived.Test.YtbamkkdikeedoaaHandRel
import Derived.Test.YtbamkkdikeedoaaHandCz
namespace Go.Proofs.Ytbamkkdikeedoaa.G
open Go.RowKit Go.Proofs.YtbamkkdikeedoaaW.PrintWords Go.Proofs.YtbamkkdikeedoaaW.PrintLast Go.Proofs.YtbamkkdikeedoaaW.PrintMore
set_option linter.unusedVariables false
set_option linter.unusedSimpArgs false
def cupolalaw14_DobAlong.T14 : Bool × List (List Nat × List Nat) := (true, [([], []), ([0], [0]), ([], []), ([2], [2]), ([], []), ([4], [4]), ([3, 5], [3, 5]), ([1, 6, 6], [1, 6]), ([7, 7, 0, 1, 2, 3, 4, 5, 6, 7], [7])])
def cupolalaw14_DobAlong.B14 : List Nat := [0, 1, 0, 4, 0, 16, 60, 127, 255]
theorem cupolalaw14_DobAlong.tab14 : rtab .any (opsOf Try.f27 14) = cupolalaw14_DobAlong.T14 := by kernel_rfl
theorem cupolalaw14_DobAlong.bits14 : waitsOk cupolalaw14_DobAlong.T14.2 cupolalaw14_DobAlong.B14 = true := by kernel_rfl
def cupolalaw14_DobAlong.T23 : Bool × List (List Nat × List Nat) := (true, [([], []), ([], []), ([0, 1], [0, 1]), ([], []), ([], []), ([3, 4, 2], [3, 4]), ([2, 5, 5], [2, 5]), ([6, 6, 0, 1, 2, 3, 4, 5, 6], [6])])
def cupolalaw14_DobAlong.B23 : List Nat := [0, 0, 3, 0, 0, 31, 63, 127]
theorem cupolalaw14_DobAlong.tab23 : rtab .any (opsOf Try.f27 23) = cupolalaw14_DobAlong.T23 := by kernel_rfl
theorem cupolalaw14_DobAlong.bits23 : waitsOk cupolalaw14_DobAlong.T23.2 cupolalaw14_DobAlong.B23 = true := by kernel_rfl
set_option maxHeartbeats 8000000 in
set_option maxRecDepth 100000 in
theorem cupolalaw14_DobAlong.calls (k : Nat) (A0 : Option Addr) (c0 : Nat) (l0 : List (S117)) (A1 : Option Addr) (c1 : Nat) (l1 : List Int) (A2 : Option Addr) (c2 : Nat) (l2 : List Int) (r : Bool) (hT : r = true) (w : World) (hr0 : Kd.C k117 w A0 l0.length l0) (hc0 : l0.length ≤ c0) (hr1 : Kd.C (Kd.int .i64) w A1 l1.length l1) (hc1 : l1.length ≤ c1) (hr2 : Kd.C (Kd.int .u32) w A2 l2.length l2) (hc2 : l2.length ≤ c2) (h : cupolalaw14_DobAlong.f k l0 l1 l2 = some r) :
  Calls Try.prog 27 #[.slice A0 l0.length c0, .slice A1 l1.length c1, .slice A2 l2.length c2] w fun e w' => e = .returned (.bool r) ∧ Below w.heap.size w w' := by
 have HT9 := a9_ hT
 clear hT
 have hu76 := Try.underlying76
 have hu31 := Try.underlying31
 have HR0 := a9_ hr0
 have HC0 := a9_ hc0
 clear hr0 hc0
 have HR1 := a9_ hr1
 have HC1 := a9_ hc1
 clear hr1 hc1
 have HR2 := a9_ hr2
 have HC2 := a9_ hc2
 clear hr2 hc2
 have HB := a9_ (Below.refl w.heap.size w)
 have H : ((cupolalaw14_shown.f k).bind fun t101 => (if (l0.length : Int) > 3 then (some t101) else (cupolalaw14_DobAlong.l0 k l0 l1 l2 t101 0))) = some r := h
 clear h
 replace H := Option.bind_eq_some_iff.mp H
 obtain ⟨t101, A40, H⟩ := H
 have A4 := a9_ A40
 clear A40
 by_cases c5 : (l0.length : Int) > 3
 ·rw [if_pos c5] at H
  have c5b0 : decide (3 < (l0.length : Int)) = true := decide_eq_true c5
  have c5b1 : decide (3 < l0.length) = true := decide_eq_true (by omega)
  clear c5
  obtain rfl := Option.some.inj H
  go_enter Try.func27, Try.ntmps27
  go_wp2_with (first | ((with_reducible refine gate_callee (f := 78) rfl ?_); refine goesL9 (some 19) rfl rfl Try.func78 (by kernel_rfl) rfl #[] rfl ?_; (with_reducible refine (cupolalaw14_shown.calls k  t101 _ A4.out).mono ?_); rintro e w6 ⟨rfl, hb⟩; refine ⟨_, rfl, ?_⟩; have n0_ := a9_ (below_step (bp9 HB.out) hb); clear HB; have HB := n0_; clear n0_; (try clear hb); (try clear hi)))
  go_ret
  exact ⟨by first | rfl | (simp [errW_none, errW_some] <;> rfl) | (simp [*, errW_none, errW_some] <;> rfl), bp9 HB.out⟩
 ·rw [if_neg c5] at H
  have c5b0 : decide (3 < (l0.length : Int)) = false := decide_eq_false c5
  have c5b1 : decide (3 < l0.length) = false := decide_eq_false (by omega)
  clear c5
  have H' := a9_ H
  clear H
  go_enter Try.func27, Try.ntmps27
  go_wp2_with (first | ((with_reducible refine gate_callee (f := 78) rfl ?_); refine goesL9 (some 19) rfl rfl Try.func78 (by kernel_rfl) rfl #[] rfl ?_; (with_reducible refine (cupolalaw14_shown.calls k  t101 _ A4.out).mono ?_); rintro e w7 ⟨rfl, hb⟩; refine ⟨_, rfl, ?_⟩; have n0_ := a9_ (below_step (bp9 HB.out) hb); clear HB; have HB := n0_; clear n0_; (try clear hb); (try clear hi)))
  go_loopg [8] k (fun kq v8 w' => ∃ (x8_1 : Int), v8 = .int .i64 x8_1 ∧ Aside0 (cupolalaw14_DobAlong.l0 kq l0 l1 l2 t101 x8_1 = some r) ∧ Aside0 (kq ≤ k) ∧ Aside0 (Below w.heap.size w w'))
  case atStart => exact ⟨(0), rs9, H', ⟨Nat.le_refl _⟩, ⟨bp9 HB.out⟩⟩
  case round =>
   clear H'
   try clear c1
   try clear c2
   try clear p2
   try clear c5
   try clear c5b0
   try clear c5b1
   try clear c7
   obtain ⟨x8_1, rfl, HA, HK1, HB⟩ := hrel
   cases gk with
   | zero => exact absurd HA.out (by simp [cupolalaw14_DobAlong.l0])
   | succ k1 =>
    have H := HA.out
    clear HA
    simp only [cupolalaw14_DobAlong.l0] at H
    by_cases c8 : x8_1 < (l0.length : Int)
    ·rw [if_pos c8] at H
     have c8b0 : decide (x8_1 < (l0.length : Int)) = true := decide_eq_true c8
     clear c8
     by_cases c9 : 0 ≤ x8_1
     ·rw [if_pos c9] at H
      have c9b0 : decide (0 ≤ x8_1) = true := decide_eq_true c9
      clear c9
      by_cases c10 : (((rd_T117 l0 x8_1).f0).length : Int) > 8
      ·rw [if_pos c10] at H
       have c10b0 : decide (8 < (((rd_T117 l0 x8_1).f0).length : Int)) = true := decide_eq_true c10
       have c10b1 : decide (8 < ((rd_T117 l0 x8_1).f0).length) = true := decide_eq_true (by omega)
       clear c10
       obtain rfl := Option.some.inj H
       have p102 : 0 ≤ (x8_1 : Int) := of_decide_eq_true (by first | (with_reducible assumption) | assumption)
       have q102 : x8_1 < (l0.length : Int) := of_decide_eq_true (by first | (with_reducible assumption) | assumption)
       obtain ⟨ad102, A102_0, c102_0, A102_1, c102_1, A102_2, c102_2, A102_3, c102_3, A102_4, c102_4, e102, hx102_0, hx102_1, hx102_2, hx102_3, hx102_4, hx102_5, hx102_6, hx102_7, hx102_8, hx102_9, hx102_10, hx102_11, hx102_12, hx102_13, hx102_14, hx102_15, hl102_0, hi102_0, hl102_1, hi102_1, hl102_2, hi102_2, hl102_3, hi102_3, hl102_4, hi102_4⟩ := at_T117 HR0.out x8_1 p102 q102
       cases e102
       replace hx102_0 := hb9 HB.out hx102_0
       replace hx102_1 := hb9 HB.out hx102_1
       replace hx102_2 := hb9 HB.out hx102_2
       replace hx102_3 := hb9 HB.out hx102_3
       replace hx102_4 := hb9 HB.out hx102_4
       replace hx102_5 := hb9 HB.out hx102_5
       replace hx102_6 := hb9 HB.out hx102_6
       replace hx102_7 := hb9 HB.out hx102_7
       replace hx102_8 := hb9 HB.out hx102_8
       replace hx102_9 := hb9 HB.out hx102_9
       replace hx102_10 := hb9 HB.out hx102_10
       replace hx102_11 := hb9 HB.out hx102_11
       replace hx102_12 := hb9 HB.out hx102_12
       replace hx102_13 := hb9 HB.out hx102_13
       replace hx102_14 := hb9 HB.out hx102_14
       replace hx102_15 := hb9 HB.out hx102_15
       have HR102_0 := a9_ hi102_0
       have HC102_0 := a9_ hl102_0
       clear hi102_0 hl102_0
       have HR102_1 := a9_ hi102_1
       have HC102_1 := a9_ hl102_1
       clear hi102_1 hl102_1
       have HR102_2 := a9_ hi102_2
       have HC102_2 := a9_ hl102_2
       clear hi102_2 hl102_2
       have HR102_3 := a9_ hi102_3
       have HC102_3 := a9_ hl102_3
       clear hi102_3 hl102_3
       have HR102_4 := a9_ hi102_4
       have HC102_4 := a9_ hl102_4
       clear hi102_4 hl102_4
       replace p102 := eq_true p102
       replace q102 := eq_true q102
       go_wp2
       go_ret
       exact ⟨by first | rfl | (simp [errW_none, errW_some] <;> rfl) | (simp [*, errW_none, errW_some] <;> rfl), bp9 HB.out⟩
      ·rw [if_neg c10] at H
       have c10b0 : decide (8 < (((rd_T117 l0 x8_1).f0).length : Int)) = false := decide_eq_false c10
       have c10b1 : decide (8 < ((rd_T117 l0 x8_1).f0).length) = false := decide_eq_false (by omega)
       clear c10
       have H' := a9_ H
       clear H
       have p102 : 0 ≤ (x8_1 : Int) := of_decide_eq_true (by first | (with_reducible assumption) | assumption)
       have q102 : x8_1 < (l0.length : Int) := of_decide_eq_true (by first | (with_reducible assumption) | assumption)
       obtain ⟨ad102, A102_0, c102_0, A102_1, c102_1, A102_2, c102_2, A102_3, c102_3, A102_4, c102_4, e102, hx102_0, hx102_1, hx102_2, hx102_3, hx102_4, hx102_5, hx102_6, hx102_7, hx102_8, hx102_9, hx102_10, hx102_11, hx102_12, hx102_13, hx102_14, hx102_15, hl102_0, hi102_0, hl102_1, hi102_1, hl102_2, hi102_2, hl102_3, hi102_3, hl102_4, hi102_4⟩ := at_T117 HR0.out x8_1 p102 q102
       cases e102
       replace hx102_0 := hb9 HB.out hx102_0
       replace hx102_1 := hb9 HB.out hx102_1
       replace hx102_2 := hb9 HB.out hx102_2
       replace hx102_3 := hb9 HB.out hx102_3
       replace hx102_4 := hb9 HB.out hx102_4
       replace hx102_5 := hb9 HB.out hx102_5
       replace hx102_6 := hb9 HB.out hx102_6
       replace hx102_7 := hb9 HB.out hx102_7
       replace hx102_8 := hb9 HB.out hx102_8
       replace hx102_9 := hb9 HB.out hx102_9
       replace hx102_10 := hb9 HB.out hx102_10
       replace hx102_11 := hb9 HB.out hx102_11
       replace hx102_12 := hb9 HB.out hx102_12
       replace hx102_13 := hb9 HB.out hx102_13
       replace hx102_14 := hb9 HB.out hx102_14
       replace hx102_15 := hb9 HB.out hx102_15
       have HR102_0 := a9_ hi102_0
       have HC102_0 := a9_ hl102_0
       clear hi102_0 hl102_0
       have HR102_1 := a9_ hi102_1
       have HC102_1 := a9_ hl102_1
       clear hi102_1 hl102_1
       have HR102_2 := a9_ hi102_2
       have HC102_2 := a9_ hl102_2
       clear hi102_2 hl102_2
       have HR102_3 := a9_ hi102_3
       have HC102_3 := a9_ hl102_3
       clear hi102_3 hl102_3
       have HR102_4 := a9_ hi102_4
       have HC102_4 := a9_ hl102_4
       clear hi102_4 hl102_4
       replace p102 := eq_true p102
       replace q102 := eq_true q102
       go_wp2
       go_roundg k1
       case measure => have := HK1.out; omega
       case rel => exact ⟨(wrap64 (x8_1 + 1)), rs9, H', ⟨by have := HK1.out; omega⟩, ⟨bp9 HB.out⟩⟩
     ·rw [if_neg c9] at H
      exact absurd H (by simp)
    ·rw [if_neg c8] at H
     have c8b0 : decide (x8_1 < (l0.length : Int)) = false := decide_eq_false c8
     clear c8
     replace H := Option.bind_eq_some_iff.mp H
     obtain ⟨⟨t103, t106, t109, t112, t115, t118, t121, t124⟩, A110, H⟩ := H
     replace H : (if t124 = 0 then (if (l2.length : Int) = (t103.length : Int) then (cupolalaw14_DobAlong.j1 k1 l1 l2 t101 (decide ((l1.length : Int) > 40)) t103 t106 t109 t112 t115 t118 t121) else (cupolalaw14_DobAlong.j1 k1 l1 l2 t101 true t103 t106 t109 t112 t115 t118 t121)) else (cupolalaw14_DobAlong.j1 k1 l1 l2 t101 true t103 t106 t109 t112 t115 t118 t121)) = some r := H
     have A11 := a9_ A110
     clear A110
     have HC12 := a9_ H
     clear H
     go_upto_region 10 with (first | ((with_reducible refine gate_callee (f := 108) rfl ?_); refine goesL9 (some 40) rfl rfl Try.func108 (by kernel_rfl) rfl #[.slice A0 l0.length c0] rfl ?_; (with_reducible refine (cupolaref10_Join.calls k1 _ _ l0 t103 t106 t109 t112 t115 t118 t121 t124 _ ?side1 ?side2 A11.out).mono ?_); (case side1 => exact cp9 HR0.out HB.out); (case side2 => exact HC0.out); rintro e w13 ⟨v104, v107, v110, v113, v116, v119, v122, rfl, ho0, ho1, ho2, ho3, ho4, ho5, ho6, hb⟩; refine ⟨_, rfl, ?_⟩; have n0_ := a9_ (Kd.R_lower ho0 (below_size (bp9 HB.out))); have n1_ := a9_ (Kd.R_lower ho1 (below_size (bp9 HB.out))); have n2_ := a9_ (Kd.R_lower ho2 (below_size (bp9 HB.out))); have n3_ := a9_ (Kd.R_lower ho3 (below_size (bp9 HB.out))); have n4_ := a9_ (Kd.R_lower ho4 (below_size (bp9 HB.out))); have n5_ := a9_ (Kd.R_lower ho5 (below_size (bp9 HB.out))); have n6_ := a9_ (Kd.S_lower ho6 (below_size (bp9 HB.out))); have n7_ := a9_ (below_step (bp9 HB.out) hb); clear HB; have HO105 := n0_; have HO108 := n1_; have HO111 := n2_; have HO114 := n3_; have HO117 := n4_; have HO120 := n5_; have HO123 := n6_; have HB := n7_; clear n0_ n1_ n2_ n3_ n4_ n5_ n6_ n7_; (try clear hb); (try clear ho0); (try clear ho1); (try clear ho2); (try clear ho3); (try clear ho4); (try clear ho5); (try clear ho6)) | ((with_reducible refine gate_dst (N := 9) rfl ?_); (try (refine gate_guard (by rfl) ?_; dsimp only)); refine box9 (N := 9) (cs := #[.slice none 0 0, .slice none 0 0, .slice none 0 0, .slice none 0 0, .slice none 0 0, .slice none 0 0, .slice none 0 0]) (t := 76) ?_; intro gb125 hg w14 hbox hb; have n0_ := a9_ (Kd.R_below (rp9 HO105.out) hb); have n1_ := a9_ (Kd.R_below (rp9 HO108.out) hb); have n2_ := a9_ (Kd.R_below (rp9 HO111.out) hb); have n3_ := a9_ (Kd.R_below (rp9 HO114.out) hb); have n4_ := a9_ (Kd.R_below (rp9 HO117.out) hb); have n5_ := a9_ (Kd.R_below (rp9 HO120.out) hb); have n6_ := a9_ (Kd.S_below (by (with_reducible repeat (first | apply Kd.S_alloc | apply Kd.S_drewN | apply Kd.S_drew)); exact HO123.out) hb); have n7_ := a9_ (below_step (bp9 HB.out) hb); have n8_ := a9_ (hbox); have n9_ := a9_ ((by rw [hg]; exact (below_size (bp9 HB.out)) : w.heap.size ≤ gb125)); have n10_ := n9_; clear HO105; clear HO108; clear HO111; clear HO114; clear HO117; clear HO120; clear HO123; clear HB; have HO105 := n0_; have HO108 := n1_; have HO111 := n2_; have HO114 := n3_; have HO117 := n4_; have HO120 := n5_; have HO123 := n6_; have HB := n7_; have BK125 := n8_; have GW125 := n9_; have GE125 := n10_; clear n0_ n1_ n2_ n3_ n4_ n5_ n6_ n7_ n8_ n9_ n10_; clear hb hbox hg; obtain ⟨Ao15, co15, eo15⟩ := Kd.R_slice HO105.out; subst eo15; obtain ⟨hcz16_0, hcz16_1, hcz16_2, hcz16_3, hcz16_4, hcz16_5, hcz16_6, hfz16_0, hfz16_1, hfz16_2, hfz16_3, hfz16_4, hfz16_5, hfz16_6⟩ := cz7 BK125.out; obtain ⟨Ao17, co17, eo17⟩ := Kd.R_slice HO108.out; subst eo17; obtain ⟨Ao18, co18, eo18⟩ := Kd.R_slice HO111.out; subst eo18; obtain ⟨Ao19, co19, eo19⟩ := Kd.R_slice HO114.out; subst eo19; obtain ⟨Ao20, co20, eo20⟩ := Kd.R_slice HO117.out; subst eo20; obtain ⟨Ao21, co21, eo21⟩ := Kd.R_slice HO120.out; subst eo21; obtain ⟨Ao22, co22, eo22⟩ := Kd.S_slice HO123.out; subst eo22))
     (try simp only [Act.put, List.setIfInBounds_toArray, List.set_cons_zero, List.set_cons_succ])
     go_cut [57] (fun v57 wc => ∃ (kq : Nat) (x57_11 : Bool), v57 = .bool x57_11 ∧ Aside0 (cupolalaw14_DobAlong.j1 kq l1 l2 t101 x57_11 t103 t106 t109 t112 t115 t118 t121 = some r) ∧ Aside0 (kq ≤ k1) ∧ Aside0 (Kd.R k26 26 wc w.heap.size (fun _ => True) (.slice Ao15 t103.length co15) t103) ∧ Aside0 (Kd.R (Kd.int .u32) 52 wc w.heap.size (fun k_ => some k_ ≠ ((.slice Ao18 t109.length co18) : Value).ownBlock ∧ some k_ ≠ ((.slice Ao19 t112.length co19) : Value).ownBlock ∧ some k_ ≠ ((.slice Ao20 t115.length co20) : Value).ownBlock ∧ some k_ ≠ ((.slice Ao21 t118.length co21) : Value).ownBlock) (.slice Ao17 t106.length co17) t106) ∧ Aside0 (Kd.R (Kd.int .u32) 52 wc w.heap.size (fun k_ => some k_ ≠ ((.slice Ao17 t106.length co17) : Value).ownBlock ∧ some k_ ≠ ((.slice Ao19 t112.length co19) : Value).ownBlock ∧ some k_ ≠ ((.slice Ao20 t115.length co20) : Value).ownBlock ∧ some k_ ≠ ((.slice Ao21 t118.length co21) : Value).ownBlock) (.slice Ao18 t109.length co18) t109) ∧ Aside0 (Kd.R (Kd.int .u32) 52 wc w.heap.size (fun k_ => some k_ ≠ ((.slice Ao17 t106.length co17) : Value).ownBlock ∧ some k_ ≠ ((.slice Ao18 t109.length co18) : Value).ownBlock ∧ some k_ ≠ ((.slice Ao20 t115.length co20) : Value).ownBlock ∧ some k_ ≠ ((.slice Ao21 t118.length co21) : Value).ownBlock) (.slice Ao19 t112.length co19) t112) ∧ Aside0 (Kd.R (Kd.int .u32) 52 wc w.heap.size (fun k_ => some k_ ≠ ((.slice Ao17 t106.length co17) : Value).ownBlock ∧ some k_ ≠ ((.slice Ao18 t109.length co18) : Value).ownBlock ∧ some k_ ≠ ((.slice Ao19 t112.length co19) : Value).ownBlock ∧ some k_ ≠ ((.slice Ao21 t118.length co21) : Value).ownBlock) (.slice Ao20 t115.length co20) t115) ∧ Aside0 (Kd.R (Kd.int .u32) 52 wc w.heap.size (fun k_ => some k_ ≠ ((.slice Ao17 t106.length co17) : Value).ownBlock ∧ some k_ ≠ ((.slice Ao18 t109.length co18) : Value).ownBlock ∧ some k_ ≠ ((.slice Ao19 t112.length co19) : Value).ownBlock ∧ some k_ ≠ ((.slice Ao20 t115.length co20) : Value).ownBlock) (.slice Ao21 t118.length co21) t118) ∧ Aside0 (Kd.S (Kd.slice 2 (Kd.int .i64)) 23 wc w.heap.size (fun _ => True) (.slice Ao22 t121.length co22) t121) ∧ Aside0 (wc.heap[gb125]? = some (.cells #[(.slice Ao15 t103.length co15), (.slice Ao17 t106.length co17), (.slice Ao18 t109.length co18), (.slice Ao19 t112.length co19), (.slice Ao20 t115.length co20), (.slice Ao21 t118.length co21), (.slice Ao22 t121.length co22)] 76 (0, 0))) ∧ Aside0 (Below w.heap.size w wc))
     case first =>
      have H := HC12.out
      clear HC12
      by_cases c23 : t124 = 0
      ·rw [if_pos c23] at H
       have c23b0 : (t124 == 0) = true := beq_iff_eq.mpr c23
       have c23b1 : (t124 != 0) = false := bne_eq_false_iff_eq.mpr c23
       clear c23
       (first | rw [c23b0] | (simp only [i64_w, i32_w]; rw [c23b0]) | skip)
       by_cases c24 : (l2.length : Int) = (t103.length : Int)
       ·rw [if_pos c24] at H
        have c24b0 : ((l2.length : Int) == (t103.length : Int)) = true := beq_iff_eq.mpr c24
        have c24b1 : ((l2.length : Int) != (t103.length : Int)) = false := bne_eq_false_iff_eq.mpr c24
        have c24b2 : (l2.length == t103.length) = true := by first | simpa using c24 | (simp at c24 ⊢; omega)
        clear c24
        have H' := a9_ H
        clear H
        obtain ⟨hcz25_0, hcz25_1, hcz25_2, hcz25_3, hcz25_4, hcz25_5, hcz25_6, hfz25_0, hfz25_1, hfz25_2, hfz25_3, hfz25_4, hfz25_5, hfz25_6⟩ := cz7 BK125.out
        go_wp2
        go_meet
        case rel => exact ⟨_, (decide ((l1.length : Int) > 40)), rs9, H', ⟨by have := HK1.out; first | omega | exact Nat.le_refl _⟩, ⟨by (with_reducible repeat (first | apply Kd.R_alloc | apply Kd.R_drewN | apply Kd.R_drew)); exact Kd.R_mono (Kd.R_far (p := ⟨gb125, 6, none⟩) (Kd.R_far (p := ⟨gb125, 5, none⟩) (Kd.R_far (p := ⟨gb125, 4, none⟩) (Kd.R_far (p := ⟨gb125, 3, none⟩) (Kd.R_far (p := ⟨gb125, 2, none⟩) (Kd.R_far (p := ⟨gb125, 1, none⟩) (Kd.R_far (p := ⟨gb125, 0, none⟩) (Kd.R_types HO105.out BK125.out (by decide)) (fun _ hk => hk.2) (.slice Ao15 t103.length co15)) (fun _ hk => hk.2) (.slice Ao17 t106.length co17)) (fun _ hk => hk.2) (.slice Ao18 t109.length co18)) (fun _ hk => hk.2) (.slice Ao19 t112.length co19)) (fun _ hk => hk.2) (.slice Ao20 t115.length co20)) (fun _ hk => hk.2) (.slice Ao21 t118.length co21)) (fun _ hk => hk.2) (.slice Ao22 t121.length co22)) (fun _ hk => trivial)⟩, ⟨by (with_reducible repeat (first | apply Kd.R_alloc | apply Kd.R_drewN | apply Kd.R_drew)); exact Kd.R_mono (Kd.R_far (p := ⟨gb125, 6, none⟩) (Kd.R_far (p := ⟨gb125, 5, none⟩) (Kd.R_far (p := ⟨gb125, 4, none⟩) (Kd.R_far (p := ⟨gb125, 3, none⟩) (Kd.R_far (p := ⟨gb125, 2, none⟩) (Kd.R_far (p := ⟨gb125, 1, none⟩) (Kd.R_far (p := ⟨gb125, 0, none⟩) (Kd.R_types HO108.out BK125.out (by decide)) (fun _ hk => hk.2) (.slice Ao15 t103.length co15)) (fun _ hk => hk.2) (.slice Ao17 t106.length co17)) (fun _ hk => hk.2) (.slice Ao18 t109.length co18)) (fun _ hk => hk.2) (.slice Ao19 t112.length co19)) (fun _ hk => hk.2) (.slice Ao20 t115.length co20)) (fun _ hk => hk.2) (.slice Ao21 t118.length co21)) (fun _ hk => hk.2) (.slice Ao22 t121.length co22)) (fun _ hk => ⟨hk.1.1, ⟨hk.1.2.1, ⟨hk.1.2.2.1, hk.1.2.2.2⟩⟩⟩)⟩, ⟨by (with_reducible repeat (first | apply Kd.R_alloc | apply Kd.R_drewN | apply Kd.R_drew)); exact Kd.R_mono (Kd.R_far (p := ⟨gb125, 6, none⟩) (Kd.R_far (p := ⟨gb125, 5, none⟩) (Kd.R_far (p := ⟨gb125, 4, none⟩) (Kd.R_far (p := ⟨gb125, 3, none⟩) (Kd.R_far (p := ⟨gb125, 2, none⟩) (Kd.R_far (p := ⟨gb125, 1, none⟩) (Kd.R_far (p := ⟨gb125, 0, none⟩) (Kd.R_types HO111.out BK125.out (by decide)) (fun _ hk => hk.2) (.slice Ao15 t103.length co15)) (fun _ hk => hk.2) (.slice Ao17 t106.length co17)) (fun _ hk => hk.2) (.slice Ao18 t109.length co18)) (fun _ hk => hk.2) (.slice Ao19 t112.length co19)) (fun _ hk => hk.2) (.slice Ao20 t115.length co20)) (fun _ hk => hk.2) (.slice Ao21 t118.length co21)) (fun _ hk => hk.2) (.slice Ao22 t121.length co22)) (fun _ hk => ⟨hk.1.1, ⟨hk.1.2.1, ⟨hk.1.2.2.1, hk.1.2.2.2⟩⟩⟩)⟩, ⟨by (with_reducible repeat (first | apply Kd.R_alloc | apply Kd.R_drewN | apply Kd.R_drew)); exact Kd.R_mono (Kd.R_far (p := ⟨gb125, 6, none⟩) (Kd.R_far (p := ⟨gb125, 5, none⟩) (Kd.R_far (p := ⟨gb125, 4, none⟩) (Kd.R_far (p := ⟨gb125, 3, none⟩) (Kd.R_far (p := ⟨gb125, 2, none⟩) (Kd.R_far (p := ⟨gb125, 1, none⟩) (Kd.R_far (p := ⟨gb125, 0, none⟩) (Kd.R_types HO114.out BK125.out (by decide)) (fun _ hk => hk.2) (.slice Ao15 t103.length co15)) (fun _ hk => hk.2) (.slice Ao17 t106.length co17)) (fun _ hk => hk.2) (.slice Ao18 t109.length co18)) (fun _ hk => hk.2) (.slice Ao19 t112.length co19)) (fun _ hk => hk.2) (.slice Ao20 t115.length co20)) (fun _ hk => hk.2) (.slice Ao21 t118.length co21)) (fun _ hk => hk.2) (.slice Ao22 t121.length co22)) (fun _ hk => ⟨hk.1.1, ⟨hk.1.2.1, ⟨hk.1.2.2.1, hk.1.2.2.2⟩⟩⟩)⟩, ⟨by (with_reducible repeat (first | apply Kd.R_alloc | apply Kd.R_drewN | apply Kd.R_drew)); exact Kd.R_mono (Kd.R_far (p := ⟨gb125, 6, none⟩) (Kd.R_far (p := ⟨gb125, 5, none⟩) (Kd.R_far (p := ⟨gb125, 4, none⟩) (Kd.R_far (p := ⟨gb125, 3, none⟩) (Kd.R_far (p := ⟨gb125, 2, none⟩) (Kd.R_far (p := ⟨gb125, 1, none⟩) (Kd.R_far (p := ⟨gb125, 0, none⟩) (Kd.R_types HO117.out BK125.out (by decide)) (fun _ hk => hk.2) (.slice Ao15 t103.length co15)) (fun _ hk => hk.2) (.slice Ao17 t106.length co17)) (fun _ hk => hk.2) (.slice Ao18 t109.length co18)) (fun _ hk => hk.2) (.slice Ao19 t112.length co19)) (fun _ hk => hk.2) (.slice Ao20 t115.length co20)) (fun _ hk => hk.2) (.slice Ao21 t118.length co21)) (fun _ hk => hk.2) (.slice Ao22 t121.length co22)) (fun _ hk => ⟨hk.1.1, ⟨hk.1.2.1, ⟨hk.1.2.2.1, hk.1.2.2.2⟩⟩⟩)⟩, ⟨by (with_reducible repeat (first | apply Kd.R_alloc | apply Kd.R_drewN | apply Kd.R_drew)); exact Kd.R_mono (Kd.R_far (p := ⟨gb125, 6, none⟩) (Kd.R_far (p := ⟨gb125, 5, none⟩) (Kd.R_far (p := ⟨gb125, 4, none⟩) (Kd.R_far (p := ⟨gb125, 3, none⟩) (Kd.R_far (p := ⟨gb125, 2, none⟩) (Kd.R_far (p := ⟨gb125, 1, none⟩) (Kd.R_far (p := ⟨gb125, 0, none⟩) (Kd.R_types HO120.out BK125.out (by decide)) (fun _ hk => hk.2) (.slice Ao15 t103.length co15)) (fun _ hk => hk.2) (.slice Ao17 t106.length co17)) (fun _ hk => hk.2) (.slice Ao18 t109.length co18)) (fun _ hk => hk.2) (.slice Ao19 t112.length co19)) (fun _ hk => hk.2) (.slice Ao20 t115.length co20)) (fun _ hk => hk.2) (.slice Ao21 t118.length co21)) (fun _ hk => hk.2) (.slice Ao22 t121.length co22)) (fun _ hk => ⟨hk.1.1, ⟨hk.1.2.1, ⟨hk.1.2.2.1, hk.1.2.2.2⟩⟩⟩)⟩, ⟨by (with_reducible repeat (first | apply Kd.S_alloc | apply Kd.S_drewN | apply Kd.S_drew)); exact Kd.S_mono (Kd.S_far (p := ⟨gb125, 6, none⟩) (Kd.S_far (p := ⟨gb125, 5, none⟩) (Kd.S_far (p := ⟨gb125, 4, none⟩) (Kd.S_far (p := ⟨gb125, 3, none⟩) (Kd.S_far (p := ⟨gb125, 2, none⟩) (Kd.S_far (p := ⟨gb125, 1, none⟩) (Kd.S_far (p := ⟨gb125, 0, none⟩) (Kd.S_types HO123.out BK125.out (by decide)) (fun _ hk => hk.2) (.slice Ao15 t103.length co15)) (fun _ hk => hk.2) (.slice Ao17 t106.length co17)) (fun _ hk => hk.2) (.slice Ao18 t109.length co18)) (fun _ hk => hk.2) (.slice Ao19 t112.length co19)) (fun _ hk => hk.2) (.slice Ao20 t115.length co20)) (fun _ hk => hk.2) (.slice Ao21 t118.length co21)) (fun _ hk => hk.2) (.slice Ao22 t121.length co22)) (fun _ hk => trivial)⟩, ⟨by (with_reducible repeat (first | refine blk_drewN ?_ _ | refine blk_drew ?_ | refine blk_alloc ?_ _)); refine blk_put (cs := #[.slice Ao15 t103.length co15, .slice Ao17 t106.length co17, .slice Ao18 t109.length co18, .slice Ao19 t112.length co19, .slice Ao20 t115.length co20, .slice Ao21 t118.length co21, .slice none 0 0]) ?_ 6 _ rfl; (with_reducible repeat (first | refine blk_drewN ?_ _ | refine blk_drew ?_ | refine blk_alloc ?_ _)); refine blk_put (cs := #[.slice Ao15 t103.length co15, .slice Ao17 t106.length co17, .slice Ao18 t109.length co18, .slice Ao19 t112.length co19, .slice Ao20 t115.length co20, .slice none 0 0, .slice none 0 0]) ?_ 5 _ rfl; (with_reducible repeat (first | refine blk_drewN ?_ _ | refine blk_drew ?_ | refine blk_alloc ?_ _)); refine blk_put (cs := #[.slice Ao15 t103.length co15, .slice Ao17 t106.length co17, .slice Ao18 t109.length co18, .slice Ao19 t112.length co19, .slice none 0 0, .slice none 0 0, .slice none 0 0]) ?_ 4 _ rfl; (with_reducible repeat (first | refine blk_drewN ?_ _ | refine blk_drew ?_ | refine blk_alloc ?_ _)); refine blk_put (cs := #[.slice Ao15 t103.length co15, .slice Ao17 t106.length co17, .slice Ao18 t109.length co18, .slice none 0 0, .slice none 0 0, .slice none 0 0, .slice none 0 0]) ?_ 3 _ rfl; (with_reducible repeat (first | refine blk_drewN ?_ _ | refine blk_drew ?_ | refine blk_alloc ?_ _)); refine blk_put (cs := #[.slice Ao15 t103.length co15, .slice Ao17 t106.length co17, .slice none 0 0, .slice none 0 0, .slice none 0 0, .slice none 0 0, .slice none 0 0]) ?_ 2 _ rfl; (with_reducible repeat (first | refine blk_drewN ?_ _ | refine blk_drew ?_ | refine blk_alloc ?_ _)); refine blk_put (cs := #[.slice Ao15 t103.length co15, .slice none 0 0, .slice none 0 0, .slice none 0 0, .slice none 0 0, .slice none 0 0, .slice none 0 0]) ?_ 1 _ rfl; (with_reducible repeat (first | refine blk_drewN ?_ _ | refine blk_drew ?_ | refine blk_alloc ?_ _)); refine blk_put (cs := #[.slice none 0 0, .slice none 0 0, .slice none 0 0, .slice none 0 0, .slice none 0 0, .slice none 0 0, .slice none 0 0]) ?_ 0 _ rfl; (with_reducible repeat (first | refine blk_drewN ?_ _ | refine blk_drew ?_ | refine blk_alloc ?_ _)); exact BK125.out⟩, ⟨bp9 HB.out⟩⟩
       ·rw [if_neg c24] at H
        have c24b0 : ((l2.length : Int) == (t103.length : Int)) = false := beq_eq_false_iff_ne.mpr c24
        have c24b1 : ((l2.length : Int) != (t103.length : Int)) = true := bne_iff_ne.mpr c24
        have c24b2 : (l2.length == t103.length) = false := by first | simpa using c24 | (simp at c24 ⊢; omega)
        have H' := a9_ H
        clear H
        obtain ⟨hcz26_0, hcz26_1, hcz26_2, hcz26_3, hcz26_4, hcz26_5, hcz26_6, hfz26_0, hfz26_1, hfz26_2, hfz26_3, hfz26_4, hfz26_5, hfz26_6⟩ := cz7 BK125.out
        go_wp2
        go_meet
        case rel => exact ⟨_, (true), rs9, H', ⟨by have := HK1.out; first | omega | exact Nat.le_refl _⟩, ⟨by (with_reducible repeat (first | apply Kd.R_alloc | apply Kd.R_drewN | apply Kd.R_drew)); exact Kd.R_mono (Kd.R_far (p := ⟨gb125, 6, none⟩) (Kd.R_far (p := ⟨gb125, 5, none⟩) (Kd.R_far (p := ⟨gb125, 4, none⟩) (Kd.R_far (p := ⟨gb125, 3, none⟩) (Kd.R_far (p := ⟨gb125, 2, none⟩) (Kd.R_far (p := ⟨gb125, 1, none⟩) (Kd.R_far (p := ⟨gb125, 0, none⟩) (Kd.R_types HO105.out BK125.out (by decide)) (fun _ hk => hk.2) (.slice Ao15 t103.length co15)) (fun _ hk => hk.2) (.slice Ao17 t106.length co17)) (fun _ hk => hk.2) (.slice Ao18 t109.length co18)) (fun _ hk => hk.2) (.slice Ao19 t112.length co19)) (fun _ hk => hk.2) (.slice Ao20 t115.length co20)) (fun _ hk => hk.2) (.slice Ao21 t118.length co21)) (fun _ hk => hk.2) (.slice Ao22 t121.length co22)) (fun _ hk => trivial)⟩, ⟨by (with_reducible repeat (first | apply Kd.R_alloc | apply Kd.R_drewN | apply Kd.R_drew)); exact Kd.R_mono (Kd.R_far (p := ⟨gb125, 6, none⟩) (Kd.R_far (p := ⟨gb125, 5, none⟩) (Kd.R_far (p := ⟨gb125, 4, none⟩) (Kd.R_far (p := ⟨gb125, 3, none⟩) (Kd.R_far (p := ⟨gb125, 2, none⟩) (Kd.R_far (p := ⟨gb125, 1, none⟩) (Kd.R_far (p := ⟨gb125, 0, none⟩) (Kd.R_types HO108.out BK125.out (by decide)) (fun _ hk => hk.2) (.slice Ao15 t103.length co15)) (fun _ hk => hk.2) (.slice Ao17 t106.length co17)) (fun _ hk => hk.2) (.slice Ao18 t109.length co18)) (fun _ hk => hk.2) (.slice Ao19 t112.length co19)) (fun _ hk => hk.2) (.slice Ao20 t115.length co20)) (fun _ hk => hk.2) (.slice Ao21 t118.length co21)) (fun _ hk => hk.2) (.slice Ao22 t121.length co22)) (fun _ hk => ⟨hk.1.1, ⟨hk.1.2.1, ⟨hk.1.2.2.1, hk.1.2.2.2⟩⟩⟩)⟩, ⟨by (with_reducible repeat (first | apply Kd.R_alloc | apply Kd.R_drewN | apply Kd.R_drew)); exact Kd.R_mono (Kd.R_far (p := ⟨gb125, 6, none⟩) (Kd.R_far (p := ⟨gb125, 5, none⟩) (Kd.R_far (p := ⟨gb125, 4, none⟩) (Kd.R_far (p := ⟨gb125, 3, none⟩) (Kd.R_far (p := ⟨gb125, 2, none⟩) (Kd.R_far (p := ⟨gb125, 1, none⟩) (Kd.R_far (p := ⟨gb125, 0, none⟩) (Kd.R_types HO111.out BK125.out (by decide)) (fun _ hk => hk.2) (.slice Ao15 t103.length co15)) (fun _ hk => hk.2) (.slice Ao17 t106.length co17)) (fun _ hk => hk.2) (.slice Ao18 t109.length co18)) (fun _ hk => hk.2) (.slice Ao19 t112.length co19)) (fun _ hk => hk.2) (.slice Ao20 t115.length co20)) (fun _ hk => hk.2) (.slice Ao21 t118.length co21)) (fun _ hk => hk.2) (.slice Ao22 t121.length co22)) (fun _ hk => ⟨hk.1.1, ⟨hk.1.2.1, ⟨hk.1.2.2.1, hk.1.2.2.2⟩⟩⟩)⟩, ⟨by (with_reducible repeat (first | apply Kd.R_alloc | apply Kd.R_drewN | apply Kd.R_drew)); exact Kd.R_mono (Kd.R_far (p := ⟨gb125, 6, none⟩) (Kd.R_far (p := ⟨gb125, 5, none⟩) (Kd.R_far (p := ⟨gb125, 4, none⟩) (Kd.R_far (p := ⟨gb125, 3, none⟩) (Kd.R_far (p := ⟨gb125, 2, none⟩) (Kd.R_far (p := ⟨gb125, 1, none⟩) (Kd.R_far (p := ⟨gb125, 0, none⟩) (Kd.R_types HO114.out BK125.out (by decide)) (fun _ hk => hk.2) (.slice Ao15 t103.length co15)) (fun _ hk => hk.2) (.slice Ao17 t106.length co17)) (fun _ hk => hk.2) (.slice Ao18 t109.length co18)) (fun _ hk => hk.2) (.slice Ao19 t112.length co19)) (fun _ hk => hk.2) (.slice Ao20 t115.length co20)) (fun _ hk => hk.2) (.slice Ao21 t118.length co21)) (fun _ hk => hk.2) (.slice Ao22 t121.length co22)) (fun _ hk => ⟨hk.1.1, ⟨hk.1.2.1, ⟨hk.1.2.2.1, hk.1.2.2.2⟩⟩⟩)⟩, ⟨by (with_reducible repeat (first | apply Kd.R_alloc | apply Kd.R_drewN | apply Kd.R_drew)); exact Kd.R_mono (Kd.R_far (p := ⟨gb125, 6, none⟩) (Kd.R_far (p := ⟨gb125, 5, none⟩) (Kd.R_far (p := ⟨gb125, 4, none⟩) (Kd.R_far (p := ⟨gb125, 3, none⟩) (Kd.R_far (p := ⟨gb125, 2, none⟩) (Kd.R_far (p := ⟨gb125, 1, none⟩) (Kd.R_far (p := ⟨gb125, 0, none⟩) (Kd.R_types HO117.out BK125.out (by decide)) (fun _ hk => hk.2) (.slice Ao15 t103.length co15)) (fun _ hk => hk.2) (.slice Ao17 t106.length co17)) (fun _ hk => hk.2) (.slice Ao18 t109.length co18)) (fun _ hk => hk.2) (.slice Ao19 t112.length co19)) (fun _ hk => hk.2) (.slice Ao20 t115.length co20)) (fun _ hk => hk.2) (.slice Ao21 t118.length co21)) (fun _ hk => hk.2) (.slice Ao22 t121.length co22)) (fun _ hk => ⟨hk.1.1, ⟨hk.1.2.1, ⟨hk.1.2.2.1, hk.1.2.2.2⟩⟩⟩)⟩, ⟨by (with_reducible repeat (first | apply Kd.R_alloc | apply Kd.R_drewN | apply Kd.R_drew)); exact Kd.R_mono (Kd.R_far (p := ⟨gb125, 6, none⟩) (Kd.R_far (p := ⟨gb125, 5, none⟩) (Kd.R_far (p := ⟨gb125, 4, none⟩) (Kd.R_far (p := ⟨gb125, 3, none⟩) (Kd.R_far (p := ⟨gb125, 2, none⟩) (Kd.R_far (p := ⟨gb125, 1, none⟩) (Kd.R_far (p := ⟨gb125, 0, none⟩) (Kd.R_types HO120.out BK125.out (by decide)) (fun _ hk => hk.2) (.slice Ao15 t103.length co15)) (fun _ hk => hk.2) (.slice Ao17 t106.length co17)) (fun _ hk => hk.2) (.slice Ao18 t109.length co18)) (fun _ hk => hk.2) (.slice Ao19 t112.length co19)) (fun _ hk => hk.2) (.slice Ao20 t115.length co20)) (fun _ hk => hk.2) (.slice Ao21 t118.length co21)) (fun _ hk => hk.2) (.slice Ao22 t121.length co22)) (fun _ hk => ⟨hk.1.1, ⟨hk.1.2.1, ⟨hk.1.2.2.1, hk.1.2.2.2⟩⟩⟩)⟩, ⟨by (with_reducible repeat (first | apply Kd.S_alloc | apply Kd.S_drewN | apply Kd.S_drew)); exact Kd.S_mono (Kd.S_far (p := ⟨gb125, 6, none⟩) (Kd.S_far (p := ⟨gb125, 5, none⟩) (Kd.S_far (p := ⟨gb125, 4, none⟩) (Kd.S_far (p := ⟨gb125, 3, none⟩) (Kd.S_far (p := ⟨gb125, 2, none⟩) (Kd.S_far (p := ⟨gb125, 1, none⟩) (Kd.S_far (p := ⟨gb125, 0, none⟩) (Kd.S_types HO123.out BK125.out (by decide)) (fun _ hk => hk.2) (.slice Ao15 t103.length co15)) (fun _ hk => hk.2) (.slice Ao17 t106.length co17)) (fun _ hk => hk.2) (.slice Ao18 t109.length co18)) (fun _ hk => hk.2) (.slice Ao19 t112.length co19)) (fun _ hk => hk.2) (.slice Ao20 t115.length co20)) (fun _ hk => hk.2) (.slice Ao21 t118.length co21)) (fun _ hk => hk.2) (.slice Ao22 t121.length co22)) (fun _ hk => trivial)⟩, ⟨by (with_reducible repeat (first | refine blk_drewN ?_ _ | refine blk_drew ?_ | refine blk_alloc ?_ _)); refine blk_put (cs := #[.slice Ao15 t103.length co15, .slice Ao17 t106.length co17, .slice Ao18 t109.length co18, .slice Ao19 t112.length co19, .slice Ao20 t115.length co20, .slice Ao21 t118.length co21, .slice none 0 0]) ?_ 6 _ rfl; (with_reducible repeat (first | refine blk_drewN ?_ _ | refine blk_drew ?_ | refine blk_alloc ?_ _)); refine blk_put (cs := #[.slice Ao15 t103.length co15, .slice Ao17 t106.length co17, .slice Ao18 t109.length co18, .slice Ao19 t112.length co19, .slice Ao20 t115.length co20, .slice none 0 0, .slice none 0 0]) ?_ 5 _ rfl; (with_reducible repeat (first | refine blk_drewN ?_ _ | refine blk_drew ?_ | refine blk_alloc ?_ _)); refine blk_put (cs := #[.slice Ao15 t103.length co15, .slice Ao17 t106.length co17, .slice Ao18 t109.length co18, .slice Ao19 t112.length co19, .slice none 0 0, .slice none 0 0, .slice none 0 0]) ?_ 4 _ rfl; (with_reducible repeat (first | refine blk_drewN ?_ _ | refine blk_drew ?_ | refine blk_alloc ?_ _)); refine blk_put (cs := #[.slice Ao15 t103.length co15, .slice Ao17 t106.length co17, .slice Ao18 t109.length co18, .slice none 0 0, .slice none 0 0, .slice none 0 0, .slice none 0 0]) ?_ 3 _ rfl; (with_reducible repeat (first | refine blk_drewN ?_ _ | refine blk_drew ?_ | refine blk_alloc ?_ _)); refine blk_put (cs := #[.slice Ao15 t103.length co15, .slice Ao17 t106.length co17, .slice none 0 0, .slice none 0 0, .slice none 0 0, .slice none 0 0, .slice none 0 0]) ?_ 2 _ rfl; (with_reducible repeat (first | refine blk_drewN ?_ _ | refine blk_drew ?_ | refine blk_alloc ?_ _)); refine blk_put (cs := #[.slice Ao15 t103.length co15, .slice none 0 0, .slice none 0 0, .slice none 0 0, .slice none 0 0, .slice none 0 0, .slice none 0 0]) ?_ 1 _ rfl; (with_reducible repeat (first | refine blk_drewN ?_ _ | refine blk_drew ?_ | refine blk_alloc ?_ _)); refine blk_put (cs := #[.slice none 0 0, .slice none 0 0, .slice none 0 0, .slice none 0 0, .slice none 0 0, .slice none 0 0, .slice none 0 0]) ?_ 0 _ rfl; (with_reducible repeat (first | refine blk_drewN ?_ _ | refine blk_drew ?_ | refine blk_alloc ?_ _)); exact BK125.out⟩, ⟨bp9 HB.out⟩⟩
      ·rw [if_neg c23] at H
       have c23b0 : (t124 == 0) = false := beq_eq_false_iff_ne.mpr c23
       have c23b1 : (t124 != 0) = true := bne_iff_ne.mpr c23
       (first | rw [c23b0] | (simp only [i64_w, i32_w]; rw [c23b0]) | skip)
       have H' := a9_ H
       clear H
       go_wp2
       go_meet
       case rel => exact ⟨_, (true), rs9, H', ⟨by have := HK1.out; first | omega | exact Nat.le_refl _⟩, ⟨by (with_reducible repeat (first | apply Kd.R_alloc | apply Kd.R_drewN | apply Kd.R_drew)); exact Kd.R_mono (Kd.R_far (p := ⟨gb125, 6, none⟩) (Kd.R_far (p := ⟨gb125, 5, none⟩) (Kd.R_far (p := ⟨gb125, 4, none⟩) (Kd.R_far (p := ⟨gb125, 3, none⟩) (Kd.R_far (p := ⟨gb125, 2, none⟩) (Kd.R_far (p := ⟨gb125, 1, none⟩) (Kd.R_far (p := ⟨gb125, 0, none⟩) (Kd.R_types HO105.out BK125.out (by decide)) (fun _ hk => hk.2) (.slice Ao15 t103.length co15)) (fun _ hk => hk.2) (.slice Ao17 t106.length co17)) (fun _ hk => hk.2) (.slice Ao18 t109.length co18)) (fun _ hk => hk.2) (.slice Ao19 t112.length co19)) (fun _ hk => hk.2) (.slice Ao20 t115.length co20)) (fun _ hk => hk.2) (.slice Ao21 t118.length co21)) (fun _ hk => hk.2) (.slice Ao22 t121.length co22)) (fun _ hk => trivial)⟩, ⟨by (with_reducible repeat (first | apply Kd.R_alloc | apply Kd.R_drewN | apply Kd.R_drew)); exact Kd.R_mono (Kd.R_far (p := ⟨gb125, 6, none⟩) (Kd.R_far (p := ⟨gb125, 5, none⟩) (Kd.R_far (p := ⟨gb125, 4, none⟩) (Kd.R_far (p := ⟨gb125, 3, none⟩) (Kd.R_far (p := ⟨gb125, 2, none⟩) (Kd.R_far (p := ⟨gb125, 1, none⟩) (Kd.R_far (p := ⟨gb125, 0, none⟩) (Kd.R_types HO108.out BK125.out (by decide)) (fun _ hk => hk.2) (.slice Ao15 t103.length co15)) (fun _ hk => hk.2) (.slice Ao17 t106.length co17)) (fun _ hk => hk.2) (.slice Ao18 t109.length co18)) (fun _ hk => hk.2) (.slice Ao19 t112.length co19)) (fun _ hk => hk.2) (.slice Ao20 t115.length co20)) (fun _ hk => hk.2) (.slice Ao21 t118.length co21)) (fun _ hk => hk.2) (.slice Ao22 t121.length co22)) (fun _ hk => ⟨hk.1.1, ⟨hk.1.2.1, ⟨hk.1.2.2.1, hk.1.2.2.2⟩⟩⟩)⟩, ⟨by (with_reducible repeat (first | apply Kd.R_alloc | apply Kd.R_drewN | apply Kd.R_drew)); exact Kd.R_mono (Kd.R_far (p := ⟨gb125, 6, none⟩) (Kd.R_far (p := ⟨gb125, 5, none⟩) (Kd.R_far (p := ⟨gb125, 4, none⟩) (Kd.R_far (p := ⟨gb125, 3, none⟩) (Kd.R_far (p := ⟨gb125, 2, none⟩) (Kd.R_far (p := ⟨gb125, 1, none⟩) (Kd.R_far (p := ⟨gb125, 0, none⟩) (Kd.R_types HO111.out BK125.out (by decide)) (fun _ hk => hk.2) (.slice Ao15 t103.length co15)) (fun _ hk => hk.2) (.slice Ao17 t106.length co17)) (fun _ hk => hk.2) (.slice Ao18 t109.length co18)) (fun _ hk => hk.2) (.slice Ao19 t112.length co19)) (fun _ hk => hk.2) (.slice Ao20 t115.length co20)) (fun _ hk => hk.2) (.slice Ao21 t118.length co21)) (fun _ hk => hk.2) (.slice Ao22 t121.length co22)) (fun _ hk => ⟨hk.1.1, ⟨hk.1.2.1, ⟨hk.1.2.2.1, hk.1.2.2.2⟩⟩⟩)⟩, ⟨by (with_reducible repeat (first | apply Kd.R_alloc | apply Kd.R_drewN | apply Kd.R_drew)); exact Kd.R_mono (Kd.R_far (p := ⟨gb125, 6, none⟩) (Kd.R_far (p := ⟨gb125, 5, none⟩) (Kd.R_far (p := ⟨gb125, 4, none⟩) (Kd.R_far (p := ⟨gb125, 3, none⟩) (Kd.R_far (p := ⟨gb125, 2, none⟩) (Kd.R_far (p := ⟨gb125, 1, none⟩) (Kd.R_far (p := ⟨gb125, 0, none⟩) (Kd.R_types HO114.out BK125.out (by decide)) (fun _ hk => hk.2) (.slice Ao15 t103.length co15)) (fun _ hk => hk.2) (.slice Ao17 t106.length co17)) (fun _ hk => hk.2) (.slice Ao18 t109.length co18)) (fun _ hk => hk.2) (.slice Ao19 t112.length co19)) (fun _ hk => hk.2) (.slice Ao20 t115.length co20)) (fun _ hk => hk.2) (.slice Ao21 t118.length co21)) (fun _ hk => hk.2) (.slice Ao22 t121.length co22)) (fun _ hk => ⟨hk.1.1, ⟨hk.1.2.1, ⟨hk.1.2.2.1, hk.1.2.2.2⟩⟩⟩)⟩, ⟨by (with_reducible repeat (first | apply Kd.R_alloc | apply Kd.R_drewN | apply Kd.R_drew)); exact Kd.R_mono (Kd.R_far (p := ⟨gb125, 6, none⟩) (Kd.R_far (p := ⟨gb125, 5, none⟩) (Kd.R_far (p := ⟨gb125, 4, none⟩) (Kd.R_far (p := ⟨gb125, 3, none⟩) (Kd.R_far (p := ⟨gb125, 2, none⟩) (Kd.R_far (p := ⟨gb125, 1, none⟩) (Kd.R_far (p := ⟨gb125, 0, none⟩) (Kd.R_types HO117.out BK125.out (by decide)) (fun _ hk => hk.2) (.slice Ao15 t103.length co15)) (fun _ hk => hk.2) (.slice Ao17 t106.length co17)) (fun _ hk => hk.2) (.slice Ao18 t109.length co18)) (fun _ hk => hk.2) (.slice Ao19 t112.length co19)) (fun _ hk => hk.2) (.slice Ao20 t115.length co20)) (fun _ hk => hk.2) (.slice Ao21 t118.length co21)) (fun _ hk => hk.2) (.slice Ao22 t121.length co22)) (fun _ hk => ⟨hk.1.1, ⟨hk.1.2.1, ⟨hk.1.2.2.1, hk.1.2.2.2⟩⟩⟩)⟩, ⟨by (with_reducible repeat (first | apply Kd.R_alloc | apply Kd.R_drewN | apply Kd.R_drew)); exact Kd.R_mono (Kd.R_far (p := ⟨gb125, 6, none⟩) (Kd.R_far (p := ⟨gb125, 5, none⟩) (Kd.R_far (p := ⟨gb125, 4, none⟩) (Kd.R_far (p := ⟨gb125, 3, none⟩) (Kd.R_far (p := ⟨gb125, 2, none⟩) (Kd.R_far (p := ⟨gb125, 1, none⟩) (Kd.R_far (p := ⟨gb125, 0, none⟩) (Kd.R_types HO120.out BK125.out (by decide)) (fun _ hk => hk.2) (.slice Ao15 t103.length co15)) (fun _ hk => hk.2) (.slice Ao17 t106.length co17)) (fun _ hk => hk.2) (.slice Ao18 t109.length co18)) (fun _ hk => hk.2) (.slice Ao19 t112.length co19)) (fun _ hk => hk.2) (.slice Ao20 t115.length co20)) (fun _ hk => hk.2) (.slice Ao21 t118.length co21)) (fun _ hk => hk.2) (.slice Ao22 t121.length co22)) (fun _ hk => ⟨hk.1.1, ⟨hk.1.2.1, ⟨hk.1.2.2.1, hk.1.2.2.2⟩⟩⟩)⟩, ⟨by (with_reducible repeat (first | apply Kd.S_alloc | apply Kd.S_drewN | apply Kd.S_drew)); exact Kd.S_mono (Kd.S_far (p := ⟨gb125, 6, none⟩) (Kd.S_far (p := ⟨gb125, 5, none⟩) (Kd.S_far (p := ⟨gb125, 4, none⟩) (Kd.S_far (p := ⟨gb125, 3, none⟩) (Kd.S_far (p := ⟨gb125, 2, none⟩) (Kd.S_far (p := ⟨gb125, 1, none⟩) (Kd.S_far (p := ⟨gb125, 0, none⟩) (Kd.S_types HO123.out BK125.out (by decide)) (fun _ hk => hk.2) (.slice Ao15 t103.length co15)) (fun _ hk => hk.2) (.slice Ao17 t106.length co17)) (fun _ hk => hk.2) (.slice Ao18 t109.length co18)) (fun _ hk => hk.2) (.slice Ao19 t112.length co19)) (fun _ hk => hk.2) (.slice Ao20 t115.length co20)) (fun _ hk => hk.2) (.slice Ao21 t118.length co21)) (fun _ hk => hk.2) (.slice Ao22 t121.length co22)) (fun _ hk => trivial)⟩, ⟨by (with_reducible repeat (first | refine blk_drewN ?_ _ | refine blk_drew ?_ | refine blk_alloc ?_ _)); refine blk_put (cs := #[.slice Ao15 t103.length co15, .slice Ao17 t106.length co17, .slice Ao18 t109.length co18, .slice Ao19 t112.length co19, .slice Ao20 t115.length co20, .slice Ao21 t118.length co21, .slice none 0 0]) ?_ 6 _ rfl; (with_reducible repeat (first | refine blk_drewN ?_ _ | refine blk_drew ?_ | refine blk_alloc ?_ _)); refine blk_put (cs := #[.slice Ao15 t103.length co15, .slice Ao17 t106.length co17, .slice Ao18 t109.length co18, .slice Ao19 t112.length co19, .slice Ao20 t115.length co20, .slice none 0 0, .slice none 0 0]) ?_ 5 _ rfl; (with_reducible repeat (first | refine blk_drewN ?_ _ | refine blk_drew ?_ | refine blk_alloc ?_ _)); refine blk_put (cs := #[.slice Ao15 t103.length co15, .slice Ao17 t106.length co17, .slice Ao18 t109.length co18, .slice Ao19 t112.length co19, .slice none 0 0, .slice none 0 0, .slice none 0 0]) ?_ 4 _ rfl; (with_reducible repeat (first | refine blk_drewN ?_ _ | refine blk_drew ?_ | refine blk_alloc ?_ _)); refine blk_put (cs := #[.slice Ao15 t103.length co15, .slice Ao17 t106.length co17, .slice Ao18 t109.length co18, .slice none 0 0, .slice none 0 0, .slice none 0 0, .slice none 0 0]) ?_ 3 _ rfl; (with_reducible repeat (first | refine blk_drewN ?_ _ | refine blk_drew ?_ | refine blk_alloc ?_ _)); refine blk_put (cs := #[.slice Ao15 t103.length co15, .slice Ao17 t106.length co17, .slice none 0 0, .slice none 0 0, .slice none 0 0, .slice none 0 0, .slice none 0 0]) ?_ 2 _ rfl; (with_reducible repeat (first | refine blk_drewN ?_ _ | refine blk_drew ?_ | refine blk_alloc ?_ _)); refine blk_put (cs := #[.slice Ao15 t103.length co15, .slice none 0 0, .slice none 0 0, .slice none 0 0, .slice none 0 0, .slice none 0 0, .slice none 0 0]) ?_ 1 _ rfl; (with_reducible repeat (first | refine blk_drewN ?_ _ | refine blk_drew ?_ | refine blk_alloc ?_ _)); refine blk_put (cs := #[.slice none 0 0, .slice none 0 0, .slice none 0 0, .slice none 0 0, .slice none 0 0, .slice none 0 0, .slice none 0 0]) ?_ 0 _ rfl; (with_reducible repeat (first | refine blk_drewN ?_ _ | refine blk_drew ?_ | refine blk_alloc ?_ _)); exact BK125.out⟩, ⟨bp9 HB.out⟩⟩
     case rest =>
      clear HC12
      try clear c1
      try clear p1
      try clear q1
      try clear hx1
      try clear c2
      try clear p2
      try clear c5
      try clear c5b0
      try clear c5b1
      try clear p6
      try clear c7
      try clear c8
      try clear c8b0
      try clear c9
      try clear c9b0
      try clear c10
      try clear c10b0
      try clear c10b1
      try clear p10
      try clear q10
      try clear hx10
      try clear c23
      try clear c23b0
      try clear c23b1
      try clear c24
      try clear c24b0
      try clear c24b1
      try clear c24b2
      try clear hcz16_0 hcz16_1 hcz16_2 hcz16_3 hcz16_4 hcz16_5 hcz16_6
      try clear hcz25_0 hcz25_1 hcz25_2 hcz25_3 hcz25_4 hcz25_5 hcz25_6
      try clear hcz26_0 hcz26_1 hcz26_2 hcz26_3 hcz26_4 hcz26_5 hcz26_6
      try clear hfz16_0 hfz16_1 hfz16_2 hfz16_3 hfz16_4 hfz16_5 hfz16_6
      try clear hfz25_0 hfz25_1 hfz25_2 hfz25_3 hfz25_4 hfz25_5 hfz25_6
      try clear hfz26_0 hfz26_1 hfz26_2 hfz26_3 hfz26_4 hfz26_5 hfz26_6
      try clear hx102_0
      try clear hx102_1
      try clear hx102_10
      try clear hx102_11
      try clear hx102_12
      try clear hx102_13
      try clear hx102_14
      try clear hx102_15
      try clear hx102_2
      try clear hx102_3
      try clear hx102_4
      try clear hx102_5
      try clear hx102_6
      try clear hx102_7
      try clear hx102_8
      try clear hx102_9
      try clear p102
      try clear p2
      try clear q102
      obtain ⟨kq, x57_11, rfl, HA, HJ11, HO_126000, HO_126001, HO_126002, HO_126003, HO_126004, HO_126005, HO_126006, BK125, HB⟩ := hcut
      cases kq with
      | zero => exact absurd HA.out (by simp [cupolalaw14_DobAlong.j1])
      | succ kj11 =>
       have H := HA.out
       clear HA
       simp only [cupolalaw14_DobAlong.j1] at H
       by_cases c27 : x57_11 = true
       ·subst c27
        rw [if_pos rfl] at H
        obtain rfl := Option.some.inj H
        go_wp2
        go_ret
        exact ⟨by first | rfl | (simp [errW_none, errW_some] <;> rfl) | (simp [*, errW_none, errW_some] <;> rfl), bp9 HB.out⟩
       ·replace c27 := Bool.eq_false_iff.mpr c27
        subst c27
        rw [if_neg (show ¬ (false = true) by decide)] at H
        replace H := Option.bind_eq_some_iff.mp H
        obtain ⟨_, A280, H⟩ := H
        replace H : ((dob_Static.f kj11 t103 t106 t109 t112 t115 t118 t121).bind fun t127 => ((rel_Or.f t112 t115).bind fun t130 => ((rel_Or.f t109 t130).bind fun t133 => ((rel_Pairs.f kj11 t133).bind fun t136 => (cupolalaw14_DobAlong.l1 kj11 l1 l2 t101 t127 0 t136 0 t103 t106 t109 t112 t115 t118 t121))))) = some r := H
        have A28 := a9_ A280
        clear A280
        replace H := Option.bind_eq_some_iff.mp H
        obtain ⟨t127, A290, H⟩ := H
        have A29 := a9_ A290
        clear A290
        replace H := Option.bind_eq_some_iff.mp H
        obtain ⟨t130, A300, H⟩ := H
        have A30 := a9_ A300
        clear A300
        replace H := Option.bind_eq_some_iff.mp H
        obtain ⟨t133, A310, H⟩ := H
        have A31 := a9_ A310
        clear A310
        replace H := Option.bind_eq_some_iff.mp H
        obtain ⟨t136, A320, H⟩ := H
        have A32 := a9_ A320
        clear A320
        have H' := a9_ H
        clear H
        obtain ⟨hcz33_0, hcz33_1, hcz33_2, hcz33_3, hcz33_4, hcz33_5, hcz33_6, hfz33_0, hfz33_1, hfz33_2, hfz33_3, hfz33_4, hfz33_5, hfz33_6⟩ := cz7 BK125.out
        try go_wp2_with (first | ((with_reducible refine gate_callee (f := 79) rfl ?_); refine goesL9 (some 60) rfl rfl Try.func79 (by kernel_rfl) rfl #[.agg #[.slice Ao15 t103.length co15, .slice Ao17 t106.length co17, .slice Ao18 t109.length co18, .slice Ao19 t112.length co19, .slice Ao20 t115.length co20, .slice Ao21 t118.length co21, .slice Ao22 t121.length co22]] rfl ?_; (with_reducible refine (cupolalaw14_made.calls _ _ t103 _ _ t106 _ _ t109 _ _ t112 _ _ t115 _ _ t118 _ _ t121  _ ?side1 ?side2 ?side3 ?side4 ?side5 ?side6 ?side7 ?side8 ?side9 ?side10 ?side11 ?side12 ?side13 ?side14 A28.out).mono ?_); (case side1 => exact lp9 (Kd.R_reads' HO_126000.out).2.2); (case side2 => exact (Kd.R_reads' HO_126000.out).2.1); (case side3 => exact lp9 (Kd.R_reads' HO_126001.out).2.2); (case side4 => exact (Kd.R_reads' HO_126001.out).2.1); (case side5 => exact lp9 (Kd.R_reads' HO_126002.out).2.2); (case side6 => exact (Kd.R_reads' HO_126002.out).2.1); (case side7 => exact lp9 (Kd.R_reads' HO_126003.out).2.2); (case side8 => exact (Kd.R_reads' HO_126003.out).2.1); (case side9 => exact lp9 (Kd.R_reads' HO_126004.out).2.2); (case side10 => exact (Kd.R_reads' HO_126004.out).2.1); (case side11 => exact lp9 (Kd.R_reads' HO_126005.out).2.2); (case side12 => exact (Kd.R_reads' HO_126005.out).2.1); (case side13 => exact lp9 (Kd.S_reads' HO_126006.out).2.2); (case side14 => exact (Kd.S_reads' HO_126006.out).2.1); rintro e w34 ⟨rfl, hb⟩; refine ⟨_, rfl, ?_⟩; have n0_ := a9_ (Kd.R_below (rp9 HO_126000.out) hb); have n1_ := a9_ (Kd.R_below (rp9 HO_126001.out) hb); have n2_ := a9_ (Kd.R_below (rp9 HO_126002.out) hb); have n3_ := a9_ (Kd.R_below (rp9 HO_126003.out) hb); have n4_ := a9_ (Kd.R_below (rp9 HO_126004.out) hb); have n5_ := a9_ (Kd.R_below (rp9 HO_126005.out) hb); have n6_ := a9_ (Kd.S_below (by (with_reducible repeat (first | apply Kd.S_alloc | apply Kd.S_drewN | apply Kd.S_drew)); exact HO_126006.out) hb); have n7_ := a9_ (blk_below (kp9 BK125.out) hb); have n8_ := a9_ (below_step (bp9 HB.out) hb); clear HO_126000; clear HO_126001; clear HO_126002; clear HO_126003; clear HO_126004; clear HO_126005; clear HO_126006; clear BK125; clear HB; have HO_126000 := n0_; have HO_126001 := n1_; have HO_126002 := n2_; have HO_126003 := n3_; have HO_126004 := n4_; have HO_126005 := n5_; have HO_126006 := n6_; have BK125 := n7_; have HB := n8_; clear n0_ n1_ n2_ n3_ n4_ n5_ n6_ n7_ n8_; (try clear hb); (try clear hi)) | ((with_reducible refine gate_dst (N := 11) rfl ?_); (try (refine gate_guard (by rfl) ?_; dsimp only)); refine box9 (N := 11) (cs := #[.slice none 0 0, .slice none 0 0, .slice none 0 0, .slice none 0 0, .slice none 0 0, .slice none 0 0, .slice none 0 0]) (t := 31) ?_; intro gb126 hg w35 hbox hb; have n0_ := a9_ (Kd.R_below (rp9 HO_126000.out) hb); have n1_ := a9_ (Kd.R_below (rp9 HO_126001.out) hb); have n2_ := a9_ (Kd.R_below (rp9 HO_126002.out) hb); have n3_ := a9_ (Kd.R_below (rp9 HO_126003.out) hb); have n4_ := a9_ (Kd.R_below (rp9 HO_126004.out) hb); have n5_ := a9_ (Kd.R_below (rp9 HO_126005.out) hb); have n6_ := a9_ (Kd.S_below (by (with_reducible repeat (first | apply Kd.S_alloc | apply Kd.S_drewN | apply Kd.S_drew)); exact HO_126006.out) hb); have n7_ := a9_ (blk_below (kp9 BK125.out) hb); have n8_ := a9_ (below_step (bp9 HB.out) hb); have n9_ := a9_ (hbox); have n10_ := a9_ ((by rw [hg]; exact (below_size (bp9 HB.out)) : w.heap.size ≤ gb126)); have n11_ := n10_; have n12_ := a9_ ((by rw [hg]; exact Nat.ne_of_lt (blk_lt (g := gb125) (o := .cells #[.slice Ao15 t103.length co15, .slice Ao17 t106.length co17, .slice Ao18 t109.length co18, .slice Ao19 t112.length co19, .slice Ao20 t115.length co20, .slice Ao21 t118.length co21, .slice Ao22 t121.length co22] 76 (0, 0)) (kp9 BK125.out)) : gb125 ≠ gb126)); have n13_ := a9_ ((by rw [hg]; exact Nat.ne_of_gt (blk_lt (g := gb125) (o := .cells #[.slice Ao15 t103.length co15, .slice Ao17 t106.length co17, .slice Ao18 t109.length co18, .slice Ao19 t112.length co19, .slice Ao20 t115.length co20, .slice Ao21 t118.length co21, .slice Ao22 t121.length co22] 76 (0, 0)) (kp9 BK125.out)) : gb126 ≠ gb125)); clear HO_126000; clear HO_126001; clear HO_126002; clear HO_126003; clear HO_126004; clear HO_126005; clear HO_126006; clear BK125; clear HB; have HO_126000 := n0_; have HO_126001 := n1_; have HO_126002 := n2_; have HO_126003 := n3_; have HO_126004 := n4_; have HO_126005 := n5_; have HO_126006 := n6_; have BK125 := n7_; have HB := n8_; have BK126 := n9_; have GW126 := n10_; have GE126 := n11_; have NB125_126 := n12_; have NB126_125 := n13_; clear n0_ n1_ n2_ n3_ n4_ n5_ n6_ n7_ n8_ n9_ n10_ n11_ n12_ n13_; clear hb hbox hg; have hnb36 := NB126_125.out; have hnc36 := NB125_126.out; obtain ⟨hcz37_0, hcz37_1, hcz37_2, hcz37_3, hcz37_4, hcz37_5, hcz37_6, hfz37_0, hfz37_1, hfz37_2, hfz37_3, hfz37_4, hfz37_5, hfz37_6⟩ := cz7 BK126.out) | ((with_reducible refine gate_store (t := 31) (p := 11) rfl ?_); refine store_event (t := 31) (p := 11) (v := ?vo_w38) (w1 := (((((((w35.setCell ⟨gb126, 0, none⟩ (.slice Ao15 t103.length co15)).setCell ⟨gb126, 1, none⟩ (.slice Ao17 t106.length co17)).setCell ⟨gb126, 2, none⟩ (.slice Ao18 t109.length co18)).setCell ⟨gb126, 3, none⟩ (.slice Ao19 t112.length co19)).setCell ⟨gb126, 4, none⟩ (.slice Ao20 t115.length co20)).setCell ⟨gb126, 5, none⟩ (.slice Ao21 t118.length co21)).setCell ⟨gb126, 6, none⟩ (.slice Ao22 t121.length co22))) ?hg ?ho ?hn ?hr ?_; (case ho => rfl); (case hg => rfl); (case hn => rfl); (case hr => first | (go_simp; done) | (go_simp; rfl)); intro w38 hw; have n0_ : Aside0 (Kd.R k26 26 w38 w.heap.size (fun _ => True) (.slice Ao15 t103.length co15) t103) := ⟨(by rw [hw]; exact (by (with_reducible repeat (first | apply Kd.R_alloc | apply Kd.R_drewN | apply Kd.R_drew)); exact Kd.R_mono (Kd.R_far (p := ⟨gb126, 6, none⟩) (Kd.R_far (p := ⟨gb126, 5, none⟩) (Kd.R_far (p := ⟨gb126, 4, none⟩) (Kd.R_far (p := ⟨gb126, 3, none⟩) (Kd.R_far (p := ⟨gb126, 2, none⟩) (Kd.R_far (p := ⟨gb126, 1, none⟩) (Kd.R_far (p := ⟨gb126, 0, none⟩) (Kd.R_types HO_126000.out BK126.out (by decide)) (fun _ hk => hk.2) (.slice Ao15 t103.length co15)) (fun _ hk => hk.2) (.slice Ao17 t106.length co17)) (fun _ hk => hk.2) (.slice Ao18 t109.length co18)) (fun _ hk => hk.2) (.slice Ao19 t112.length co19)) (fun _ hk => hk.2) (.slice Ao20 t115.length co20)) (fun _ hk => hk.2) (.slice Ao21 t118.length co21)) (fun _ hk => hk.2) (.slice Ao22 t121.length co22)) (fun _ hk => trivial)))⟩; have n1_ : Aside0 (Kd.R (Kd.int .u32) 52 w38 w.heap.size (fun k_ => some k_ ≠ (.slice Ao18 t109.length co18 : Value).ownBlock ∧ some k_ ≠ (.slice Ao19 t112.length co19 : Value).ownBlock ∧ some k_ ≠ (.slice Ao20 t115.length co20 : Value).ownBlock ∧ some k_ ≠ (.slice Ao21 t118.length co21 : Value).ownBlock) (.slice Ao17 t106.length co17) t106) := ⟨(by rw [hw]; exact (by (with_reducible repeat (first | apply Kd.R_alloc | apply Kd.R_drewN | apply Kd.R_drew)); exact Kd.R_mono (Kd.R_far (p := ⟨gb126, 6, none⟩) (Kd.R_far (p := ⟨gb126, 5, none⟩) (Kd.R_far (p := ⟨gb126, 4, none⟩) (Kd.R_far (p := ⟨gb126, 3, none⟩) (Kd.R_far (p := ⟨gb126, 2, none⟩) (Kd.R_far (p := ⟨gb126, 1, none⟩) (Kd.R_far (p := ⟨gb126, 0, none⟩) (Kd.R_types HO_126001.out BK126.out (by decide)) (fun _ hk => hk.2) (.slice Ao15 t103.length co15)) (fun _ hk => hk.2) (.slice Ao17 t106.length co17)) (fun _ hk => hk.2) (.slice Ao18 t109.length co18)) (fun _ hk => hk.2) (.slice Ao19 t112.length co19)) (fun _ hk => hk.2) (.slice Ao20 t115.length co20)) (fun _ hk => hk.2) (.slice Ao21 t118.length co21)) (fun _ hk => hk.2) (.slice Ao22 t121.length co22)) (fun _ hk => ⟨hk.1.1, ⟨hk.1.2.1, ⟨hk.1.2.2.1, hk.1.2.2.2⟩⟩⟩)))⟩; have n2_ : Aside0 (Kd.R (Kd.int .u32) 52 w38 w.heap.size (fun k_ => some k_ ≠ (.slice Ao17 t106.length co17 : Value).ownBlock ∧ some k_ ≠ (.slice Ao19 t112.length co19 : Value).ownBlock ∧ some k_ ≠ (.slice Ao20 t115.length co20 : Value).ownBlock ∧ some k_ ≠ (.slice Ao21 t118.length co21 : Value).ownBlock) (.slice Ao18 t109.length co18) t109) := ⟨(by rw [hw]; exact (by (with_reducible repeat (first | apply Kd.R_alloc | apply Kd.R_drewN | apply Kd.R_drew)); exact Kd.R_mono (Kd.R_far (p := ⟨gb126, 6, none⟩) (Kd.R_far (p := ⟨gb126, 5, none⟩) (Kd.R_far (p := ⟨gb126, 4, none⟩) (Kd.R_far (p := ⟨gb126, 3, none⟩) (Kd.R_far (p := ⟨gb126, 2, none⟩) (Kd.R_far (p := ⟨gb126, 1, none⟩) (Kd.R_far (p := ⟨gb126, 0, none⟩) (Kd.R_types HO_126002.out BK126.out (by decide)) (fun _ hk => hk.2) (.slice Ao15 t103.length co15)) (fun _ hk => hk.2) (.slice Ao17 t106.length co17)) (fun _ hk => hk.2) (.slice Ao18 t109.length co18)) (fun _ hk => hk.2) (.slice Ao19 t112.length co19)) (fun _ hk => hk.2) (.slice Ao20 t115.length co20)) (fun _ hk => hk.2) (.slice Ao21 t118.length co21)) (fun _ hk => hk.2) (.slice Ao22 t121.length co22)) (fun _ hk => ⟨hk.1.1, ⟨hk.1.2.1, ⟨hk.1.2.2.1, hk.1.2.2.2⟩⟩⟩)))⟩; have n3_ : Aside0 (Kd.R (Kd.int .u32) 52 w38 w.heap.size (fun k_ => some k_ ≠ (.slice Ao17 t106.length co17 : Value).ownBlock ∧ some k_ ≠ (.slice Ao18 t109.length co18 : Value).ownBlock ∧ some k_ ≠ (.slice Ao20 t115.length co20 : Value).ownBlock ∧ some k_ ≠ (.slice Ao21 t118.length co21 : Value).ownBlock) (.slice Ao19 t112.length co19) t112) := ⟨(by rw [hw]; exact (by (with_reducible repeat (first | apply Kd.R_alloc | apply Kd.R_drewN | apply Kd.R_drew)); exact Kd.R_mono (Kd.R_far (p := ⟨gb126, 6, none⟩) (Kd.R_far (p := ⟨gb126, 5, none⟩) (Kd.R_far (p := ⟨gb126, 4, none⟩) (Kd.R_far (p := ⟨gb126, 3, none⟩) (Kd.R_far (p := ⟨gb126, 2, none⟩) (Kd.R_far (p := ⟨gb126, 1, none⟩) (Kd.R_far (p := ⟨gb126, 0, none⟩) (Kd.R_types HO_126003.out BK126.out (by decide)) (fun _ hk => hk.2) (.slice Ao15 t103.length co15)) (fun _ hk => hk.2) (.slice Ao17 t106.length co17)) (fun _ hk => hk.2) (.slice Ao18 t109.length co18)) (fun _ hk => hk.2) (.slice Ao19 t112.length co19)) (fun _ hk => hk.2) (.slice Ao20 t115.length co20)) (fun _ hk => hk.2) (.slice Ao21 t118.length co21)) (fun _ hk => hk.2) (.slice Ao22 t121.length co22)) (fun _ hk => ⟨hk.1.1, ⟨hk.1.2.1, ⟨hk.1.2.2.1, hk.1.2.2.2⟩⟩⟩)))⟩; have n4_ : Aside0 (Kd.R (Kd.int .u32) 52 w38 w.heap.size (fun k_ => some k_ ≠ (.slice Ao17 t106.length co17 : Value).ownBlock ∧ some k_ ≠ (.slice Ao18 t109.length co18 : Value).ownBlock ∧ some k_ ≠ (.slice Ao19 t112.length co19 : Value).ownBlock ∧ some k_ ≠ (.slice Ao21 t118.length co21 : Value).ownBlock) (.slice Ao20 t115.length co20) t115) := ⟨(by rw [hw]; exact (by (with_reducible repeat (first | apply Kd.R_alloc | apply Kd.R_drewN | apply Kd.R_drew)); exact Kd.R_mono (Kd.R_far (p := ⟨gb126, 6, none⟩) (Kd.R_far (p := ⟨gb126, 5, none⟩) (Kd.R_far (p := ⟨gb126, 4, none⟩) (Kd.R_far (p := ⟨gb126, 3, none⟩) (Kd.R_far (p := ⟨gb126, 2, none⟩) (Kd.R_far (p := ⟨gb126, 1, none⟩) (Kd.R_far (p := ⟨gb126, 0, none⟩) (Kd.R_types HO_126004.out BK126.out (by decide)) (fun _ hk => hk.2) (.slice Ao15 t103.length co15)) (fun _ hk => hk.2) (.slice Ao17 t106.length co17)) (fun _ hk => hk.2) (.slice Ao18 t109.length co18)) (fun _ hk => hk.2) (.slice Ao19 t112.length co19)) (fun _ hk => hk.2) (.slice Ao20 t115.length co20)) (fun _ hk => hk.2) (.slice Ao21 t118.length co21)) (fun _ hk => hk.2) (.slice Ao22 t121.length co22)) (fun _ hk => ⟨hk.1.1, ⟨hk.1.2.1, ⟨hk.1.2.2.1, hk.1.2.2.2⟩⟩⟩)))⟩; have n5_ : Aside0 (Kd.R (Kd.int .u32) 52 w38 w.heap.size (fun k_ => some k_ ≠ (.slice Ao17 t106.length co17 : Value).ownBlock ∧ some k_ ≠ (.slice Ao18 t109.length co18 : Value).ownBlock ∧ some k_ ≠ (.slice Ao19 t112.length co19 : Value).ownBlock ∧ some k_ ≠ (.slice Ao20 t115.length co20 : Value).ownBlock) (.slice Ao21 t118.length co21) t118) := ⟨(by rw [hw]; exact (by (with_reducible repeat (first | apply Kd.R_alloc | apply Kd.R_drewN | apply Kd.R_drew)); exact Kd.R_mono (Kd.R_far (p := ⟨gb126, 6, none⟩) (Kd.R_far (p := ⟨gb126, 5, none⟩) (Kd.R_far (p := ⟨gb126, 4, none⟩) (Kd.R_far (p := ⟨gb126, 3, none⟩) (Kd.R_far (p := ⟨gb126, 2, none⟩) (Kd.R_far (p := ⟨gb126, 1, none⟩) (Kd.R_far (p := ⟨gb126, 0, none⟩) (Kd.R_types HO_126005.out BK126.out (by decide)) (fun _ hk => hk.2) (.slice Ao15 t103.length co15)) (fun _ hk => hk.2) (.slice Ao17 t106.length co17)) (fun _ hk => hk.2) (.slice Ao18 t109.length co18)) (fun _ hk => hk.2) (.slice Ao19 t112.length co19)) (fun _ hk => hk.2) (.slice Ao20 t115.length co20)) (fun _ hk => hk.2) (.slice Ao21 t118.length co21)) (fun _ hk => hk.2) (.slice Ao22 t121.length co22)) (fun _ hk => ⟨hk.1.1, ⟨hk.1.2.1, ⟨hk.1.2.2.1, hk.1.2.2.2⟩⟩⟩)))⟩; have n6_ : Aside0 (Kd.S (Kd.slice 2 (Kd.int .i64)) 23 w38 w.heap.size (fun _ => True) (.slice Ao22 t121.length co22) t121) := ⟨(by rw [hw]; exact (by (with_reducible repeat (first | apply Kd.S_alloc | apply Kd.S_drewN | apply Kd.S_drew)); exact Kd.S_mono (Kd.S_far (p := ⟨gb126, 6, none⟩) (Kd.S_far (p := ⟨gb126, 5, none⟩) (Kd.S_far (p := ⟨gb126, 4, none⟩) (Kd.S_far (p := ⟨gb126, 3, none⟩) (Kd.S_far (p := ⟨gb126, 2, none⟩) (Kd.S_far (p := ⟨gb126, 1, none⟩) (Kd.S_far (p := ⟨gb126, 0, none⟩) (Kd.S_types HO_126006.out BK126.out (by decide)) (fun _ hk => hk.2) (.slice Ao15 t103.length co15)) (fun _ hk => hk.2) (.slice Ao17 t106.length co17)) (fun _ hk => hk.2) (.slice Ao18 t109.length co18)) (fun _ hk => hk.2) (.slice Ao19 t112.length co19)) (fun _ hk => hk.2) (.slice Ao20 t115.length co20)) (fun _ hk => hk.2) (.slice Ao21 t118.length co21)) (fun _ hk => hk.2) (.slice Ao22 t121.length co22)) (fun _ hk => trivial)))⟩; have n7_ : Aside0 (w38.heap[gb125]? = some (.cells #[.slice Ao15 t103.length co15, .slice Ao17 t106.length co17, .slice Ao18 t109.length co18, .slice Ao19 t112.length co19, .slice Ao20 t115.length co20, .slice Ao21 t118.length co21, .slice Ao22 t121.length co22] 76 (0, 0))) := ⟨(by rw [hw]; exact (by (with_reducible repeat (first | refine blk_drewN ?_ _ | refine blk_drew ?_ | refine blk_alloc ?_ _)); refine blk_far ?_ NB125_126.out _; (with_reducible repeat (first | refine blk_drewN ?_ _ | refine blk_drew ?_ | refine blk_alloc ?_ _)); refine blk_far ?_ NB125_126.out _; (with_reducible repeat (first | refine blk_drewN ?_ _ | refine blk_drew ?_ | refine blk_alloc ?_ _)); refine blk_far ?_ NB125_126.out _; (with_reducible repeat (first | refine blk_drewN ?_ _ | refine blk_drew ?_ | refine blk_alloc ?_ _)); refine blk_far ?_ NB125_126.out _; (with_reducible repeat (first | refine blk_drewN ?_ _ | refine blk_drew ?_ | refine blk_alloc ?_ _)); refine blk_far ?_ NB125_126.out _; (with_reducible repeat (first | refine blk_drewN ?_ _ | refine blk_drew ?_ | refine blk_alloc ?_ _)); refine blk_far ?_ NB125_126.out _; (with_reducible repeat (first | refine blk_drewN ?_ _ | refine blk_drew ?_ | refine blk_alloc ?_ _)); refine blk_far ?_ NB125_126.out _; (with_reducible repeat (first | refine blk_drewN ?_ _ | refine blk_drew ?_ | refine blk_alloc ?_ _)); exact BK125.out))⟩; have n8_ : Aside0 (w38.heap[gb126]? = some (.cells #[.slice Ao15 t103.length co15, .slice Ao17 t106.length co17, .slice Ao18 t109.length co18, .slice Ao19 t112.length co19, .slice Ao20 t115.length co20, .slice Ao21 t118.length co21, .slice Ao22 t121.length co22] 31 (0, 0))) := ⟨(by rw [hw]; exact (by (with_reducible repeat (first | refine blk_drewN ?_ _ | refine blk_drew ?_ | refine blk_alloc ?_ _)); refine blk_put (cs := #[.slice Ao15 t103.length co15, .slice Ao17 t106.length co17, .slice Ao18 t109.length co18, .slice Ao19 t112.length co19, .slice Ao20 t115.length co20, .slice Ao21 t118.length co21, .slice none 0 0]) ?_ 6 _ rfl; (with_reducible repeat (first | refine blk_drewN ?_ _ | refine blk_drew ?_ | refine blk_alloc ?_ _)); refine blk_put (cs := #[.slice Ao15 t103.length co15, .slice Ao17 t106.length co17, .slice Ao18 t109.length co18, .slice Ao19 t112.length co19, .slice Ao20 t115.length co20, .slice none 0 0, .slice none 0 0]) ?_ 5 _ rfl; (with_reducible repeat (first | refine blk_drewN ?_ _ | refine blk_drew ?_ | refine blk_alloc ?_ _)); refine blk_put (cs := #[.slice Ao15 t103.length co15, .slice Ao17 t106.length co17, .slice Ao18 t109.length co18, .slice Ao19 t112.length co19, .slice none 0 0, .slice none 0 0, .slice none 0 0]) ?_ 4 _ rfl; (with_reducible repeat (first | refine blk_drewN ?_ _ | refine blk_drew ?_ | refine blk_alloc ?_ _)); refine blk_put (cs := #[.slice Ao15 t103.length co15, .slice Ao17 t106.length co17, .slice Ao18 t109.length co18, .slice none 0 0, .slice none 0 0, .slice none 0 0, .slice none 0 0]) ?_ 3 _ rfl; (with_reducible repeat (first | refine blk_drewN ?_ _ | refine blk_drew ?_ | refine blk_alloc ?_ _)); refine blk_put (cs := #[.slice Ao15 t103.length co15, .slice Ao17 t106.length co17, .slice none 0 0, .slice none 0 0, .slice none 0 0, .slice none 0 0, .slice none 0 0]) ?_ 2 _ rfl; (with_reducible repeat (first | refine blk_drewN ?_ _ | refine blk_drew ?_ | refine blk_alloc ?_ _)); refine blk_put (cs := #[.slice Ao15 t103.length co15, .slice none 0 0, .slice none 0 0, .slice none 0 0, .slice none 0 0, .slice none 0 0, .slice none 0 0]) ?_ 1 _ rfl; (with_reducible repeat (first | refine blk_drewN ?_ _ | refine blk_drew ?_ | refine blk_alloc ?_ _)); refine blk_put (cs := #[.slice none 0 0, .slice none 0 0, .slice none 0 0, .slice none 0 0, .slice none 0 0, .slice none 0 0, .slice none 0 0]) ?_ 0 _ rfl; (with_reducible repeat (first | refine blk_drewN ?_ _ | refine blk_drew ?_ | refine blk_alloc ?_ _)); exact BK126.out))⟩; have n9_ : Aside0 (Below w.heap.size w w38) := ⟨(by rw [hw]; exact (bp9 HB.out))⟩; clear hw; clear HO_126000; clear HO_126001; clear HO_126002; clear HO_126003; clear HO_126004; clear HO_126005; clear HO_126006; clear BK125; clear BK126; clear HB; have HO_126000 := n0_; have HO_126001 := n1_; have HO_126002 := n2_; have HO_126003 := n3_; have HO_126004 := n4_; have HO_126005 := n5_; have HO_126006 := n6_; have BK125 := n7_; have BK126 := n8_; have HB := n9_; clear n0_ n1_ n2_ n3_ n4_ n5_ n6_ n7_ n8_ n9_; obtain ⟨hcz39_0, hcz39_1, hcz39_2, hcz39_3, hcz39_4, hcz39_5, hcz39_6, hfz39_0, hfz39_1, hfz39_2, hfz39_3, hfz39_4, hfz39_5, hfz39_6⟩ := cz7 BK126.out) | ((with_reducible refine gate_callee (f := 82) rfl ?_); refine goesL9 (some 62) rfl rfl Try.func82 (by kernel_rfl) rfl #[.agg #[.slice Ao15 t103.length co15, .slice Ao17 t106.length co17, .slice Ao18 t109.length co18, .slice Ao19 t112.length co19, .slice Ao20 t115.length co20, .slice Ao21 t118.length co21, .slice Ao22 t121.length co22]] rfl ?_; (with_reducible refine (dob_Static.calls kj11 _ _ t103 _ _ t106 (fun k_ => some k_ = (.slice Ao18 t109.length co18 : Value).ownBlock) _ _ t109 (fun k_ => some k_ = (.slice Ao19 t112.length co19 : Value).ownBlock) _ _ t112 _ _ t115 _ _ t118 _ _ t121 t127 _ ?side1 ?side2 ?side3 ?side4 ?side5 ?side6 ?side7 ?side8 ?side9 ?side10 ?side11 ?side12 A29.out).mono ?_); (case side1 => exact lp9 (Kd.R_reads' HO_126000.out).2.2); (case side2 => exact (Kd.R_reads' HO_126000.out).2.1); (case side3 => exact lp9 (Kd.R_reads' HO_126001.out).2.2); (case side4 => exact (Kd.R_reads' HO_126001.out).2.1); (case side5 => exact Kd.R_V (Kd.R_tight rfl (Kd.R_types (Kd.R_types (Kd.R_apart' (Kd.R_apart' (HO_126002.out) (Kd.R_typed HO_126000.out) (by decide)) (Kd.S_typed HO_126006.out) (by decide)) BK125.out (by decide)) BK126.out (by decide)))); (case side6 => exact Kd.R_V (Kd.R_tight rfl (Kd.R_types (Kd.R_types (Kd.R_apart' (Kd.R_apart' (HO_126003.out) (Kd.R_typed HO_126000.out) (by decide)) (Kd.S_typed HO_126006.out) (by decide)) BK125.out (by decide)) BK126.out (by decide)))); (case side7 => exact lp9 (Kd.R_reads' HO_126004.out).2.2); (case side8 => exact (Kd.R_reads' HO_126004.out).2.1); (case side9 => exact lp9 (Kd.R_reads' HO_126005.out).2.2); (case side10 => exact (Kd.R_reads' HO_126005.out).2.1); (case side11 => exact lp9 (Kd.S_reads' HO_126006.out).2.2); (case side12 => exact (Kd.S_reads' HO_126006.out).2.1); rintro e w40 ⟨v128, rfl, ho0, hb⟩; refine ⟨_, rfl, ?_⟩; have n0_ := a9_ (Kd.R_below (rp9 HO_126000.out) hb); have n1_ := a9_ (Kd.R_elder' (rp9 HO_126001.out) (Kd.R_base ho0) hb); have n2_ := a9_ (Kd.R_elder' (rp9 HO_126002.out) (Kd.R_base ho0) hb); have n3_ := a9_ (Kd.R_elder' (rp9 HO_126003.out) (Kd.R_base ho0) hb); have n4_ := a9_ (Kd.R_elder' (rp9 HO_126004.out) (Kd.R_base ho0) hb); have n5_ := a9_ (Kd.R_elder' (rp9 HO_126005.out) (Kd.R_base ho0) hb); have n6_ := a9_ (Kd.S_below (by (with_reducible repeat (first | apply Kd.S_alloc | apply Kd.S_drewN | apply Kd.S_drew)); exact HO_126006.out) hb); have n7_ := a9_ (Kd.R_lower (Kd.R_new' (Kd.R_new' (Kd.R_new' (Kd.R_new' (Kd.R_new' (Kd.R_mono (ok' := fun k_ => True) ho0 (fun _ hk_ => trivial)) (Kd.R_lt (rp9 HO_126001.out))) (Kd.R_lt (rp9 HO_126002.out))) (Kd.R_lt (rp9 HO_126003.out))) (Kd.R_lt (rp9 HO_126004.out))) (Kd.R_lt (rp9 HO_126005.out))) (below_size (bp9 HB.out))); have n8_ := a9_ (blk_below (kp9 BK125.out) hb); have n9_ := a9_ (blk_below (kp9 BK126.out) hb); have n10_ := a9_ (below_step (bp9 HB.out) hb); clear HO_126000; clear HO_126001; clear HO_126002; clear HO_126003; clear HO_126004; clear HO_126005; clear HO_126006; clear BK125; clear BK126; clear HB; have HO_126000 := n0_; have HO_126001 := n1_; have HO_126002 := n2_; have HO_126003 := n3_; have HO_126004 := n4_; have HO_126005 := n5_; have HO_126006 := n6_; have HO129 := n7_; have BK125 := n8_; have BK126 := n9_; have HB := n10_; clear n0_ n1_ n2_ n3_ n4_ n5_ n6_ n7_ n8_ n9_ n10_; (try clear hb); (try clear ho0)))
        have n0_ := a9_ (Kd.R_drew HO_126000.out)
        have n1_ := a9_ (Kd.R_drew HO_126001.out)
        have n2_ := a9_ (Kd.R_drew HO_126002.out)
        have n3_ := a9_ (Kd.R_drew HO_126003.out)
        have n4_ := a9_ (Kd.R_drew HO_126004.out)
        have n5_ := a9_ (Kd.R_drew HO_126005.out)
        have n6_ := a9_ (Kd.S_drew HO_126006.out)
        have n7_ := a9_ (Kd.R_drew HO129.out)
        have n8_ := a9_ (blk_drew BK125.out)
        have n9_ := a9_ (blk_drew BK126.out)
        have n10_ := a9_ (below_drew1 HB.out)
        clear HO_126000 HO_126001 HO_126002 HO_126003 HO_126004 HO_126005 HO_126006 HO129 BK125 BK126 HB
        revert n0_ n1_ n2_ n3_ n4_ n5_ n6_ n7_ n8_ n9_ n10_; intro HO_126000 HO_126001 HO_126002 HO_126003 HO_126004 HO_126005 HO_126006 HO129 BK125 BK126 HB
        refine start_ (n := 9) (S := fun w' => w'.cell? ⟨gb126, 0, none⟩ = some (.slice Ao15 t103.length co15) ∧ w'.cell? ⟨gb126, 1, none⟩ = some (.slice Ao17 t106.length co17) ∧ w'.cell? ⟨gb126, 2, none⟩ = some (.slice Ao18 t109.length co18) ∧ w'.cell? ⟨gb126, 3, none⟩ = some (.slice Ao19 t112.length co19) ∧ w'.cell? ⟨gb126, 4, none⟩ = some (.slice Ao20 t115.length co20) ∧ w'.cell? ⟨gb126, 5, none⟩ = some (.slice Ao21 t118.length co21) ∧ w'.cell? ⟨gb126, 6, none⟩ = some (.slice Ao22 t121.length co22)) (ds := []) #[o9, o9, o9, o9, o9, o9, o9, o9, o9] (by kernel_rfl) rfl rfl ⟨(blk_cell BK126.out 0).trans rfl, (blk_cell BK126.out 1).trans rfl, (blk_cell BK126.out 2).trans rfl, (blk_cell BK126.out 3).trans rfl, (blk_cell BK126.out 4).trans rfl, (blk_cell BK126.out 5).trans rfl, (blk_cell BK126.out 6).trans rfl⟩ (fun hHeld => ?_); refine with_tabW cupolalaw14_DobAlong.tab14 cupolalaw14_DobAlong.bits14 (fun HT_ HW_ => ?_)
        generalize w40.drew = w41 at HO_126000 HO_126001 HO_126002 HO_126003 HO_126004 HO_126005 HO_126006 HO129 BK125 BK126 HB hHeld ⊢
        refine pureA 0 (some 63) ?_ #[i9, o9, o9, o9, o9, o9, o9, o9, o9] rfl rfl (any_of HT_.out (by kernel_rfl)) ?_ ?_ ?_ ?_
        rotate_left
        ·intro w'; go_simp; with_reducible rfl
        rotate_left
        ·exact put9
        refine pureA 2 (some 65) ?_ #[i9, o9, i9, o9, o9, o9, o9, o9, o9] rfl rfl (any_of HT_.out (by kernel_rfl)) ?_ ?_ ?_ ?_
        rotate_left
        ·intro w'; go_simp; with_reducible rfl
        rotate_left
        ·exact put9
        refine pureA 4 (some 67) ?_ #[i9, o9, i9, o9, i9, o9, o9, o9, o9] rfl rfl (any_of HT_.out (by kernel_rfl)) ?_ ?_ ?_ ?_
        rotate_left
        ·intro w'; go_simp; with_reducible rfl
        rotate_left
        ·exact put9
        refine take_ (i := 1) (N := some 64) (v := ?_) (a' := ?_) #[i9, i9, i9, o9, i9, o9, o9, o9, o9] rfl rfl (take_ofW HT_.out HW_.out (by kernel_rfl)) (fun _ _ _ h => h) (Or.inl ⟨by rfl, ?_⟩) hHeld ?_ ?_
        rotate_left
        ·rintro w' ⟨s0, s1, s2, s3, s4, s5, s6⟩
         go_simp
         with_reducible rfl
        rotate_left
        ·exact put9
        refine take_ (i := 3) (N := some 66) (v := ?_) (a' := ?_) #[i9, i9, i9, i9, i9, o9, o9, o9, o9] rfl rfl (take_ofW HT_.out HW_.out (by kernel_rfl)) (fun _ _ _ h => h) (Or.inl ⟨by rfl, ?_⟩) hHeld ?_ ?_
        rotate_left
        ·rintro w' ⟨s0, s1, s2, s3, s4, s5, s6⟩
         go_simp
         with_reducible rfl
        rotate_left
        ·exact put9
        refine take_ (i := 5) (N := some 68) (v := ?_) (a' := ?_) #[i9, i9, i9, i9, i9, i9, o9, o9, o9] rfl rfl (take_ofW HT_.out HW_.out (by kernel_rfl)) (fun _ _ _ h => h) (Or.inl ⟨by rfl, ?_⟩) hHeld ?_ ?_
        rotate_left
        ·rintro w' ⟨s0, s1, s2, s3, s4, s5, s6⟩
         go_simp
         with_reducible rfl
        rotate_left
        ·exact put9
        refine one_ (i := 6) (N := some 69) #[i9, i9, i9, i9, i9, i9, i9, o9, o9] rfl rfl (one_of HT_.out (by kernel_rfl)) (by decide) (fun K hK => ?_)
        refine goes9 Try.func58 (by kernel_rfl) rfl #[.slice Ao19 t112.length co19, .slice Ao20 t115.length co20] (by rfl) rfl rfl ?_
        with_reducible refine (rel_Or.calls _ _ t112 _ _ t115 t130 _ ?side1 ?side2 ?side3 ?side4 A30.out).mono ?_
        (case side1 => exact lp9 (Kd.R_reads' HO_126003.out).2.2)
        (case side2 => exact (Kd.R_reads' HO_126003.out).2.1)
        (case side3 => exact lp9 (Kd.R_reads' HO_126004.out).2.2)
        (case side4 => exact (Kd.R_reads' HO_126004.out).2.1)
        rintro e w42 ⟨v131, rfl, ho0, hb⟩
        refine ⟨_, rfl, ?_⟩
        have n0_ := a9_ (Kd.R_below (rp9 HO_126000.out) hb)
        have n1_ := a9_ (Kd.R_elder' (rp9 HO_126001.out) (Kd.R_base ho0) hb)
        have n2_ := a9_ (Kd.R_elder' (rp9 HO_126002.out) (Kd.R_base ho0) hb)
        have n3_ := a9_ (Kd.R_elder' (rp9 HO_126003.out) (Kd.R_base ho0) hb)
        have n4_ := a9_ (Kd.R_elder' (rp9 HO_126004.out) (Kd.R_base ho0) hb)
        have n5_ := a9_ (Kd.R_elder' (rp9 HO_126005.out) (Kd.R_base ho0) hb)
        have n6_ := a9_ (Kd.S_below (by (with_reducible repeat (first | apply Kd.S_alloc | apply Kd.S_drewN | apply Kd.S_drew)); exact HO_126006.out) hb)
        have n7_ := a9_ (Kd.R_elder' (rp9 HO129.out) (Kd.R_base ho0) hb)
        have n8_ := a9_ (Kd.R_lower (Kd.R_new' (Kd.R_new' (Kd.R_new' (Kd.R_new' (Kd.R_new' (Kd.R_new' ho0 (Kd.R_lt (rp9 HO_126001.out))) (Kd.R_lt (rp9 HO_126002.out))) (Kd.R_lt (rp9 HO_126003.out))) (Kd.R_lt (rp9 HO_126004.out))) (Kd.R_lt (rp9 HO_126005.out))) (Kd.R_lt (rp9 HO129.out))) (below_size (bp9 HB.out)))
        have n9_ := a9_ (blk_below (kp9 BK125.out) hb)
        have n10_ := a9_ (blk_below (kp9 BK126.out) hb)
        have n11_ := a9_ (below_step (bp9 HB.out) hb)
        clear HO_126000 HO_126001 HO_126002 HO_126003 HO_126004 HO_126005 HO_126006 HO129 BK125 BK126 HB
        revert n0_ n1_ n2_ n3_ n4_ n5_ n6_ n7_ n8_ n9_ n10_ n11_; intro HO_126000 HO_126001 HO_126002 HO_126003 HO_126004 HO_126005 HO_126006 HO129 HO132 BK125 BK126 HB
        (try clear hb)
        (try clear ho0)
        obtain ⟨Ao43, co43, eo43⟩ := Kd.R_slice HO132.out
        (first | subst eo43 | (injection eo43 with f1_ f2_ f3_; have f4_ := f1_.symm; have f5_ := f3_.symm; clear f1_ f2_ f3_; subst f4_; subst f5_))
        refine hK.out _ _ ⟨(blk_cell BK126.out 0).trans rfl, (blk_cell BK126.out 1).trans rfl, (blk_cell BK126.out 2).trans rfl, (blk_cell BK126.out 3).trans rfl, (blk_cell BK126.out 4).trans rfl, (blk_cell BK126.out 5).trans rfl, (blk_cell BK126.out 6).trans rfl⟩ (fun hHeld => ?_)
        clear hK K
        refine norm_ (a' := ?_) ?_ ?_
        rotate_left
        ·show Act.put _ (some 69) _ = _
         exact put9
        refine one_ (i := 7) (N := some 70) #[i9, i9, i9, i9, i9, i9, i9, i9, o9] rfl rfl (one_of HT_.out (by kernel_rfl)) (by decide) (fun K hK => ?_)
        refine goes9 Try.func58 (by kernel_rfl) rfl #[.slice Ao18 t109.length co18, .slice Ao43 t130.length co43] (by rfl) rfl rfl ?_
        with_reducible refine (rel_Or.calls _ _ t109 _ _ t130 t133 _ ?side1 ?side2 ?side3 ?side4 A31.out).mono ?_
        (case side1 => exact lp9 (Kd.R_reads' HO_126002.out).2.2)
        (case side2 => exact (Kd.R_reads' HO_126002.out).2.1)
        (case side3 => exact lp9 (Kd.R_reads' HO132.out).2.2)
        (case side4 => exact (Kd.R_reads' HO132.out).2.1)
        rintro e w44 ⟨v134, rfl, ho0, hb⟩
        refine ⟨_, rfl, ?_⟩
        have n0_ := a9_ (Kd.R_below (rp9 HO_126000.out) hb)
        have n1_ := a9_ (Kd.R_elder' (rp9 HO_126001.out) (Kd.R_base ho0) hb)
        have n2_ := a9_ (Kd.R_elder' (rp9 HO_126002.out) (Kd.R_base ho0) hb)
        have n3_ := a9_ (Kd.R_elder' (rp9 HO_126003.out) (Kd.R_base ho0) hb)
        have n4_ := a9_ (Kd.R_elder' (rp9 HO_126004.out) (Kd.R_base ho0) hb)
        have n5_ := a9_ (Kd.R_elder' (rp9 HO_126005.out) (Kd.R_base ho0) hb)
        have n6_ := a9_ (Kd.S_below (by (with_reducible repeat (first | apply Kd.S_alloc | apply Kd.S_drewN | apply Kd.S_drew)); exact HO_126006.out) hb)
        have n7_ := a9_ (Kd.R_elder' (rp9 HO129.out) (Kd.R_base ho0) hb)
        have n8_ := a9_ (Kd.R_elder' (rp9 HO132.out) (Kd.R_base ho0) hb)
        have n9_ := a9_ (Kd.R_lower (Kd.R_new' (Kd.R_new' (Kd.R_new' (Kd.R_new' (Kd.R_new' (Kd.R_new' (Kd.R_new' ho0 (Kd.R_lt (rp9 HO_126001.out))) (Kd.R_lt (rp9 HO_126002.out))) (Kd.R_lt (rp9 HO_126003.out))) (Kd.R_lt (rp9 HO_126004.out))) (Kd.R_lt (rp9 HO_126005.out))) (Kd.R_lt (rp9 HO129.out))) (Kd.R_lt (rp9 HO132.out))) (below_size (bp9 HB.out)))
        have n10_ := a9_ (blk_below (kp9 BK125.out) hb)
        have n11_ := a9_ (blk_below (kp9 BK126.out) hb)
        have n12_ := a9_ (below_step (bp9 HB.out) hb)
        clear HO_126000 HO_126001 HO_126002 HO_126003 HO_126004 HO_126005 HO_126006 HO129 HO132 BK125 BK126 HB
        revert n0_ n1_ n2_ n3_ n4_ n5_ n6_ n7_ n8_ n9_ n10_ n11_ n12_; intro HO_126000 HO_126001 HO_126002 HO_126003 HO_126004 HO_126005 HO_126006 HO129 HO132 HO135 BK125 BK126 HB
        (try clear hb)
        (try clear ho0)
        refine hK.out _ _ ⟨(blk_cell BK126.out 0).trans rfl, (blk_cell BK126.out 1).trans rfl, (blk_cell BK126.out 2).trans rfl, (blk_cell BK126.out 3).trans rfl, (blk_cell BK126.out 4).trans rfl, (blk_cell BK126.out 5).trans rfl, (blk_cell BK126.out 6).trans rfl⟩ (fun hHeld => ?_)
        clear hK K
        refine norm_ (a' := ?_) ?_ ?_
        rotate_left
        ·show Act.put _ (some 70) _ = _
         exact put9
        refine pureA 8 (some 13) ?_ #[i9, i9, i9, i9, i9, i9, i9, i9, i9] rfl rfl (any_of HT_.out (by kernel_rfl)) ?_ ?_ ?_ ?_
        rotate_left
        ·intro w'; go_simp; with_reducible rfl
        rotate_left
        ·exact put9
        refine done_ (done_of HT_.out (by kernel_rfl)) ?_
        obtain ⟨Ao45, co45, eo45⟩ := Kd.R_slice HO135.out
        subst eo45
        try go_wp2_with (first | ((with_reducible refine gate_callee (f := 38) rfl ?_); refine goesL9 (some 72) rfl rfl Try.func38 (by kernel_rfl) rfl #[.slice Ao45 t133.length co45] rfl ?_; (with_reducible refine (rel_Pairs.calls kj11 _ _ t133 t136 _ ?side1 ?side2 A32.out).mono ?_); (case side1 => exact lp9 (Kd.R_reads' HO135.out).2.2); (case side2 => exact (Kd.R_reads' HO135.out).2.1); rintro e w46 ⟨v137, rfl, ho0, hb⟩; refine ⟨_, rfl, ?_⟩; have n0_ := a9_ (Kd.R_below (rp9 HO_126000.out) hb); have n1_ := a9_ (Kd.R_below (rp9 HO_126001.out) hb); have n2_ := a9_ (Kd.R_below (rp9 HO_126002.out) hb); have n3_ := a9_ (Kd.R_below (rp9 HO_126003.out) hb); have n4_ := a9_ (Kd.R_below (rp9 HO_126004.out) hb); have n5_ := a9_ (Kd.R_below (rp9 HO_126005.out) hb); have n6_ := a9_ (Kd.S_below (by (with_reducible repeat (first | apply Kd.S_alloc | apply Kd.S_drewN | apply Kd.S_drew)); exact HO_126006.out) hb); have n7_ := a9_ (Kd.R_below (rp9 HO129.out) hb); have n8_ := a9_ (Kd.R_below (rp9 HO132.out) hb); have n9_ := a9_ (Kd.R_below (rp9 HO135.out) hb); have n10_ := a9_ (Kd.R_lower ho0 (below_size (bp9 HB.out))); have n11_ := a9_ (blk_below (kp9 BK125.out) hb); have n12_ := a9_ (blk_below (kp9 BK126.out) hb); have n13_ := a9_ (below_step (bp9 HB.out) hb); clear HO_126000; clear HO_126001; clear HO_126002; clear HO_126003; clear HO_126004; clear HO_126005; clear HO_126006; clear HO129; clear HO132; clear HO135; clear BK125; clear BK126; clear HB; have HO_126000 := n0_; have HO_126001 := n1_; have HO_126002 := n2_; have HO_126003 := n3_; have HO_126004 := n4_; have HO_126005 := n5_; have HO_126006 := n6_; have HO129 := n7_; have HO132 := n8_; have HO135 := n9_; have HO138 := n10_; have BK125 := n11_; have BK126 := n12_; have HB := n13_; clear n0_ n1_ n2_ n3_ n4_ n5_ n6_ n7_ n8_ n9_ n10_ n11_ n12_ n13_; (try clear hb); (try clear ho0)))
        go_loopg [14, 16] kj11 (fun kq v14 v16 w' => ∃ (x14_3 : Int) (x16_3 : Int), v14 = .int .u32 x14_3 ∧ v16 = .int .i64 x16_3 ∧ Aside0 (cupolalaw14_DobAlong.l1 kq l1 l2 t101 t127 x14_3 t136 x16_3 t103 t106 t109 t112 t115 t118 t121 = some r) ∧ Aside0 (kq ≤ kj11) ∧ Aside0 (Kd.R (Kd.int .u32) 52 w' w.heap.size (fun k_ => some k_ ≠ ((.slice Ao17 t106.length co17) : Value).ownBlock ∧ some k_ ≠ ((.slice Ao18 t109.length co18) : Value).ownBlock ∧ some k_ ≠ ((.slice Ao19 t112.length co19) : Value).ownBlock ∧ some k_ ≠ ((.slice Ao20 t115.length co20) : Value).ownBlock ∧ some k_ ≠ ((.slice Ao21 t118.length co21) : Value).ownBlock ∧ some k_ ≠ ((.slice Ao17 t106.length co17) : Value).ownBlock ∧ some k_ ≠ ((.slice Ao18 t109.length co18) : Value).ownBlock ∧ some k_ ≠ ((.slice Ao19 t112.length co19) : Value).ownBlock ∧ some k_ ≠ ((.slice Ao20 t115.length co20) : Value).ownBlock ∧ some k_ ≠ ((.slice Ao21 t118.length co21) : Value).ownBlock) v128 t127) ∧ Aside0 (Kd.R k46 46 w' w.heap.size (fun _ => True) v137 t136) ∧ Aside0 (Kd.R k26 26 w' w.heap.size (fun _ => True) (.slice Ao15 t103.length co15) t103) ∧ Aside0 (Kd.R (Kd.int .u32) 52 w' w.heap.size (fun k_ => some k_ ≠ (v128 : Value).ownBlock ∧ some k_ ≠ ((.slice Ao18 t109.length co18) : Value).ownBlock ∧ some k_ ≠ ((.slice Ao19 t112.length co19) : Value).ownBlock ∧ some k_ ≠ ((.slice Ao20 t115.length co20) : Value).ownBlock ∧ some k_ ≠ ((.slice Ao21 t118.length co21) : Value).ownBlock ∧ some k_ ≠ ((.slice Ao18 t109.length co18) : Value).ownBlock ∧ some k_ ≠ ((.slice Ao19 t112.length co19) : Value).ownBlock ∧ some k_ ≠ ((.slice Ao20 t115.length co20) : Value).ownBlock ∧ some k_ ≠ ((.slice Ao21 t118.length co21) : Value).ownBlock) (.slice Ao17 t106.length co17) t106) ∧ Aside0 (Kd.R (Kd.int .u32) 52 w' w.heap.size (fun k_ => some k_ ≠ (v128 : Value).ownBlock ∧ some k_ ≠ ((.slice Ao17 t106.length co17) : Value).ownBlock ∧ some k_ ≠ ((.slice Ao19 t112.length co19) : Value).ownBlock ∧ some k_ ≠ ((.slice Ao20 t115.length co20) : Value).ownBlock ∧ some k_ ≠ ((.slice Ao21 t118.length co21) : Value).ownBlock ∧ some k_ ≠ ((.slice Ao17 t106.length co17) : Value).ownBlock ∧ some k_ ≠ ((.slice Ao19 t112.length co19) : Value).ownBlock ∧ some k_ ≠ ((.slice Ao20 t115.length co20) : Value).ownBlock ∧ some k_ ≠ ((.slice Ao21 t118.length co21) : Value).ownBlock) (.slice Ao18 t109.length co18) t109) ∧ Aside0 (Kd.R (Kd.int .u32) 52 w' w.heap.size (fun k_ => some k_ ≠ (v128 : Value).ownBlock ∧ some k_ ≠ ((.slice Ao17 t106.length co17) : Value).ownBlock ∧ some k_ ≠ ((.slice Ao18 t109.length co18) : Value).ownBlock ∧ some k_ ≠ ((.slice Ao20 t115.length co20) : Value).ownBlock ∧ some k_ ≠ ((.slice Ao21 t118.length co21) : Value).ownBlock ∧ some k_ ≠ ((.slice Ao17 t106.length co17) : Value).ownBlock ∧ some k_ ≠ ((.slice Ao18 t109.length co18) : Value).ownBlock ∧ some k_ ≠ ((.slice Ao20 t115.length co20) : Value).ownBlock ∧ some k_ ≠ ((.slice Ao21 t118.length co21) : Value).ownBlock) (.slice Ao19 t112.length co19) t112) ∧ Aside0 (Kd.R (Kd.int .u32) 52 w' w.heap.size (fun k_ => some k_ ≠ (v128 : Value).ownBlock ∧ some k_ ≠ ((.slice Ao17 t106.length co17) : Value).ownBlock ∧ some k_ ≠ ((.slice Ao18 t109.length co18) : Value).ownBlock ∧ some k_ ≠ ((.slice Ao19 t112.length co19) : Value).ownBlock ∧ some k_ ≠ ((.slice Ao21 t118.length co21) : Value).ownBlock ∧ some k_ ≠ ((.slice Ao17 t106.length co17) : Value).ownBlock ∧ some k_ ≠ ((.slice Ao18 t109.length co18) : Value).ownBlock ∧ some k_ ≠ ((.slice Ao19 t112.length co19) : Value).ownBlock ∧ some k_ ≠ ((.slice Ao21 t118.length co21) : Value).ownBlock) (.slice Ao20 t115.length co20) t115) ∧ Aside0 (Kd.R (Kd.int .u32) 52 w' w.heap.size (fun k_ => some k_ ≠ (v128 : Value).ownBlock ∧ some k_ ≠ ((.slice Ao17 t106.length co17) : Value).ownBlock ∧ some k_ ≠ ((.slice Ao18 t109.length co18) : Value).ownBlock ∧ some k_ ≠ ((.slice Ao19 t112.length co19) : Value).ownBlock ∧ some k_ ≠ ((.slice Ao20 t115.length co20) : Value).ownBlock ∧ some k_ ≠ ((.slice Ao17 t106.length co17) : Value).ownBlock ∧ some k_ ≠ ((.slice Ao18 t109.length co18) : Value).ownBlock ∧ some k_ ≠ ((.slice Ao19 t112.length co19) : Value).ownBlock ∧ some k_ ≠ ((.slice Ao20 t115.length co20) : Value).ownBlock) (.slice Ao21 t118.length co21) t118) ∧ Aside0 (Kd.S (Kd.slice 2 (Kd.int .i64)) 23 w' w.heap.size (fun _ => True) (.slice Ao22 t121.length co22) t121) ∧ Aside0 (Kd.R k26 26 w' w.heap.size (fun _ => True) (.slice Ao15 t103.length co15) t103) ∧ Aside0 (Kd.R (Kd.int .u32) 52 w' w.heap.size (fun k_ => some k_ ≠ (v128 : Value).ownBlock ∧ some k_ ≠ ((.slice Ao18 t109.length co18) : Value).ownBlock ∧ some k_ ≠ ((.slice Ao19 t112.length co19) : Value).ownBlock ∧ some k_ ≠ ((.slice Ao20 t115.length co20) : Value).ownBlock ∧ some k_ ≠ ((.slice Ao21 t118.length co21) : Value).ownBlock ∧ some k_ ≠ ((.slice Ao18 t109.length co18) : Value).ownBlock ∧ some k_ ≠ ((.slice Ao19 t112.length co19) : Value).ownBlock ∧ some k_ ≠ ((.slice Ao20 t115.length co20) : Value).ownBlock ∧ some k_ ≠ ((.slice Ao21 t118.length co21) : Value).ownBlock) (.slice Ao17 t106.length co17) t106) ∧ Aside0 (Kd.R (Kd.int .u32) 52 w' w.heap.size (fun k_ => some k_ ≠ (v128 : Value).ownBlock ∧ some k_ ≠ ((.slice Ao17 t106.length co17) : Value).ownBlock ∧ some k_ ≠ ((.slice Ao19 t112.length co19) : Value).ownBlock ∧ some k_ ≠ ((.slice Ao20 t115.length co20) : Value).ownBlock ∧ some k_ ≠ ((.slice Ao21 t118.length co21) : Value).ownBlock ∧ some k_ ≠ ((.slice Ao17 t106.length co17) : Value).ownBlock ∧ some k_ ≠ ((.slice Ao19 t112.length co19) : Value).ownBlock ∧ some k_ ≠ ((.slice Ao20 t115.length co20) : Value).ownBlock ∧ some k_ ≠ ((.slice Ao21 t118.length co21) : Value).ownBlock) (.slice Ao18 t109.length co18) t109) ∧ Aside0 (Kd.R (Kd.int .u32) 52 w' w.heap.size (fun k_ => some k_ ≠ (v128 : Value).ownBlock ∧ some k_ ≠ ((.slice Ao17 t106.length co17) : Value).ownBlock ∧ some k_ ≠ ((.slice Ao18 t109.length co18) : Value).ownBlock ∧ some k_ ≠ ((.slice Ao20 t115.length co20) : Value).ownBlock ∧ some k_ ≠ ((.slice Ao21 t118.length co21) : Value).ownBlock ∧ some k_ ≠ ((.slice Ao17 t106.length co17) : Value).ownBlock ∧ some k_ ≠ ((.slice Ao18 t109.length co18) : Value).ownBlock ∧ some k_ ≠ ((.slice Ao20 t115.length co20) : Value).ownBlock ∧ some k_ ≠ ((.slice Ao21 t118.length co21) : Value).ownBlock) (.slice Ao19 t112.length co19) t112) ∧ Aside0 (Kd.R (Kd.int .u32) 52 w' w.heap.size (fun k_ => some k_ ≠ (v128 : Value).ownBlock ∧ some k_ ≠ ((.slice Ao17 t106.length co17) : Value).ownBlock ∧ some k_ ≠ ((.slice Ao18 t109.length co18) : Value).ownBlock ∧ some k_ ≠ ((.slice Ao19 t112.length co19) : Value).ownBlock ∧ some k_ ≠ ((.slice Ao21 t118.length co21) : Value).ownBlock ∧ some k_ ≠ ((.slice Ao17 t106.length co17) : Value).ownBlock ∧ some k_ ≠ ((.slice Ao18 t109.length co18) : Value).ownBlock ∧ some k_ ≠ ((.slice Ao19 t112.length co19) : Value).ownBlock ∧ some k_ ≠ ((.slice Ao21 t118.length co21) : Value).ownBlock) (.slice Ao20 t115.length co20) t115) ∧ Aside0 (Kd.R (Kd.int .u32) 52 w' w.heap.size (fun k_ => some k_ ≠ (v128 : Value).ownBlock ∧ some k_ ≠ ((.slice Ao17 t106.length co17) : Value).ownBlock ∧ some k_ ≠ ((.slice Ao18 t109.length co18) : Value).ownBlock ∧ some k_ ≠ ((.slice Ao19 t112.length co19) : Value).ownBlock ∧ some k_ ≠ ((.slice Ao20 t115.length co20) : Value).ownBlock ∧ some k_ ≠ ((.slice Ao17 t106.length co17) : Value).ownBlock ∧ some k_ ≠ ((.slice Ao18 t109.length co18) : Value).ownBlock ∧ some k_ ≠ ((.slice Ao19 t112.length co19) : Value).ownBlock ∧ some k_ ≠ ((.slice Ao20 t115.length co20) : Value).ownBlock) (.slice Ao21 t118.length co21) t118) ∧ Aside0 (Kd.S (Kd.slice 2 (Kd.int .i64)) 23 w' w.heap.size (fun _ => True) (.slice Ao22 t121.length co22) t121) ∧ Aside0 (w'.heap[gb125]? = some (.cells #[(.slice Ao15 t103.length co15), (.slice Ao17 t106.length co17), (.slice Ao18 t109.length co18), (.slice Ao19 t112.length co19), (.slice Ao20 t115.length co20), (.slice Ao21 t118.length co21), (.slice Ao22 t121.length co22)] 76 (0, 0))) ∧ Aside0 (w'.heap[gb126]? = some (.cells #[(.slice Ao15 t103.length co15), (.slice Ao17 t106.length co17), (.slice Ao18 t109.length co18), (.slice Ao19 t112.length co19), (.slice Ao20 t115.length co20), (.slice Ao21 t118.length co21), (.slice Ao22 t121.length co22)] 31 (0, 0))) ∧ Aside0 (Below w.heap.size w w'))
        case atStart => exact ⟨(0), (0), rs9, rs9, H', ⟨Nat.le_refl _⟩, ⟨by (with_reducible repeat (first | apply Kd.R_alloc | apply Kd.R_drewN | apply Kd.R_drew)); exact Kd.R_mono HO129.out (fun _ hk => ⟨hk.1.1.1.1.1.1.2, ⟨hk.1.1.1.1.1.2, ⟨hk.1.1.1.1.2, ⟨hk.1.1.1.2, ⟨hk.1.1.2, ⟨hk.1.1.1.1.1.1.2, ⟨hk.1.1.1.1.1.2, ⟨hk.1.1.1.1.2, ⟨hk.1.1.1.2, hk.1.1.2⟩⟩⟩⟩⟩⟩⟩⟩⟩)⟩, ⟨rp9 HO138.out⟩, ⟨rp9 HO_126000.out⟩, ⟨by (with_reducible repeat (first | apply Kd.R_alloc | apply Kd.R_drewN | apply Kd.R_drew)); exact Kd.R_mono HO_126001.out (fun _ hk => ⟨hk.1.1.2, ⟨hk.1.1.1.1, ⟨hk.1.1.1.2.1, ⟨hk.1.1.1.2.2.1, ⟨hk.1.1.1.2.2.2, ⟨hk.1.1.1.1, ⟨hk.1.1.1.2.1, ⟨hk.1.1.1.2.2.1, hk.1.1.1.2.2.2⟩⟩⟩⟩⟩⟩⟩⟩)⟩, ⟨by (with_reducible repeat (first | apply Kd.R_alloc | apply Kd.R_drewN | apply Kd.R_drew)); exact Kd.R_mono HO_126002.out (fun _ hk => ⟨hk.1.1.2, ⟨hk.1.1.1.1, ⟨hk.1.1.1.2.1, ⟨hk.1.1.1.2.2.1, ⟨hk.1.1.1.2.2.2, ⟨hk.1.1.1.1, ⟨hk.1.1.1.2.1, ⟨hk.1.1.1.2.2.1, hk.1.1.1.2.2.2⟩⟩⟩⟩⟩⟩⟩⟩)⟩, ⟨by (with_reducible repeat (first | apply Kd.R_alloc | apply Kd.R_drewN | apply Kd.R_drew)); exact Kd.R_mono HO_126003.out (fun _ hk => ⟨hk.1.1.2, ⟨hk.1.1.1.1, ⟨hk.1.1.1.2.1, ⟨hk.1.1.1.2.2.1, ⟨hk.1.1.1.2.2.2, ⟨hk.1.1.1.1, ⟨hk.1.1.1.2.1, ⟨hk.1.1.1.2.2.1, hk.1.1.1.2.2.2⟩⟩⟩⟩⟩⟩⟩⟩)⟩, ⟨by (with_reducible repeat (first | apply Kd.R_alloc | apply Kd.R_drewN | apply Kd.R_drew)); exact Kd.R_mono HO_126004.out (fun _ hk => ⟨hk.1.1.2, ⟨hk.1.1.1.1, ⟨hk.1.1.1.2.1, ⟨hk.1.1.1.2.2.1, ⟨hk.1.1.1.2.2.2, ⟨hk.1.1.1.1, ⟨hk.1.1.1.2.1, ⟨hk.1.1.1.2.2.1, hk.1.1.1.2.2.2⟩⟩⟩⟩⟩⟩⟩⟩)⟩, ⟨by (with_reducible repeat (first | apply Kd.R_alloc | apply Kd.R_drewN | apply Kd.R_drew)); exact Kd.R_mono HO_126005.out (fun _ hk => ⟨hk.1.1.2, ⟨hk.1.1.1.1, ⟨hk.1.1.1.2.1, ⟨hk.1.1.1.2.2.1, ⟨hk.1.1.1.2.2.2, ⟨hk.1.1.1.1, ⟨hk.1.1.1.2.1, ⟨hk.1.1.1.2.2.1, hk.1.1.1.2.2.2⟩⟩⟩⟩⟩⟩⟩⟩)⟩, ⟨by (with_reducible repeat (first | apply Kd.S_alloc | apply Kd.S_drewN | apply Kd.S_drew)); exact HO_126006.out⟩, ⟨rp9 HO_126000.out⟩, ⟨by (with_reducible repeat (first | apply Kd.R_alloc | apply Kd.R_drewN | apply Kd.R_drew)); exact Kd.R_mono HO_126001.out (fun _ hk => ⟨hk.1.1.2, ⟨hk.1.1.1.1, ⟨hk.1.1.1.2.1, ⟨hk.1.1.1.2.2.1, ⟨hk.1.1.1.2.2.2, ⟨hk.1.1.1.1, ⟨hk.1.1.1.2.1, ⟨hk.1.1.1.2.2.1, hk.1.1.1.2.2.2⟩⟩⟩⟩⟩⟩⟩⟩)⟩, ⟨by (with_reducible repeat (first | apply Kd.R_alloc | apply Kd.R_drewN | apply Kd.R_drew)); exact Kd.R_mono HO_126002.out (fun _ hk => ⟨hk.1.1.2, ⟨hk.1.1.1.1, ⟨hk.1.1.1.2.1, ⟨hk.1.1.1.2.2.1, ⟨hk.1.1.1.2.2.2, ⟨hk.1.1.1.1, ⟨hk.1.1.1.2.1, ⟨hk.1.1.1.2.2.1, hk.1.1.1.2.2.2⟩⟩⟩⟩⟩⟩⟩⟩)⟩, ⟨by (with_reducible repeat (first | apply Kd.R_alloc | apply Kd.R_drewN | apply Kd.R_drew)); exact Kd.R_mono HO_126003.out (fun _ hk => ⟨hk.1.1.2, ⟨hk.1.1.1.1, ⟨hk.1.1.1.2.1, ⟨hk.1.1.1.2.2.1, ⟨hk.1.1.1.2.2.2, ⟨hk.1.1.1.1, ⟨hk.1.1.1.2.1, ⟨hk.1.1.1.2.2.1, hk.1.1.1.2.2.2⟩⟩⟩⟩⟩⟩⟩⟩)⟩, ⟨by (with_reducible repeat (first | apply Kd.R_alloc | apply Kd.R_drewN | apply Kd.R_drew)); exact Kd.R_mono HO_126004.out (fun _ hk => ⟨hk.1.1.2, ⟨hk.1.1.1.1, ⟨hk.1.1.1.2.1, ⟨hk.1.1.1.2.2.1, ⟨hk.1.1.1.2.2.2, ⟨hk.1.1.1.1, ⟨hk.1.1.1.2.1, ⟨hk.1.1.1.2.2.1, hk.1.1.1.2.2.2⟩⟩⟩⟩⟩⟩⟩⟩)⟩, ⟨by (with_reducible repeat (first | apply Kd.R_alloc | apply Kd.R_drewN | apply Kd.R_drew)); exact Kd.R_mono HO_126005.out (fun _ hk => ⟨hk.1.1.2, ⟨hk.1.1.1.1, ⟨hk.1.1.1.2.1, ⟨hk.1.1.1.2.2.1, ⟨hk.1.1.1.2.2.2, ⟨hk.1.1.1.1, ⟨hk.1.1.1.2.1, ⟨hk.1.1.1.2.2.1, hk.1.1.1.2.2.2⟩⟩⟩⟩⟩⟩⟩⟩)⟩, ⟨by (with_reducible repeat (first | apply Kd.S_alloc | apply Kd.S_drewN | apply Kd.S_drew)); exact HO_126006.out⟩, ⟨kp9 BK125.out⟩, ⟨kp9 BK126.out⟩, ⟨bp9 HB.out⟩⟩
        case round =>
         clear H'
         try clear c1
         try clear p1
         try clear q1
         try clear hx1
         try clear c2
         try clear p2
         try clear c3
         try clear c5
         try clear c5b0
         try clear c5b1
         try clear p6
         try clear c7
         try clear c8
         try clear c8b0
         try clear c9
         try clear c9b0
         try clear c10
         try clear c10b0
         try clear c10b1
         try clear p10
         try clear q10
         try clear hx10
         try clear c23
         try clear c23b0
         try clear c23b1
         try clear c24
         try clear c24b0
         try clear c24b1
         try clear c24b2
         try clear c27
         try clear c36
         try clear c38
         try clear hcz16_0 hcz16_1 hcz16_2 hcz16_3 hcz16_4 hcz16_5 hcz16_6
         try clear hcz25_0 hcz25_1 hcz25_2 hcz25_3 hcz25_4 hcz25_5 hcz25_6
         try clear hcz26_0 hcz26_1 hcz26_2 hcz26_3 hcz26_4 hcz26_5 hcz26_6
         try clear hcz33_0 hcz33_1 hcz33_2 hcz33_3 hcz33_4 hcz33_5 hcz33_6
         try clear hcz37_0 hcz37_1 hcz37_2 hcz37_3 hcz37_4 hcz37_5 hcz37_6
         try clear hcz39_0 hcz39_1 hcz39_2 hcz39_3 hcz39_4 hcz39_5 hcz39_6
         try clear hfz16_0 hfz16_1 hfz16_2 hfz16_3 hfz16_4 hfz16_5 hfz16_6
         try clear hfz25_0 hfz25_1 hfz25_2 hfz25_3 hfz25_4 hfz25_5 hfz25_6
         try clear hfz26_0 hfz26_1 hfz26_2 hfz26_3 hfz26_4 hfz26_5 hfz26_6
         try clear hfz33_0 hfz33_1 hfz33_2 hfz33_3 hfz33_4 hfz33_5 hfz33_6
         try clear hfz37_0 hfz37_1 hfz37_2 hfz37_3 hfz37_4 hfz37_5 hfz37_6
         try clear hfz39_0 hfz39_1 hfz39_2 hfz39_3 hfz39_4 hfz39_5 hfz39_6
         try clear hx102_0
         try clear hx102_1
         try clear hx102_10
         try clear hx102_11
         try clear hx102_12
         try clear hx102_13
         try clear hx102_14
         try clear hx102_15
         try clear hx102_2
         try clear hx102_3
         try clear hx102_4
         try clear hx102_5
         try clear hx102_6
         try clear hx102_7
         try clear hx102_8
         try clear hx102_9
         try clear p1
         try clear p10
         try clear p102
         try clear p2
         try clear p6
         try clear q1
         try clear q10
         try clear q102
         obtain ⟨x14_3, x16_3, rfl, rfl, HA, HK3, HO_12, HO_15, HO_126000, HO_126001, HO_126002, HO_126003, HO_126004, HO_126005, HO_126006, HO_127000, HO_127001, HO_127002, HO_127003, HO_127004, HO_127005, HO_127006, BK125, BK126, HB⟩ := hrel
         cases gk with
         | zero => exact absurd HA.out (by simp [cupolalaw14_DobAlong.l1])
         | succ k3 =>
          have H := HA.out
          clear HA
          simp only [cupolalaw14_DobAlong.l1] at H
          by_cases c47 : x16_3 < (t136.length : Int)
          ·rw [if_pos c47] at H
           have c47b0 : decide (x16_3 < (t136.length : Int)) = true := decide_eq_true c47
           clear c47
           by_cases c48 : 0 ≤ x16_3
           ·rw [if_pos c48] at H
            have c48b0 : decide (0 ≤ x16_3) = true := decide_eq_true c48
            clear c48
            obtain ⟨ji49, hji49⟩ : ∃ j_ : Int, (IntKind.u64.wrap ((rd_T46 t136 x16_3).f0)) = j_ := ⟨_, rfl⟩
            replace H : (if 0 ≤ (ji49) then (cupolalaw14_DobAlong.l1 k3 l1 l2 t101 t127 (Go.bits .or .u32 x14_3 (shl .u32 1 (ji49))) t136 (wrap64 (x16_3 + 1)) t103 t106 t109 t112 t115 t118 t121) else (none)) = some r := by first | (rw [hji49] at H; exact H) | (simp only [hji49] at H ⊢; exact H)
            by_cases c50 : 0 ≤ (ji49)
            ·rw [if_pos c50] at H
             have c50b0 := eq_true c50
             have c50b1 : decide (0 ≤ (ji49)) = true := decide_eq_true c50
             clear c50
             obtain ⟨ji51, hji51⟩ : ∃ j_ : Int, (shl .u32 1 (ji49)) = j_ := ⟨_, rfl⟩
             replace H : (cupolalaw14_DobAlong.l1 k3 l1 l2 t101 t127 (Go.bits .or .u32 x14_3 (ji51)) t136 (wrap64 (x16_3 + 1)) t103 t106 t109 t112 t115 t118 t121) = some r := by first | (rw [hji51] at H; exact H) | (simp only [hji51] at H ⊢; exact H)
             have hji51_ : (IntKind.u32.wrap (1 * 2 ^ min (ji49).toNat 32)) = ji51 := hji51
             have hji51z : (ji49) ≤ 32 → (IntKind.u32.wrap (1 * 2 ^ (ji49).toNat)) = ji51 := shl_small hji51
             have hji51u : (IntKind.u32.wrap (2 ^ min (ji49).toNat 32)) = ji51 := by have h_ := hji51_; rw [Int.one_mul] at h_; exact h_
             have hji51v : (ji49) ≤ 32 → (IntKind.u32.wrap (2 ^ (ji49).toNat)) = ji51 := fun hle_ => by have h_ := hji51z hle_; rw [Int.one_mul] at h_; exact h_
             have H' := a9_ H
             clear H
             obtain ⟨Ao52, co52, eo52⟩ := Kd.R_slice HO_15.out
             subst eo52
             have p139 : 0 ≤ (x16_3 : Int) := of_decide_eq_true (by first | (with_reducible assumption) | assumption)
             have q139 : x16_3 < (t136.length : Int) := of_decide_eq_true (by first | (with_reducible assumption) | assumption)
             obtain ⟨ad139, e139, hx139_0, hx139_1⟩ := at_T46 (Kd.R_reads' HO_15.out).2.2 x16_3 p139 q139
             cases e139
             replace p139 := eq_true p139
             replace q139 := eq_true q139
             go_wp2
             go_roundg k3
             case measure => have := HK1.out; have := HJ11.out; have := HK3.out; omega
             case rel => exact ⟨(Go.bits .or .u32 x14_3 (ji51)), (wrap64 (x16_3 + 1)), (by first | rfl | (simp; done) | (simp only [← hji51] <;> (first | rfl | simp)) | (simp [*]; done)), rs9, H', ⟨by have := HK1.out; have := HJ11.out; have := HK3.out; omega⟩, ⟨rp9 HO_12.out⟩, ⟨rp9 HO_15.out⟩, ⟨rp9 HO_126000.out⟩, ⟨rp9 HO_126001.out⟩, ⟨rp9 HO_126002.out⟩, ⟨rp9 HO_126003.out⟩, ⟨rp9 HO_126004.out⟩, ⟨rp9 HO_126005.out⟩, ⟨by (with_reducible repeat (first | apply Kd.S_alloc | apply Kd.S_drewN | apply Kd.S_drew)); exact HO_126006.out⟩, ⟨rp9 HO_127000.out⟩, ⟨rp9 HO_127001.out⟩, ⟨rp9 HO_127002.out⟩, ⟨rp9 HO_127003.out⟩, ⟨rp9 HO_127004.out⟩, ⟨rp9 HO_127005.out⟩, ⟨by (with_reducible repeat (first | apply Kd.S_alloc | apply Kd.S_drewN | apply Kd.S_drew)); exact HO_127006.out⟩, ⟨kp9 BK125.out⟩, ⟨kp9 BK126.out⟩, ⟨bp9 HB.out⟩⟩
            ·rw [if_neg c50] at H
             exact absurd H (by simp)
           ·rw [if_neg c48] at H
            exact absurd H (by simp)
          ·rw [if_neg c47] at H
           have c47b0 : decide (x16_3 < (t136.length : Int)) = false := decide_eq_false c47
           clear c47
           have HC53 := a9_ H
           clear H
           obtain ⟨Ao54, co54, eo54⟩ := Kd.R_slice HO_15.out
           subst eo54
           go_upto_region 21 with (fail)
           go_cut [107] (fun v107 wc => ∃ (kq : Nat) (x107_52 : Bool), v107 = .bool x107_52 ∧ Aside0 (cupolalaw14_DobAlong.j3 kq l1 l2 t101 t127 x14_3 x107_52 t103 t106 t109 t112 t115 t118 t121 = some r) ∧ Aside0 (kq ≤ k3) ∧ Aside0 (Kd.R (Kd.int .u32) 52 wc w.heap.size (fun k_ => some k_ ≠ ((.slice Ao17 t106.length co17) : Value).ownBlock ∧ some k_ ≠ ((.slice Ao18 t109.length co18) : Value).ownBlock ∧ some k_ ≠ ((.slice Ao19 t112.length co19) : Value).ownBlock ∧ some k_ ≠ ((.slice Ao20 t115.length co20) : Value).ownBlock ∧ some k_ ≠ ((.slice Ao21 t118.length co21) : Value).ownBlock ∧ some k_ ≠ ((.slice Ao17 t106.length co17) : Value).ownBlock ∧ some k_ ≠ ((.slice Ao18 t109.length co18) : Value).ownBlock ∧ some k_ ≠ ((.slice Ao19 t112.length co19) : Value).ownBlock ∧ some k_ ≠ ((.slice Ao20 t115.length co20) : Value).ownBlock ∧ some k_ ≠ ((.slice Ao21 t118.length co21) : Value).ownBlock) v128 t127) ∧ Aside0 (Kd.R k26 26 wc w.heap.size (fun _ => True) (.slice Ao15 t103.length co15) t103) ∧ Aside0 (Kd.R (Kd.int .u32) 52 wc w.heap.size (fun k_ => some k_ ≠ (v128 : Value).ownBlock ∧ some k_ ≠ ((.slice Ao18 t109.length co18) : Value).ownBlock ∧ some k_ ≠ ((.slice Ao19 t112.length co19) : Value).ownBlock ∧ some k_ ≠ ((.slice Ao20 t115.length co20) : Value).ownBlock ∧ some k_ ≠ ((.slice Ao21 t118.length co21) : Value).ownBlock ∧ some k_ ≠ ((.slice Ao18 t109.length co18) : Value).ownBlock ∧ some k_ ≠ ((.slice Ao19 t112.length co19) : Value).ownBlock ∧ some k_ ≠ ((.slice Ao20 t115.length co20) : Value).ownBlock ∧ some k_ ≠ ((.slice Ao21 t118.length co21) : Value).ownBlock) (.slice Ao17 t106.length co17) t106) ∧ Aside0 (Kd.R (Kd.int .u32) 52 wc w.heap.size (fun k_ => some k_ ≠ (v128 : Value).ownBlock ∧ some k_ ≠ ((.slice Ao17 t106.length co17) : Value).ownBlock ∧ some k_ ≠ ((.slice Ao19 t112.length co19) : Value).ownBlock ∧ some k_ ≠ ((.slice Ao20 t115.length co20) : Value).ownBlock ∧ some k_ ≠ ((.slice Ao21 t118.length co21) : Value).ownBlock ∧ some k_ ≠ ((.slice Ao17 t106.length co17) : Value).ownBlock ∧ some k_ ≠ ((.slice Ao19 t112.length co19) : Value).ownBlock ∧ some k_ ≠ ((.slice Ao20 t115.length co20) : Value).ownBlock ∧ some k_ ≠ ((.slice Ao21 t118.length co21) : Value).ownBlock) (.slice Ao18 t109.length co18) t109) ∧ Aside0 (Kd.R (Kd.int .u32) 52 wc w.heap.size (fun k_ => some k_ ≠ (v128 : Value).ownBlock ∧ some k_ ≠ ((.slice Ao17 t106.length co17) : Value).ownBlock ∧ some k_ ≠ ((.slice Ao18 t109.length co18) : Value).ownBlock ∧ some k_ ≠ ((.slice Ao20 t115.length co20) : Value).ownBlock ∧ some k_ ≠ ((.slice Ao21 t118.length co21) : Value).ownBlock ∧ some k_ ≠ ((.slice Ao17 t106.length co17) : Value).ownBlock ∧ some k_ ≠ ((.slice Ao18 t109.length co18) : Value).ownBlock ∧ some k_ ≠ ((.slice Ao20 t115.length co20) : Value).ownBlock ∧ some k_ ≠ ((.slice Ao21 t118.length co21) : Value).ownBlock) (.slice Ao19 t112.length co19) t112) ∧ Aside0 (Kd.R (Kd.int .u32) 52 wc w.heap.size (fun k_ => some k_ ≠ (v128 : Value).ownBlock ∧ some k_ ≠ ((.slice Ao17 t106.length co17) : Value).ownBlock ∧ some k_ ≠ ((.slice Ao18 t109.length co18) : Value).ownBlock ∧ some k_ ≠ ((.slice Ao19 t112.length co19) : Value).ownBlock ∧ some k_ ≠ ((.slice Ao21 t118.length co21) : Value).ownBlock ∧ some k_ ≠ ((.slice Ao17 t106.length co17) : Value).ownBlock ∧ some k_ ≠ ((.slice Ao18 t109.length co18) : Value).ownBlock ∧ some k_ ≠ ((.slice Ao19 t112.length co19) : Value).ownBlock ∧ some k_ ≠ ((.slice Ao21 t118.length co21) : Value).ownBlock) (.slice Ao20 t115.length co20) t115) ∧ Aside0 (Kd.R (Kd.int .u32) 52 wc w.heap.size (fun k_ => some k_ ≠ (v128 : Value).ownBlock ∧ some k_ ≠ ((.slice Ao17 t106.length co17) : Value).ownBlock ∧ some k_ ≠ ((.slice Ao18 t109.length co18) : Value).ownBlock ∧ some k_ ≠ ((.slice Ao19 t112.length co19) : Value).ownBlock ∧ some k_ ≠ ((.slice Ao20 t115.length co20) : Value).ownBlock ∧ some k_ ≠ ((.slice Ao17 t106.length co17) : Value).ownBlock ∧ some k_ ≠ ((.slice Ao18 t109.length co18) : Value).ownBlock ∧ some k_ ≠ ((.slice Ao19 t112.length co19) : Value).ownBlock ∧ some k_ ≠ ((.slice Ao20 t115.length co20) : Value).ownBlock) (.slice Ao21 t118.length co21) t118) ∧ Aside0 (Kd.S (Kd.slice 2 (Kd.int .i64)) 23 wc w.heap.size (fun _ => True) (.slice Ao22 t121.length co22) t121) ∧ Aside0 (Kd.R k26 26 wc w.heap.size (fun _ => True) (.slice Ao15 t103.length co15) t103) ∧ Aside0 (Kd.R (Kd.int .u32) 52 wc w.heap.size (fun k_ => some k_ ≠ (v128 : Value).ownBlock ∧ some k_ ≠ ((.slice Ao18 t109.length co18) : Value).ownBlock ∧ some k_ ≠ ((.slice Ao19 t112.length co19) : Value).ownBlock ∧ some k_ ≠ ((.slice Ao20 t115.length co20) : Value).ownBlock ∧ some k_ ≠ ((.slice Ao21 t118.length co21) : Value).ownBlock ∧ some k_ ≠ ((.slice Ao18 t109.length co18) : Value).ownBlock ∧ some k_ ≠ ((.slice Ao19 t112.length co19) : Value).ownBlock ∧ some k_ ≠ ((.slice Ao20 t115.length co20) : Value).ownBlock ∧ some k_ ≠ ((.slice Ao21 t118.length co21) : Value).ownBlock) (.slice Ao17 t106.length co17) t106) ∧ Aside0 (Kd.R (Kd.int .u32) 52 wc w.heap.size (fun k_ => some k_ ≠ (v128 : Value).ownBlock ∧ some k_ ≠ ((.slice Ao17 t106.length co17) : Value).ownBlock ∧ some k_ ≠ ((.slice Ao19 t112.length co19) : Value).ownBlock ∧ some k_ ≠ ((.slice Ao20 t115.length co20) : Value).ownBlock ∧ some k_ ≠ ((.slice Ao21 t118.length co21) : Value).ownBlock ∧ some k_ ≠ ((.slice Ao17 t106.length co17) : Value).ownBlock ∧ some k_ ≠ ((.slice Ao19 t112.length co19) : Value).ownBlock ∧ some k_ ≠ ((.slice Ao20 t115.length co20) : Value).ownBlock ∧ some k_ ≠ ((.slice Ao21 t118.length co21) : Value).ownBlock) (.slice Ao18 t109.length co18) t109) ∧ Aside0 (Kd.R (Kd.int .u32) 52 wc w.heap.size (fun k_ => some k_ ≠ (v128 : Value).ownBlock ∧ some k_ ≠ ((.slice Ao17 t106.length co17) : Value).ownBlock ∧ some k_ ≠ ((.slice Ao18 t109.length co18) : Value).ownBlock ∧ some k_ ≠ ((.slice Ao20 t115.length co20) : Value).ownBlock ∧ some k_ ≠ ((.slice Ao21 t118.length co21) : Value).ownBlock ∧ some k_ ≠ ((.slice Ao17 t106.length co17) : Value).ownBlock ∧ some k_ ≠ ((.slice Ao18 t109.length co18) : Value).ownBlock ∧ some k_ ≠ ((.slice Ao20 t115.length co20) : Value).ownBlock ∧ some k_ ≠ ((.slice Ao21 t118.length co21) : Value).ownBlock) (.slice Ao19 t112.length co19) t112) ∧ Aside0 (Kd.R (Kd.int .u32) 52 wc w.heap.size (fun k_ => some k_ ≠ (v128 : Value).ownBlock ∧ some k_ ≠ ((.slice Ao17 t106.length co17) : Value).ownBlock ∧ some k_ ≠ ((.slice Ao18 t109.length co18) : Value).ownBlock ∧ some k_ ≠ ((.slice Ao19 t112.length co19) : Value).ownBlock ∧ some k_ ≠ ((.slice Ao21 t118.length co21) : Value).ownBlock ∧ some k_ ≠ ((.slice Ao17 t106.length co17) : Value).ownBlock ∧ some k_ ≠ ((.slice Ao18 t109.length co18) : Value).ownBlock ∧ some k_ ≠ ((.slice Ao19 t112.length co19) : Value).ownBlock ∧ some k_ ≠ ((.slice Ao21 t118.length co21) : Value).ownBlock) (.slice Ao20 t115.length co20) t115) ∧ Aside0 (Kd.R (Kd.int .u32) 52 wc w.heap.size (fun k_ => some k_ ≠ (v128 : Value).ownBlock ∧ some k_ ≠ ((.slice Ao17 t106.length co17) : Value).ownBlock ∧ some k_ ≠ ((.slice Ao18 t109.length co18) : Value).ownBlock ∧ some k_ ≠ ((.slice Ao19 t112.length co19) : Value).ownBlock ∧ some k_ ≠ ((.slice Ao20 t115.length co20) : Value).ownBlock ∧ some k_ ≠ ((.slice Ao17 t106.length co17) : Value).ownBlock ∧ some k_ ≠ ((.slice Ao18 t109.length co18) : Value).ownBlock ∧ some k_ ≠ ((.slice Ao19 t112.length co19) : Value).ownBlock ∧ some k_ ≠ ((.slice Ao20 t115.length co20) : Value).ownBlock) (.slice Ao21 t118.length co21) t118) ∧ Aside0 (Kd.S (Kd.slice 2 (Kd.int .i64)) 23 wc w.heap.size (fun _ => True) (.slice Ao22 t121.length co22) t121) ∧ Aside0 (wc.heap[gb125]? = some (.cells #[(.slice Ao15 t103.length co15), (.slice Ao17 t106.length co17), (.slice Ao18 t109.length co18), (.slice Ao19 t112.length co19), (.slice Ao20 t115.length co20), (.slice Ao21 t118.length co21), (.slice Ao22 t121.length co22)] 76 (0, 0))) ∧ Aside0 (wc.heap[gb126]? = some (.cells #[(.slice Ao15 t103.length co15), (.slice Ao17 t106.length co17), (.slice Ao18 t109.length co18), (.slice Ao19 t112.length co19), (.slice Ao20 t115.length co20), (.slice Ao21 t118.length co21), (.slice Ao22 t121.length co22)] 31 (0, 0))) ∧ Aside0 (Below w.heap.size w wc))
           case first =>
            have H := HC53.out
            clear HC53
            replace H := Option.bind_eq_some_iff.mp H
            obtain ⟨t140, A550, H⟩ := H
            have A55 := a9_ A550
            clear A550
            replace H := Option.bind_eq_some_iff.mp H
            obtain ⟨t143, A560, H⟩ := H
            have A56 := a9_ A560
            clear A560
            by_cases c57 : t143 = true
            ·subst c57
             rw [if_pos rfl] at H
             replace H := Option.bind_eq_some_iff.mp H
             obtain ⟨t144, A580, H⟩ := H
             have A58 := a9_ A580
             clear A580
             replace H := Option.bind_eq_some_iff.mp H
             obtain ⟨t147, A590, H⟩ := H
             have A59 := a9_ A590
             clear A590
             by_cases c60 : t147 = true
             ·subst c60
              rw [if_pos rfl] at H
              replace H := Option.bind_eq_some_iff.mp H
              obtain ⟨t148, A610, H⟩ := H
              have A61 := a9_ A610
              clear A610
              have H' := a9_ H
              clear H
              have hnb62 := NB126_125.out
              have hnc62 := NB125_126.out
              obtain ⟨hcz63_0, hcz63_1, hcz63_2, hcz63_3, hcz63_4, hcz63_5, hcz63_6, hfz63_0, hfz63_1, hfz63_2, hfz63_3, hfz63_4, hfz63_5, hfz63_6⟩ := cz7 BK126.out
              obtain ⟨Ao64, co64, eo64⟩ := Kd.R_slice HO_12.out
              subst eo64
              go_wp2_with (first | ((with_reducible refine gate_callee (f := 60) rfl ?_); refine goesL9 (some 91) rfl rfl Try.func60 (by kernel_rfl) rfl #[.slice Ao64 t127.length co64, .slice Ao17 t106.length co17] rfl ?_; (with_reducible refine (rel_And.calls _ _ t127 _ _ t106 t140 _ ?side1 ?side2 ?side3 ?side4 A55.out).mono ?_); (case side1 => exact lp9 (Kd.R_reads' HO_12.out).2.2); (case side2 => exact (Kd.R_reads' HO_12.out).2.1); (case side3 => exact lp9 (Kd.R_reads' HO_127001.out).2.2); (case side4 => exact (Kd.R_reads' HO_127001.out).2.1); rintro e w65 ⟨v141, rfl, ho0, hb⟩; refine ⟨_, rfl, ?_⟩; have n0_ := a9_ (Kd.R_elder' (rp9 HO_12.out) (Kd.R_base ho0) hb); have n1_ := a9_ (Kd.R_below (rp9 HO_15.out) hb); have n2_ := a9_ (Kd.R_below (rp9 HO_126000.out) hb); have n3_ := a9_ (Kd.R_elder' (rp9 HO_126001.out) (Kd.R_base ho0) hb); have n4_ := a9_ (Kd.R_elder' (rp9 HO_126002.out) (Kd.R_base ho0) hb); have n5_ := a9_ (Kd.R_elder' (rp9 HO_126003.out) (Kd.R_base ho0) hb); have n6_ := a9_ (Kd.R_elder' (rp9 HO_126004.out) (Kd.R_base ho0) hb); have n7_ := a9_ (Kd.R_elder' (rp9 HO_126005.out) (Kd.R_base ho0) hb); have n8_ := a9_ (Kd.S_below (by (with_reducible repeat (first | apply Kd.S_alloc | apply Kd.S_drewN | apply Kd.S_drew)); exact HO_126006.out) hb); have n9_ := a9_ (Kd.R_below (rp9 HO_127000.out) hb); have n10_ := a9_ (Kd.R_elder' (rp9 HO_127001.out) (Kd.R_base ho0) hb); have n11_ := a9_ (Kd.R_elder' (rp9 HO_127002.out) (Kd.R_base ho0) hb); have n12_ := a9_ (Kd.R_elder' (rp9 HO_127003.out) (Kd.R_base ho0) hb); have n13_ := a9_ (Kd.R_elder' (rp9 HO_127004.out) (Kd.R_base ho0) hb); have n14_ := a9_ (Kd.R_elder' (rp9 HO_127005.out) (Kd.R_base ho0) hb); have n15_ := a9_ (Kd.S_below (by (with_reducible repeat (first | apply Kd.S_alloc | apply Kd.S_drewN | apply Kd.S_drew)); exact HO_127006.out) hb); have n16_ := a9_ (Kd.R_lower (Kd.R_new' (Kd.R_new' (Kd.R_new' (Kd.R_new' (Kd.R_new' (Kd.R_new' (Kd.R_new' (Kd.R_new' (Kd.R_new' (Kd.R_new' (Kd.R_new' ho0 (Kd.R_lt (rp9 HO_12.out))) (Kd.R_lt (rp9 HO_126001.out))) (Kd.R_lt (rp9 HO_126002.out))) (Kd.R_lt (rp9 HO_126003.out))) (Kd.R_lt (rp9 HO_126004.out))) (Kd.R_lt (rp9 HO_126005.out))) (Kd.R_lt (rp9 HO_127001.out))) (Kd.R_lt (rp9 HO_127002.out))) (Kd.R_lt (rp9 HO_127003.out))) (Kd.R_lt (rp9 HO_127004.out))) (Kd.R_lt (rp9 HO_127005.out))) (below_size (bp9 HB.out))); have n17_ := a9_ (blk_below (kp9 BK125.out) hb); have n18_ := a9_ (blk_below (kp9 BK126.out) hb); have n19_ := a9_ (below_step (bp9 HB.out) hb); clear HO_12; clear HO_15; clear HO_126000; clear HO_126001; clear HO_126002; clear HO_126003; clear HO_126004; clear HO_126005; clear HO_126006; clear HO_127000; clear HO_127001; clear HO_127002; clear HO_127003; clear HO_127004; clear HO_127005; clear HO_127006; clear BK125; clear BK126; clear HB; have HO_12 := n0_; have HO_15 := n1_; have HO_126000 := n2_; have HO_126001 := n3_; have HO_126002 := n4_; have HO_126003 := n5_; have HO_126004 := n6_; have HO_126005 := n7_; have HO_126006 := n8_; have HO_127000 := n9_; have HO_127001 := n10_; have HO_127002 := n11_; have HO_127003 := n12_; have HO_127004 := n13_; have HO_127005 := n14_; have HO_127006 := n15_; have HO142 := n16_; have BK125 := n17_; have BK126 := n18_; have HB := n19_; clear n0_ n1_ n2_ n3_ n4_ n5_ n6_ n7_ n8_ n9_ n10_ n11_ n12_ n13_ n14_ n15_ n16_ n17_ n18_ n19_; (try clear hb); (try clear ho0); obtain ⟨Ao66, co66, eo66⟩ := Kd.R_slice HO142.out; subst eo66) | ((with_reducible refine gate_callee (f := 41) rfl ?_); refine goesL9 (some 93) rfl rfl Try.func41 (by kernel_rfl) rfl #[.slice Ao66 t140.length co66, .slice Ao64 t127.length co64] rfl ?_; (with_reducible refine (rel_Same.calls k3 _ _ t140 _ _ t127 true _ ?side1 ?side2 ?side3 ?side4 A56.out).mono ?_); (case side1 => exact lp9 (Kd.R_reads' HO142.out).2.2); (case side2 => exact (Kd.R_reads' HO142.out).2.1); (case side3 => exact lp9 (Kd.R_reads' HO_12.out).2.2); (case side4 => exact (Kd.R_reads' HO_12.out).2.1); rintro e w67 ⟨rfl, hb⟩; refine ⟨_, rfl, ?_⟩; have n0_ := a9_ (Kd.R_below (rp9 HO_12.out) hb); have n1_ := a9_ (Kd.R_below (rp9 HO_15.out) hb); have n2_ := a9_ (Kd.R_below (rp9 HO_126000.out) hb); have n3_ := a9_ (Kd.R_below (rp9 HO_126001.out) hb); have n4_ := a9_ (Kd.R_below (rp9 HO_126002.out) hb); have n5_ := a9_ (Kd.R_below (rp9 HO_126003.out) hb); have n6_ := a9_ (Kd.R_below (rp9 HO_126004.out) hb); have n7_ := a9_ (Kd.R_below (rp9 HO_126005.out) hb); have n8_ := a9_ (Kd.S_below (by (with_reducible repeat (first | apply Kd.S_alloc | apply Kd.S_drewN | apply Kd.S_drew)); exact HO_126006.out) hb); have n9_ := a9_ (Kd.R_below (rp9 HO_127000.out) hb); have n10_ := a9_ (Kd.R_below (rp9 HO_127001.out) hb); have n11_ := a9_ (Kd.R_below (rp9 HO_127002.out) hb); have n12_ := a9_ (Kd.R_below (rp9 HO_127003.out) hb); have n13_ := a9_ (Kd.R_below (rp9 HO_127004.out) hb); have n14_ := a9_ (Kd.R_below (rp9 HO_127005.out) hb); have n15_ := a9_ (Kd.S_below (by (with_reducible repeat (first | apply Kd.S_alloc | apply Kd.S_drewN | apply Kd.S_drew)); exact HO_127006.out) hb); have n16_ := a9_ (Kd.R_below (rp9 HO142.out) hb); have n17_ := a9_ (blk_below (kp9 BK125.out) hb); have n18_ := a9_ (blk_below (kp9 BK126.out) hb); have n19_ := a9_ (below_step (bp9 HB.out) hb); clear HO_12; clear HO_15; clear HO_126000; clear HO_126001; clear HO_126002; clear HO_126003; clear HO_126004; clear HO_126005; clear HO_126006; clear HO_127000; clear HO_127001; clear HO_127002; clear HO_127003; clear HO_127004; clear HO_127005; clear HO_127006; clear HO142; clear BK125; clear BK126; clear HB; have HO_12 := n0_; have HO_15 := n1_; have HO_126000 := n2_; have HO_126001 := n3_; have HO_126002 := n4_; have HO_126003 := n5_; have HO_126004 := n6_; have HO_126005 := n7_; have HO_126006 := n8_; have HO_127000 := n9_; have HO_127001 := n10_; have HO_127002 := n11_; have HO_127003 := n12_; have HO_127004 := n13_; have HO_127005 := n14_; have HO_127006 := n15_; have HO142 := n16_; have BK125 := n17_; have BK126 := n18_; have HB := n19_; clear n0_ n1_ n2_ n3_ n4_ n5_ n6_ n7_ n8_ n9_ n10_ n11_ n12_ n13_ n14_ n15_ n16_ n17_ n18_ n19_; (try clear hb); (try clear hi)) | (go_at_call 54; (with_reducible refine (rel_Only.calls k3 _ _ t127 x14_3 4294967295 t144 _ ?side1 ?side2 A58.out).mono ?_); (case side1 => exact lp9 (Kd.R_reads' HO_12.out).2.2); (case side2 => exact (Kd.R_reads' HO_12.out).2.1); rintro e w68 ⟨v145, rfl, ho0, hb⟩; have n0_ := a9_ (Kd.R_elder' (rp9 HO_12.out) (Kd.R_base ho0) hb); have n1_ := a9_ (Kd.R_below (rp9 HO_15.out) hb); have n2_ := a9_ (Kd.R_below (rp9 HO_126000.out) hb); have n3_ := a9_ (Kd.R_elder' (rp9 HO_126001.out) (Kd.R_base ho0) hb); have n4_ := a9_ (Kd.R_elder' (rp9 HO_126002.out) (Kd.R_base ho0) hb); have n5_ := a9_ (Kd.R_elder' (rp9 HO_126003.out) (Kd.R_base ho0) hb); have n6_ := a9_ (Kd.R_elder' (rp9 HO_126004.out) (Kd.R_base ho0) hb); have n7_ := a9_ (Kd.R_elder' (rp9 HO_126005.out) (Kd.R_base ho0) hb); have n8_ := a9_ (Kd.S_below (by (with_reducible repeat (first | apply Kd.S_alloc | apply Kd.S_drewN | apply Kd.S_drew)); exact HO_126006.out) hb); have n9_ := a9_ (Kd.R_below (rp9 HO_127000.out) hb); have n10_ := a9_ (Kd.R_elder' (rp9 HO_127001.out) (Kd.R_base ho0) hb); have n11_ := a9_ (Kd.R_elder' (rp9 HO_127002.out) (Kd.R_base ho0) hb); have n12_ := a9_ (Kd.R_elder' (rp9 HO_127003.out) (Kd.R_base ho0) hb); have n13_ := a9_ (Kd.R_elder' (rp9 HO_127004.out) (Kd.R_base ho0) hb); have n14_ := a9_ (Kd.R_elder' (rp9 HO_127005.out) (Kd.R_base ho0) hb); have n15_ := a9_ (Kd.S_below (by (with_reducible repeat (first | apply Kd.S_alloc | apply Kd.S_drewN | apply Kd.S_drew)); exact HO_127006.out) hb); have n16_ := a9_ (Kd.R_elder' (rp9 HO142.out) (Kd.R_base ho0) hb); have n17_ := a9_ (Kd.R_lower (Kd.R_new' (Kd.R_new' (Kd.R_new' (Kd.R_new' (Kd.R_new' (Kd.R_new' (Kd.R_new' (Kd.R_new' (Kd.R_new' (Kd.R_new' (Kd.R_new' (Kd.R_new' ho0 (Kd.R_lt (rp9 HO_12.out))) (Kd.R_lt (rp9 HO_126001.out))) (Kd.R_lt (rp9 HO_126002.out))) (Kd.R_lt (rp9 HO_126003.out))) (Kd.R_lt (rp9 HO_126004.out))) (Kd.R_lt (rp9 HO_126005.out))) (Kd.R_lt (rp9 HO_127001.out))) (Kd.R_lt (rp9 HO_127002.out))) (Kd.R_lt (rp9 HO_127003.out))) (Kd.R_lt (rp9 HO_127004.out))) (Kd.R_lt (rp9 HO_127005.out))) (Kd.R_lt (rp9 HO142.out))) (below_size (bp9 HB.out))); have n18_ := a9_ (blk_below (kp9 BK125.out) hb); have n19_ := a9_ (blk_below (kp9 BK126.out) hb); have n20_ := a9_ (below_step (bp9 HB.out) hb); clear HO_12; clear HO_15; clear HO_126000; clear HO_126001; clear HO_126002; clear HO_126003; clear HO_126004; clear HO_126005; clear HO_126006; clear HO_127000; clear HO_127001; clear HO_127002; clear HO_127003; clear HO_127004; clear HO_127005; clear HO_127006; clear HO142; clear BK125; clear BK126; clear HB; have HO_12 := n0_; have HO_15 := n1_; have HO_126000 := n2_; have HO_126001 := n3_; have HO_126002 := n4_; have HO_126003 := n5_; have HO_126004 := n6_; have HO_126005 := n7_; have HO_126006 := n8_; have HO_127000 := n9_; have HO_127001 := n10_; have HO_127002 := n11_; have HO_127003 := n12_; have HO_127004 := n13_; have HO_127005 := n14_; have HO_127006 := n15_; have HO142 := n16_; have HO146 := n17_; have BK125 := n18_; have BK126 := n19_; have HB := n20_; clear n0_ n1_ n2_ n3_ n4_ n5_ n6_ n7_ n8_ n9_ n10_ n11_ n12_ n13_ n14_ n15_ n16_ n17_ n18_ n19_ n20_; (try clear hb); (try clear ho0); obtain ⟨Ao69, co69, eo69⟩ := Kd.R_slice HO146.out; subst eo69) | (go_at_call 41; (with_reducible refine (rel_Same.calls k3 _ _ t144 _ _ t127 true _ ?side1 ?side2 ?side3 ?side4 A59.out).mono ?_); (case side1 => exact lp9 (Kd.R_reads' HO146.out).2.2); (case side2 => exact (Kd.R_reads' HO146.out).2.1); (case side3 => exact lp9 (Kd.R_reads' HO_12.out).2.2); (case side4 => exact (Kd.R_reads' HO_12.out).2.1); rintro e w70 ⟨rfl, hb⟩; have n0_ := a9_ (Kd.R_below (rp9 HO_12.out) hb); have n1_ := a9_ (Kd.R_below (rp9 HO_15.out) hb); have n2_ := a9_ (Kd.R_below (rp9 HO_126000.out) hb); have n3_ := a9_ (Kd.R_below (rp9 HO_126001.out) hb); have n4_ := a9_ (Kd.R_below (rp9 HO_126002.out) hb); have n5_ := a9_ (Kd.R_below (rp9 HO_126003.out) hb); have n6_ := a9_ (Kd.R_below (rp9 HO_126004.out) hb); have n7_ := a9_ (Kd.R_below (rp9 HO_126005.out) hb); have n8_ := a9_ (Kd.S_below (by (with_reducible repeat (first | apply Kd.S_alloc | apply Kd.S_drewN | apply Kd.S_drew)); exact HO_126006.out) hb); have n9_ := a9_ (Kd.R_below (rp9 HO_127000.out) hb); have n10_ := a9_ (Kd.R_below (rp9 HO_127001.out) hb); have n11_ := a9_ (Kd.R_below (rp9 HO_127002.out) hb); have n12_ := a9_ (Kd.R_below (rp9 HO_127003.out) hb); have n13_ := a9_ (Kd.R_below (rp9 HO_127004.out) hb); have n14_ := a9_ (Kd.R_below (rp9 HO_127005.out) hb); have n15_ := a9_ (Kd.S_below (by (with_reducible repeat (first | apply Kd.S_alloc | apply Kd.S_drewN | apply Kd.S_drew)); exact HO_127006.out) hb); have n16_ := a9_ (Kd.R_below (rp9 HO142.out) hb); have n17_ := a9_ (Kd.R_below (rp9 HO146.out) hb); have n18_ := a9_ (blk_below (kp9 BK125.out) hb); have n19_ := a9_ (blk_below (kp9 BK126.out) hb); have n20_ := a9_ (below_step (bp9 HB.out) hb); clear HO_12; clear HO_15; clear HO_126000; clear HO_126001; clear HO_126002; clear HO_126003; clear HO_126004; clear HO_126005; clear HO_126006; clear HO_127000; clear HO_127001; clear HO_127002; clear HO_127003; clear HO_127004; clear HO_127005; clear HO_127006; clear HO142; clear HO146; clear BK125; clear BK126; clear HB; have HO_12 := n0_; have HO_15 := n1_; have HO_126000 := n2_; have HO_126001 := n3_; have HO_126002 := n4_; have HO_126003 := n5_; have HO_126004 := n6_; have HO_126005 := n7_; have HO_126006 := n8_; have HO_127000 := n9_; have HO_127001 := n10_; have HO_127002 := n11_; have HO_127003 := n12_; have HO_127004 := n13_; have HO_127005 := n14_; have HO_127006 := n15_; have HO142 := n16_; have HO146 := n17_; have BK125 := n18_; have BK126 := n19_; have HB := n20_; clear n0_ n1_ n2_ n3_ n4_ n5_ n6_ n7_ n8_ n9_ n10_ n11_ n12_ n13_ n14_ n15_ n16_ n17_ n18_ n19_ n20_; (try clear hb); (try clear hi)) | (go_at_call 44; (with_reducible refine (rel_Acyclic.calls k3 _ _ t127 t148 _ ?side1 ?side2 A61.out).mono ?_); (case side1 => exact lp9 (Kd.R_reads' HO_12.out).2.2); (case side2 => exact (Kd.R_reads' HO_12.out).2.1); rintro e w71 ⟨rfl, hb⟩; have n0_ := a9_ (Kd.R_below (rp9 HO_12.out) hb); have n1_ := a9_ (Kd.R_below (rp9 HO_15.out) hb); have n2_ := a9_ (Kd.R_below (rp9 HO_126000.out) hb); have n3_ := a9_ (Kd.R_below (rp9 HO_126001.out) hb); have n4_ := a9_ (Kd.R_below (rp9 HO_126002.out) hb); have n5_ := a9_ (Kd.R_below (rp9 HO_126003.out) hb); have n6_ := a9_ (Kd.R_below (rp9 HO_126004.out) hb); have n7_ := a9_ (Kd.R_below (rp9 HO_126005.out) hb); have n8_ := a9_ (Kd.S_below (by (with_reducible repeat (first | apply Kd.S_alloc | apply Kd.S_drewN | apply Kd.S_drew)); exact HO_126006.out) hb); have n9_ := a9_ (Kd.R_below (rp9 HO_127000.out) hb); have n10_ := a9_ (Kd.R_below (rp9 HO_127001.out) hb); have n11_ := a9_ (Kd.R_below (rp9 HO_127002.out) hb); have n12_ := a9_ (Kd.R_below (rp9 HO_127003.out) hb); have n13_ := a9_ (Kd.R_below (rp9 HO_127004.out) hb); have n14_ := a9_ (Kd.R_below (rp9 HO_127005.out) hb); have n15_ := a9_ (Kd.S_below (by (with_reducible repeat (first | apply Kd.S_alloc | apply Kd.S_drewN | apply Kd.S_drew)); exact HO_127006.out) hb); have n16_ := a9_ (Kd.R_below (rp9 HO142.out) hb); have n17_ := a9_ (Kd.R_below (rp9 HO146.out) hb); have n18_ := a9_ (blk_below (kp9 BK125.out) hb); have n19_ := a9_ (blk_below (kp9 BK126.out) hb); have n20_ := a9_ (below_step (bp9 HB.out) hb); clear HO_12; clear HO_15; clear HO_126000; clear HO_126001; clear HO_126002; clear HO_126003; clear HO_126004; clear HO_126005; clear HO_126006; clear HO_127000; clear HO_127001; clear HO_127002; clear HO_127003; clear HO_127004; clear HO_127005; clear HO_127006; clear HO142; clear HO146; clear BK125; clear BK126; clear HB; have HO_12 := n0_; have HO_15 := n1_; have HO_126000 := n2_; have HO_126001 := n3_; have HO_126002 := n4_; have HO_126003 := n5_; have HO_126004 := n6_; have HO_126005 := n7_; have HO_126006 := n8_; have HO_127000 := n9_; have HO_127001 := n10_; have HO_127002 := n11_; have HO_127003 := n12_; have HO_127004 := n13_; have HO_127005 := n14_; have HO_127006 := n15_; have HO142 := n16_; have HO146 := n17_; have BK125 := n18_; have BK126 := n19_; have HB := n20_; clear n0_ n1_ n2_ n3_ n4_ n5_ n6_ n7_ n8_ n9_ n10_ n11_ n12_ n13_ n14_ n15_ n16_ n17_ n18_ n19_ n20_; (try clear hb); (try clear hi)))
              go_meet
              case rel => exact ⟨_, (!t148), rs9, H', ⟨by have := HK1.out; have := HJ11.out; have := HK3.out; first | omega | exact Nat.le_refl _⟩, ⟨by (with_reducible repeat (first | apply Kd.R_alloc | apply Kd.R_drewN | apply Kd.R_drew)); exact Kd.R_mono HO_12.out (fun _ hk => ⟨hk.1.1.1, ⟨hk.1.1.2.1, ⟨hk.1.1.2.2.1, ⟨hk.1.1.2.2.2.1, ⟨hk.1.1.2.2.2.2.1, ⟨hk.1.1.2.2.2.2.2.1, ⟨hk.1.1.2.2.2.2.2.2.1, ⟨hk.1.1.2.2.2.2.2.2.2.1, ⟨hk.1.1.2.2.2.2.2.2.2.2.1, hk.1.1.2.2.2.2.2.2.2.2.2⟩⟩⟩⟩⟩⟩⟩⟩⟩)⟩, ⟨rp9 HO_126000.out⟩, ⟨by (with_reducible repeat (first | apply Kd.R_alloc | apply Kd.R_drewN | apply Kd.R_drew)); exact Kd.R_mono HO_126001.out (fun _ hk => ⟨hk.1.1.1, ⟨hk.1.1.2.1, ⟨hk.1.1.2.2.1, ⟨hk.1.1.2.2.2.1, ⟨hk.1.1.2.2.2.2.1, ⟨hk.1.1.2.2.2.2.2.1, ⟨hk.1.1.2.2.2.2.2.2.1, ⟨hk.1.1.2.2.2.2.2.2.2.1, hk.1.1.2.2.2.2.2.2.2.2⟩⟩⟩⟩⟩⟩⟩⟩)⟩, ⟨by (with_reducible repeat (first | apply Kd.R_alloc | apply Kd.R_drewN | apply Kd.R_drew)); exact Kd.R_mono HO_126002.out (fun _ hk => ⟨hk.1.1.1, ⟨hk.1.1.2.1, ⟨hk.1.1.2.2.1, ⟨hk.1.1.2.2.2.1, ⟨hk.1.1.2.2.2.2.1, ⟨hk.1.1.2.2.2.2.2.1, ⟨hk.1.1.2.2.2.2.2.2.1, ⟨hk.1.1.2.2.2.2.2.2.2.1, hk.1.1.2.2.2.2.2.2.2.2⟩⟩⟩⟩⟩⟩⟩⟩)⟩, ⟨by (with_reducible repeat (first | apply Kd.R_alloc | apply Kd.R_drewN | apply Kd.R_drew)); exact Kd.R_mono HO_126003.out (fun _ hk => ⟨hk.1.1.1, ⟨hk.1.1.2.1, ⟨hk.1.1.2.2.1, ⟨hk.1.1.2.2.2.1, ⟨hk.1.1.2.2.2.2.1, ⟨hk.1.1.2.2.2.2.2.1, ⟨hk.1.1.2.2.2.2.2.2.1, ⟨hk.1.1.2.2.2.2.2.2.2.1, hk.1.1.2.2.2.2.2.2.2.2⟩⟩⟩⟩⟩⟩⟩⟩)⟩, ⟨by (with_reducible repeat (first | apply Kd.R_alloc | apply Kd.R_drewN | apply Kd.R_drew)); exact Kd.R_mono HO_126004.out (fun _ hk => ⟨hk.1.1.1, ⟨hk.1.1.2.1, ⟨hk.1.1.2.2.1, ⟨hk.1.1.2.2.2.1, ⟨hk.1.1.2.2.2.2.1, ⟨hk.1.1.2.2.2.2.2.1, ⟨hk.1.1.2.2.2.2.2.2.1, ⟨hk.1.1.2.2.2.2.2.2.2.1, hk.1.1.2.2.2.2.2.2.2.2⟩⟩⟩⟩⟩⟩⟩⟩)⟩, ⟨by (with_reducible repeat (first | apply Kd.R_alloc | apply Kd.R_drewN | apply Kd.R_drew)); exact Kd.R_mono HO_126005.out (fun _ hk => ⟨hk.1.1.1, ⟨hk.1.1.2.1, ⟨hk.1.1.2.2.1, ⟨hk.1.1.2.2.2.1, ⟨hk.1.1.2.2.2.2.1, ⟨hk.1.1.2.2.2.2.2.1, ⟨hk.1.1.2.2.2.2.2.2.1, ⟨hk.1.1.2.2.2.2.2.2.2.1, hk.1.1.2.2.2.2.2.2.2.2⟩⟩⟩⟩⟩⟩⟩⟩)⟩, ⟨by (with_reducible repeat (first | apply Kd.S_alloc | apply Kd.S_drewN | apply Kd.S_drew)); exact HO_126006.out⟩, ⟨rp9 HO_127000.out⟩, ⟨by (with_reducible repeat (first | apply Kd.R_alloc | apply Kd.R_drewN | apply Kd.R_drew)); exact Kd.R_mono HO_127001.out (fun _ hk => ⟨hk.1.1.1, ⟨hk.1.1.2.1, ⟨hk.1.1.2.2.1, ⟨hk.1.1.2.2.2.1, ⟨hk.1.1.2.2.2.2.1, ⟨hk.1.1.2.2.2.2.2.1, ⟨hk.1.1.2.2.2.2.2.2.1, ⟨hk.1.1.2.2.2.2.2.2.2.1, hk.1.1.2.2.2.2.2.2.2.2⟩⟩⟩⟩⟩⟩⟩⟩)⟩, ⟨by (with_reducible repeat (first | apply Kd.R_alloc | apply Kd.R_drewN | apply Kd.R_drew)); exact Kd.R_mono HO_127002.out (fun _ hk => ⟨hk.1.1.1, ⟨hk.1.1.2.1, ⟨hk.1.1.2.2.1, ⟨hk.1.1.2.2.2.1, ⟨hk.1.1.2.2.2.2.1, ⟨hk.1.1.2.2.2.2.2.1, ⟨hk.1.1.2.2.2.2.2.2.1, ⟨hk.1.1.2.2.2.2.2.2.2.1, hk.1.1.2.2.2.2.2.2.2.2⟩⟩⟩⟩⟩⟩⟩⟩)⟩, ⟨by (with_reducible repeat (first | apply Kd.R_alloc | apply Kd.R_drewN | apply Kd.R_drew)); exact Kd.R_mono HO_127003.out (fun _ hk => ⟨hk.1.1.1, ⟨hk.1.1.2.1, ⟨hk.1.1.2.2.1, ⟨hk.1.1.2.2.2.1, ⟨hk.1.1.2.2.2.2.1, ⟨hk.1.1.2.2.2.2.2.1, ⟨hk.1.1.2.2.2.2.2.2.1, ⟨hk.1.1.2.2.2.2.2.2.2.1, hk.1.1.2.2.2.2.2.2.2.2⟩⟩⟩⟩⟩⟩⟩⟩)⟩, ⟨by (with_reducible repeat (first | apply Kd.R_alloc | apply Kd.R_drewN | apply Kd.R_drew)); exact Kd.R_mono HO_127004.out (fun _ hk => ⟨hk.1.1.1, ⟨hk.1.1.2.1, ⟨hk.1.1.2.2.1, ⟨hk.1.1.2.2.2.1, ⟨hk.1.1.2.2.2.2.1, ⟨hk.1.1.2.2.2.2.2.1, ⟨hk.1.1.2.2.2.2.2.2.1, ⟨hk.1.1.2.2.2.2.2.2.2.1, hk.1.1.2.2.2.2.2.2.2.2⟩⟩⟩⟩⟩⟩⟩⟩)⟩, ⟨by (with_reducible repeat (first | apply Kd.R_alloc | apply Kd.R_drewN | apply Kd.R_drew)); exact Kd.R_mono HO_127005.out (fun _ hk => ⟨hk.1.1.1, ⟨hk.1.1.2.1, ⟨hk.1.1.2.2.1, ⟨hk.1.1.2.2.2.1, ⟨hk.1.1.2.2.2.2.1, ⟨hk.1.1.2.2.2.2.2.1, ⟨hk.1.1.2.2.2.2.2.2.1, ⟨hk.1.1.2.2.2.2.2.2.2.1, hk.1.1.2.2.2.2.2.2.2.2⟩⟩⟩⟩⟩⟩⟩⟩)⟩, ⟨by (with_reducible repeat (first | apply Kd.S_alloc | apply Kd.S_drewN | apply Kd.S_drew)); exact HO_127006.out⟩, ⟨kp9 BK125.out⟩, ⟨kp9 BK126.out⟩, ⟨bp9 HB.out⟩⟩
             ·replace c60 := Bool.eq_false_iff.mpr c60
              subst c60
              rw [if_neg (show ¬ (false = true) by decide)] at H
              have H' := a9_ H
              clear H
              have hnb72 := NB126_125.out
              have hnc72 := NB125_126.out
              obtain ⟨hcz73_0, hcz73_1, hcz73_2, hcz73_3, hcz73_4, hcz73_5, hcz73_6, hfz73_0, hfz73_1, hfz73_2, hfz73_3, hfz73_4, hfz73_5, hfz73_6⟩ := cz7 BK126.out
              obtain ⟨Ao74, co74, eo74⟩ := Kd.R_slice HO_12.out
              subst eo74
              go_wp2_with (first | ((with_reducible refine gate_callee (f := 60) rfl ?_); refine goesL9 (some 91) rfl rfl Try.func60 (by kernel_rfl) rfl #[.slice Ao74 t127.length co74, .slice Ao17 t106.length co17] rfl ?_; (with_reducible refine (rel_And.calls _ _ t127 _ _ t106 t140 _ ?side1 ?side2 ?side3 ?side4 A55.out).mono ?_); (case side1 => exact lp9 (Kd.R_reads' HO_12.out).2.2); (case side2 => exact (Kd.R_reads' HO_12.out).2.1); (case side3 => exact lp9 (Kd.R_reads' HO_127001.out).2.2); (case side4 => exact (Kd.R_reads' HO_127001.out).2.1); rintro e w75 ⟨v141, rfl, ho0, hb⟩; refine ⟨_, rfl, ?_⟩; have n0_ := a9_ (Kd.R_elder' (rp9 HO_12.out) (Kd.R_base ho0) hb); have n1_ := a9_ (Kd.R_below (rp9 HO_15.out) hb); have n2_ := a9_ (Kd.R_below (rp9 HO_126000.out) hb); have n3_ := a9_ (Kd.R_elder' (rp9 HO_126001.out) (Kd.R_base ho0) hb); have n4_ := a9_ (Kd.R_elder' (rp9 HO_126002.out) (Kd.R_base ho0) hb); have n5_ := a9_ (Kd.R_elder' (rp9 HO_126003.out) (Kd.R_base ho0) hb); have n6_ := a9_ (Kd.R_elder' (rp9 HO_126004.out) (Kd.R_base ho0) hb); have n7_ := a9_ (Kd.R_elder' (rp9 HO_126005.out) (Kd.R_base ho0) hb); have n8_ := a9_ (Kd.S_below (by (with_reducible repeat (first | apply Kd.S_alloc | apply Kd.S_drewN | apply Kd.S_drew)); exact HO_126006.out) hb); have n9_ := a9_ (Kd.R_below (rp9 HO_127000.out) hb); have n10_ := a9_ (Kd.R_elder' (rp9 HO_127001.out) (Kd.R_base ho0) hb); have n11_ := a9_ (Kd.R_elder' (rp9 HO_127002.out) (Kd.R_base ho0) hb); have n12_ := a9_ (Kd.R_elder' (rp9 HO_127003.out) (Kd.R_base ho0) hb); have n13_ := a9_ (Kd.R_elder' (rp9 HO_127004.out) (Kd.R_base ho0) hb); have n14_ := a9_ (Kd.R_elder' (rp9 HO_127005.out) (Kd.R_base ho0) hb); have n15_ := a9_ (Kd.S_below (by (with_reducible repeat (first | apply Kd.S_alloc | apply Kd.S_drewN | apply Kd.S_drew)); exact HO_127006.out) hb); have n16_ := a9_ (Kd.R_lower (Kd.R_new' (Kd.R_new' (Kd.R_new' (Kd.R_new' (Kd.R_new' (Kd.R_new' (Kd.R_new' (Kd.R_new' (Kd.R_new' (Kd.R_new' (Kd.R_new' ho0 (Kd.R_lt (rp9 HO_12.out))) (Kd.R_lt (rp9 HO_126001.out))) (Kd.R_lt (rp9 HO_126002.out))) (Kd.R_lt (rp9 HO_126003.out))) (Kd.R_lt (rp9 HO_126004.out))) (Kd.R_lt (rp9 HO_126005.out))) (Kd.R_lt (rp9 HO_127001.out))) (Kd.R_lt (rp9 HO_127002.out))) (Kd.R_lt (rp9 HO_127003.out))) (Kd.R_lt (rp9 HO_127004.out))) (Kd.R_lt (rp9 HO_127005.out))) (below_size (bp9 HB.out))); have n17_ := a9_ (blk_below (kp9 BK125.out) hb); have n18_ := a9_ (blk_below (kp9 BK126.out) hb); have n19_ := a9_ (below_step (bp9 HB.out) hb); clear HO_12; clear HO_15; clear HO_126000; clear HO_126001; clear HO_126002; clear HO_126003; clear HO_126004; clear HO_126005; clear HO_126006; clear HO_127000; clear HO_127001; clear HO_127002; clear HO_127003; clear HO_127004; clear HO_127005; clear HO_127006; clear BK125; clear BK126; clear HB; have HO_12 := n0_; have HO_15 := n1_; have HO_126000 := n2_; have HO_126001 := n3_; have HO_126002 := n4_; have HO_126003 := n5_; have HO_126004 := n6_; have HO_126005 := n7_; have HO_126006 := n8_; have HO_127000 := n9_; have HO_127001 := n10_; have HO_127002 := n11_; have HO_127003 := n12_; have HO_127004 := n13_; have HO_127005 := n14_; have HO_127006 := n15_; have HO142 := n16_; have BK125 := n17_; have BK126 := n18_; have HB := n19_; clear n0_ n1_ n2_ n3_ n4_ n5_ n6_ n7_ n8_ n9_ n10_ n11_ n12_ n13_ n14_ n15_ n16_ n17_ n18_ n19_; (try clear hb); (try clear ho0); obtain ⟨Ao76, co76, eo76⟩ := Kd.R_slice HO142.out; subst eo76) | ((with_reducible refine gate_callee (f := 41) rfl ?_); refine goesL9 (some 93) rfl rfl Try.func41 (by kernel_rfl) rfl #[.slice Ao76 t140.length co76, .slice Ao74 t127.length co74] rfl ?_; (with_reducible refine (rel_Same.calls k3 _ _ t140 _ _ t127 true _ ?side1 ?side2 ?side3 ?side4 A56.out).mono ?_); (case side1 => exact lp9 (Kd.R_reads' HO142.out).2.2); (case side2 => exact (Kd.R_reads' HO142.out).2.1); (case side3 => exact lp9 (Kd.R_reads' HO_12.out).2.2); (case side4 => exact (Kd.R_reads' HO_12.out).2.1); rintro e w77 ⟨rfl, hb⟩; refine ⟨_, rfl, ?_⟩; have n0_ := a9_ (Kd.R_below (rp9 HO_12.out) hb); have n1_ := a9_ (Kd.R_below (rp9 HO_15.out) hb); have n2_ := a9_ (Kd.R_below (rp9 HO_126000.out) hb); have n3_ := a9_ (Kd.R_below (rp9 HO_126001.out) hb); have n4_ := a9_ (Kd.R_below (rp9 HO_126002.out) hb); have n5_ := a9_ (Kd.R_below (rp9 HO_126003.out) hb); have n6_ := a9_ (Kd.R_below (rp9 HO_126004.out) hb); have n7_ := a9_ (Kd.R_below (rp9 HO_126005.out) hb); have n8_ := a9_ (Kd.S_below (by (with_reducible repeat (first | apply Kd.S_alloc | apply Kd.S_drewN | apply Kd.S_drew)); exact HO_126006.out) hb); have n9_ := a9_ (Kd.R_below (rp9 HO_127000.out) hb); have n10_ := a9_ (Kd.R_below (rp9 HO_127001.out) hb); have n11_ := a9_ (Kd.R_below (rp9 HO_127002.out) hb); have n12_ := a9_ (Kd.R_below (rp9 HO_127003.out) hb); have n13_ := a9_ (Kd.R_below (rp9 HO_127004.out) hb); have n14_ := a9_ (Kd.R_below (rp9 HO_127005.out) hb); have n15_ := a9_ (Kd.S_below (by (with_reducible repeat (first | apply Kd.S_alloc | apply Kd.S_drewN | apply Kd.S_drew)); exact HO_127006.out) hb); have n16_ := a9_ (Kd.R_below (rp9 HO142.out) hb); have n17_ := a9_ (blk_below (kp9 BK125.out) hb); have n18_ := a9_ (blk_below (kp9 BK126.out) hb); have n19_ := a9_ (below_step (bp9 HB.out) hb); clear HO_12; clear HO_15; clear HO_126000; clear HO_126001; clear HO_126002; clear HO_126003; clear HO_126004; clear HO_126005; clear HO_126006; clear HO_127000; clear HO_127001; clear HO_127002; clear HO_127003; clear HO_127004; clear HO_127005; clear HO_127006; clear HO142; clear BK125; clear BK126; clear HB; have HO_12 := n0_; have HO_15 := n1_; have HO_126000 := n2_; have HO_126001 := n3_; have HO_126002 := n4_; have HO_126003 := n5_; have HO_126004 := n6_; have HO_126005 := n7_; have HO_126006 := n8_; have HO_127000 := n9_; have HO_127001 := n10_; have HO_127002 := n11_; have HO_127003 := n12_; have HO_127004 := n13_; have HO_127005 := n14_; have HO_127006 := n15_; have HO142 := n16_; have BK125 := n17_; have BK126 := n18_; have HB := n19_; clear n0_ n1_ n2_ n3_ n4_ n5_ n6_ n7_ n8_ n9_ n10_ n11_ n12_ n13_ n14_ n15_ n16_ n17_ n18_ n19_; (try clear hb); (try clear hi)) | (go_at_call 54; (with_reducible refine (rel_Only.calls k3 _ _ t127 x14_3 4294967295 t144 _ ?side1 ?side2 A58.out).mono ?_); (case side1 => exact lp9 (Kd.R_reads' HO_12.out).2.2); (case side2 => exact (Kd.R_reads' HO_12.out).2.1); rintro e w78 ⟨v145, rfl, ho0, hb⟩; have n0_ := a9_ (Kd.R_elder' (rp9 HO_12.out) (Kd.R_base ho0) hb); have n1_ := a9_ (Kd.R_below (rp9 HO_15.out) hb); have n2_ := a9_ (Kd.R_below (rp9 HO_126000.out) hb); have n3_ := a9_ (Kd.R_elder' (rp9 HO_126001.out) (Kd.R_base ho0) hb); have n4_ := a9_ (Kd.R_elder' (rp9 HO_126002.out) (Kd.R_base ho0) hb); have n5_ := a9_ (Kd.R_elder' (rp9 HO_126003.out) (Kd.R_base ho0) hb); have n6_ := a9_ (Kd.R_elder' (rp9 HO_126004.out) (Kd.R_base ho0) hb); have n7_ := a9_ (Kd.R_elder' (rp9 HO_126005.out) (Kd.R_base ho0) hb); have n8_ := a9_ (Kd.S_below (by (with_reducible repeat (first | apply Kd.S_alloc | apply Kd.S_drewN | apply Kd.S_drew)); exact HO_126006.out) hb); have n9_ := a9_ (Kd.R_below (rp9 HO_127000.out) hb); have n10_ := a9_ (Kd.R_elder' (rp9 HO_127001.out) (Kd.R_base ho0) hb); have n11_ := a9_ (Kd.R_elder' (rp9 HO_127002.out) (Kd.R_base ho0) hb); have n12_ := a9_ (Kd.R_elder' (rp9 HO_127003.out) (Kd.R_base ho0) hb); have n13_ := a9_ (Kd.R_elder' (rp9 HO_127004.out) (Kd.R_base ho0) hb); have n14_ := a9_ (Kd.R_elder' (rp9 HO_127005.out) (Kd.R_base ho0) hb); have n15_ := a9_ (Kd.S_below (by (with_reducible repeat (first | apply Kd.S_alloc | apply Kd.S_drewN | apply Kd.S_drew)); exact HO_127006.out) hb); have n16_ := a9_ (Kd.R_elder' (rp9 HO142.out) (Kd.R_base ho0) hb); have n17_ := a9_ (Kd.R_lower (Kd.R_new' (Kd.R_new' (Kd.R_new' (Kd.R_new' (Kd.R_new' (Kd.R_new' (Kd.R_new' (Kd.R_new' (Kd.R_new' (Kd.R_new' (Kd.R_new' (Kd.R_new' ho0 (Kd.R_lt (rp9 HO_12.out))) (Kd.R_lt (rp9 HO_126001.out))) (Kd.R_lt (rp9 HO_126002.out))) (Kd.R_lt (rp9 HO_126003.out))) (Kd.R_lt (rp9 HO_126004.out))) (Kd.R_lt (rp9 HO_126005.out))) (Kd.R_lt (rp9 HO_127001.out))) (Kd.R_lt (rp9 HO_127002.out))) (Kd.R_lt (rp9 HO_127003.out))) (Kd.R_lt (rp9 HO_127004.out))) (Kd.R_lt (rp9 HO_127005.out))) (Kd.R_lt (rp9 HO142.out))) (below_size (bp9 HB.out))); have n18_ := a9_ (blk_below (kp9 BK125.out) hb); have n19_ := a9_ (blk_below (kp9 BK126.out) hb); have n20_ := a9_ (below_step (bp9 HB.out) hb); clear HO_12; clear HO_15; clear HO_126000; clear HO_126001; clear HO_126002; clear HO_126003; clear HO_126004; clear HO_126005; clear HO_126006; clear HO_127000; clear HO_127001; clear HO_127002; clear HO_127003; clear HO_127004; clear HO_127005; clear HO_127006; clear HO142; clear BK125; clear BK126; clear HB; have HO_12 := n0_; have HO_15 := n1_; have HO_126000 := n2_; have HO_126001 := n3_; have HO_126002 := n4_; have HO_126003 := n5_; have HO_126004 := n6_; have HO_126005 := n7_; have HO_126006 := n8_; have HO_127000 := n9_; have HO_127001 := n10_; have HO_127002 := n11_; have HO_127003 := n12_; have HO_127004 := n13_; have HO_127005 := n14_; have HO_127006 := n15_; have HO142 := n16_; have HO146 := n17_; have BK125 := n18_; have BK126 := n19_; have HB := n20_; clear n0_ n1_ n2_ n3_ n4_ n5_ n6_ n7_ n8_ n9_ n10_ n11_ n12_ n13_ n14_ n15_ n16_ n17_ n18_ n19_ n20_; (try clear hb); (try clear ho0); obtain ⟨Ao79, co79, eo79⟩ := Kd.R_slice HO146.out; subst eo79) | (go_at_call 41; (with_reducible refine (rel_Same.calls k3 _ _ t144 _ _ t127 false _ ?side1 ?side2 ?side3 ?side4 A59.out).mono ?_); (case side1 => exact lp9 (Kd.R_reads' HO146.out).2.2); (case side2 => exact (Kd.R_reads' HO146.out).2.1); (case side3 => exact lp9 (Kd.R_reads' HO_12.out).2.2); (case side4 => exact (Kd.R_reads' HO_12.out).2.1); rintro e w80 ⟨rfl, hb⟩; have n0_ := a9_ (Kd.R_below (rp9 HO_12.out) hb); have n1_ := a9_ (Kd.R_below (rp9 HO_15.out) hb); have n2_ := a9_ (Kd.R_below (rp9 HO_126000.out) hb); have n3_ := a9_ (Kd.R_below (rp9 HO_126001.out) hb); have n4_ := a9_ (Kd.R_below (rp9 HO_126002.out) hb); have n5_ := a9_ (Kd.R_below (rp9 HO_126003.out) hb); have n6_ := a9_ (Kd.R_below (rp9 HO_126004.out) hb); have n7_ := a9_ (Kd.R_below (rp9 HO_126005.out) hb); have n8_ := a9_ (Kd.S_below (by (with_reducible repeat (first | apply Kd.S_alloc | apply Kd.S_drewN | apply Kd.S_drew)); exact HO_126006.out) hb); have n9_ := a9_ (Kd.R_below (rp9 HO_127000.out) hb); have n10_ := a9_ (Kd.R_below (rp9 HO_127001.out) hb); have n11_ := a9_ (Kd.R_below (rp9 HO_127002.out) hb); have n12_ := a9_ (Kd.R_below (rp9 HO_127003.out) hb); have n13_ := a9_ (Kd.R_below (rp9 HO_127004.out) hb); have n14_ := a9_ (Kd.R_below (rp9 HO_127005.out) hb); have n15_ := a9_ (Kd.S_below (by (with_reducible repeat (first | apply Kd.S_alloc | apply Kd.S_drewN | apply Kd.S_drew)); exact HO_127006.out) hb); have n16_ := a9_ (Kd.R_below (rp9 HO142.out) hb); have n17_ := a9_ (Kd.R_below (rp9 HO146.out) hb); have n18_ := a9_ (blk_below (kp9 BK125.out) hb); have n19_ := a9_ (blk_below (kp9 BK126.out) hb); have n20_ := a9_ (below_step (bp9 HB.out) hb); clear HO_12; clear HO_15; clear HO_126000; clear HO_126001; clear HO_126002; clear HO_126003; clear HO_126004; clear HO_126005; clear HO_126006; clear HO_127000; clear HO_127001; clear HO_127002; clear HO_127003; clear HO_127004; clear HO_127005; clear HO_127006; clear HO142; clear HO146; clear BK125; clear BK126; clear HB; have HO_12 := n0_; have HO_15 := n1_; have HO_126000 := n2_; have HO_126001 := n3_; have HO_126002 := n4_; have HO_126003 := n5_; have HO_126004 := n6_; have HO_126005 := n7_; have HO_126006 := n8_; have HO_127000 := n9_; have HO_127001 := n10_; have HO_127002 := n11_; have HO_127003 := n12_; have HO_127004 := n13_; have HO_127005 := n14_; have HO_127006 := n15_; have HO142 := n16_; have HO146 := n17_; have BK125 := n18_; have BK126 := n19_; have HB := n20_; clear n0_ n1_ n2_ n3_ n4_ n5_ n6_ n7_ n8_ n9_ n10_ n11_ n12_ n13_ n14_ n15_ n16_ n17_ n18_ n19_ n20_; (try clear hb); (try clear hi)))
              go_meet
              case rel => exact ⟨_, (true), rs9, H', ⟨by have := HK1.out; have := HJ11.out; have := HK3.out; first | omega | exact Nat.le_refl _⟩, ⟨by (with_reducible repeat (first | apply Kd.R_alloc | apply Kd.R_drewN | apply Kd.R_drew)); exact Kd.R_mono HO_12.out (fun _ hk => ⟨hk.1.1.1, ⟨hk.1.1.2.1, ⟨hk.1.1.2.2.1, ⟨hk.1.1.2.2.2.1, ⟨hk.1.1.2.2.2.2.1, ⟨hk.1.1.2.2.2.2.2.1, ⟨hk.1.1.2.2.2.2.2.2.1, ⟨hk.1.1.2.2.2.2.2.2.2.1, ⟨hk.1.1.2.2.2.2.2.2.2.2.1, hk.1.1.2.2.2.2.2.2.2.2.2⟩⟩⟩⟩⟩⟩⟩⟩⟩)⟩, ⟨rp9 HO_126000.out⟩, ⟨by (with_reducible repeat (first | apply Kd.R_alloc | apply Kd.R_drewN | apply Kd.R_drew)); exact Kd.R_mono HO_126001.out (fun _ hk => ⟨hk.1.1.1, ⟨hk.1.1.2.1, ⟨hk.1.1.2.2.1, ⟨hk.1.1.2.2.2.1, ⟨hk.1.1.2.2.2.2.1, ⟨hk.1.1.2.2.2.2.2.1, ⟨hk.1.1.2.2.2.2.2.2.1, ⟨hk.1.1.2.2.2.2.2.2.2.1, hk.1.1.2.2.2.2.2.2.2.2⟩⟩⟩⟩⟩⟩⟩⟩)⟩, ⟨by (with_reducible repeat (first | apply Kd.R_alloc | apply Kd.R_drewN | apply Kd.R_drew)); exact Kd.R_mono HO_126002.out (fun _ hk => ⟨hk.1.1.1, ⟨hk.1.1.2.1, ⟨hk.1.1.2.2.1, ⟨hk.1.1.2.2.2.1, ⟨hk.1.1.2.2.2.2.1, ⟨hk.1.1.2.2.2.2.2.1, ⟨hk.1.1.2.2.2.2.2.2.1, ⟨hk.1.1.2.2.2.2.2.2.2.1, hk.1.1.2.2.2.2.2.2.2.2⟩⟩⟩⟩⟩⟩⟩⟩)⟩, ⟨by (with_reducible repeat (first | apply Kd.R_alloc | apply Kd.R_drewN | apply Kd.R_drew)); exact Kd.R_mono HO_126003.out (fun _ hk => ⟨hk.1.1.1, ⟨hk.1.1.2.1, ⟨hk.1.1.2.2.1, ⟨hk.1.1.2.2.2.1, ⟨hk.1.1.2.2.2.2.1, ⟨hk.1.1.2.2.2.2.2.1, ⟨hk.1.1.2.2.2.2.2.2.1, ⟨hk.1.1.2.2.2.2.2.2.2.1, hk.1.1.2.2.2.2.2.2.2.2⟩⟩⟩⟩⟩⟩⟩⟩)⟩, ⟨by (with_reducible repeat (first | apply Kd.R_alloc | apply Kd.R_drewN | apply Kd.R_drew)); exact Kd.R_mono HO_126004.out (fun _ hk => ⟨hk.1.1.1, ⟨hk.1.1.2.1, ⟨hk.1.1.2.2.1, ⟨hk.1.1.2.2.2.1, ⟨hk.1.1.2.2.2.2.1, ⟨hk.1.1.2.2.2.2.2.1, ⟨hk.1.1.2.2.2.2.2.2.1, ⟨hk.1.1.2.2.2.2.2.2.2.1, hk.1.1.2.2.2.2.2.2.2.2⟩⟩⟩⟩⟩⟩⟩⟩)⟩, ⟨by (with_reducible repeat (first | apply Kd.R_alloc | apply Kd.R_drewN | apply Kd.R_drew)); exact Kd.R_mono HO_126005.out (fun _ hk => ⟨hk.1.1.1, ⟨hk.1.1.2.1, ⟨hk.1.1.2.2.1, ⟨hk.1.1.2.2.2.1, ⟨hk.1.1.2.2.2.2.1, ⟨hk.1.1.2.2.2.2.2.1, ⟨hk.1.1.2.2.2.2.2.2.1, ⟨hk.1.1.2.2.2.2.2.2.2.1, hk.1.1.2.2.2.2.2.2.2.2⟩⟩⟩⟩⟩⟩⟩⟩)⟩, ⟨by (with_reducible repeat (first | apply Kd.S_alloc | apply Kd.S_drewN | apply Kd.S_drew)); exact HO_126006.out⟩, ⟨rp9 HO_127000.out⟩, ⟨by (with_reducible repeat (first | apply Kd.R_alloc | apply Kd.R_drewN | apply Kd.R_drew)); exact Kd.R_mono HO_127001.out (fun _ hk => ⟨hk.1.1.1, ⟨hk.1.1.2.1, ⟨hk.1.1.2.2.1, ⟨hk.1.1.2.2.2.1, ⟨hk.1.1.2.2.2.2.1, ⟨hk.1.1.2.2.2.2.2.1, ⟨hk.1.1.2.2.2.2.2.2.1, ⟨hk.1.1.2.2.2.2.2.2.2.1, hk.1.1.2.2.2.2.2.2.2.2⟩⟩⟩⟩⟩⟩⟩⟩)⟩, ⟨by (with_reducible repeat (first | apply Kd.R_alloc | apply Kd.R_drewN | apply Kd.R_drew)); exact Kd.R_mono HO_127002.out (fun _ hk => ⟨hk.1.1.1, ⟨hk.1.1.2.1, ⟨hk.1.1.2.2.1, ⟨hk.1.1.2.2.2.1, ⟨hk.1.1.2.2.2.2.1, ⟨hk.1.1.2.2.2.2.2.1, ⟨hk.1.1.2.2.2.2.2.2.1, ⟨hk.1.1.2.2.2.2.2.2.2.1, hk.1.1.2.2.2.2.2.2.2.2⟩⟩⟩⟩⟩⟩⟩⟩)⟩, ⟨by (with_reducible repeat (first | apply Kd.R_alloc | apply Kd.R_drewN | apply Kd.R_drew)); exact Kd.R_mono HO_127003.out (fun _ hk => ⟨hk.1.1.1, ⟨hk.1.1.2.1, ⟨hk.1.1.2.2.1, ⟨hk.1.1.2.2.2.1, ⟨hk.1.1.2.2.2.2.1, ⟨hk.1.1.2.2.2.2.2.1, ⟨hk.1.1.2.2.2.2.2.2.1, ⟨hk.1.1.2.2.2.2.2.2.2.1, hk.1.1.2.2.2.2.2.2.2.2⟩⟩⟩⟩⟩⟩⟩⟩)⟩, ⟨by (with_reducible repeat (first | apply Kd.R_alloc | apply Kd.R_drewN | apply Kd.R_drew)); exact Kd.R_mono HO_127004.out (fun _ hk => ⟨hk.1.1.1, ⟨hk.1.1.2.1, ⟨hk.1.1.2.2.1, ⟨hk.1.1.2.2.2.1, ⟨hk.1.1.2.2.2.2.1, ⟨hk.1.1.2.2.2.2.2.1, ⟨hk.1.1.2.2.2.2.2.2.1, ⟨hk.1.1.2.2.2.2.2.2.2.1, hk.1.1.2.2.2.2.2.2.2.2⟩⟩⟩⟩⟩⟩⟩⟩)⟩, ⟨by (with_reducible repeat (first | apply Kd.R_alloc | apply Kd.R_drewN | apply Kd.R_drew)); exact Kd.R_mono HO_127005.out (fun _ hk => ⟨hk.1.1.1, ⟨hk.1.1.2.1, ⟨hk.1.1.2.2.1, ⟨hk.1.1.2.2.2.1, ⟨hk.1.1.2.2.2.2.1, ⟨hk.1.1.2.2.2.2.2.1, ⟨hk.1.1.2.2.2.2.2.2.1, ⟨hk.1.1.2.2.2.2.2.2.2.1, hk.1.1.2.2.2.2.2.2.2.2⟩⟩⟩⟩⟩⟩⟩⟩)⟩, ⟨by (with_reducible repeat (first | apply Kd.S_alloc | apply Kd.S_drewN | apply Kd.S_drew)); exact HO_127006.out⟩, ⟨kp9 BK125.out⟩, ⟨kp9 BK126.out⟩, ⟨bp9 HB.out⟩⟩
            ·replace c57 := Bool.eq_false_iff.mpr c57
             subst c57
             rw [if_neg (show ¬ (false = true) by decide)] at H
             have H' := a9_ H
             clear H
             have hnb81 := NB126_125.out
             have hnc81 := NB125_126.out
             obtain ⟨hcz82_0, hcz82_1, hcz82_2, hcz82_3, hcz82_4, hcz82_5, hcz82_6, hfz82_0, hfz82_1, hfz82_2, hfz82_3, hfz82_4, hfz82_5, hfz82_6⟩ := cz7 BK126.out
             obtain ⟨Ao83, co83, eo83⟩ := Kd.R_slice HO_12.out
             subst eo83
             go_wp2_with (first | ((with_reducible refine gate_callee (f := 60) rfl ?_); refine goesL9 (some 91) rfl rfl Try.func60 (by kernel_rfl) rfl #[.slice Ao83 t127.length co83, .slice Ao17 t106.length co17] rfl ?_; (with_reducible refine (rel_And.calls _ _ t127 _ _ t106 t140 _ ?side1 ?side2 ?side3 ?side4 A55.out).mono ?_); (case side1 => exact lp9 (Kd.R_reads' HO_12.out).2.2); (case side2 => exact (Kd.R_reads' HO_12.out).2.1); (case side3 => exact lp9 (Kd.R_reads' HO_127001.out).2.2); (case side4 => exact (Kd.R_reads' HO_127001.out).2.1); rintro e w84 ⟨v141, rfl, ho0, hb⟩; refine ⟨_, rfl, ?_⟩; have n0_ := a9_ (Kd.R_elder' (rp9 HO_12.out) (Kd.R_base ho0) hb); have n1_ := a9_ (Kd.R_below (rp9 HO_15.out) hb); have n2_ := a9_ (Kd.R_below (rp9 HO_126000.out) hb); have n3_ := a9_ (Kd.R_elder' (rp9 HO_126001.out) (Kd.R_base ho0) hb); have n4_ := a9_ (Kd.R_elder' (rp9 HO_126002.out) (Kd.R_base ho0) hb); have n5_ := a9_ (Kd.R_elder' (rp9 HO_126003.out) (Kd.R_base ho0) hb); have n6_ := a9_ (Kd.R_elder' (rp9 HO_126004.out) (Kd.R_base ho0) hb); have n7_ := a9_ (Kd.R_elder' (rp9 HO_126005.out) (Kd.R_base ho0) hb); have n8_ := a9_ (Kd.S_below (by (with_reducible repeat (first | apply Kd.S_alloc | apply Kd.S_drewN | apply Kd.S_drew)); exact HO_126006.out) hb); have n9_ := a9_ (Kd.R_below (rp9 HO_127000.out) hb); have n10_ := a9_ (Kd.R_elder' (rp9 HO_127001.out) (Kd.R_base ho0) hb); have n11_ := a9_ (Kd.R_elder' (rp9 HO_127002.out) (Kd.R_base ho0) hb); have n12_ := a9_ (Kd.R_elder' (rp9 HO_127003.out) (Kd.R_base ho0) hb); have n13_ := a9_ (Kd.R_elder' (rp9 HO_127004.out) (Kd.R_base ho0) hb); have n14_ := a9_ (Kd.R_elder' (rp9 HO_127005.out) (Kd.R_base ho0) hb); have n15_ := a9_ (Kd.S_below (by (with_reducible repeat (first | apply Kd.S_alloc | apply Kd.S_drewN | apply Kd.S_drew)); exact HO_127006.out) hb); have n16_ := a9_ (Kd.R_lower (Kd.R_new' (Kd.R_new' (Kd.R_new' (Kd.R_new' (Kd.R_new' (Kd.R_new' (Kd.R_new' (Kd.R_new' (Kd.R_new' (Kd.R_new' (Kd.R_new' ho0 (Kd.R_lt (rp9 HO_12.out))) (Kd.R_lt (rp9 HO_126001.out))) (Kd.R_lt (rp9 HO_126002.out))) (Kd.R_lt (rp9 HO_126003.out))) (Kd.R_lt (rp9 HO_126004.out))) (Kd.R_lt (rp9 HO_126005.out))) (Kd.R_lt (rp9 HO_127001.out))) (Kd.R_lt (rp9 HO_127002.out))) (Kd.R_lt (rp9 HO_127003.out))) (Kd.R_lt (rp9 HO_127004.out))) (Kd.R_lt (rp9 HO_127005.out))) (below_size (bp9 HB.out))); have n17_ := a9_ (blk_below (kp9 BK125.out) hb); have n18_ := a9_ (blk_below (kp9 BK126.out) hb); have n19_ := a9_ (below_step (bp9 HB.out) hb); clear HO_12; clear HO_15; clear HO_126000; clear HO_126001; clear HO_126002; clear HO_126003; clear HO_126004; clear HO_126005; clear HO_126006; clear HO_127000; clear HO_127001; clear HO_127002; clear HO_127003; clear HO_127004; clear HO_127005; clear HO_127006; clear BK125; clear BK126; clear HB; have HO_12 := n0_; have HO_15 := n1_; have HO_126000 := n2_; have HO_126001 := n3_; have HO_126002 := n4_; have HO_126003 := n5_; have HO_126004 := n6_; have HO_126005 := n7_; have HO_126006 := n8_; have HO_127000 := n9_; have HO_127001 := n10_; have HO_127002 := n11_; have HO_127003 := n12_; have HO_127004 := n13_; have HO_127005 := n14_; have HO_127006 := n15_; have HO142 := n16_; have BK125 := n17_; have BK126 := n18_; have HB := n19_; clear n0_ n1_ n2_ n3_ n4_ n5_ n6_ n7_ n8_ n9_ n10_ n11_ n12_ n13_ n14_ n15_ n16_ n17_ n18_ n19_; (try clear hb); (try clear ho0); obtain ⟨Ao85, co85, eo85⟩ := Kd.R_slice HO142.out; subst eo85) | ((with_reducible refine gate_callee (f := 41) rfl ?_); refine goesL9 (some 93) rfl rfl Try.func41 (by kernel_rfl) rfl #[.slice Ao85 t140.length co85, .slice Ao83 t127.length co83] rfl ?_; (with_reducible refine (rel_Same.calls k3 _ _ t140 _ _ t127 false _ ?side1 ?side2 ?side3 ?side4 A56.out).mono ?_); (case side1 => exact lp9 (Kd.R_reads' HO142.out).2.2); (case side2 => exact (Kd.R_reads' HO142.out).2.1); (case side3 => exact lp9 (Kd.R_reads' HO_12.out).2.2); (case side4 => exact (Kd.R_reads' HO_12.out).2.1); rintro e w86 ⟨rfl, hb⟩; refine ⟨_, rfl, ?_⟩; have n0_ := a9_ (Kd.R_below (rp9 HO_12.out) hb); have n1_ := a9_ (Kd.R_below (rp9 HO_15.out) hb); have n2_ := a9_ (Kd.R_below (rp9 HO_126000.out) hb); have n3_ := a9_ (Kd.R_below (rp9 HO_126001.out) hb); have n4_ := a9_ (Kd.R_below (rp9 HO_126002.out) hb); have n5_ := a9_ (Kd.R_below (rp9 HO_126003.out) hb); have n6_ := a9_ (Kd.R_below (rp9 HO_126004.out) hb); have n7_ := a9_ (Kd.R_below (rp9 HO_126005.out) hb); have n8_ := a9_ (Kd.S_below (by (with_reducible repeat (first | apply Kd.S_alloc | apply Kd.S_drewN | apply Kd.S_drew)); exact HO_126006.out) hb); have n9_ := a9_ (Kd.R_below (rp9 HO_127000.out) hb); have n10_ := a9_ (Kd.R_below (rp9 HO_127001.out) hb); have n11_ := a9_ (Kd.R_below (rp9 HO_127002.out) hb); have n12_ := a9_ (Kd.R_below (rp9 HO_127003.out) hb); have n13_ := a9_ (Kd.R_below (rp9 HO_127004.out) hb); have n14_ := a9_ (Kd.R_below (rp9 HO_127005.out) hb); have n15_ := a9_ (Kd.S_below (by (with_reducible repeat (first | apply Kd.S_alloc | apply Kd.S_drewN | apply Kd.S_drew)); exact HO_127006.out) hb); have n16_ := a9_ (Kd.R_below (rp9 HO142.out) hb); have n17_ := a9_ (blk_below (kp9 BK125.out) hb); have n18_ := a9_ (blk_below (kp9 BK126.out) hb); have n19_ := a9_ (below_step (bp9 HB.out) hb); clear HO_12; clear HO_15; clear HO_126000; clear HO_126001; clear HO_126002; clear HO_126003; clear HO_126004; clear HO_126005; clear HO_126006; clear HO_127000; clear HO_127001; clear HO_127002; clear HO_127003; clear HO_127004; clear HO_127005; clear HO_127006; clear HO142; clear BK125; clear BK126; clear HB; have HO_12 := n0_; have HO_15 := n1_; have HO_126000 := n2_; have HO_126001 := n3_; have HO_126002 := n4_; have HO_126003 := n5_; have HO_126004 := n6_; have HO_126005 := n7_; have HO_126006 := n8_; have HO_127000 := n9_; have HO_127001 := n10_; have HO_127002 := n11_; have HO_127003 := n12_; have HO_127004 := n13_; have HO_127005 := n14_; have HO_127006 := n15_; have HO142 := n16_; have BK125 := n17_; have BK126 := n18_; have HB := n19_; clear n0_ n1_ n2_ n3_ n4_ n5_ n6_ n7_ n8_ n9_ n10_ n11_ n12_ n13_ n14_ n15_ n16_ n17_ n18_ n19_; (try clear hb); (try clear hi)))
             go_meet
             case rel => exact ⟨_, (true), rs9, H', ⟨by have := HK1.out; have := HJ11.out; have := HK3.out; first | omega | exact Nat.le_refl _⟩, ⟨by (with_reducible repeat (first | apply Kd.R_alloc | apply Kd.R_drewN | apply Kd.R_drew)); exact Kd.R_mono HO_12.out (fun _ hk => ⟨hk.1.1, ⟨hk.1.2.1, ⟨hk.1.2.2.1, ⟨hk.1.2.2.2.1, ⟨hk.1.2.2.2.2.1, ⟨hk.1.2.2.2.2.2.1, ⟨hk.1.2.2.2.2.2.2.1, ⟨hk.1.2.2.2.2.2.2.2.1, ⟨hk.1.2.2.2.2.2.2.2.2.1, hk.1.2.2.2.2.2.2.2.2.2⟩⟩⟩⟩⟩⟩⟩⟩⟩)⟩, ⟨rp9 HO_126000.out⟩, ⟨by (with_reducible repeat (first | apply Kd.R_alloc | apply Kd.R_drewN | apply Kd.R_drew)); exact Kd.R_mono HO_126001.out (fun _ hk => ⟨hk.1.1, ⟨hk.1.2.1, ⟨hk.1.2.2.1, ⟨hk.1.2.2.2.1, ⟨hk.1.2.2.2.2.1, ⟨hk.1.2.2.2.2.2.1, ⟨hk.1.2.2.2.2.2.2.1, ⟨hk.1.2.2.2.2.2.2.2.1, hk.1.2.2.2.2.2.2.2.2⟩⟩⟩⟩⟩⟩⟩⟩)⟩, ⟨by (with_reducible repeat (first | apply Kd.R_alloc | apply Kd.R_drewN | apply Kd.R_drew)); exact Kd.R_mono HO_126002.out (fun _ hk => ⟨hk.1.1, ⟨hk.1.2.1, ⟨hk.1.2.2.1, ⟨hk.1.2.2.2.1, ⟨hk.1.2.2.2.2.1, ⟨hk.1.2.2.2.2.2.1, ⟨hk.1.2.2.2.2.2.2.1, ⟨hk.1.2.2.2.2.2.2.2.1, hk.1.2.2.2.2.2.2.2.2⟩⟩⟩⟩⟩⟩⟩⟩)⟩, ⟨by (with_reducible repeat (first | apply Kd.R_alloc | apply Kd.R_drewN | apply Kd.R_drew)); exact Kd.R_mono HO_126003.out (fun _ hk => ⟨hk.1.1, ⟨hk.1.2.1, ⟨hk.1.2.2.1, ⟨hk.1.2.2.2.1, ⟨hk.1.2.2.2.2.1, ⟨hk.1.2.2.2.2.2.1, ⟨hk.1.2.2.2.2.2.2.1, ⟨hk.1.2.2.2.2.2.2.2.1, hk.1.2.2.2.2.2.2.2.2⟩⟩⟩⟩⟩⟩⟩⟩)⟩, ⟨by (with_reducible repeat (first | apply Kd.R_alloc | apply Kd.R_drewN | apply Kd.R_drew)); exact Kd.R_mono HO_126004.out (fun _ hk => ⟨hk.1.1, ⟨hk.1.2.1, ⟨hk.1.2.2.1, ⟨hk.1.2.2.2.1, ⟨hk.1.2.2.2.2.1, ⟨hk.1.2.2.2.2.2.1, ⟨hk.1.2.2.2.2.2.2.1, ⟨hk.1.2.2.2.2.2.2.2.1, hk.1.2.2.2.2.2.2.2.2⟩⟩⟩⟩⟩⟩⟩⟩)⟩, ⟨by (with_reducible repeat (first | apply Kd.R_alloc | apply Kd.R_drewN | apply Kd.R_drew)); exact Kd.R_mono HO_126005.out (fun _ hk => ⟨hk.1.1, ⟨hk.1.2.1, ⟨hk.1.2.2.1, ⟨hk.1.2.2.2.1, ⟨hk.1.2.2.2.2.1, ⟨hk.1.2.2.2.2.2.1, ⟨hk.1.2.2.2.2.2.2.1, ⟨hk.1.2.2.2.2.2.2.2.1, hk.1.2.2.2.2.2.2.2.2⟩⟩⟩⟩⟩⟩⟩⟩)⟩, ⟨by (with_reducible repeat (first | apply Kd.S_alloc | apply Kd.S_drewN | apply Kd.S_drew)); exact HO_126006.out⟩, ⟨rp9 HO_127000.out⟩, ⟨by (with_reducible repeat (first | apply Kd.R_alloc | apply Kd.R_drewN | apply Kd.R_drew)); exact Kd.R_mono HO_127001.out (fun _ hk => ⟨hk.1.1, ⟨hk.1.2.1, ⟨hk.1.2.2.1, ⟨hk.1.2.2.2.1, ⟨hk.1.2.2.2.2.1, ⟨hk.1.2.2.2.2.2.1, ⟨hk.1.2.2.2.2.2.2.1, ⟨hk.1.2.2.2.2.2.2.2.1, hk.1.2.2.2.2.2.2.2.2⟩⟩⟩⟩⟩⟩⟩⟩)⟩, ⟨by (with_reducible repeat (first | apply Kd.R_alloc | apply Kd.R_drewN | apply Kd.R_drew)); exact Kd.R_mono HO_127002.out (fun _ hk => ⟨hk.1.1, ⟨hk.1.2.1, ⟨hk.1.2.2.1, ⟨hk.1.2.2.2.1, ⟨hk.1.2.2.2.2.1, ⟨hk.1.2.2.2.2.2.1, ⟨hk.1.2.2.2.2.2.2.1, ⟨hk.1.2.2.2.2.2.2.2.1, hk.1.2.2.2.2.2.2.2.2⟩⟩⟩⟩⟩⟩⟩⟩)⟩, ⟨by (with_reducible repeat (first | apply Kd.R_alloc | apply Kd.R_drewN | apply Kd.R_drew)); exact Kd.R_mono HO_127003.out (fun _ hk => ⟨hk.1.1, ⟨hk.1.2.1, ⟨hk.1.2.2.1, ⟨hk.1.2.2.2.1, ⟨hk.1.2.2.2.2.1, ⟨hk.1.2.2.2.2.2.1, ⟨hk.1.2.2.2.2.2.2.1, ⟨hk.1.2.2.2.2.2.2.2.1, hk.1.2.2.2.2.2.2.2.2⟩⟩⟩⟩⟩⟩⟩⟩)⟩, ⟨by (with_reducible repeat (first | apply Kd.R_alloc | apply Kd.R_drewN | apply Kd.R_drew)); exact Kd.R_mono HO_127004.out (fun _ hk => ⟨hk.1.1, ⟨hk.1.2.1, ⟨hk.1.2.2.1, ⟨hk.1.2.2.2.1, ⟨hk.1.2.2.2.2.1, ⟨hk.1.2.2.2.2.2.1, ⟨hk.1.2.2.2.2.2.2.1, ⟨hk.1.2.2.2.2.2.2.2.1, hk.1.2.2.2.2.2.2.2.2⟩⟩⟩⟩⟩⟩⟩⟩)⟩, ⟨by (with_reducible repeat (first | apply Kd.R_alloc | apply Kd.R_drewN | apply Kd.R_drew)); exact Kd.R_mono HO_127005.out (fun _ hk => ⟨hk.1.1, ⟨hk.1.2.1, ⟨hk.1.2.2.1, ⟨hk.1.2.2.2.1, ⟨hk.1.2.2.2.2.1, ⟨hk.1.2.2.2.2.2.1, ⟨hk.1.2.2.2.2.2.2.1, ⟨hk.1.2.2.2.2.2.2.2.1, hk.1.2.2.2.2.2.2.2.2⟩⟩⟩⟩⟩⟩⟩⟩)⟩, ⟨by (with_reducible repeat (first | apply Kd.S_alloc | apply Kd.S_drewN | apply Kd.S_drew)); exact HO_127006.out⟩, ⟨kp9 BK125.out⟩, ⟨kp9 BK126.out⟩, ⟨bp9 HB.out⟩⟩
           case rest =>
            clear HC53
            try clear c1
            try clear p1
            try clear q1
            try clear hx1
            try clear c2
            try clear p2
            try clear c3
            try clear c4
            try clear c5
            try clear c5b0
            try clear c5b1
            try clear c6
            try clear p6
            try clear c7
            try clear c8
            try clear c8b0
            try clear c9
            try clear c9b0
            try clear c10
            try clear c10b0
            try clear c10b1
            try clear p10
            try clear q10
            try clear hx10
            try clear p13
            try clear q13
            try clear hx13
            try clear c23
            try clear c23b0
            try clear c23b1
            try clear c24
            try clear c24b0
            try clear c24b1
            try clear c24b2
            try clear c27
            try clear c36
            try clear c38
            try clear c41
            try clear c47
            try clear c47b0
            try clear c48
            try clear c48b0
            try clear c50
            try clear c50b0
            try clear c50b1
            try clear c57
            try clear c58
            try clear c60
            try clear c62
            try clear p64
            try clear c72
            try clear c79
            try clear c81
            try clear c82
            try clear hcz16_0 hcz16_1 hcz16_2 hcz16_3 hcz16_4 hcz16_5 hcz16_6
            try clear hcz25_0 hcz25_1 hcz25_2 hcz25_3 hcz25_4 hcz25_5 hcz25_6
            try clear hcz26_0 hcz26_1 hcz26_2 hcz26_3 hcz26_4 hcz26_5 hcz26_6
            try clear hcz33_0 hcz33_1 hcz33_2 hcz33_3 hcz33_4 hcz33_5 hcz33_6
            try clear hcz37_0 hcz37_1 hcz37_2 hcz37_3 hcz37_4 hcz37_5 hcz37_6
            try clear hcz39_0 hcz39_1 hcz39_2 hcz39_3 hcz39_4 hcz39_5 hcz39_6
            try clear hcz63_0 hcz63_1 hcz63_2 hcz63_3 hcz63_4 hcz63_5 hcz63_6
            try clear hcz73_0 hcz73_1 hcz73_2 hcz73_3 hcz73_4 hcz73_5 hcz73_6
            try clear hcz82_0 hcz82_1 hcz82_2 hcz82_3 hcz82_4 hcz82_5 hcz82_6
            try clear hfz16_0 hfz16_1 hfz16_2 hfz16_3 hfz16_4 hfz16_5 hfz16_6
            try clear hfz25_0 hfz25_1 hfz25_2 hfz25_3 hfz25_4 hfz25_5 hfz25_6
            try clear hfz26_0 hfz26_1 hfz26_2 hfz26_3 hfz26_4 hfz26_5 hfz26_6
            try clear hfz33_0 hfz33_1 hfz33_2 hfz33_3 hfz33_4 hfz33_5 hfz33_6
            try clear hfz37_0 hfz37_1 hfz37_2 hfz37_3 hfz37_4 hfz37_5 hfz37_6
            try clear hfz39_0 hfz39_1 hfz39_2 hfz39_3 hfz39_4 hfz39_5 hfz39_6
            try clear hfz63_0 hfz63_1 hfz63_2 hfz63_3 hfz63_4 hfz63_5 hfz63_6
            try clear hfz73_0 hfz73_1 hfz73_2 hfz73_3 hfz73_4 hfz73_5 hfz73_6
            try clear hfz82_0 hfz82_1 hfz82_2 hfz82_3 hfz82_4 hfz82_5 hfz82_6
            try clear hx102_0
            try clear hx102_1
            try clear hx102_10
            try clear hx102_11
            try clear hx102_12
            try clear hx102_13
            try clear hx102_14
            try clear hx102_15
            try clear hx102_2
            try clear hx102_3
            try clear hx102_4
            try clear hx102_5
            try clear hx102_6
            try clear hx102_7
            try clear hx102_8
            try clear hx102_9
            try clear hx139_0
            try clear hx139_1
            try clear p1
            try clear p10
            try clear p102
            try clear p139
            try clear p2
            try clear p6
            try clear q1
            try clear q10
            try clear q102
            try clear q139
            obtain ⟨kq, x107_52, rfl, HA, HJ52, HO_12, HO_126000, HO_126001, HO_126002, HO_126003, HO_126004, HO_126005, HO_126006, HO_127000, HO_127001, HO_127002, HO_127003, HO_127004, HO_127005, HO_127006, BK125, BK126, HB⟩ := hcut
            cases kq with
            | zero => exact absurd HA.out (by simp [cupolalaw14_DobAlong.j3])
            | succ kj52 =>
             have H := HA.out
             clear HA
             simp only [cupolalaw14_DobAlong.j3] at H
             by_cases c87 : x107_52 = true
             ·subst c87
              rw [if_pos rfl] at H
              exact absurd ((Option.some.inj H).trans HT9.out) (by decide)
             ·replace c87 := Bool.eq_false_iff.mpr c87
              subst c87
              rw [if_neg (show ¬ (false = true) by decide)] at H
              replace H := Option.bind_eq_some_iff.mp H
              obtain ⟨t149, A880, H⟩ := H
              have A88 := a9_ A880
              clear A880
              replace H := Option.bind_eq_some_iff.mp H
              obtain ⟨t152, A890, H⟩ := H
              have A89 := a9_ A890
              clear A890
              replace H := Option.bind_eq_some_iff.mp H
              obtain ⟨t155, A900, H⟩ := H
              have A90 := a9_ A900
              clear A900
              replace H := Option.bind_eq_some_iff.mp H
              obtain ⟨t158, A910, H⟩ := H
              have A91 := a9_ A910
              clear A910
              replace H := Option.bind_eq_some_iff.mp H
              obtain ⟨t161, A920, H⟩ := H
              have A92 := a9_ A920
              clear A920
              by_cases c93 : t161 = true
              ·subst c93
               rw [if_pos rfl] at H
               replace H := Option.bind_eq_some_iff.mp H
               obtain ⟨t162, A940, H⟩ := H
               have A94 := a9_ A940
               clear A940
               by_cases c95 : t101 = true
               ·subst c95
                rw [if_pos rfl] at H
                replace H := Option.bind_eq_some_iff.mp H
                obtain ⟨t165, A960, H⟩ := H
                have A96 := a9_ A960
                clear A960
                replace H := Option.bind_eq_some_iff.mp H
                obtain ⟨t168, A970, H⟩ := H
                have A97 := a9_ A970
                clear A970
                by_cases c98 : t168 = true
                ·subst c98
                 rw [if_pos rfl] at H
                 replace H := Option.bind_eq_some_iff.mp H
                 obtain ⟨t169, A990, H⟩ := H
                 have A99 := a9_ A990
                 clear A990
                 replace H := Option.bind_eq_some_iff.mp H
                 obtain ⟨t172, A1000, H⟩ := H
                 have A100 := a9_ A1000
                 clear A1000
                 by_cases c101 : t172 = true
                 ·subst c101
                  rw [if_pos rfl] at H
                  replace H := Option.bind_eq_some_iff.mp H
                  obtain ⟨t173, A1020, H⟩ := H
                  have A102 := a9_ A1020
                  clear A1020
                  by_cases c103 : t173 = true
                  ·subst c103
                   rw [if_pos rfl] at H
                   replace H := Option.bind_eq_some_iff.mp H
                   obtain ⟨t174, A1040, H⟩ := H
                   have A104 := a9_ A1040
                   clear A1040
                   replace H := Option.bind_eq_some_iff.mp H
                   obtain ⟨t177, A1050, H⟩ := H
                   have A105 := a9_ A1050
                   clear A1050
                   obtain rfl := Option.some.inj H
                   try go_wp2
                   have n0_ := a9_ (Kd.R_drew HO_12.out)
                   have n1_ := a9_ (Kd.R_drew HO_126000.out)
                   have n2_ := a9_ (Kd.R_drew HO_126001.out)
                   have n3_ := a9_ (Kd.R_drew HO_126002.out)
                   have n4_ := a9_ (Kd.R_drew HO_126003.out)
                   have n5_ := a9_ (Kd.R_drew HO_126004.out)
                   have n6_ := a9_ (Kd.R_drew HO_126005.out)
                   have n7_ := a9_ (Kd.S_drew HO_126006.out)
                   have n8_ := a9_ (Kd.R_drew HO_127000.out)
                   have n9_ := a9_ (Kd.R_drew HO_127001.out)
                   have n10_ := a9_ (Kd.R_drew HO_127002.out)
                   have n11_ := a9_ (Kd.R_drew HO_127003.out)
                   have n12_ := a9_ (Kd.R_drew HO_127004.out)
                   have n13_ := a9_ (Kd.R_drew HO_127005.out)
                   have n14_ := a9_ (Kd.S_drew HO_127006.out)
                   have n15_ := a9_ (blk_drew BK125.out)
                   have n16_ := a9_ (blk_drew BK126.out)
                   have n17_ := a9_ (below_drew1 HB.out)
                   clear HO_12 HO_126000 HO_126001 HO_126002 HO_126003 HO_126004 HO_126005 HO_126006 HO_127000 HO_127001 HO_127002 HO_127003 HO_127004 HO_127005 HO_127006 BK125 BK126 HB
                   revert n0_ n1_ n2_ n3_ n4_ n5_ n6_ n7_ n8_ n9_ n10_ n11_ n12_ n13_ n14_ n15_ n16_ n17_; intro HO_12 HO_126000 HO_126001 HO_126002 HO_126003 HO_126004 HO_126005 HO_126006 HO_127000 HO_127001 HO_127002 HO_127003 HO_127004 HO_127005 HO_127006 BK125 BK126 HB
                   refine start_ (n := 8) (S := fun w' => w'.cell? ⟨gb126, 0, none⟩ = some (.slice Ao15 t103.length co15) ∧ w'.cell? ⟨gb126, 1, none⟩ = some (.slice Ao17 t106.length co17) ∧ w'.cell? ⟨gb126, 2, none⟩ = some (.slice Ao18 t109.length co18) ∧ w'.cell? ⟨gb126, 3, none⟩ = some (.slice Ao19 t112.length co19) ∧ w'.cell? ⟨gb126, 4, none⟩ = some (.slice Ao20 t115.length co20) ∧ w'.cell? ⟨gb126, 5, none⟩ = some (.slice Ao21 t118.length co21) ∧ w'.cell? ⟨gb126, 6, none⟩ = some (.slice Ao22 t121.length co22)) (ds := []) #[o9, o9, o9, o9, o9, o9, o9, o9] (by kernel_rfl) rfl rfl ⟨(blk_cell BK126.out 0).trans rfl, (blk_cell BK126.out 1).trans rfl, (blk_cell BK126.out 2).trans rfl, (blk_cell BK126.out 3).trans rfl, (blk_cell BK126.out 4).trans rfl, (blk_cell BK126.out 5).trans rfl, (blk_cell BK126.out 6).trans rfl⟩ (fun hHeld => ?_); refine with_tabW cupolalaw14_DobAlong.tab23 cupolalaw14_DobAlong.bits23 (fun HT_ HW_ => ?_)
                   generalize wc.drew = w106 at HO_12 HO_126000 HO_126001 HO_126002 HO_126003 HO_126004 HO_126005 HO_126006 HO_127000 HO_127001 HO_127002 HO_127003 HO_127004 HO_127005 HO_127006 BK125 BK126 HB hHeld ⊢
                   refine pureA 1 (some 109) ?_ #[o9, i9, o9, o9, o9, o9, o9, o9] rfl rfl (any_of HT_.out (by kernel_rfl)) ?_ ?_ ?_ ?_
                   rotate_left
                   ·intro w'; go_simp; with_reducible rfl
                   rotate_left
                   ·exact put9
                   refine pureA 4 (some 112) ?_ #[o9, i9, o9, o9, i9, o9, o9, o9] rfl rfl (any_of HT_.out (by kernel_rfl)) ?_ ?_ ?_ ?_
                   rotate_left
                   ·intro w'; go_simp; with_reducible rfl
                   rotate_left
                   ·exact put9
                   refine take_ (i := 0) (N := some 108) (v := ?_) (a' := ?_) #[i9, i9, o9, o9, i9, o9, o9, o9] rfl rfl (take_ofW HT_.out HW_.out (by kernel_rfl)) (fun _ _ _ h => h) (Or.inl ⟨by rfl, ?_⟩) hHeld ?_ ?_
                   rotate_left
                   ·rintro w' ⟨s0, s1, s2, s3, s4, s5, s6⟩
                    go_simp
                    with_reducible rfl
                   rotate_left
                   ·exact put9
                   refine take_ (i := 3) (N := some 111) (v := ?_) (a' := ?_) #[i9, i9, o9, i9, i9, o9, o9, o9] rfl rfl (take_ofW HT_.out HW_.out (by kernel_rfl)) (fun _ _ _ h => h) (Or.inl ⟨by rfl, ?_⟩) hHeld ?_ ?_
                   rotate_left
                   ·rintro w' ⟨s0, s1, s2, s3, s4, s5, s6⟩
                    go_simp
                    with_reducible rfl
                   rotate_left
                   ·exact put9
                   refine one_ (i := 2) (N := some 110) #[i9, i9, i9, i9, i9, o9, o9, o9] rfl rfl (one_of HT_.out (by kernel_rfl)) (by decide) (fun K hK => ?_)
                   refine goes9 Try.func86 (by kernel_rfl) rfl #[.agg #[.slice Ao15 t103.length co15, .slice Ao17 t106.length co17, .slice Ao18 t109.length co18, .slice Ao19 t112.length co19, .slice Ao20 t115.length co20, .slice Ao21 t118.length co21, .slice Ao22 t121.length co22], .slice A2 l2.length c2] (by rfl) rfl rfl ?_
                   with_reducible refine (dob_Coi.calls _ _ t103 _ _ t106 _ _ t109 _ _ t112 _ _ t115 _ _ t118 _ _ t121 _ _ l2 t149 _ ?side1 ?side2 ?side3 ?side4 ?side5 ?side6 ?side7 ?side8 ?side9 ?side10 ?side11 ?side12 ?side13 ?side14 ?side15 ?side16 A88.out).mono ?_
                   (case side1 => exact lp9 (Kd.R_reads' HO_127000.out).2.2)
                   (case side2 => exact (Kd.R_reads' HO_127000.out).2.1)
                   (case side3 => exact lp9 (Kd.R_reads' HO_127001.out).2.2)
                   (case side4 => exact (Kd.R_reads' HO_127001.out).2.1)
                   (case side5 => exact lp9 (Kd.R_reads' HO_127002.out).2.2)
                   (case side6 => exact (Kd.R_reads' HO_127002.out).2.1)
                   (case side7 => exact lp9 (Kd.R_reads' HO_127003.out).2.2)
                   (case side8 => exact (Kd.R_reads' HO_127003.out).2.1)
                   (case side9 => exact lp9 (Kd.R_reads' HO_127004.out).2.2)
                   (case side10 => exact (Kd.R_reads' HO_127004.out).2.1)
                   (case side11 => exact lp9 (Kd.R_reads' HO_127005.out).2.2)
                   (case side12 => exact (Kd.R_reads' HO_127005.out).2.1)
                   (case side13 => exact lp9 (Kd.S_reads' HO_127006.out).2.2)
                   (case side14 => exact (Kd.S_reads' HO_127006.out).2.1)
                   (case side15 => exact cp9 HR2.out HB.out)
                   (case side16 => exact HC2.out)
                   rintro e w107 ⟨v150, rfl, ho0, hb⟩
                   refine ⟨_, rfl, ?_⟩
                   have n0_ := a9_ (Kd.R_elder' (rp9 HO_12.out) (Kd.R_base ho0) hb)
                   have n1_ := a9_ (Kd.R_below (rp9 HO_126000.out) hb)
                   have n2_ := a9_ (Kd.R_elder' (rp9 HO_126001.out) (Kd.R_base ho0) hb)
                   have n3_ := a9_ (Kd.R_elder' (rp9 HO_126002.out) (Kd.R_base ho0) hb)
                   have n4_ := a9_ (Kd.R_elder' (rp9 HO_126003.out) (Kd.R_base ho0) hb)
                   have n5_ := a9_ (Kd.R_elder' (rp9 HO_126004.out) (Kd.R_base ho0) hb)
                   have n6_ := a9_ (Kd.R_elder' (rp9 HO_126005.out) (Kd.R_base ho0) hb)
                   have n7_ := a9_ (Kd.S_below (by (with_reducible repeat (first | apply Kd.S_alloc | apply Kd.S_drewN | apply Kd.S_drew)); exact HO_126006.out) hb)
                   have n8_ := a9_ (Kd.R_below (rp9 HO_127000.out) hb)
                   have n9_ := a9_ (Kd.R_elder' (rp9 HO_127001.out) (Kd.R_base ho0) hb)
                   have n10_ := a9_ (Kd.R_elder' (rp9 HO_127002.out) (Kd.R_base ho0) hb)
                   have n11_ := a9_ (Kd.R_elder' (rp9 HO_127003.out) (Kd.R_base ho0) hb)
                   have n12_ := a9_ (Kd.R_elder' (rp9 HO_127004.out) (Kd.R_base ho0) hb)
                   have n13_ := a9_ (Kd.R_elder' (rp9 HO_127005.out) (Kd.R_base ho0) hb)
                   have n14_ := a9_ (Kd.S_below (by (with_reducible repeat (first | apply Kd.S_alloc | apply Kd.S_drewN | apply Kd.S_drew)); exact HO_127006.out) hb)
                   have n15_ := a9_ (Kd.R_lower (Kd.R_new' (Kd.R_new' (Kd.R_new' (Kd.R_new' (Kd.R_new' (Kd.R_new' (Kd.R_new' (Kd.R_new' (Kd.R_new' (Kd.R_new' (Kd.R_new' ho0 (Kd.R_lt (rp9 HO_12.out))) (Kd.R_lt (rp9 HO_126001.out))) (Kd.R_lt (rp9 HO_126002.out))) (Kd.R_lt (rp9 HO_126003.out))) (Kd.R_lt (rp9 HO_126004.out))) (Kd.R_lt (rp9 HO_126005.out))) (Kd.R_lt (rp9 HO_127001.out))) (Kd.R_lt (rp9 HO_127002.out))) (Kd.R_lt (rp9 HO_127003.out))) (Kd.R_lt (rp9 HO_127004.out))) (Kd.R_lt (rp9 HO_127005.out))) (below_size (bp9 HB.out)))
                   have n16_ := a9_ (blk_below (kp9 BK125.out) hb)
                   have n17_ := a9_ (blk_below (kp9 BK126.out) hb)
                   have n18_ := a9_ (below_step (bp9 HB.out) hb)
                   clear HO_12 HO_126000 HO_126001 HO_126002 HO_126003 HO_126004 HO_126005 HO_126006 HO_127000 HO_127001 HO_127002 HO_127003 HO_127004 HO_127005 HO_127006 BK125 BK126 HB
                   revert n0_ n1_ n2_ n3_ n4_ n5_ n6_ n7_ n8_ n9_ n10_ n11_ n12_ n13_ n14_ n15_ n16_ n17_ n18_; intro HO_12 HO_126000 HO_126001 HO_126002 HO_126003 HO_126004 HO_126005 HO_126006 HO_127000 HO_127001 HO_127002 HO_127003 HO_127004 HO_127005 HO_127006 HO151 BK125 BK126 HB
                   (try clear hb)
                   (try clear ho0)
                   refine hK.out _ _ ⟨(blk_cell BK126.out 0).trans rfl, (blk_cell BK126.out 1).trans rfl, (blk_cell BK126.out 2).trans rfl, (blk_cell BK126.out 3).trans rfl, (blk_cell BK126.out 4).trans rfl, (blk_cell BK126.out 5).trans rfl, (blk_cell BK126.out 6).trans rfl⟩ (fun hHeld => ?_)
                   clear hK K
                   refine norm_ (a' := ?_) ?_ ?_
                   rotate_left
                   ·show Act.put _ (some 110) _ = _
                    exact put9
                   refine one_ (i := 5) (N := some 113) #[i9, i9, i9, i9, i9, i9, o9, o9] rfl rfl (one_of HT_.out (by kernel_rfl)) (by decide) (fun K hK => ?_)
                   refine goes9 Try.func88 (by kernel_rfl) rfl #[.agg #[.slice Ao15 t103.length co15, .slice Ao17 t106.length co17, .slice Ao18 t109.length co18, .slice Ao19 t112.length co19, .slice Ao20 t115.length co20, .slice Ao21 t118.length co21, .slice Ao22 t121.length co22], .slice A1 l1.length c1] (by rfl) rfl rfl ?_
                   with_reducible refine (dob_Rfi.calls kj52 _ _ t103 _ _ t106 _ _ t109 _ _ t112 _ _ t115 _ _ t118 _ _ t121 _ _ l1 t152 _ ?side1 ?side2 ?side3 ?side4 ?side5 ?side6 ?side7 ?side8 ?side9 ?side10 ?side11 ?side12 ?side13 ?side14 ?side15 ?side16 A89.out).mono ?_
                   (case side1 => exact lp9 (Kd.R_reads' HO_127000.out).2.2)
                   (case side2 => exact (Kd.R_reads' HO_127000.out).2.1)
                   (case side3 => exact lp9 (Kd.R_reads' HO_127001.out).2.2)
                   (case side4 => exact (Kd.R_reads' HO_127001.out).2.1)
                   (case side5 => exact lp9 (Kd.R_reads' HO_127002.out).2.2)
                   (case side6 => exact (Kd.R_reads' HO_127002.out).2.1)
                   (case side7 => exact lp9 (Kd.R_reads' HO_127003.out).2.2)
                   (case side8 => exact (Kd.R_reads' HO_127003.out).2.1)
                   (case side9 => exact lp9 (Kd.R_reads' HO_127004.out).2.2)
                   (case side10 => exact (Kd.R_reads' HO_127004.out).2.1)
                   (case side11 => exact lp9 (Kd.R_reads' HO_127005.out).2.2)
                   (case side12 => exact (Kd.R_reads' HO_127005.out).2.1)
                   (case side13 => exact lp9 (Kd.S_reads' HO_127006.out).2.2)
                   (case side14 => exact (Kd.S_reads' HO_127006.out).2.1)
                   (case side15 => exact cp9 HR1.out HB.out)
                   (case side16 => exact HC1.out)
                   rintro e w108 ⟨v153, rfl, ho0, hb⟩
                   refine ⟨_, rfl, ?_⟩
                   have n0_ := a9_ (Kd.R_elder' (rp9 HO_12.out) (Kd.R_base ho0) hb)
                   have n1_ := a9_ (Kd.R_below (rp9 HO_126000.out) hb)
                   have n2_ := a9_ (Kd.R_elder' (rp9 HO_126001.out) (Kd.R_base ho0) hb)
                   have n3_ := a9_ (Kd.R_elder' (rp9 HO_126002.out) (Kd.R_base ho0) hb)
                   have n4_ := a9_ (Kd.R_elder' (rp9 HO_126003.out) (Kd.R_base ho0) hb)
                   have n5_ := a9_ (Kd.R_elder' (rp9 HO_126004.out) (Kd.R_base ho0) hb)
                   have n6_ := a9_ (Kd.R_elder' (rp9 HO_126005.out) (Kd.R_base ho0) hb)
                   have n7_ := a9_ (Kd.S_below (by (with_reducible repeat (first | apply Kd.S_alloc | apply Kd.S_drewN | apply Kd.S_drew)); exact HO_126006.out) hb)
                   have n8_ := a9_ (Kd.R_below (rp9 HO_127000.out) hb)
                   have n9_ := a9_ (Kd.R_elder' (rp9 HO_127001.out) (Kd.R_base ho0) hb)
                   have n10_ := a9_ (Kd.R_elder' (rp9 HO_127002.out) (Kd.R_base ho0) hb)
                   have n11_ := a9_ (Kd.R_elder' (rp9 HO_127003.out) (Kd.R_base ho0) hb)
                   have n12_ := a9_ (Kd.R_elder' (rp9 HO_127004.out) (Kd.R_base ho0) hb)
                   have n13_ := a9_ (Kd.R_elder' (rp9 HO_127005.out) (Kd.R_base ho0) hb)
                   have n14_ := a9_ (Kd.S_below (by (with_reducible repeat (first | apply Kd.S_alloc | apply Kd.S_drewN | apply Kd.S_drew)); exact HO_127006.out) hb)
                   have n15_ := a9_ (Kd.R_elder' (rp9 HO151.out) (Kd.R_base ho0) hb)
                   have n16_ := a9_ (Kd.R_lower (Kd.R_new' (Kd.R_new' (Kd.R_new' (Kd.R_new' (Kd.R_new' (Kd.R_new' (Kd.R_new' (Kd.R_new' (Kd.R_new' (Kd.R_new' (Kd.R_new' (Kd.R_new' ho0 (Kd.R_lt (rp9 HO_12.out))) (Kd.R_lt (rp9 HO_126001.out))) (Kd.R_lt (rp9 HO_126002.out))) (Kd.R_lt (rp9 HO_126003.out))) (Kd.R_lt (rp9 HO_126004.out))) (Kd.R_lt (rp9 HO_126005.out))) (Kd.R_lt (rp9 HO_127001.out))) (Kd.R_lt (rp9 HO_127002.out))) (Kd.R_lt (rp9 HO_127003.out))) (Kd.R_lt (rp9 HO_127004.out))) (Kd.R_lt (rp9 HO_127005.out))) (Kd.R_lt (rp9 HO151.out))) (below_size (bp9 HB.out)))
                   have n17_ := a9_ (blk_below (kp9 BK125.out) hb)
                   have n18_ := a9_ (blk_below (kp9 BK126.out) hb)
                   have n19_ := a9_ (below_step (bp9 HB.out) hb)
                   clear HO_12 HO_126000 HO_126001 HO_126002 HO_126003 HO_126004 HO_126005 HO_126006 HO_127000 HO_127001 HO_127002 HO_127003 HO_127004 HO_127005 HO_127006 HO151 BK125 BK126 HB
                   revert n0_ n1_ n2_ n3_ n4_ n5_ n6_ n7_ n8_ n9_ n10_ n11_ n12_ n13_ n14_ n15_ n16_ n17_ n18_ n19_; intro HO_12 HO_126000 HO_126001 HO_126002 HO_126003 HO_126004 HO_126005 HO_126006 HO_127000 HO_127001 HO_127002 HO_127003 HO_127004 HO_127005 HO_127006 HO151 HO154 BK125 BK126 HB
                   (try clear hb)
                   (try clear ho0)
                   obtain ⟨Ao109, co109, eo109⟩ := Kd.R_slice HO151.out
                   (first | subst eo109 | (injection eo109 with f1_ f2_ f3_; have f4_ := f1_.symm; have f5_ := f3_.symm; clear f1_ f2_ f3_; subst f4_; subst f5_))
                   obtain ⟨Ao110, co110, eo110⟩ := Kd.R_slice HO154.out
                   (first | subst eo110 | (injection eo110 with f1_ f2_ f3_; have f4_ := f1_.symm; have f5_ := f3_.symm; clear f1_ f2_ f3_; subst f4_; subst f5_))
                   refine hK.out _ _ ⟨(blk_cell BK126.out 0).trans rfl, (blk_cell BK126.out 1).trans rfl, (blk_cell BK126.out 2).trans rfl, (blk_cell BK126.out 3).trans rfl, (blk_cell BK126.out 4).trans rfl, (blk_cell BK126.out 5).trans rfl, (blk_cell BK126.out 6).trans rfl⟩ (fun hHeld => ?_)
                   clear hK K
                   refine norm_ (a' := ?_) ?_ ?_
                   rotate_left
                   ·show Act.put _ (some 113) _ = _
                    exact put9
                   refine one_ (i := 6) (N := some 114) #[i9, i9, i9, i9, i9, i9, i9, o9] rfl rfl (one_of HT_.out (by kernel_rfl)) (by decide) (fun K hK => ?_)
                   refine goes9 Try.func58 (by kernel_rfl) rfl #[.slice Ao109 t149.length co109, .slice Ao110 t152.length co110] (by rfl) rfl rfl ?_
                   with_reducible refine (rel_Or.calls _ _ t149 _ _ t152 t155 _ ?side1 ?side2 ?side3 ?side4 A90.out).mono ?_
                   (case side1 => exact lp9 (Kd.R_reads' HO151.out).2.2)
                   (case side2 => exact (Kd.R_reads' HO151.out).2.1)
                   (case side3 => exact lp9 (Kd.R_reads' HO154.out).2.2)
                   (case side4 => exact (Kd.R_reads' HO154.out).2.1)
                   rintro e w111 ⟨v156, rfl, ho0, hb⟩
                   refine ⟨_, rfl, ?_⟩
                   have n0_ := a9_ (Kd.R_elder' (rp9 HO_12.out) (Kd.R_base ho0) hb)
                   have n1_ := a9_ (Kd.R_below (rp9 HO_126000.out) hb)
                   have n2_ := a9_ (Kd.R_elder' (rp9 HO_126001.out) (Kd.R_base ho0) hb)
                   have n3_ := a9_ (Kd.R_elder' (rp9 HO_126002.out) (Kd.R_base ho0) hb)
                   have n4_ := a9_ (Kd.R_elder' (rp9 HO_126003.out) (Kd.R_base ho0) hb)
                   have n5_ := a9_ (Kd.R_elder' (rp9 HO_126004.out) (Kd.R_base ho0) hb)
                   have n6_ := a9_ (Kd.R_elder' (rp9 HO_126005.out) (Kd.R_base ho0) hb)
                   have n7_ := a9_ (Kd.S_below (by (with_reducible repeat (first | apply Kd.S_alloc | apply Kd.S_drewN | apply Kd.S_drew)); exact HO_126006.out) hb)
                   have n8_ := a9_ (Kd.R_below (rp9 HO_127000.out) hb)
                   have n9_ := a9_ (Kd.R_elder' (rp9 HO_127001.out) (Kd.R_base ho0) hb)
                   have n10_ := a9_ (Kd.R_elder' (rp9 HO_127002.out) (Kd.R_base ho0) hb)
                   have n11_ := a9_ (Kd.R_elder' (rp9 HO_127003.out) (Kd.R_base ho0) hb)
                   have n12_ := a9_ (Kd.R_elder' (rp9 HO_127004.out) (Kd.R_base ho0) hb)
                   have n13_ := a9_ (Kd.R_elder' (rp9 HO_127005.out) (Kd.R_base ho0) hb)
                   have n14_ := a9_ (Kd.S_below (by (with_reducible repeat (first | apply Kd.S_alloc | apply Kd.S_drewN | apply Kd.S_drew)); exact HO_127006.out) hb)
                   have n15_ := a9_ (Kd.R_elder' (rp9 HO151.out) (Kd.R_base ho0) hb)
                   have n16_ := a9_ (Kd.R_elder' (rp9 HO154.out) (Kd.R_base ho0) hb)
                   have n17_ := a9_ (Kd.R_lower (Kd.R_new' (Kd.R_new' (Kd.R_new' (Kd.R_new' (Kd.R_new' (Kd.R_new' (Kd.R_new' (Kd.R_new' (Kd.R_new' (Kd.R_new' (Kd.R_new' (Kd.R_new' (Kd.R_new' ho0 (Kd.R_lt (rp9 HO_12.out))) (Kd.R_lt (rp9 HO_126001.out))) (Kd.R_lt (rp9 HO_126002.out))) (Kd.R_lt (rp9 HO_126003.out))) (Kd.R_lt (rp9 HO_126004.out))) (Kd.R_lt (rp9 HO_126005.out))) (Kd.R_lt (rp9 HO_127001.out))) (Kd.R_lt (rp9 HO_127002.out))) (Kd.R_lt (rp9 HO_127003.out))) (Kd.R_lt (rp9 HO_127004.out))) (Kd.R_lt (rp9 HO_127005.out))) (Kd.R_lt (rp9 HO151.out))) (Kd.R_lt (rp9 HO154.out))) (below_size (bp9 HB.out)))
                   have n18_ := a9_ (blk_below (kp9 BK125.out) hb)
                   have n19_ := a9_ (blk_below (kp9 BK126.out) hb)
                   have n20_ := a9_ (below_step (bp9 HB.out) hb)
                   clear HO_12 HO_126000 HO_126001 HO_126002 HO_126003 HO_126004 HO_126005 HO_126006 HO_127000 HO_127001 HO_127002 HO_127003 HO_127004 HO_127005 HO_127006 HO151 HO154 BK125 BK126 HB
                   revert n0_ n1_ n2_ n3_ n4_ n5_ n6_ n7_ n8_ n9_ n10_ n11_ n12_ n13_ n14_ n15_ n16_ n17_ n18_ n19_ n20_; intro HO_12 HO_126000 HO_126001 HO_126002 HO_126003 HO_126004 HO_126005 HO_126006 HO_127000 HO_127001 HO_127002 HO_127003 HO_127004 HO_127005 HO_127006 HO151 HO154 HO157 BK125 BK126 HB
                   (try clear hb)
                   (try clear ho0)
                   refine hK.out _ _ ⟨(blk_cell BK126.out 0).trans rfl, (blk_cell BK126.out 1).trans rfl, (blk_cell BK126.out 2).trans rfl, (blk_cell BK126.out 3).trans rfl, (blk_cell BK126.out 4).trans rfl, (blk_cell BK126.out 5).trans rfl, (blk_cell BK126.out 6).trans rfl⟩ (fun hHeld => ?_)
                   clear hK K
                   refine norm_ (a' := ?_) ?_ ?_
                   rotate_left
                   ·show Act.put _ (some 114) _ = _
                    exact put9
                   refine pureA 7 (some 17) ?_ #[i9, i9, i9, i9, i9, i9, i9, i9] rfl rfl (any_of HT_.out (by kernel_rfl)) ?_ ?_ ?_ ?_
                   rotate_left
                   ·intro w'; go_simp; with_reducible rfl
                   rotate_left
                   ·exact put9
                   refine done_ (done_of HT_.out (by kernel_rfl)) ?_
                   have hnb112 := NB126_125.out
                   have hnc112 := NB125_126.out
                   obtain ⟨hcz113_0, hcz113_1, hcz113_2, hcz113_3, hcz113_4, hcz113_5, hcz113_6, hfz113_0, hfz113_1, hfz113_2, hfz113_3, hfz113_4, hfz113_5, hfz113_6⟩ := cz7 BK126.out
                   obtain ⟨Ao114, co114, eo114⟩ := Kd.R_slice HO157.out
                   subst eo114
                   try go_wp2_with (first | ((with_reducible refine gate_callee (f := 60) rfl ?_); refine goesL9 (some 118) rfl rfl Try.func60 (by kernel_rfl) rfl #[.slice Ao114 t155.length co114, .slice Ao17 t106.length co17] rfl ?_; (with_reducible refine (rel_And.calls _ _ t155 _ _ t106 t158 _ ?side1 ?side2 ?side3 ?side4 A91.out).mono ?_); (case side1 => exact lp9 (Kd.R_reads' HO157.out).2.2); (case side2 => exact (Kd.R_reads' HO157.out).2.1); (case side3 => exact lp9 (Kd.R_reads' HO_127001.out).2.2); (case side4 => exact (Kd.R_reads' HO_127001.out).2.1); rintro e w115 ⟨v159, rfl, ho0, hb⟩; refine ⟨_, rfl, ?_⟩; have n0_ := a9_ (Kd.R_elder' (rp9 HO_12.out) (Kd.R_base ho0) hb); have n1_ := a9_ (Kd.R_below (rp9 HO_126000.out) hb); have n2_ := a9_ (Kd.R_elder' (rp9 HO_126001.out) (Kd.R_base ho0) hb); have n3_ := a9_ (Kd.R_elder' (rp9 HO_126002.out) (Kd.R_base ho0) hb); have n4_ := a9_ (Kd.R_elder' (rp9 HO_126003.out) (Kd.R_base ho0) hb); have n5_ := a9_ (Kd.R_elder' (rp9 HO_126004.out) (Kd.R_base ho0) hb); have n6_ := a9_ (Kd.R_elder' (rp9 HO_126005.out) (Kd.R_base ho0) hb); have n7_ := a9_ (Kd.S_below (by (with_reducible repeat (first | apply Kd.S_alloc | apply Kd.S_drewN | apply Kd.S_drew)); exact HO_126006.out) hb); have n8_ := a9_ (Kd.R_below (rp9 HO_127000.out) hb); have n9_ := a9_ (Kd.R_elder' (rp9 HO_127001.out) (Kd.R_base ho0) hb); have n10_ := a9_ (Kd.R_elder' (rp9 HO_127002.out) (Kd.R_base ho0) hb); have n11_ := a9_ (Kd.R_elder' (rp9 HO_127003.out) (Kd.R_base ho0) hb); have n12_ := a9_ (Kd.R_elder' (rp9 HO_127004.out) (Kd.R_base ho0) hb); have n13_ := a9_ (Kd.R_elder' (rp9 HO_127005.out) (Kd.R_base ho0) hb); have n14_ := a9_ (Kd.S_below (by (with_reducible repeat (first | apply Kd.S_alloc | apply Kd.S_drewN | apply Kd.S_drew)); exact HO_127006.out) hb); have n15_ := a9_ (Kd.R_elder' (rp9 HO151.out) (Kd.R_base ho0) hb); have n16_ := a9_ (Kd.R_elder' (rp9 HO154.out) (Kd.R_base ho0) hb); have n17_ := a9_ (Kd.R_elder' (rp9 HO157.out) (Kd.R_base ho0) hb); have n18_ := a9_ (Kd.R_lower (Kd.R_new' (Kd.R_new' (Kd.R_new' (Kd.R_new' (Kd.R_new' (Kd.R_new' (Kd.R_new' (Kd.R_new' (Kd.R_new' (Kd.R_new' (Kd.R_new' (Kd.R_new' (Kd.R_new' (Kd.R_new' ho0 (Kd.R_lt (rp9 HO_12.out))) (Kd.R_lt (rp9 HO_126001.out))) (Kd.R_lt (rp9 HO_126002.out))) (Kd.R_lt (rp9 HO_126003.out))) (Kd.R_lt (rp9 HO_126004.out))) (Kd.R_lt (rp9 HO_126005.out))) (Kd.R_lt (rp9 HO_127001.out))) (Kd.R_lt (rp9 HO_127002.out))) (Kd.R_lt (rp9 HO_127003.out))) (Kd.R_lt (rp9 HO_127004.out))) (Kd.R_lt (rp9 HO_127005.out))) (Kd.R_lt (rp9 HO151.out))) (Kd.R_lt (rp9 HO154.out))) (Kd.R_lt (rp9 HO157.out))) (below_size (bp9 HB.out))); have n19_ := a9_ (blk_below (kp9 BK125.out) hb); have n20_ := a9_ (blk_below (kp9 BK126.out) hb); have n21_ := a9_ (below_step (bp9 HB.out) hb); clear HO_12; clear HO_126000; clear HO_126001; clear HO_126002; clear HO_126003; clear HO_126004; clear HO_126005; clear HO_126006; clear HO_127000; clear HO_127001; clear HO_127002; clear HO_127003; clear HO_127004; clear HO_127005; clear HO_127006; clear HO151; clear HO154; clear HO157; clear BK125; clear BK126; clear HB; have HO_12 := n0_; have HO_126000 := n1_; have HO_126001 := n2_; have HO_126002 := n3_; have HO_126003 := n4_; have HO_126004 := n5_; have HO_126005 := n6_; have HO_126006 := n7_; have HO_127000 := n8_; have HO_127001 := n9_; have HO_127002 := n10_; have HO_127003 := n11_; have HO_127004 := n12_; have HO_127005 := n13_; have HO_127006 := n14_; have HO151 := n15_; have HO154 := n16_; have HO157 := n17_; have HO160 := n18_; have BK125 := n19_; have BK126 := n20_; have HB := n21_; clear n0_ n1_ n2_ n3_ n4_ n5_ n6_ n7_ n8_ n9_ n10_ n11_ n12_ n13_ n14_ n15_ n16_ n17_ n18_ n19_ n20_ n21_; (try clear hb); (try clear ho0); obtain ⟨Ao116, co116, eo116⟩ := Kd.R_slice HO160.out; subst eo116) | ((with_reducible refine gate_callee (f := 41) rfl ?_); refine goesL9 (some 120) rfl rfl Try.func41 (by kernel_rfl) rfl #[.slice Ao116 t158.length co116, .slice Ao114 t155.length co114] rfl ?_; (with_reducible refine (rel_Same.calls kj52 _ _ t158 _ _ t155 true _ ?side1 ?side2 ?side3 ?side4 A92.out).mono ?_); (case side1 => exact lp9 (Kd.R_reads' HO160.out).2.2); (case side2 => exact (Kd.R_reads' HO160.out).2.1); (case side3 => exact lp9 (Kd.R_reads' HO157.out).2.2); (case side4 => exact (Kd.R_reads' HO157.out).2.1); rintro e w117 ⟨rfl, hb⟩; refine ⟨_, rfl, ?_⟩; have n0_ := a9_ (Kd.R_below (rp9 HO_12.out) hb); have n1_ := a9_ (Kd.R_below (rp9 HO_126000.out) hb); have n2_ := a9_ (Kd.R_below (rp9 HO_126001.out) hb); have n3_ := a9_ (Kd.R_below (rp9 HO_126002.out) hb); have n4_ := a9_ (Kd.R_below (rp9 HO_126003.out) hb); have n5_ := a9_ (Kd.R_below (rp9 HO_126004.out) hb); have n6_ := a9_ (Kd.R_below (rp9 HO_126005.out) hb); have n7_ := a9_ (Kd.S_below (by (with_reducible repeat (first | apply Kd.S_alloc | apply Kd.S_drewN | apply Kd.S_drew)); exact HO_126006.out) hb); have n8_ := a9_ (Kd.R_below (rp9 HO_127000.out) hb); have n9_ := a9_ (Kd.R_below (rp9 HO_127001.out) hb); have n10_ := a9_ (Kd.R_below (rp9 HO_127002.out) hb); have n11_ := a9_ (Kd.R_below (rp9 HO_127003.out) hb); have n12_ := a9_ (Kd.R_below (rp9 HO_127004.out) hb); have n13_ := a9_ (Kd.R_below (rp9 HO_127005.out) hb); have n14_ := a9_ (Kd.S_below (by (with_reducible repeat (first | apply Kd.S_alloc | apply Kd.S_drewN | apply Kd.S_drew)); exact HO_127006.out) hb); have n15_ := a9_ (Kd.R_below (rp9 HO151.out) hb); have n16_ := a9_ (Kd.R_below (rp9 HO154.out) hb); have n17_ := a9_ (Kd.R_below (rp9 HO157.out) hb); have n18_ := a9_ (Kd.R_below (rp9 HO160.out) hb); have n19_ := a9_ (blk_below (kp9 BK125.out) hb); have n20_ := a9_ (blk_below (kp9 BK126.out) hb); have n21_ := a9_ (below_step (bp9 HB.out) hb); clear HO_12; clear HO_126000; clear HO_126001; clear HO_126002; clear HO_126003; clear HO_126004; clear HO_126005; clear HO_126006; clear HO_127000; clear HO_127001; clear HO_127002; clear HO_127003; clear HO_127004; clear HO_127005; clear HO_127006; clear HO151; clear HO154; clear HO157; clear HO160; clear BK125; clear BK126; clear HB; have HO_12 := n0_; have HO_126000 := n1_; have HO_126001 := n2_; have HO_126002 := n3_; have HO_126003 := n4_; have HO_126004 := n5_; have HO_126005 := n6_; have HO_126006 := n7_; have HO_127000 := n8_; have HO_127001 := n9_; have HO_127002 := n10_; have HO_127003 := n11_; have HO_127004 := n12_; have HO_127005 := n13_; have HO_127006 := n14_; have HO151 := n15_; have HO154 := n16_; have HO157 := n17_; have HO160 := n18_; have BK125 := n19_; have BK126 := n20_; have HB := n21_; clear n0_ n1_ n2_ n3_ n4_ n5_ n6_ n7_ n8_ n9_ n10_ n11_ n12_ n13_ n14_ n15_ n16_ n17_ n18_ n19_ n20_ n21_; (try clear hb); obtain ⟨hcz118_0, hcz118_1, hcz118_2, hcz118_3, hcz118_4, hcz118_5, hcz118_6, hfz118_0, hfz118_1, hfz118_2, hfz118_3, hfz118_4, hfz118_5, hfz118_6⟩ := cz7 BK126.out) | ((with_reducible refine gate_callee (f := 80) rfl ?_); refine goesL9 (some 126) rfl rfl Try.func80 (by kernel_rfl) rfl #[.agg #[.slice Ao15 t103.length co15, .slice Ao17 t106.length co17, .slice Ao18 t109.length co18, .slice Ao19 t112.length co19, .slice Ao20 t115.length co20, .slice Ao21 t118.length co21, .slice Ao22 t121.length co22], .slice A1 l1.length c1, .slice A2 l2.length c2] rfl ?_; (with_reducible refine (dob_Dob.calls kj52 _ _ t103 _ _ t106 _ _ t109 _ _ t112 _ _ t115 _ _ t118 _ _ t121 _ _ l1 _ _ l2 t162 _ ?side1 ?side2 ?side3 ?side4 ?side5 ?side6 ?side7 ?side8 ?side9 ?side10 ?side11 ?side12 ?side13 ?side14 ?side15 ?side16 ?side17 ?side18 A94.out).mono ?_); (case side1 => exact lp9 (Kd.R_reads' HO_127000.out).2.2); (case side2 => exact (Kd.R_reads' HO_127000.out).2.1); (case side3 => exact lp9 (Kd.R_reads' HO_127001.out).2.2); (case side4 => exact (Kd.R_reads' HO_127001.out).2.1); (case side5 => exact lp9 (Kd.R_reads' HO_127002.out).2.2); (case side6 => exact (Kd.R_reads' HO_127002.out).2.1); (case side7 => exact lp9 (Kd.R_reads' HO_127003.out).2.2); (case side8 => exact (Kd.R_reads' HO_127003.out).2.1); (case side9 => exact lp9 (Kd.R_reads' HO_127004.out).2.2); (case side10 => exact (Kd.R_reads' HO_127004.out).2.1); (case side11 => exact lp9 (Kd.R_reads' HO_127005.out).2.2); (case side12 => exact (Kd.R_reads' HO_127005.out).2.1); (case side13 => exact lp9 (Kd.S_reads' HO_127006.out).2.2); (case side14 => exact (Kd.S_reads' HO_127006.out).2.1); (case side15 => exact cp9 HR1.out HB.out); (case side16 => exact HC1.out); (case side17 => exact cp9 HR2.out HB.out); (case side18 => exact HC2.out); rintro e w119 ⟨v163, rfl, ho0, hb⟩; refine ⟨_, rfl, ?_⟩; have n0_ := a9_ (Kd.R_elder' (rp9 HO_12.out) (Kd.R_base ho0) hb); have n1_ := a9_ (Kd.R_below (rp9 HO_126000.out) hb); have n2_ := a9_ (Kd.R_elder' (rp9 HO_126001.out) (Kd.R_base ho0) hb); have n3_ := a9_ (Kd.R_elder' (rp9 HO_126002.out) (Kd.R_base ho0) hb); have n4_ := a9_ (Kd.R_elder' (rp9 HO_126003.out) (Kd.R_base ho0) hb); have n5_ := a9_ (Kd.R_elder' (rp9 HO_126004.out) (Kd.R_base ho0) hb); have n6_ := a9_ (Kd.R_elder' (rp9 HO_126005.out) (Kd.R_base ho0) hb); have n7_ := a9_ (Kd.S_below (by (with_reducible repeat (first | apply Kd.S_alloc | apply Kd.S_drewN | apply Kd.S_drew)); exact HO_126006.out) hb); have n8_ := a9_ (Kd.R_below (rp9 HO_127000.out) hb); have n9_ := a9_ (Kd.R_elder' (rp9 HO_127001.out) (Kd.R_base ho0) hb); have n10_ := a9_ (Kd.R_elder' (rp9 HO_127002.out) (Kd.R_base ho0) hb); have n11_ := a9_ (Kd.R_elder' (rp9 HO_127003.out) (Kd.R_base ho0) hb); have n12_ := a9_ (Kd.R_elder' (rp9 HO_127004.out) (Kd.R_base ho0) hb); have n13_ := a9_ (Kd.R_elder' (rp9 HO_127005.out) (Kd.R_base ho0) hb); have n14_ := a9_ (Kd.S_below (by (with_reducible repeat (first | apply Kd.S_alloc | apply Kd.S_drewN | apply Kd.S_drew)); exact HO_127006.out) hb); have n15_ := a9_ (Kd.R_elder' (rp9 HO151.out) (Kd.R_base ho0) hb); have n16_ := a9_ (Kd.R_elder' (rp9 HO154.out) (Kd.R_base ho0) hb); have n17_ := a9_ (Kd.R_elder' (rp9 HO157.out) (Kd.R_base ho0) hb); have n18_ := a9_ (Kd.R_elder' (rp9 HO160.out) (Kd.R_base ho0) hb); have n19_ := a9_ (Kd.R_lower (Kd.R_new' (Kd.R_new' (Kd.R_new' (Kd.R_new' (Kd.R_new' (Kd.R_new' (Kd.R_new' (Kd.R_new' (Kd.R_new' (Kd.R_new' (Kd.R_new' (Kd.R_new' (Kd.R_new' (Kd.R_new' (Kd.R_new' ho0 (Kd.R_lt (rp9 HO_12.out))) (Kd.R_lt (rp9 HO_126001.out))) (Kd.R_lt (rp9 HO_126002.out))) (Kd.R_lt (rp9 HO_126003.out))) (Kd.R_lt (rp9 HO_126004.out))) (Kd.R_lt (rp9 HO_126005.out))) (Kd.R_lt (rp9 HO_127001.out))) (Kd.R_lt (rp9 HO_127002.out))) (Kd.R_lt (rp9 HO_127003.out))) (Kd.R_lt (rp9 HO_127004.out))) (Kd.R_lt (rp9 HO_127005.out))) (Kd.R_lt (rp9 HO151.out))) (Kd.R_lt (rp9 HO154.out))) (Kd.R_lt (rp9 HO157.out))) (Kd.R_lt (rp9 HO160.out))) (below_size (bp9 HB.out))); have n20_ := a9_ (blk_below (kp9 BK125.out) hb); have n21_ := a9_ (blk_below (kp9 BK126.out) hb); have n22_ := a9_ (below_step (bp9 HB.out) hb); clear HO_12; clear HO_126000; clear HO_126001; clear HO_126002; clear HO_126003; clear HO_126004; clear HO_126005; clear HO_126006; clear HO_127000; clear HO_127001; clear HO_127002; clear HO_127003; clear HO_127004; clear HO_127005; clear HO_127006; clear HO151; clear HO154; clear HO157; clear HO160; clear BK125; clear BK126; clear HB; have HO_12 := n0_; have HO_126000 := n1_; have HO_126001 := n2_; have HO_126002 := n3_; have HO_126003 := n4_; have HO_126004 := n5_; have HO_126005 := n6_; have HO_126006 := n7_; have HO_127000 := n8_; have HO_127001 := n9_; have HO_127002 := n10_; have HO_127003 := n11_; have HO_127004 := n12_; have HO_127005 := n13_; have HO_127006 := n14_; have HO151 := n15_; have HO154 := n16_; have HO157 := n17_; have HO160 := n18_; have HO164 := n19_; have BK125 := n20_; have BK126 := n21_; have HB := n22_; clear n0_ n1_ n2_ n3_ n4_ n5_ n6_ n7_ n8_ n9_ n10_ n11_ n12_ n13_ n14_ n15_ n16_ n17_ n18_ n19_ n20_ n21_ n22_; (try clear hb); (try clear ho0); obtain ⟨hcz120_0, hcz120_1, hcz120_2, hcz120_3, hcz120_4, hcz120_5, hcz120_6, hfz120_0, hfz120_1, hfz120_2, hfz120_3, hfz120_4, hfz120_5, hfz120_6⟩ := cz7 BK126.out; obtain ⟨Ao121, co121, eo121⟩ := Kd.R_slice HO164.out; subst eo121) | (go_at_call 60; (with_reducible refine (rel_And.calls _ _ t162 _ _ t106 t165 _ ?side1 ?side2 ?side3 ?side4 A96.out).mono ?_); (case side1 => exact lp9 (Kd.R_reads' HO164.out).2.2); (case side2 => exact (Kd.R_reads' HO164.out).2.1); (case side3 => exact lp9 (Kd.R_reads' HO_127001.out).2.2); (case side4 => exact (Kd.R_reads' HO_127001.out).2.1); rintro e w122 ⟨v166, rfl, ho0, hb⟩; have n0_ := a9_ (Kd.R_elder' (rp9 HO_12.out) (Kd.R_base ho0) hb); have n1_ := a9_ (Kd.R_below (rp9 HO_126000.out) hb); have n2_ := a9_ (Kd.R_elder' (rp9 HO_126001.out) (Kd.R_base ho0) hb); have n3_ := a9_ (Kd.R_elder' (rp9 HO_126002.out) (Kd.R_base ho0) hb); have n4_ := a9_ (Kd.R_elder' (rp9 HO_126003.out) (Kd.R_base ho0) hb); have n5_ := a9_ (Kd.R_elder' (rp9 HO_126004.out) (Kd.R_base ho0) hb); have n6_ := a9_ (Kd.R_elder' (rp9 HO_126005.out) (Kd.R_base ho0) hb); have n7_ := a9_ (Kd.S_below (by (with_reducible repeat (first | apply Kd.S_alloc | apply Kd.S_drewN | apply Kd.S_drew)); exact HO_126006.out) hb); have n8_ := a9_ (Kd.R_below (rp9 HO_127000.out) hb); have n9_ := a9_ (Kd.R_elder' (rp9 HO_127001.out) (Kd.R_base ho0) hb); have n10_ := a9_ (Kd.R_elder' (rp9 HO_127002.out) (Kd.R_base ho0) hb); have n11_ := a9_ (Kd.R_elder' (rp9 HO_127003.out) (Kd.R_base ho0) hb); have n12_ := a9_ (Kd.R_elder' (rp9 HO_127004.out) (Kd.R_base ho0) hb); have n13_ := a9_ (Kd.R_elder' (rp9 HO_127005.out) (Kd.R_base ho0) hb); have n14_ := a9_ (Kd.S_below (by (with_reducible repeat (first | apply Kd.S_alloc | apply Kd.S_drewN | apply Kd.S_drew)); exact HO_127006.out) hb); have n15_ := a9_ (Kd.R_elder' (rp9 HO151.out) (Kd.R_base ho0) hb); have n16_ := a9_ (Kd.R_elder' (rp9 HO154.out) (Kd.R_base ho0) hb); have n17_ := a9_ (Kd.R_elder' (rp9 HO157.out) (Kd.R_base ho0) hb); have n18_ := a9_ (Kd.R_elder' (rp9 HO160.out) (Kd.R_base ho0) hb); have n19_ := a9_ (Kd.R_elder' (rp9 HO164.out) (Kd.R_base ho0) hb); have n20_ := a9_ (Kd.R_lower (Kd.R_new' (Kd.R_new' (Kd.R_new' (Kd.R_new' (Kd.R_new' (Kd.R_new' (Kd.R_new' (Kd.R_new' (Kd.R_new' (Kd.R_new' (Kd.R_new' (Kd.R_new' (Kd.R_new' (Kd.R_new' (Kd.R_new' (Kd.R_new' ho0 (Kd.R_lt (rp9 HO_12.out))) (Kd.R_lt (rp9 HO_126001.out))) (Kd.R_lt (rp9 HO_126002.out))) (Kd.R_lt (rp9 HO_126003.out))) (Kd.R_lt (rp9 HO_126004.out))) (Kd.R_lt (rp9 HO_126005.out))) (Kd.R_lt (rp9 HO_127001.out))) (Kd.R_lt (rp9 HO_127002.out))) (Kd.R_lt (rp9 HO_127003.out))) (Kd.R_lt (rp9 HO_127004.out))) (Kd.R_lt (rp9 HO_127005.out))) (Kd.R_lt (rp9 HO151.out))) (Kd.R_lt (rp9 HO154.out))) (Kd.R_lt (rp9 HO157.out))) (Kd.R_lt (rp9 HO160.out))) (Kd.R_lt (rp9 HO164.out))) (below_size (bp9 HB.out))); have n21_ := a9_ (blk_below (kp9 BK125.out) hb); have n22_ := a9_ (blk_below (kp9 BK126.out) hb); have n23_ := a9_ (below_step (bp9 HB.out) hb); clear HO_12; clear HO_126000; clear HO_126001; clear HO_126002; clear HO_126003; clear HO_126004; clear HO_126005; clear HO_126006; clear HO_127000; clear HO_127001; clear HO_127002; clear HO_127003; clear HO_127004; clear HO_127005; clear HO_127006; clear HO151; clear HO154; clear HO157; clear HO160; clear HO164; clear BK125; clear BK126; clear HB; have HO_12 := n0_; have HO_126000 := n1_; have HO_126001 := n2_; have HO_126002 := n3_; have HO_126003 := n4_; have HO_126004 := n5_; have HO_126005 := n6_; have HO_126006 := n7_; have HO_127000 := n8_; have HO_127001 := n9_; have HO_127002 := n10_; have HO_127003 := n11_; have HO_127004 := n12_; have HO_127005 := n13_; have HO_127006 := n14_; have HO151 := n15_; have HO154 := n16_; have HO157 := n17_; have HO160 := n18_; have HO164 := n19_; have HO167 := n20_; have BK125 := n21_; have BK126 := n22_; have HB := n23_; clear n0_ n1_ n2_ n3_ n4_ n5_ n6_ n7_ n8_ n9_ n10_ n11_ n12_ n13_ n14_ n15_ n16_ n17_ n18_ n19_ n20_ n21_ n22_ n23_; (try clear hb); (try clear ho0); obtain ⟨Ao123, co123, eo123⟩ := Kd.R_slice HO167.out; subst eo123) | (go_at_call 41; (with_reducible refine (rel_Same.calls kj52 _ _ t165 _ _ t162 true _ ?side1 ?side2 ?side3 ?side4 A97.out).mono ?_); (case side1 => exact lp9 (Kd.R_reads' HO167.out).2.2); (case side2 => exact (Kd.R_reads' HO167.out).2.1); (case side3 => exact lp9 (Kd.R_reads' HO164.out).2.2); (case side4 => exact (Kd.R_reads' HO164.out).2.1); rintro e w124 ⟨rfl, hb⟩; have n0_ := a9_ (Kd.R_below (rp9 HO_12.out) hb); have n1_ := a9_ (Kd.R_below (rp9 HO_126000.out) hb); have n2_ := a9_ (Kd.R_below (rp9 HO_126001.out) hb); have n3_ := a9_ (Kd.R_below (rp9 HO_126002.out) hb); have n4_ := a9_ (Kd.R_below (rp9 HO_126003.out) hb); have n5_ := a9_ (Kd.R_below (rp9 HO_126004.out) hb); have n6_ := a9_ (Kd.R_below (rp9 HO_126005.out) hb); have n7_ := a9_ (Kd.S_below (by (with_reducible repeat (first | apply Kd.S_alloc | apply Kd.S_drewN | apply Kd.S_drew)); exact HO_126006.out) hb); have n8_ := a9_ (Kd.R_below (rp9 HO_127000.out) hb); have n9_ := a9_ (Kd.R_below (rp9 HO_127001.out) hb); have n10_ := a9_ (Kd.R_below (rp9 HO_127002.out) hb); have n11_ := a9_ (Kd.R_below (rp9 HO_127003.out) hb); have n12_ := a9_ (Kd.R_below (rp9 HO_127004.out) hb); have n13_ := a9_ (Kd.R_below (rp9 HO_127005.out) hb); have n14_ := a9_ (Kd.S_below (by (with_reducible repeat (first | apply Kd.S_alloc | apply Kd.S_drewN | apply Kd.S_drew)); exact HO_127006.out) hb); have n15_ := a9_ (Kd.R_below (rp9 HO151.out) hb); have n16_ := a9_ (Kd.R_below (rp9 HO154.out) hb); have n17_ := a9_ (Kd.R_below (rp9 HO157.out) hb); have n18_ := a9_ (Kd.R_below (rp9 HO160.out) hb); have n19_ := a9_ (Kd.R_below (rp9 HO164.out) hb); have n20_ := a9_ (Kd.R_below (rp9 HO167.out) hb); have n21_ := a9_ (blk_below (kp9 BK125.out) hb); have n22_ := a9_ (blk_below (kp9 BK126.out) hb); have n23_ := a9_ (below_step (bp9 HB.out) hb); clear HO_12; clear HO_126000; clear HO_126001; clear HO_126002; clear HO_126003; clear HO_126004; clear HO_126005; clear HO_126006; clear HO_127000; clear HO_127001; clear HO_127002; clear HO_127003; clear HO_127004; clear HO_127005; clear HO_127006; clear HO151; clear HO154; clear HO157; clear HO160; clear HO164; clear HO167; clear BK125; clear BK126; clear HB; have HO_12 := n0_; have HO_126000 := n1_; have HO_126001 := n2_; have HO_126002 := n3_; have HO_126003 := n4_; have HO_126004 := n5_; have HO_126005 := n6_; have HO_126006 := n7_; have HO_127000 := n8_; have HO_127001 := n9_; have HO_127002 := n10_; have HO_127003 := n11_; have HO_127004 := n12_; have HO_127005 := n13_; have HO_127006 := n14_; have HO151 := n15_; have HO154 := n16_; have HO157 := n17_; have HO160 := n18_; have HO164 := n19_; have HO167 := n20_; have BK125 := n21_; have BK126 := n22_; have HB := n23_; clear n0_ n1_ n2_ n3_ n4_ n5_ n6_ n7_ n8_ n9_ n10_ n11_ n12_ n13_ n14_ n15_ n16_ n17_ n18_ n19_ n20_ n21_ n22_ n23_; (try clear hb); (try clear hi)) | (go_at_call 54; (with_reducible refine (rel_Only.calls kj52 _ _ t162 x14_3 4294967295 t169 _ ?side1 ?side2 A99.out).mono ?_); (case side1 => exact lp9 (Kd.R_reads' HO164.out).2.2); (case side2 => exact (Kd.R_reads' HO164.out).2.1); rintro e w125 ⟨v170, rfl, ho0, hb⟩; have n0_ := a9_ (Kd.R_elder' (rp9 HO_12.out) (Kd.R_base ho0) hb); have n1_ := a9_ (Kd.R_below (rp9 HO_126000.out) hb); have n2_ := a9_ (Kd.R_elder' (rp9 HO_126001.out) (Kd.R_base ho0) hb); have n3_ := a9_ (Kd.R_elder' (rp9 HO_126002.out) (Kd.R_base ho0) hb); have n4_ := a9_ (Kd.R_elder' (rp9 HO_126003.out) (Kd.R_base ho0) hb); have n5_ := a9_ (Kd.R_elder' (rp9 HO_126004.out) (Kd.R_base ho0) hb); have n6_ := a9_ (Kd.R_elder' (rp9 HO_126005.out) (Kd.R_base ho0) hb); have n7_ := a9_ (Kd.S_below (by (with_reducible repeat (first | apply Kd.S_alloc | apply Kd.S_drewN | apply Kd.S_drew)); exact HO_126006.out) hb); have n8_ := a9_ (Kd.R_below (rp9 HO_127000.out) hb); have n9_ := a9_ (Kd.R_elder' (rp9 HO_127001.out) (Kd.R_base ho0) hb); have n10_ := a9_ (Kd.R_elder' (rp9 HO_127002.out) (Kd.R_base ho0) hb); have n11_ := a9_ (Kd.R_elder' (rp9 HO_127003.out) (Kd.R_base ho0) hb); have n12_ := a9_ (Kd.R_elder' (rp9 HO_127004.out) (Kd.R_base ho0) hb); have n13_ := a9_ (Kd.R_elder' (rp9 HO_127005.out) (Kd.R_base ho0) hb); have n14_ := a9_ (Kd.S_below (by (with_reducible repeat (first | apply Kd.S_alloc | apply Kd.S_drewN | apply Kd.S_drew)); exact HO_127006.out) hb); have n15_ := a9_ (Kd.R_elder' (rp9 HO151.out) (Kd.R_base ho0) hb); have n16_ := a9_ (Kd.R_elder' (rp9 HO154.out) (Kd.R_base ho0) hb); have n17_ := a9_ (Kd.R_elder' (rp9 HO157.out) (Kd.R_base ho0) hb); have n18_ := a9_ (Kd.R_elder' (rp9 HO160.out) (Kd.R_base ho0) hb); have n19_ := a9_ (Kd.R_elder' (rp9 HO164.out) (Kd.R_base ho0) hb); have n20_ := a9_ (Kd.R_elder' (rp9 HO167.out) (Kd.R_base ho0) hb); have n21_ := a9_ (Kd.R_lower (Kd.R_new' (Kd.R_new' (Kd.R_new' (Kd.R_new' (Kd.R_new' (Kd.R_new' (Kd.R_new' (Kd.R_new' (Kd.R_new' (Kd.R_new' (Kd.R_new' (Kd.R_new' (Kd.R_new' (Kd.R_new' (Kd.R_new' (Kd.R_new' (Kd.R_new' ho0 (Kd.R_lt (rp9 HO_12.out))) (Kd.R_lt (rp9 HO_126001.out))) (Kd.R_lt (rp9 HO_126002.out))) (Kd.R_lt (rp9 HO_126003.out))) (Kd.R_lt (rp9 HO_126004.out))) (Kd.R_lt (rp9 HO_126005.out))) (Kd.R_lt (rp9 HO_127001.out))) (Kd.R_lt (rp9 HO_127002.out))) (Kd.R_lt (rp9 HO_127003.out))) (Kd.R_lt (rp9 HO_127004.out))) (Kd.R_lt (rp9 HO_127005.out))) (Kd.R_lt (rp9 HO151.out))) (Kd.R_lt (rp9 HO154.out))) (Kd.R_lt (rp9 HO157.out))) (Kd.R_lt (rp9 HO160.out))) (Kd.R_lt (rp9 HO164.out))) (Kd.R_lt (rp9 HO167.out))) (below_size (bp9 HB.out))); have n22_ := a9_ (blk_below (kp9 BK125.out) hb); have n23_ := a9_ (blk_below (kp9 BK126.out) hb); have n24_ := a9_ (below_step (bp9 HB.out) hb); clear HO_12; clear HO_126000; clear HO_126001; clear HO_126002; clear HO_126003; clear HO_126004; clear HO_126005; clear HO_126006; clear HO_127000; clear HO_127001; clear HO_127002; clear HO_127003; clear HO_127004; clear HO_127005; clear HO_127006; clear HO151; clear HO154; clear HO157; clear HO160; clear HO164; clear HO167; clear BK125; clear BK126; clear HB; have HO_12 := n0_; have HO_126000 := n1_; have HO_126001 := n2_; have HO_126002 := n3_; have HO_126003 := n4_; have HO_126004 := n5_; have HO_126005 := n6_; have HO_126006 := n7_; have HO_127000 := n8_; have HO_127001 := n9_; have HO_127002 := n10_; have HO_127003 := n11_; have HO_127004 := n12_; have HO_127005 := n13_; have HO_127006 := n14_; have HO151 := n15_; have HO154 := n16_; have HO157 := n17_; have HO160 := n18_; have HO164 := n19_; have HO167 := n20_; have HO171 := n21_; have BK125 := n22_; have BK126 := n23_; have HB := n24_; clear n0_ n1_ n2_ n3_ n4_ n5_ n6_ n7_ n8_ n9_ n10_ n11_ n12_ n13_ n14_ n15_ n16_ n17_ n18_ n19_ n20_ n21_ n22_ n23_ n24_; (try clear hb); (try clear ho0); obtain ⟨Ao126, co126, eo126⟩ := Kd.R_slice HO171.out; subst eo126) | (go_at_call 41; (with_reducible refine (rel_Same.calls kj52 _ _ t169 _ _ t162 true _ ?side1 ?side2 ?side3 ?side4 A100.out).mono ?_); (case side1 => exact lp9 (Kd.R_reads' HO171.out).2.2); (case side2 => exact (Kd.R_reads' HO171.out).2.1); (case side3 => exact lp9 (Kd.R_reads' HO164.out).2.2); (case side4 => exact (Kd.R_reads' HO164.out).2.1); rintro e w127 ⟨rfl, hb⟩; have n0_ := a9_ (Kd.R_below (rp9 HO_12.out) hb); have n1_ := a9_ (Kd.R_below (rp9 HO_126000.out) hb); have n2_ := a9_ (Kd.R_below (rp9 HO_126001.out) hb); have n3_ := a9_ (Kd.R_below (rp9 HO_126002.out) hb); have n4_ := a9_ (Kd.R_below (rp9 HO_126003.out) hb); have n5_ := a9_ (Kd.R_below (rp9 HO_126004.out) hb); have n6_ := a9_ (Kd.R_below (rp9 HO_126005.out) hb); have n7_ := a9_ (Kd.S_below (by (with_reducible repeat (first | apply Kd.S_alloc | apply Kd.S_drewN | apply Kd.S_drew)); exact HO_126006.out) hb); have n8_ := a9_ (Kd.R_below (rp9 HO_127000.out) hb); have n9_ := a9_ (Kd.R_below (rp9 HO_127001.out) hb); have n10_ := a9_ (Kd.R_below (rp9 HO_127002.out) hb); have n11_ := a9_ (Kd.R_below (rp9 HO_127003.out) hb); have n12_ := a9_ (Kd.R_below (rp9 HO_127004.out) hb); have n13_ := a9_ (Kd.R_below (rp9 HO_127005.out) hb); have n14_ := a9_ (Kd.S_below (by (with_reducible repeat (first | apply Kd.S_alloc | apply Kd.S_drewN | apply Kd.S_drew)); exact HO_127006.out) hb); have n15_ := a9_ (Kd.R_below (rp9 HO151.out) hb); have n16_ := a9_ (Kd.R_below (rp9 HO154.out) hb); have n17_ := a9_ (Kd.R_below (rp9 HO157.out) hb); have n18_ := a9_ (Kd.R_below (rp9 HO160.out) hb); have n19_ := a9_ (Kd.R_below (rp9 HO164.out) hb); have n20_ := a9_ (Kd.R_below (rp9 HO167.out) hb); have n21_ := a9_ (Kd.R_below (rp9 HO171.out) hb); have n22_ := a9_ (blk_below (kp9 BK125.out) hb); have n23_ := a9_ (blk_below (kp9 BK126.out) hb); have n24_ := a9_ (below_step (bp9 HB.out) hb); clear HO_12; clear HO_126000; clear HO_126001; clear HO_126002; clear HO_126003; clear HO_126004; clear HO_126005; clear HO_126006; clear HO_127000; clear HO_127001; clear HO_127002; clear HO_127003; clear HO_127004; clear HO_127005; clear HO_127006; clear HO151; clear HO154; clear HO157; clear HO160; clear HO164; clear HO167; clear HO171; clear BK125; clear BK126; clear HB; have HO_12 := n0_; have HO_126000 := n1_; have HO_126001 := n2_; have HO_126002 := n3_; have HO_126003 := n4_; have HO_126004 := n5_; have HO_126005 := n6_; have HO_126006 := n7_; have HO_127000 := n8_; have HO_127001 := n9_; have HO_127002 := n10_; have HO_127003 := n11_; have HO_127004 := n12_; have HO_127005 := n13_; have HO_127006 := n14_; have HO151 := n15_; have HO154 := n16_; have HO157 := n17_; have HO160 := n18_; have HO164 := n19_; have HO167 := n20_; have HO171 := n21_; have BK125 := n22_; have BK126 := n23_; have HB := n24_; clear n0_ n1_ n2_ n3_ n4_ n5_ n6_ n7_ n8_ n9_ n10_ n11_ n12_ n13_ n14_ n15_ n16_ n17_ n18_ n19_ n20_ n21_ n22_ n23_ n24_; (try clear hb); (try clear hi)) | (go_at_call 44; (with_reducible refine (rel_Acyclic.calls kj52 _ _ t162 true _ ?side1 ?side2 A102.out).mono ?_); (case side1 => exact lp9 (Kd.R_reads' HO164.out).2.2); (case side2 => exact (Kd.R_reads' HO164.out).2.1); rintro e w128 ⟨rfl, hb⟩; have n0_ := a9_ (Kd.R_below (rp9 HO_12.out) hb); have n1_ := a9_ (Kd.R_below (rp9 HO_126000.out) hb); have n2_ := a9_ (Kd.R_below (rp9 HO_126001.out) hb); have n3_ := a9_ (Kd.R_below (rp9 HO_126002.out) hb); have n4_ := a9_ (Kd.R_below (rp9 HO_126003.out) hb); have n5_ := a9_ (Kd.R_below (rp9 HO_126004.out) hb); have n6_ := a9_ (Kd.R_below (rp9 HO_126005.out) hb); have n7_ := a9_ (Kd.S_below (by (with_reducible repeat (first | apply Kd.S_alloc | apply Kd.S_drewN | apply Kd.S_drew)); exact HO_126006.out) hb); have n8_ := a9_ (Kd.R_below (rp9 HO_127000.out) hb); have n9_ := a9_ (Kd.R_below (rp9 HO_127001.out) hb); have n10_ := a9_ (Kd.R_below (rp9 HO_127002.out) hb); have n11_ := a9_ (Kd.R_below (rp9 HO_127003.out) hb); have n12_ := a9_ (Kd.R_below (rp9 HO_127004.out) hb); have n13_ := a9_ (Kd.R_below (rp9 HO_127005.out) hb); have n14_ := a9_ (Kd.S_below (by (with_reducible repeat (first | apply Kd.S_alloc | apply Kd.S_drewN | apply Kd.S_drew)); exact HO_127006.out) hb); have n15_ := a9_ (Kd.R_below (rp9 HO151.out) hb); have n16_ := a9_ (Kd.R_below (rp9 HO154.out) hb); have n17_ := a9_ (Kd.R_below (rp9 HO157.out) hb); have n18_ := a9_ (Kd.R_below (rp9 HO160.out) hb); have n19_ := a9_ (Kd.R_below (rp9 HO164.out) hb); have n20_ := a9_ (Kd.R_below (rp9 HO167.out) hb); have n21_ := a9_ (Kd.R_below (rp9 HO171.out) hb); have n22_ := a9_ (blk_below (kp9 BK125.out) hb); have n23_ := a9_ (blk_below (kp9 BK126.out) hb); have n24_ := a9_ (below_step (bp9 HB.out) hb); clear HO_12; clear HO_126000; clear HO_126001; clear HO_126002; clear HO_126003; clear HO_126004; clear HO_126005; clear HO_126006; clear HO_127000; clear HO_127001; clear HO_127002; clear HO_127003; clear HO_127004; clear HO_127005; clear HO_127006; clear HO151; clear HO154; clear HO157; clear HO160; clear HO164; clear HO167; clear HO171; clear BK125; clear BK126; clear HB; have HO_12 := n0_; have HO_126000 := n1_; have HO_126001 := n2_; have HO_126002 := n3_; have HO_126003 := n4_; have HO_126004 := n5_; have HO_126005 := n6_; have HO_126006 := n7_; have HO_127000 := n8_; have HO_127001 := n9_; have HO_127002 := n10_; have HO_127003 := n11_; have HO_127004 := n12_; have HO_127005 := n13_; have HO_127006 := n14_; have HO151 := n15_; have HO154 := n16_; have HO157 := n17_; have HO160 := n18_; have HO164 := n19_; have HO167 := n20_; have HO171 := n21_; have BK125 := n22_; have BK126 := n23_; have HB := n24_; clear n0_ n1_ n2_ n3_ n4_ n5_ n6_ n7_ n8_ n9_ n10_ n11_ n12_ n13_ n14_ n15_ n16_ n17_ n18_ n19_ n20_ n21_ n22_ n23_ n24_; (try clear hb); obtain ⟨Ao129, co129, eo129⟩ := Kd.R_slice HO_12.out; subst eo129) | (go_at_call 60; (with_reducible refine (rel_And.calls _ _ t127 _ _ t162 t174 _ ?side1 ?side2 ?side3 ?side4 A104.out).mono ?_); (case side1 => exact lp9 (Kd.R_reads' HO_12.out).2.2); (case side2 => exact (Kd.R_reads' HO_12.out).2.1); (case side3 => exact lp9 (Kd.R_reads' HO164.out).2.2); (case side4 => exact (Kd.R_reads' HO164.out).2.1); rintro e w130 ⟨v175, rfl, ho0, hb⟩; have n0_ := a9_ (Kd.R_elder' (rp9 HO_12.out) (Kd.R_base ho0) hb); have n1_ := a9_ (Kd.R_below (rp9 HO_126000.out) hb); have n2_ := a9_ (Kd.R_elder' (rp9 HO_126001.out) (Kd.R_base ho0) hb); have n3_ := a9_ (Kd.R_elder' (rp9 HO_126002.out) (Kd.R_base ho0) hb); have n4_ := a9_ (Kd.R_elder' (rp9 HO_126003.out) (Kd.R_base ho0) hb); have n5_ := a9_ (Kd.R_elder' (rp9 HO_126004.out) (Kd.R_base ho0) hb); have n6_ := a9_ (Kd.R_elder' (rp9 HO_126005.out) (Kd.R_base ho0) hb); have n7_ := a9_ (Kd.S_below (by (with_reducible repeat (first | apply Kd.S_alloc | apply Kd.S_drewN | apply Kd.S_drew)); exact HO_126006.out) hb); have n8_ := a9_ (Kd.R_below (rp9 HO_127000.out) hb); have n9_ := a9_ (Kd.R_elder' (rp9 HO_127001.out) (Kd.R_base ho0) hb); have n10_ := a9_ (Kd.R_elder' (rp9 HO_127002.out) (Kd.R_base ho0) hb); have n11_ := a9_ (Kd.R_elder' (rp9 HO_127003.out) (Kd.R_base ho0) hb); have n12_ := a9_ (Kd.R_elder' (rp9 HO_127004.out) (Kd.R_base ho0) hb); have n13_ := a9_ (Kd.R_elder' (rp9 HO_127005.out) (Kd.R_base ho0) hb); have n14_ := a9_ (Kd.S_below (by (with_reducible repeat (first | apply Kd.S_alloc | apply Kd.S_drewN | apply Kd.S_drew)); exact HO_127006.out) hb); have n15_ := a9_ (Kd.R_elder' (rp9 HO151.out) (Kd.R_base ho0) hb); have n16_ := a9_ (Kd.R_elder' (rp9 HO154.out) (Kd.R_base ho0) hb); have n17_ := a9_ (Kd.R_elder' (rp9 HO157.out) (Kd.R_base ho0) hb); have n18_ := a9_ (Kd.R_elder' (rp9 HO160.out) (Kd.R_base ho0) hb); have n19_ := a9_ (Kd.R_elder' (rp9 HO164.out) (Kd.R_base ho0) hb); have n20_ := a9_ (Kd.R_elder' (rp9 HO167.out) (Kd.R_base ho0) hb); have n21_ := a9_ (Kd.R_elder' (rp9 HO171.out) (Kd.R_base ho0) hb); have n22_ := a9_ (Kd.R_lower (Kd.R_new' (Kd.R_new' (Kd.R_new' (Kd.R_new' (Kd.R_new' (Kd.R_new' (Kd.R_new' (Kd.R_new' (Kd.R_new' (Kd.R_new' (Kd.R_new' (Kd.R_new' (Kd.R_new' (Kd.R_new' (Kd.R_new' (Kd.R_new' (Kd.R_new' (Kd.R_new' ho0 (Kd.R_lt (rp9 HO_12.out))) (Kd.R_lt (rp9 HO_126001.out))) (Kd.R_lt (rp9 HO_126002.out))) (Kd.R_lt (rp9 HO_126003.out))) (Kd.R_lt (rp9 HO_126004.out))) (Kd.R_lt (rp9 HO_126005.out))) (Kd.R_lt (rp9 HO_127001.out))) (Kd.R_lt (rp9 HO_127002.out))) (Kd.R_lt (rp9 HO_127003.out))) (Kd.R_lt (rp9 HO_127004.out))) (Kd.R_lt (rp9 HO_127005.out))) (Kd.R_lt (rp9 HO151.out))) (Kd.R_lt (rp9 HO154.out))) (Kd.R_lt (rp9 HO157.out))) (Kd.R_lt (rp9 HO160.out))) (Kd.R_lt (rp9 HO164.out))) (Kd.R_lt (rp9 HO167.out))) (Kd.R_lt (rp9 HO171.out))) (below_size (bp9 HB.out))); have n23_ := a9_ (blk_below (kp9 BK125.out) hb); have n24_ := a9_ (blk_below (kp9 BK126.out) hb); have n25_ := a9_ (below_step (bp9 HB.out) hb); clear HO_12; clear HO_126000; clear HO_126001; clear HO_126002; clear HO_126003; clear HO_126004; clear HO_126005; clear HO_126006; clear HO_127000; clear HO_127001; clear HO_127002; clear HO_127003; clear HO_127004; clear HO_127005; clear HO_127006; clear HO151; clear HO154; clear HO157; clear HO160; clear HO164; clear HO167; clear HO171; clear BK125; clear BK126; clear HB; have HO_12 := n0_; have HO_126000 := n1_; have HO_126001 := n2_; have HO_126002 := n3_; have HO_126003 := n4_; have HO_126004 := n5_; have HO_126005 := n6_; have HO_126006 := n7_; have HO_127000 := n8_; have HO_127001 := n9_; have HO_127002 := n10_; have HO_127003 := n11_; have HO_127004 := n12_; have HO_127005 := n13_; have HO_127006 := n14_; have HO151 := n15_; have HO154 := n16_; have HO157 := n17_; have HO160 := n18_; have HO164 := n19_; have HO167 := n20_; have HO171 := n21_; have HO176 := n22_; have BK125 := n23_; have BK126 := n24_; have HB := n25_; clear n0_ n1_ n2_ n3_ n4_ n5_ n6_ n7_ n8_ n9_ n10_ n11_ n12_ n13_ n14_ n15_ n16_ n17_ n18_ n19_ n20_ n21_ n22_ n23_ n24_ n25_; (try clear hb); (try clear ho0); obtain ⟨Ao131, co131, eo131⟩ := Kd.R_slice HO176.out; subst eo131) | (go_at_call 41; (with_reducible refine (rel_Same.calls kj52 _ _ t174 _ _ t127 t177 _ ?side1 ?side2 ?side3 ?side4 A105.out).mono ?_); (case side1 => exact lp9 (Kd.R_reads' HO176.out).2.2); (case side2 => exact (Kd.R_reads' HO176.out).2.1); (case side3 => exact lp9 (Kd.R_reads' HO_12.out).2.2); (case side4 => exact (Kd.R_reads' HO_12.out).2.1); rintro e w132 ⟨rfl, hb⟩; have n0_ := a9_ (Kd.R_below (rp9 HO_12.out) hb); have n1_ := a9_ (Kd.R_below (rp9 HO_126000.out) hb); have n2_ := a9_ (Kd.R_below (rp9 HO_126001.out) hb); have n3_ := a9_ (Kd.R_below (rp9 HO_126002.out) hb); have n4_ := a9_ (Kd.R_below (rp9 HO_126003.out) hb); have n5_ := a9_ (Kd.R_below (rp9 HO_126004.out) hb); have n6_ := a9_ (Kd.R_below (rp9 HO_126005.out) hb); have n7_ := a9_ (Kd.S_below (by (with_reducible repeat (first | apply Kd.S_alloc | apply Kd.S_drewN | apply Kd.S_drew)); exact HO_126006.out) hb); have n8_ := a9_ (Kd.R_below (rp9 HO_127000.out) hb); have n9_ := a9_ (Kd.R_below (rp9 HO_127001.out) hb); have n10_ := a9_ (Kd.R_below (rp9 HO_127002.out) hb); have n11_ := a9_ (Kd.R_below (rp9 HO_127003.out) hb); have n12_ := a9_ (Kd.R_below (rp9 HO_127004.out) hb); have n13_ := a9_ (Kd.R_below (rp9 HO_127005.out) hb); have n14_ := a9_ (Kd.S_below (by (with_reducible repeat (first | apply Kd.S_alloc | apply Kd.S_drewN | apply Kd.S_drew)); exact HO_127006.out) hb); have n15_ := a9_ (Kd.R_below (rp9 HO151.out) hb); have n16_ := a9_ (Kd.R_below (rp9 HO154.out) hb); have n17_ := a9_ (Kd.R_below (rp9 HO157.out) hb); have n18_ := a9_ (Kd.R_below (rp9 HO160.out) hb); have n19_ := a9_ (Kd.R_below (rp9 HO164.out) hb); have n20_ := a9_ (Kd.R_below (rp9 HO167.out) hb); have n21_ := a9_ (Kd.R_below (rp9 HO171.out) hb); have n22_ := a9_ (Kd.R_below (rp9 HO176.out) hb); have n23_ := a9_ (blk_below (kp9 BK125.out) hb); have n24_ := a9_ (blk_below (kp9 BK126.out) hb); have n25_ := a9_ (below_step (bp9 HB.out) hb); clear HO_12; clear HO_126000; clear HO_126001; clear HO_126002; clear HO_126003; clear HO_126004; clear HO_126005; clear HO_126006; clear HO_127000; clear HO_127001; clear HO_127002; clear HO_127003; clear HO_127004; clear HO_127005; clear HO_127006; clear HO151; clear HO154; clear HO157; clear HO160; clear HO164; clear HO167; clear HO171; clear HO176; clear BK125; clear BK126; clear HB; have HO_12 := n0_; have HO_126000 := n1_; have HO_126001 := n2_; have HO_126002 := n3_; have HO_126003 := n4_; have HO_126004 := n5_; have HO_126005 := n6_; have HO_126006 := n7_; have HO_127000 := n8_; have HO_127001 := n9_; have HO_127002 := n10_; have HO_127003 := n11_; have HO_127004 := n12_; have HO_127005 := n13_; have HO_127006 := n14_; have HO151 := n15_; have HO154 := n16_; have HO157 := n17_; have HO160 := n18_; have HO164 := n19_; have HO167 := n20_; have HO171 := n21_; have HO176 := n22_; have BK125 := n23_; have BK126 := n24_; have HB := n25_; clear n0_ n1_ n2_ n3_ n4_ n5_ n6_ n7_ n8_ n9_ n10_ n11_ n12_ n13_ n14_ n15_ n16_ n17_ n18_ n19_ n20_ n21_ n22_ n23_ n24_ n25_; (try clear hb); (try clear hi)))
                   go_ret
                   exact ⟨by first | rfl | (simp [errW_none, errW_some] <;> rfl) | (simp [*, errW_none, errW_some] <;> rfl), bp9 HB.out⟩
                  ·replace c103 := Bool.eq_false_iff.mpr c103
                   subst c103
                   rw [if_neg (show ¬ (false = true) by decide)] at H
                   exact absurd ((Option.some.inj H).trans HT9.out) (by decide)
                 ·replace c101 := Bool.eq_false_iff.mpr c101
                  subst c101
                  rw [if_neg (show ¬ (false = true) by decide)] at H
                  exact absurd ((Option.some.inj H).trans HT9.out) (by decide)
                ·replace c98 := Bool.eq_false_iff.mpr c98
                 subst c98
                 rw [if_neg (show ¬ (false = true) by decide)] at H
                 exact absurd ((Option.some.inj H).trans HT9.out) (by decide)
               ·replace c95 := Bool.eq_false_iff.mpr c95
                subst c95
                rw [if_neg (show ¬ (false = true) by decide)] at H
                exact absurd ((Option.some.inj H).trans HT9.out) (by decide)
              ·replace c93 := Bool.eq_false_iff.mpr c93
               subst c93
               rw [if_neg (show ¬ (false = true) by decide)] at H
               obtain rfl := Option.some.inj H
               try go_wp2
               have n0_ := a9_ (Kd.R_drew HO_12.out)
               have n1_ := a9_ (Kd.R_drew HO_126000.out)
               have n2_ := a9_ (Kd.R_drew HO_126001.out)
               have n3_ := a9_ (Kd.R_drew HO_126002.out)
               have n4_ := a9_ (Kd.R_drew HO_126003.out)
               have n5_ := a9_ (Kd.R_drew HO_126004.out)
               have n6_ := a9_ (Kd.R_drew HO_126005.out)
               have n7_ := a9_ (Kd.S_drew HO_126006.out)
               have n8_ := a9_ (Kd.R_drew HO_127000.out)
               have n9_ := a9_ (Kd.R_drew HO_127001.out)
               have n10_ := a9_ (Kd.R_drew HO_127002.out)
               have n11_ := a9_ (Kd.R_drew HO_127003.out)
               have n12_ := a9_ (Kd.R_drew HO_127004.out)
               have n13_ := a9_ (Kd.R_drew HO_127005.out)
               have n14_ := a9_ (Kd.S_drew HO_127006.out)
               have n15_ := a9_ (blk_drew BK125.out)
               have n16_ := a9_ (blk_drew BK126.out)
               have n17_ := a9_ (below_drew1 HB.out)
               clear HO_12 HO_126000 HO_126001 HO_126002 HO_126003 HO_126004 HO_126005 HO_126006 HO_127000 HO_127001 HO_127002 HO_127003 HO_127004 HO_127005 HO_127006 BK125 BK126 HB
               revert n0_ n1_ n2_ n3_ n4_ n5_ n6_ n7_ n8_ n9_ n10_ n11_ n12_ n13_ n14_ n15_ n16_ n17_; intro HO_12 HO_126000 HO_126001 HO_126002 HO_126003 HO_126004 HO_126005 HO_126006 HO_127000 HO_127001 HO_127002 HO_127003 HO_127004 HO_127005 HO_127006 BK125 BK126 HB
               refine start_ (n := 8) (S := fun w' => w'.cell? ⟨gb126, 0, none⟩ = some (.slice Ao15 t103.length co15) ∧ w'.cell? ⟨gb126, 1, none⟩ = some (.slice Ao17 t106.length co17) ∧ w'.cell? ⟨gb126, 2, none⟩ = some (.slice Ao18 t109.length co18) ∧ w'.cell? ⟨gb126, 3, none⟩ = some (.slice Ao19 t112.length co19) ∧ w'.cell? ⟨gb126, 4, none⟩ = some (.slice Ao20 t115.length co20) ∧ w'.cell? ⟨gb126, 5, none⟩ = some (.slice Ao21 t118.length co21) ∧ w'.cell? ⟨gb126, 6, none⟩ = some (.slice Ao22 t121.length co22)) (ds := []) #[o9, o9, o9, o9, o9, o9, o9, o9] (by kernel_rfl) rfl rfl ⟨(blk_cell BK126.out 0).trans rfl, (blk_cell BK126.out 1).trans rfl, (blk_cell BK126.out 2).trans rfl, (blk_cell BK126.out 3).trans rfl, (blk_cell BK126.out 4).trans rfl, (blk_cell BK126.out 5).trans rfl, (blk_cell BK126.out 6).trans rfl⟩ (fun hHeld => ?_); refine with_tabW cupolalaw14_DobAlong.tab23 cupolalaw14_DobAlong.bits23 (fun HT_ HW_ => ?_)
               generalize wc.drew = w133 at HO_12 HO_126000 HO_126001 HO_126002 HO_126003 HO_126004 HO_126005 HO_126006 HO_127000 HO_127001 HO_127002 HO_127003 HO_127004 HO_127005 HO_127006 BK125 BK126 HB hHeld ⊢
               refine pureA 1 (some 109) ?_ #[o9, i9, o9, o9, o9, o9, o9, o9] rfl rfl (any_of HT_.out (by kernel_rfl)) ?_ ?_ ?_ ?_
               rotate_left
               ·intro w'; go_simp; with_reducible rfl
               rotate_left
               ·exact put9
               refine pureA 4 (some 112) ?_ #[o9, i9, o9, o9, i9, o9, o9, o9] rfl rfl (any_of HT_.out (by kernel_rfl)) ?_ ?_ ?_ ?_
               rotate_left
               ·intro w'; go_simp; with_reducible rfl
               rotate_left
               ·exact put9
               refine take_ (i := 0) (N := some 108) (v := ?_) (a' := ?_) #[i9, i9, o9, o9, i9, o9, o9, o9] rfl rfl (take_ofW HT_.out HW_.out (by kernel_rfl)) (fun _ _ _ h => h) (Or.inl ⟨by rfl, ?_⟩) hHeld ?_ ?_
               rotate_left
               ·rintro w' ⟨s0, s1, s2, s3, s4, s5, s6⟩
                go_simp
                with_reducible rfl
               rotate_left
               ·exact put9
               refine take_ (i := 3) (N := some 111) (v := ?_) (a' := ?_) #[i9, i9, o9, i9, i9, o9, o9, o9] rfl rfl (take_ofW HT_.out HW_.out (by kernel_rfl)) (fun _ _ _ h => h) (Or.inl ⟨by rfl, ?_⟩) hHeld ?_ ?_
               rotate_left
               ·rintro w' ⟨s0, s1, s2, s3, s4, s5, s6⟩
                go_simp
                with_reducible rfl
               rotate_left
               ·exact put9
               refine one_ (i := 2) (N := some 110) #[i9, i9, i9, i9, i9, o9, o9, o9] rfl rfl (one_of HT_.out (by kernel_rfl)) (by decide) (fun K hK => ?_)
               refine goes9 Try.func86 (by kernel_rfl) rfl #[.agg #[.slice Ao15 t103.length co15, .slice Ao17 t106.length co17, .slice Ao18 t109.length co18, .slice Ao19 t112.length co19, .slice Ao20 t115.length co20, .slice Ao21 t118.length co21, .slice Ao22 t121.length co22], .slice A2 l2.length c2] (by rfl) rfl rfl ?_
               with_reducible refine (dob_Coi.calls _ _ t103 _ _ t106 _ _ t109 _ _ t112 _ _ t115 _ _ t118 _ _ t121 _ _ l2 t149 _ ?side1 ?side2 ?side3 ?side4 ?side5 ?side6 ?side7 ?side8 ?side9 ?side10 ?side11 ?side12 ?side13 ?side14 ?side15 ?side16 A88.out).mono ?_
               (case side1 => exact lp9 (Kd.R_reads' HO_127000.out).2.2)
               (case side2 => exact (Kd.R_reads' HO_127000.out).2.1)
               (case side3 => exact lp9 (Kd.R_reads' HO_127001.out).2.2)
               (case side4 => exact (Kd.R_reads' HO_127001.out).2.1)
               (case side5 => exact lp9 (Kd.R_reads' HO_127002.out).2.2)
               (case side6 => exact (Kd.R_reads' HO_127002.out).2.1)
               (case side7 => exact lp9 (Kd.R_reads' HO_127003.out).2.2)
               (case side8 => exact (Kd.R_reads' HO_127003.out).2.1)
               (case side9 => exact lp9 (Kd.R_reads' HO_127004.out).2.2)
               (case side10 => exact (Kd.R_reads' HO_127004.out).2.1)
               (case side11 => exact lp9 (Kd.R_reads' HO_127005.out).2.2)
               (case side12 => exact (Kd.R_reads' HO_127005.out).2.1)
               (case side13 => exact lp9 (Kd.S_reads' HO_127006.out).2.2)
               (case side14 => exact (Kd.S_reads' HO_127006.out).2.1)
               (case side15 => exact cp9 HR2.out HB.out)
               (case side16 => exact HC2.out)
               rintro e w134 ⟨v150, rfl, ho0, hb⟩
               refine ⟨_, rfl, ?_⟩
               have n0_ := a9_ (Kd.R_elder' (rp9 HO_12.out) (Kd.R_base ho0) hb)
               have n1_ := a9_ (Kd.R_below (rp9 HO_126000.out) hb)
               have n2_ := a9_ (Kd.R_elder' (rp9 HO_126001.out) (Kd.R_base ho0) hb)
               have n3_ := a9_ (Kd.R_elder' (rp9 HO_126002.out) (Kd.R_base ho0) hb)
               have n4_ := a9_ (Kd.R_elder' (rp9 HO_126003.out) (Kd.R_base ho0) hb)
               have n5_ := a9_ (Kd.R_elder' (rp9 HO_126004.out) (Kd.R_base ho0) hb)
               have n6_ := a9_ (Kd.R_elder' (rp9 HO_126005.out) (Kd.R_base ho0) hb)
               have n7_ := a9_ (Kd.S_below (by (with_reducible repeat (first | apply Kd.S_alloc | apply Kd.S_drewN | apply Kd.S_drew)); exact HO_126006.out) hb)
               have n8_ := a9_ (Kd.R_below (rp9 HO_127000.out) hb)
               have n9_ := a9_ (Kd.R_elder' (rp9 HO_127001.out) (Kd.R_base ho0) hb)
               have n10_ := a9_ (Kd.R_elder' (rp9 HO_127002.out) (Kd.R_base ho0) hb)
               have n11_ := a9_ (Kd.R_elder' (rp9 HO_127003.out) (Kd.R_base ho0) hb)
               have n12_ := a9_ (Kd.R_elder' (rp9 HO_127004.out) (Kd.R_base ho0) hb)
               have n13_ := a9_ (Kd.R_elder' (rp9 HO_127005.out) (Kd.R_base ho0) hb)
               have n14_ := a9_ (Kd.S_below (by (with_reducible repeat (first | apply Kd.S_alloc | apply Kd.S_drewN | apply Kd.S_drew)); exact HO_127006.out) hb)
               have n15_ := a9_ (Kd.R_lower (Kd.R_new' (Kd.R_new' (Kd.R_new' (Kd.R_new' (Kd.R_new' (Kd.R_new' (Kd.R_new' (Kd.R_new' (Kd.R_new' (Kd.R_new' (Kd.R_new' ho0 (Kd.R_lt (rp9 HO_12.out))) (Kd.R_lt (rp9 HO_126001.out))) (Kd.R_lt (rp9 HO_126002.out))) (Kd.R_lt (rp9 HO_126003.out))) (Kd.R_lt (rp9 HO_126004.out))) (Kd.R_lt (rp9 HO_126005.out))) (Kd.R_lt (rp9 HO_127001.out))) (Kd.R_lt (rp9 HO_127002.out))) (Kd.R_lt (rp9 HO_127003.out))) (Kd.R_lt (rp9 HO_127004.out))) (Kd.R_lt (rp9 HO_127005.out))) (below_size (bp9 HB.out)))
               have n16_ := a9_ (blk_below (kp9 BK125.out) hb)
               have n17_ := a9_ (blk_below (kp9 BK126.out) hb)
               have n18_ := a9_ (below_step (bp9 HB.out) hb)
               clear HO_12 HO_126000 HO_126001 HO_126002 HO_126003 HO_126004 HO_126005 HO_126006 HO_127000 HO_127001 HO_127002 HO_127003 HO_127004 HO_127005 HO_127006 BK125 BK126 HB
               revert n0_ n1_ n2_ n3_ n4_ n5_ n6_ n7_ n8_ n9_ n10_ n11_ n12_ n13_ n14_ n15_ n16_ n17_ n18_; intro HO_12 HO_126000 HO_126001 HO_126002 HO_126003 HO_126004 HO_126005 HO_126006 HO_127000 HO_127001 HO_127002 HO_127003 HO_127004 HO_127005 HO_127006 HO151 BK125 BK126 HB
               (try clear hb)
               (try clear ho0)
               refine hK.out _ _ ⟨(blk_cell BK126.out 0).trans rfl, (blk_cell BK126.out 1).trans rfl, (blk_cell BK126.out 2).trans rfl, (blk_cell BK126.out 3).trans rfl, (blk_cell BK126.out 4).trans rfl, (blk_cell BK126.out 5).trans rfl, (blk_cell BK126.out 6).trans rfl⟩ (fun hHeld => ?_)
               clear hK K
               refine norm_ (a' := ?_) ?_ ?_
               rotate_left
               ·show Act.put _ (some 110) _ = _
                exact put9
               refine one_ (i := 5) (N := some 113) #[i9, i9, i9, i9, i9, i9, o9, o9] rfl rfl (one_of HT_.out (by kernel_rfl)) (by decide) (fun K hK => ?_)
               refine goes9 Try.func88 (by kernel_rfl) rfl #[.agg #[.slice Ao15 t103.length co15, .slice Ao17 t106.length co17, .slice Ao18 t109.length co18, .slice Ao19 t112.length co19, .slice Ao20 t115.length co20, .slice Ao21 t118.length co21, .slice Ao22 t121.length co22], .slice A1 l1.length c1] (by rfl) rfl rfl ?_
               with_reducible refine (dob_Rfi.calls kj52 _ _ t103 _ _ t106 _ _ t109 _ _ t112 _ _ t115 _ _ t118 _ _ t121 _ _ l1 t152 _ ?side1 ?side2 ?side3 ?side4 ?side5 ?side6 ?side7 ?side8 ?side9 ?side10 ?side11 ?side12 ?side13 ?side14 ?side15 ?side16 A89.out).mono ?_
               (case side1 => exact lp9 (Kd.R_reads' HO_127000.out).2.2)
               (case side2 => exact (Kd.R_reads' HO_127000.out).2.1)
               (case side3 => exact lp9 (Kd.R_reads' HO_127001.out).2.2)
               (case side4 => exact (Kd.R_reads' HO_127001.out).2.1)
               (case side5 => exact lp9 (Kd.R_reads' HO_127002.out).2.2)
               (case side6 => exact (Kd.R_reads' HO_127002.out).2.1)
               (case side7 => exact lp9 (Kd.R_reads' HO_127003.out).2.2)
               (case side8 => exact (Kd.R_reads' HO_127003.out).2.1)
               (case side9 => exact lp9 (Kd.R_reads' HO_127004.out).2.2)
               (case side10 => exact (Kd.R_reads' HO_127004.out).2.1)
               (case side11 => exact lp9 (Kd.R_reads' HO_127005.out).2.2)
               (case side12 => exact (Kd.R_reads' HO_127005.out).2.1)
               (case side13 => exact lp9 (Kd.S_reads' HO_127006.out).2.2)
               (case side14 => exact (Kd.S_reads' HO_127006.out).2.1)
               (case side15 => exact cp9 HR1.out HB.out)
               (case side16 => exact HC1.out)
               rintro e w135 ⟨v153, rfl, ho0, hb⟩
               refine ⟨_, rfl, ?_⟩
               have n0_ := a9_ (Kd.R_elder' (rp9 HO_12.out) (Kd.R_base ho0) hb)
               have n1_ := a9_ (Kd.R_below (rp9 HO_126000.out) hb)
               have n2_ := a9_ (Kd.R_elder' (rp9 HO_126001.out) (Kd.R_base ho0) hb)
               have n3_ := a9_ (Kd.R_elder' (rp9 HO_126002.out) (Kd.R_base ho0) hb)
               have n4_ := a9_ (Kd.R_elder' (rp9 HO_126003.out) (Kd.R_base ho0) hb)
               have n5_ := a9_ (Kd.R_elder' (rp9 HO_126004.out) (Kd.R_base ho0) hb)
               have n6_ := a9_ (Kd.R_elder' (rp9 HO_126005.out) (Kd.R_base ho0) hb)
               have n7_ := a9_ (Kd.S_below (by (with_reducible repeat (first | apply Kd.S_alloc | apply Kd.S_drewN | apply Kd.S_drew)); exact HO_126006.out) hb)
               have n8_ := a9_ (Kd.R_below (rp9 HO_127000.out) hb)
               have n9_ := a9_ (Kd.R_elder' (rp9 HO_127001.out) (Kd.R_base ho0) hb)
               have n10_ := a9_ (Kd.R_elder' (rp9 HO_127002.out) (Kd.R_base ho0) hb)
               have n11_ := a9_ (Kd.R_elder' (rp9 HO_127003.out) (Kd.R_base ho0) hb)
               have n12_ := a9_ (Kd.R_elder' (rp9 HO_127004.out) (Kd.R_base ho0) hb)
               have n13_ := a9_ (Kd.R_elder' (rp9 HO_127005.out) (Kd.R_base ho0) hb)
               have n14_ := a9_ (Kd.S_below (by (with_reducible repeat (first | apply Kd.S_alloc | apply Kd.S_drewN | apply Kd.S_drew)); exact HO_127006.out) hb)
               have n15_ := a9_ (Kd.R_elder' (rp9 HO151.out) (Kd.R_base ho0) hb)
               have n16_ := a9_ (Kd.R_lower (Kd.R_new' (Kd.R_new' (Kd.R_new' (Kd.R_new' (Kd.R_new' (Kd.R_new' (Kd.R_new' (Kd.R_new' (Kd.R_new' (Kd.R_new' (Kd.R_new' (Kd.R_new' ho0 (Kd.R_lt (rp9 HO_12.out))) (Kd.R_lt (rp9 HO_126001.out))) (Kd.R_lt (rp9 HO_126002.out))) (Kd.R_lt (rp9 HO_126003.out))) (Kd.R_lt (rp9 HO_126004.out))) (Kd.R_lt (rp9 HO_126005.out))) (Kd.R_lt (rp9 HO_127001.out))) (Kd.R_lt (rp9 HO_127002.out))) (Kd.R_lt (rp9 HO_127003.out))) (Kd.R_lt (rp9 HO_127004.out))) (Kd.R_lt (rp9 HO_127005.out))) (Kd.R_lt (rp9 HO151.out))) (below_size (bp9 HB.out)))
               have n17_ := a9_ (blk_below (kp9 BK125.out) hb)
               have n18_ := a9_ (blk_below (kp9 BK126.out) hb)
               have n19_ := a9_ (below_step (bp9 HB.out) hb)
               clear HO_12 HO_126000 HO_126001 HO_126002 HO_126003 HO_126004 HO_126005 HO_126006 HO_127000 HO_127001 HO_127002 HO_127003 HO_127004 HO_127005 HO_127006 HO151 BK125 BK126 HB
               revert n0_ n1_ n2_ n3_ n4_ n5_ n6_ n7_ n8_ n9_ n10_ n11_ n12_ n13_ n14_ n15_ n16_ n17_ n18_ n19_; intro HO_12 HO_126000 HO_126001 HO_126002 HO_126003 HO_126004 HO_126005 HO_126006 HO_127000 HO_127001 HO_127002 HO_127003 HO_127004 HO_127005 HO_127006 HO151 HO154 BK125 BK126 HB
               (try clear hb)
               (try clear ho0)
               obtain ⟨Ao136, co136, eo136⟩ := Kd.R_slice HO151.out
               (first | subst eo136 | (injection eo136 with f1_ f2_ f3_; have f4_ := f1_.symm; have f5_ := f3_.symm; clear f1_ f2_ f3_; subst f4_; subst f5_))
               obtain ⟨Ao137, co137, eo137⟩ := Kd.R_slice HO154.out
               (first | subst eo137 | (injection eo137 with f1_ f2_ f3_; have f4_ := f1_.symm; have f5_ := f3_.symm; clear f1_ f2_ f3_; subst f4_; subst f5_))
               refine hK.out _ _ ⟨(blk_cell BK126.out 0).trans rfl, (blk_cell BK126.out 1).trans rfl, (blk_cell BK126.out 2).trans rfl, (blk_cell BK126.out 3).trans rfl, (blk_cell BK126.out 4).trans rfl, (blk_cell BK126.out 5).trans rfl, (blk_cell BK126.out 6).trans rfl⟩ (fun hHeld => ?_)
               clear hK K
               refine norm_ (a' := ?_) ?_ ?_
               rotate_left
               ·show Act.put _ (some 113) _ = _
                exact put9
               refine one_ (i := 6) (N := some 114) #[i9, i9, i9, i9, i9, i9, i9, o9] rfl rfl (one_of HT_.out (by kernel_rfl)) (by decide) (fun K hK => ?_)
               refine goes9 Try.func58 (by kernel_rfl) rfl #[.slice Ao136 t149.length co136, .slice Ao137 t152.length co137] (by rfl) rfl rfl ?_
               with_reducible refine (rel_Or.calls _ _ t149 _ _ t152 t155 _ ?side1 ?side2 ?side3 ?side4 A90.out).mono ?_
               (case side1 => exact lp9 (Kd.R_reads' HO151.out).2.2)
               (case side2 => exact (Kd.R_reads' HO151.out).2.1)
               (case side3 => exact lp9 (Kd.R_reads' HO154.out).2.2)
               (case side4 => exact (Kd.R_reads' HO154.out).2.1)
               rintro e w138 ⟨v156, rfl, ho0, hb⟩
               refine ⟨_, rfl, ?_⟩
               have n0_ := a9_ (Kd.R_elder' (rp9 HO_12.out) (Kd.R_base ho0) hb)
               have n1_ := a9_ (Kd.R_below (rp9 HO_126000.out) hb)
               have n2_ := a9_ (Kd.R_elder' (rp9 HO_126001.out) (Kd.R_base ho0) hb)
               have n3_ := a9_ (Kd.R_elder' (rp9 HO_126002.out) (Kd.R_base ho0) hb)
               have n4_ := a9_ (Kd.R_elder' (rp9 HO_126003.out) (Kd.R_base ho0) hb)
               have n5_ := a9_ (Kd.R_elder' (rp9 HO_126004.out) (Kd.R_base ho0) hb)
               have n6_ := a9_ (Kd.R_elder' (rp9 HO_126005.out) (Kd.R_base ho0) hb)
               have n7_ := a9_ (Kd.S_below (by (with_reducible repeat (first | apply Kd.S_alloc | apply Kd.S_drewN | apply Kd.S_drew)); exact HO_126006.out) hb)
               have n8_ := a9_ (Kd.R_below (rp9 HO_127000.out) hb)
               have n9_ := a9_ (Kd.R_elder' (rp9 HO_127001.out) (Kd.R_base ho0) hb)
               have n10_ := a9_ (Kd.R_elder' (rp9 HO_127002.out) (Kd.R_base ho0) hb)
               have n11_ := a9_ (Kd.R_elder' (rp9 HO_127003.out) (Kd.R_base ho0) hb)
               have n12_ := a9_ (Kd.R_elder' (rp9 HO_127004.out) (Kd.R_base ho0) hb)
               have n13_ := a9_ (Kd.R_elder' (rp9 HO_127005.out) (Kd.R_base ho0) hb)
               have n14_ := a9_ (Kd.S_below (by (with_reducible repeat (first | apply Kd.S_alloc | apply Kd.S_drewN | apply Kd.S_drew)); exact HO_127006.out) hb)
               have n15_ := a9_ (Kd.R_elder' (rp9 HO151.out) (Kd.R_base ho0) hb)
               have n16_ := a9_ (Kd.R_elder' (rp9 HO154.out) (Kd.R_base ho0) hb)
               have n17_ := a9_ (Kd.R_lower (Kd.R_new' (Kd.R_new' (Kd.R_new' (Kd.R_new' (Kd.R_new' (Kd.R_new' (Kd.R_new' (Kd.R_new' (Kd.R_new' (Kd.R_new' (Kd.R_new' (Kd.R_new' (Kd.R_new' ho0 (Kd.R_lt (rp9 HO_12.out))) (Kd.R_lt (rp9 HO_126001.out))) (Kd.R_lt (rp9 HO_126002.out))) (Kd.R_lt (rp9 HO_126003.out))) (Kd.R_lt (rp9 HO_126004.out))) (Kd.R_lt (rp9 HO_126005.out))) (Kd.R_lt (rp9 HO_127001.out))) (Kd.R_lt (rp9 HO_127002.out))) (Kd.R_lt (rp9 HO_127003.out))) (Kd.R_lt (rp9 HO_127004.out))) (Kd.R_lt (rp9 HO_127005.out))) (Kd.R_lt (rp9 HO151.out))) (Kd.R_lt (rp9 HO154.out))) (below_size (bp9 HB.out)))
               have n18_ := a9_ (blk_below (kp9 BK125.out) hb)
               have n19_ := a9_ (blk_below (kp9 BK126.out) hb)
               have n20_ := a9_ (below_step (bp9 HB.out) hb)
               clear HO_12 HO_126000 HO_126001 HO_126002 HO_126003 HO_126004 HO_126005 HO_126006 HO_127000 HO_127001 HO_127002 HO_127003 HO_127004 HO_127005 HO_127006 HO151 HO154 BK125 BK126 HB
               revert n0_ n1_ n2_ n3_ n4_ n5_ n6_ n7_ n8_ n9_ n10_ n11_ n12_ n13_ n14_ n15_ n16_ n17_ n18_ n19_ n20_; intro HO_12 HO_126000 HO_126001 HO_126002 HO_126003 HO_126004 HO_126005 HO_126006 HO_127000 HO_127001 HO_127002 HO_127003 HO_127004 HO_127005 HO_127006 HO151 HO154 HO157 BK125 BK126 HB
               (try clear hb)
               (try clear ho0)
               refine hK.out _ _ ⟨(blk_cell BK126.out 0).trans rfl, (blk_cell BK126.out 1).trans rfl, (blk_cell BK126.out 2).trans rfl, (blk_cell BK126.out 3).trans rfl, (blk_cell BK126.out 4).trans rfl, (blk_cell BK126.out 5).trans rfl, (blk_cell BK126.out 6).trans rfl⟩ (fun hHeld => ?_)
               clear hK K
               refine norm_ (a' := ?_) ?_ ?_
               rotate_left
               ·show Act.put _ (some 114) _ = _
                exact put9
               refine pureA 7 (some 17) ?_ #[i9, i9, i9, i9, i9, i9, i9, i9] rfl rfl (any_of HT_.out (by kernel_rfl)) ?_ ?_ ?_ ?_
               rotate_left
               ·intro w'; go_simp; with_reducible rfl
               rotate_left
               ·exact put9
               refine done_ (done_of HT_.out (by kernel_rfl)) ?_
               have hnb139 := NB126_125.out
               have hnc139 := NB125_126.out
               obtain ⟨hcz140_0, hcz140_1, hcz140_2, hcz140_3, hcz140_4, hcz140_5, hcz140_6, hfz140_0, hfz140_1, hfz140_2, hfz140_3, hfz140_4, hfz140_5, hfz140_6⟩ := cz7 BK126.out
               obtain ⟨Ao141, co141, eo141⟩ := Kd.R_slice HO157.out
               subst eo141
               try go_wp2_with (first | ((with_reducible refine gate_callee (f := 60) rfl ?_); refine goesL9 (some 118) rfl rfl Try.func60 (by kernel_rfl) rfl #[.slice Ao141 t155.length co141, .slice Ao17 t106.length co17] rfl ?_; (with_reducible refine (rel_And.calls _ _ t155 _ _ t106 t158 _ ?side1 ?side2 ?side3 ?side4 A91.out).mono ?_); (case side1 => exact lp9 (Kd.R_reads' HO157.out).2.2); (case side2 => exact (Kd.R_reads' HO157.out).2.1); (case side3 => exact lp9 (Kd.R_reads' HO_127001.out).2.2); (case side4 => exact (Kd.R_reads' HO_127001.out).2.1); rintro e w142 ⟨v159, rfl, ho0, hb⟩; refine ⟨_, rfl, ?_⟩; have n0_ := a9_ (Kd.R_elder' (rp9 HO_12.out) (Kd.R_base ho0) hb); have n1_ := a9_ (Kd.R_below (rp9 HO_126000.out) hb); have n2_ := a9_ (Kd.R_elder' (rp9 HO_126001.out) (Kd.R_base ho0) hb); have n3_ := a9_ (Kd.R_elder' (rp9 HO_126002.out) (Kd.R_base ho0) hb); have n4_ := a9_ (Kd.R_elder' (rp9 HO_126003.out) (Kd.R_base ho0) hb); have n5_ := a9_ (Kd.R_elder' (rp9 HO_126004.out) (Kd.R_base ho0) hb); have n6_ := a9_ (Kd.R_elder' (rp9 HO_126005.out) (Kd.R_base ho0) hb); have n7_ := a9_ (Kd.S_below (by (with_reducible repeat (first | apply Kd.S_alloc | apply Kd.S_drewN | apply Kd.S_drew)); exact HO_126006.out) hb); have n8_ := a9_ (Kd.R_below (rp9 HO_127000.out) hb); have n9_ := a9_ (Kd.R_elder' (rp9 HO_127001.out) (Kd.R_base ho0) hb); have n10_ := a9_ (Kd.R_elder' (rp9 HO_127002.out) (Kd.R_base ho0) hb); have n11_ := a9_ (Kd.R_elder' (rp9 HO_127003.out) (Kd.R_base ho0) hb); have n12_ := a9_ (Kd.R_elder' (rp9 HO_127004.out) (Kd.R_base ho0) hb); have n13_ := a9_ (Kd.R_elder' (rp9 HO_127005.out) (Kd.R_base ho0) hb); have n14_ := a9_ (Kd.S_below (by (with_reducible repeat (first | apply Kd.S_alloc | apply Kd.S_drewN | apply Kd.S_drew)); exact HO_127006.out) hb); have n15_ := a9_ (Kd.R_elder' (rp9 HO151.out) (Kd.R_base ho0) hb); have n16_ := a9_ (Kd.R_elder' (rp9 HO154.out) (Kd.R_base ho0) hb); have n17_ := a9_ (Kd.R_elder' (rp9 HO157.out) (Kd.R_base ho0) hb); have n18_ := a9_ (Kd.R_lower (Kd.R_new' (Kd.R_new' (Kd.R_new' (Kd.R_new' (Kd.R_new' (Kd.R_new' (Kd.R_new' (Kd.R_new' (Kd.R_new' (Kd.R_new' (Kd.R_new' (Kd.R_new' (Kd.R_new' (Kd.R_new' ho0 (Kd.R_lt (rp9 HO_12.out))) (Kd.R_lt (rp9 HO_126001.out))) (Kd.R_lt (rp9 HO_126002.out))) (Kd.R_lt (rp9 HO_126003.out))) (Kd.R_lt (rp9 HO_126004.out))) (Kd.R_lt (rp9 HO_126005.out))) (Kd.R_lt (rp9 HO_127001.out))) (Kd.R_lt (rp9 HO_127002.out))) (Kd.R_lt (rp9 HO_127003.out))) (Kd.R_lt (rp9 HO_127004.out))) (Kd.R_lt (rp9 HO_127005.out))) (Kd.R_lt (rp9 HO151.out))) (Kd.R_lt (rp9 HO154.out))) (Kd.R_lt (rp9 HO157.out))) (below_size (bp9 HB.out))); have n19_ := a9_ (blk_below (kp9 BK125.out) hb); have n20_ := a9_ (blk_below (kp9 BK126.out) hb); have n21_ := a9_ (below_step (bp9 HB.out) hb); clear HO_12; clear HO_126000; clear HO_126001; clear HO_126002; clear HO_126003; clear HO_126004; clear HO_126005; clear HO_126006; clear HO_127000; clear HO_127001; clear HO_127002; clear HO_127003; clear HO_127004; clear HO_127005; clear HO_127006; clear HO151; clear HO154; clear HO157; clear BK125; clear BK126; clear HB; have HO_12 := n0_; have HO_126000 := n1_; have HO_126001 := n2_; have HO_126002 := n3_; have HO_126003 := n4_; have HO_126004 := n5_; have HO_126005 := n6_; have HO_126006 := n7_; have HO_127000 := n8_; have HO_127001 := n9_; have HO_127002 := n10_; have HO_127003 := n11_; have HO_127004 := n12_; have HO_127005 := n13_; have HO_127006 := n14_; have HO151 := n15_; have HO154 := n16_; have HO157 := n17_; have HO160 := n18_; have BK125 := n19_; have BK126 := n20_; have HB := n21_; clear n0_ n1_ n2_ n3_ n4_ n5_ n6_ n7_ n8_ n9_ n10_ n11_ n12_ n13_ n14_ n15_ n16_ n17_ n18_ n19_ n20_ n21_; (try clear hb); (try clear ho0); obtain ⟨Ao143, co143, eo143⟩ := Kd.R_slice HO160.out; subst eo143) | ((with_reducible refine gate_callee (f := 41) rfl ?_); refine goesL9 (some 120) rfl rfl Try.func41 (by kernel_rfl) rfl #[.slice Ao143 t158.length co143, .slice Ao141 t155.length co141] rfl ?_; (with_reducible refine (rel_Same.calls kj52 _ _ t158 _ _ t155 false _ ?side1 ?side2 ?side3 ?side4 A92.out).mono ?_); (case side1 => exact lp9 (Kd.R_reads' HO160.out).2.2); (case side2 => exact (Kd.R_reads' HO160.out).2.1); (case side3 => exact lp9 (Kd.R_reads' HO157.out).2.2); (case side4 => exact (Kd.R_reads' HO157.out).2.1); rintro e w144 ⟨rfl, hb⟩; refine ⟨_, rfl, ?_⟩; have n0_ := a9_ (Kd.R_below (rp9 HO_12.out) hb); have n1_ := a9_ (Kd.R_below (rp9 HO_126000.out) hb); have n2_ := a9_ (Kd.R_below (rp9 HO_126001.out) hb); have n3_ := a9_ (Kd.R_below (rp9 HO_126002.out) hb); have n4_ := a9_ (Kd.R_below (rp9 HO_126003.out) hb); have n5_ := a9_ (Kd.R_below (rp9 HO_126004.out) hb); have n6_ := a9_ (Kd.R_below (rp9 HO_126005.out) hb); have n7_ := a9_ (Kd.S_below (by (with_reducible repeat (first | apply Kd.S_alloc | apply Kd.S_drewN | apply Kd.S_drew)); exact HO_126006.out) hb); have n8_ := a9_ (Kd.R_below (rp9 HO_127000.out) hb); have n9_ := a9_ (Kd.R_below (rp9 HO_127001.out) hb); have n10_ := a9_ (Kd.R_below (rp9 HO_127002.out) hb); have n11_ := a9_ (Kd.R_below (rp9 HO_127003.out) hb); have n12_ := a9_ (Kd.R_below (rp9 HO_127004.out) hb); have n13_ := a9_ (Kd.R_below (rp9 HO_127005.out) hb); have n14_ := a9_ (Kd.S_below (by (with_reducible repeat (first | apply Kd.S_alloc | apply Kd.S_drewN | apply Kd.S_drew)); exact HO_127006.out) hb); have n15_ := a9_ (Kd.R_below (rp9 HO151.out) hb); have n16_ := a9_ (Kd.R_below (rp9 HO154.out) hb); have n17_ := a9_ (Kd.R_below (rp9 HO157.out) hb); have n18_ := a9_ (Kd.R_below (rp9 HO160.out) hb); have n19_ := a9_ (blk_below (kp9 BK125.out) hb); have n20_ := a9_ (blk_below (kp9 BK126.out) hb); have n21_ := a9_ (below_step (bp9 HB.out) hb); clear HO_12; clear HO_126000; clear HO_126001; clear HO_126002; clear HO_126003; clear HO_126004; clear HO_126005; clear HO_126006; clear HO_127000; clear HO_127001; clear HO_127002; clear HO_127003; clear HO_127004; clear HO_127005; clear HO_127006; clear HO151; clear HO154; clear HO157; clear HO160; clear BK125; clear BK126; clear HB; have HO_12 := n0_; have HO_126000 := n1_; have HO_126001 := n2_; have HO_126002 := n3_; have HO_126003 := n4_; have HO_126004 := n5_; have HO_126005 := n6_; have HO_126006 := n7_; have HO_127000 := n8_; have HO_127001 := n9_; have HO_127002 := n10_; have HO_127003 := n11_; have HO_127004 := n12_; have HO_127005 := n13_; have HO_127006 := n14_; have HO151 := n15_; have HO154 := n16_; have HO157 := n17_; have HO160 := n18_; have BK125 := n19_; have BK126 := n20_; have HB := n21_; clear n0_ n1_ n2_ n3_ n4_ n5_ n6_ n7_ n8_ n9_ n10_ n11_ n12_ n13_ n14_ n15_ n16_ n17_ n18_ n19_ n20_ n21_; (try clear hb); (try clear hi)))
               go_ret
               exact ⟨by first | rfl | (simp [errW_none, errW_some] <;> rfl) | (simp [*, errW_none, errW_some] <;> rfl), bp9 HB.out⟩
end Go.Proofs.Ytbamkkdikeedoaa.G
