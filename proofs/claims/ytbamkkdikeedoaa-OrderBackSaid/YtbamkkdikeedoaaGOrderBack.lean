-- Written by drive.py, a program of this seat's session, out of the translation.
import Derived.Test.YtbamkkdikeedoaaG0
import Derived.Test.YtbamkkdikeedoaaGCupolalaw06
import Derived.Test.YtbamkkdikeedoaaGRel
import Derived.Test.YtbamkkdikeedoaaHandOrder
import Derived.Test.YtbamkkdikeedoaaHandCz
namespace Go.Proofs.Ytbamkkdikeedoaa.G
open Go.RowKit Go.Proofs.YtbamkkdikeedoaaW.PrintWords Go.Proofs.YtbamkkdikeedoaaW.PrintLast Go.Proofs.YtbamkkdikeedoaaW.PrintMore
attribute [local go_sem] max2_int min2_int max_two min_two max_three min_three max_four min_four   -- for this text's walks alone
set_option linter.unusedVariables false
set_option linter.unusedSimpArgs false

/-! ### cupolalaw06_OrderBack: function 18 -/
mutual
def cupolalaw06_OrderBack.l0 : Nat → List Int → Bool → List (List Int) → List (S46) → Int → Option (Bool)
 | 0, _, _, _, _, _ => none
 | k + 1, x0, x3, x4, x5, x6 => if x6 < (x4.length : Int) then (if 0 ≤ (x0.length : Int) then (if ((x0.length : Int) : Int).toNat ≤ 35184372088832 then (if 0 ≤ x6 then (cupolalaw06_OrderBack.l1 k x0 x3 x4 x5 x6 ([] : List Int) (List.replicate ((x0.length : Int) : Int).toNat 0) (wrap64 (((rd_L4 x4 x6).length : Int) - 1))) else (none)) else (none)) else (none)) else (some x3)
def cupolalaw06_OrderBack.l1 : Nat → List Int → Bool → List (List Int) → List (S46) → Int → List Int → List Int → Int → Option (Bool)
 | 0, _, _, _, _, _, _, _, _ => none
 | k + 1, x0, x3, x4, x5, x6, x7, x8, x9 => if x9 ≥ 0 then (if 0 ≤ x6 then (if x6 < (x4.length : Int) then (if 0 ≤ x9 then (if x9 < ((rd_L4 x4 x6).length : Int) then (if (rd (rd_L4 x4 x6) x9) < 0 then (some false) else (if (rd (rd_L4 x4 x6) x9) ≥ (x0.length : Int) then (some false) else (if x7.length < 17592186044416 then (if 0 ≤ (rd (rd_L4 x4 x6) x9) then (if (rd (rd_L4 x4 x6) x9) < (x8.length : Int) then (cupolalaw06_OrderBack.l1 k x0 x3 x4 x5 x6 (x7 ++ [rd (rd_L4 x4 x6) x9]) (x8.set ((rd (rd_L4 x4 x6) x9) : Int).toNat x9) (wrap64 (x9 - 1))) else (none)) else (none)) else (none)))) else (none)) else (none)) else (none)) else (none)) else ((rel_Inv.f k x0).bind fun t121 => ((order_Fits.f k x7 t121).bind fun t124 => (if t124 = true then (cupolalaw06_OrderBack.l2 k x0 x3 x4 x5 x6 x8 0) else (some false))))
def cupolalaw06_OrderBack.l2 : Nat → List Int → Bool → List (List Int) → List (S46) → Int → List Int → Int → Option (Bool)
 | 0, _, _, _, _, _, _, _ => none
 | k + 1, x0, x3, x4, x5, x6, x8, x11 => if x11 < (x5.length : Int) then (if 0 ≤ x11 then (if 0 ≤ ((rd_T46 x5 x11).f0) then (if ((rd_T46 x5 x11).f0) < (x8.length : Int) then (if 0 ≤ ((rd_T46 x5 x11).f1) then (if ((rd_T46 x5 x11).f1) < (x8.length : Int) then (if (rd x8 ((rd_T46 x5 x11).f0)) ≥ (rd x8 ((rd_T46 x5 x11).f1)) then (some false) else (cupolalaw06_OrderBack.l2 k x0 x3 x4 x5 x6 x8 (wrap64 (x11 + 1)))) else (none)) else (none)) else (none)) else (none)) else (none)) else (cupolalaw06_OrderBack.l0 k x0 x3 x4 x5 (wrap64 (x6 + 1)))
end
def cupolalaw06_OrderBack.f (k : Nat) (l0 : List Int) : Option (Bool) := (cupolalaw06_shown.f k).bind fun t101 => (if (l0.length : Int) > 6 then (some t101) else ((order_Linear.f k l0).bind fun t102 => ((rel_Plus.f k l0).bind fun t105 => ((rel_Pairs.f k t105).bind fun t108 => (cupolalaw06_OrderBack.l0 k l0 t101 t102 t108 0)))))
set_option maxHeartbeats 8000000 in
set_option maxRecDepth 100000 in
theorem cupolalaw06_OrderBack.calls (k : Nat) (A0 : Option Addr) (c0 : Nat) (l0 : List Int) (r : Bool) (hT : r = true) (w : World) (hr0 : Kd.C (Kd.int .u32) w A0 l0.length l0) (hc0 : l0.length ≤ c0) (h : cupolalaw06_OrderBack.f k l0 = some r) :
  Calls Try.prog 18 #[.slice A0 l0.length c0] w fun e w' => e = .returned (.bool r) ∧ Below w.heap.size w w' := by
 have HT9 := Aside0.mk hT
 clear hT
 have HR0 := Aside0.mk hr0
 have HC0 := Aside0.mk hc0
 clear hr0 hc0
 have HB := Aside0.mk (Below.refl w.heap.size w)
 have H : ((cupolalaw06_shown.f k).bind fun t101 => (if (l0.length : Int) > 6 then (some t101) else ((order_Linear.f k l0).bind fun t102 => ((rel_Plus.f k l0).bind fun t105 => ((rel_Pairs.f k t105).bind fun t108 => (cupolalaw06_OrderBack.l0 k l0 t101 t102 t108 0)))))) = some r := h
 clear h
 replace H := Option.bind_eq_some_iff.mp H
 obtain ⟨t101, A20, H⟩ := H
 have A2 := Aside0.mk A20
 clear A20
 by_cases c3 : (l0.length : Int) > 6
 ·rw [if_pos c3] at H
  have c3b0 : decide (6 < (l0.length : Int)) = true := decide_eq_true c3
  have c3b1 : decide (6 < l0.length) = true := decide_eq_true (by omega)
  clear c3
  obtain rfl := Option.some.inj H
  go_enter Try.func18, Try.ntmps18
  go_wp2_with (first | (go_at_call 90; (with_reducible refine (cupolalaw06_shown.calls k  t101 _ A2.out).mono ?_); rintro e w4 ⟨rfl, hb⟩; have n0_ := Aside0.mk (below_step (bp9 HB.out) hb); clear HB; have HB := n0_; clear n0_; (try clear hb); (try clear hb2); (try clear hk); (try clear hi)))
  repeat (go_quiet (first | (go_at_call 90; (with_reducible refine (cupolalaw06_shown.calls k  t101 _ A2.out).mono ?_); rintro e w4 ⟨rfl, hb⟩; have n0_ := Aside0.mk (below_step (bp9 HB.out) hb); clear HB; have HB := n0_; clear n0_; (try clear hb); (try clear hb2); (try clear hk); (try clear hi))); try go_wp2_with (first | (go_at_call 90; (with_reducible refine (cupolalaw06_shown.calls k  t101 _ A2.out).mono ?_); rintro e w4 ⟨rfl, hb⟩; have n0_ := Aside0.mk (below_step (bp9 HB.out) hb); clear HB; have HB := n0_; clear n0_; (try clear hb); (try clear hb2); (try clear hk); (try clear hi))))
  go_ret
  exact ⟨by first | rfl | (simp [errW_none, errW_some] <;> rfl) | (simp [*, errW_none, errW_some] <;> rfl), bp9 HB.out⟩
 ·rw [if_neg c3] at H
  have c3b0 : decide (6 < (l0.length : Int)) = false := decide_eq_false c3
  have c3b1 : decide (6 < l0.length) = false := decide_eq_false (by omega)
  clear c3
  replace H := Option.bind_eq_some_iff.mp H
  obtain ⟨t102, A50, H⟩ := H
  have A5 := Aside0.mk A50
  clear A50
  replace H := Option.bind_eq_some_iff.mp H
  obtain ⟨t105, A60, H⟩ := H
  have A6 := Aside0.mk A60
  clear A60
  replace H := Option.bind_eq_some_iff.mp H
  obtain ⟨t108, A70, H⟩ := H
  have A7 := Aside0.mk A70
  clear A70
  have H' := Aside0.mk H
  clear H
  go_enter Try.func18, Try.ntmps18
  go_wp2_with (first | (go_at_call 90; (with_reducible refine (cupolalaw06_shown.calls k  t101 _ A2.out).mono ?_); rintro e w8 ⟨rfl, hb⟩; have n0_ := Aside0.mk (below_step (bp9 HB.out) hb); clear HB; have HB := n0_; clear n0_; (try clear hb); (try clear hb2); (try clear hk); (try clear hi)) | (go_at_call 91; (with_reducible refine (order_Linear.calls k _ _ l0 t102 _ ?side1 ?side2 A5.out).mono ?_); (case side1 => exact cp9 HR0.out HB.out); (case side2 => exact HC0.out); rintro e w9 ⟨v103, rfl, ho0, hb⟩; have n0_ := Aside0.mk (Kd.S_lower ho0 (below_size (bp9 HB.out))); have n1_ := Aside0.mk (below_step (bp9 HB.out) hb); clear HB; have HO104 := n0_; have HB := n1_; clear n0_ n1_; (try clear hb); (try clear hb2); (try clear hk); (try clear hi); (try clear ho0)) | (go_at_call 52; (with_reducible refine (rel_Plus.calls k _ _ l0 t105 _ ?side1 ?side2 A6.out).mono ?_); (case side1 => exact cp9 HR0.out HB.out); (case side2 => exact HC0.out); rintro e w10 ⟨v106, rfl, ho0, hb⟩; have n0_ := Aside0.mk (Kd.S_below (by (with_reducible repeat (first | apply Kd.S_alloc | apply Kd.S_drewN | apply Kd.S_drew)); exact HO104.out) hb); have n1_ := Aside0.mk (Kd.R_lower ho0 (below_size (bp9 HB.out))); have n2_ := Aside0.mk (below_step (bp9 HB.out) hb); clear HO104; clear HB; have HO104 := n0_; have HO107 := n1_; have HB := n2_; clear n0_ n1_ n2_; (try clear hb); (try clear hb2); (try clear hk); (try clear hi); (try clear ho0); obtain ⟨Ao11, co11, eo11⟩ := Kd.R_slice HO107.out; subst eo11) | (go_at_call 38; (with_reducible refine (rel_Pairs.calls k _ _ t105 t108 _ ?side1 ?side2 A7.out).mono ?_); (case side1 => exact lp9 (Kd.R_reads' HO107.out).2.2); (case side2 => exact (Kd.R_reads' HO107.out).2.1); rintro e w12 ⟨v109, rfl, ho0, hb⟩; have n0_ := Aside0.mk (Kd.S_below (by (with_reducible repeat (first | apply Kd.S_alloc | apply Kd.S_drewN | apply Kd.S_drew)); exact HO104.out) hb); have n1_ := Aside0.mk (Kd.R_below (rp9 HO107.out) hb); have n2_ := Aside0.mk (Kd.R_lower ho0 (below_size (bp9 HB.out))); have n3_ := Aside0.mk (below_step (bp9 HB.out) hb); clear HO104; clear HO107; clear HB; have HO104 := n0_; have HO107 := n1_; have HO110 := n2_; have HB := n3_; clear n0_ n1_ n2_ n3_; (try clear hb); (try clear hb2); (try clear hk); (try clear hi); (try clear ho0)))
  repeat (go_quiet (first | (go_at_call 90; (with_reducible refine (cupolalaw06_shown.calls k  t101 _ A2.out).mono ?_); rintro e w8 ⟨rfl, hb⟩; have n0_ := Aside0.mk (below_step (bp9 HB.out) hb); clear HB; have HB := n0_; clear n0_; (try clear hb); (try clear hb2); (try clear hk); (try clear hi)) | (go_at_call 91; (with_reducible refine (order_Linear.calls k _ _ l0 t102 _ ?side1 ?side2 A5.out).mono ?_); (case side1 => exact cp9 HR0.out HB.out); (case side2 => exact HC0.out); rintro e w9 ⟨v103, rfl, ho0, hb⟩; have n0_ := Aside0.mk (Kd.S_lower ho0 (below_size (bp9 HB.out))); have n1_ := Aside0.mk (below_step (bp9 HB.out) hb); clear HB; have HO104 := n0_; have HB := n1_; clear n0_ n1_; (try clear hb); (try clear hb2); (try clear hk); (try clear hi); (try clear ho0)) | (go_at_call 52; (with_reducible refine (rel_Plus.calls k _ _ l0 t105 _ ?side1 ?side2 A6.out).mono ?_); (case side1 => exact cp9 HR0.out HB.out); (case side2 => exact HC0.out); rintro e w10 ⟨v106, rfl, ho0, hb⟩; have n0_ := Aside0.mk (Kd.S_below (by (with_reducible repeat (first | apply Kd.S_alloc | apply Kd.S_drewN | apply Kd.S_drew)); exact HO104.out) hb); have n1_ := Aside0.mk (Kd.R_lower ho0 (below_size (bp9 HB.out))); have n2_ := Aside0.mk (below_step (bp9 HB.out) hb); clear HO104; clear HB; have HO104 := n0_; have HO107 := n1_; have HB := n2_; clear n0_ n1_ n2_; (try clear hb); (try clear hb2); (try clear hk); (try clear hi); (try clear ho0); obtain ⟨Ao11, co11, eo11⟩ := Kd.R_slice HO107.out; subst eo11) | (go_at_call 38; (with_reducible refine (rel_Pairs.calls k _ _ t105 t108 _ ?side1 ?side2 A7.out).mono ?_); (case side1 => exact lp9 (Kd.R_reads' HO107.out).2.2); (case side2 => exact (Kd.R_reads' HO107.out).2.1); rintro e w12 ⟨v109, rfl, ho0, hb⟩; have n0_ := Aside0.mk (Kd.S_below (by (with_reducible repeat (first | apply Kd.S_alloc | apply Kd.S_drewN | apply Kd.S_drew)); exact HO104.out) hb); have n1_ := Aside0.mk (Kd.R_below (rp9 HO107.out) hb); have n2_ := Aside0.mk (Kd.R_lower ho0 (below_size (bp9 HB.out))); have n3_ := Aside0.mk (below_step (bp9 HB.out) hb); clear HO104; clear HO107; clear HB; have HO104 := n0_; have HO107 := n1_; have HO110 := n2_; have HB := n3_; clear n0_ n1_ n2_ n3_; (try clear hb); (try clear hb2); (try clear hk); (try clear hi); (try clear ho0))); try go_wp2_with (first | (go_at_call 90; (with_reducible refine (cupolalaw06_shown.calls k  t101 _ A2.out).mono ?_); rintro e w8 ⟨rfl, hb⟩; have n0_ := Aside0.mk (below_step (bp9 HB.out) hb); clear HB; have HB := n0_; clear n0_; (try clear hb); (try clear hb2); (try clear hk); (try clear hi)) | (go_at_call 91; (with_reducible refine (order_Linear.calls k _ _ l0 t102 _ ?side1 ?side2 A5.out).mono ?_); (case side1 => exact cp9 HR0.out HB.out); (case side2 => exact HC0.out); rintro e w9 ⟨v103, rfl, ho0, hb⟩; have n0_ := Aside0.mk (Kd.S_lower ho0 (below_size (bp9 HB.out))); have n1_ := Aside0.mk (below_step (bp9 HB.out) hb); clear HB; have HO104 := n0_; have HB := n1_; clear n0_ n1_; (try clear hb); (try clear hb2); (try clear hk); (try clear hi); (try clear ho0)) | (go_at_call 52; (with_reducible refine (rel_Plus.calls k _ _ l0 t105 _ ?side1 ?side2 A6.out).mono ?_); (case side1 => exact cp9 HR0.out HB.out); (case side2 => exact HC0.out); rintro e w10 ⟨v106, rfl, ho0, hb⟩; have n0_ := Aside0.mk (Kd.S_below (by (with_reducible repeat (first | apply Kd.S_alloc | apply Kd.S_drewN | apply Kd.S_drew)); exact HO104.out) hb); have n1_ := Aside0.mk (Kd.R_lower ho0 (below_size (bp9 HB.out))); have n2_ := Aside0.mk (below_step (bp9 HB.out) hb); clear HO104; clear HB; have HO104 := n0_; have HO107 := n1_; have HB := n2_; clear n0_ n1_ n2_; (try clear hb); (try clear hb2); (try clear hk); (try clear hi); (try clear ho0); obtain ⟨Ao11, co11, eo11⟩ := Kd.R_slice HO107.out; subst eo11) | (go_at_call 38; (with_reducible refine (rel_Pairs.calls k _ _ t105 t108 _ ?side1 ?side2 A7.out).mono ?_); (case side1 => exact lp9 (Kd.R_reads' HO107.out).2.2); (case side2 => exact (Kd.R_reads' HO107.out).2.1); rintro e w12 ⟨v109, rfl, ho0, hb⟩; have n0_ := Aside0.mk (Kd.S_below (by (with_reducible repeat (first | apply Kd.S_alloc | apply Kd.S_drewN | apply Kd.S_drew)); exact HO104.out) hb); have n1_ := Aside0.mk (Kd.R_below (rp9 HO107.out) hb); have n2_ := Aside0.mk (Kd.R_lower ho0 (below_size (bp9 HB.out))); have n3_ := Aside0.mk (below_step (bp9 HB.out) hb); clear HO104; clear HO107; clear HB; have HO104 := n0_; have HO107 := n1_; have HO110 := n2_; have HB := n3_; clear n0_ n1_ n2_ n3_; (try clear hb); (try clear hb2); (try clear hk); (try clear hi); (try clear ho0))))
  go_loopg [6] k (fun kq v6 w' => ∃ (x6_1 : Int), v6 = .int .i64 x6_1 ∧ Aside0 (cupolalaw06_OrderBack.l0 kq l0 t101 t102 t108 x6_1 = some r) ∧ Aside0 (kq ≤ k) ∧ Aside0 (Kd.S (Kd.slice 3 (Kd.int .i64)) 33 w' w.heap.size (fun _ => True) v103 t102) ∧ Aside0 (Kd.R k46 46 w' w.heap.size (fun _ => True) v109 t108) ∧ Aside0 (Below w.heap.size w w'))
  case atStart => exact ⟨(0), (by first | rfl | (simp; done) | (simp [*]; done)), H', ⟨Nat.le_refl _⟩, ⟨by (with_reducible repeat (first | apply Kd.S_alloc | apply Kd.S_drewN | apply Kd.S_drew)); exact HO104.out⟩, ⟨rp9 HO110.out⟩, ⟨bp9 HB.out⟩⟩
  case round =>
   clear H'
   try clear c1
   try clear p2
   try clear c3
   try clear c3b0
   try clear c3b1
   obtain ⟨x6_1, rfl, HA, HK1, HO_4, HO_5, HB⟩ := hrel
   cases gk with
   | zero => exact absurd HA.out (by simp [cupolalaw06_OrderBack.l0])
   | succ k1 =>
    have H := HA.out
    clear HA
    simp only [cupolalaw06_OrderBack.l0] at H
    by_cases c13 : x6_1 < (t102.length : Int)
    ·rw [if_pos c13] at H
     have c13b0 : decide (x6_1 < (t102.length : Int)) = true := decide_eq_true c13
     clear c13
     by_cases c14 : 0 ≤ (l0.length : Int)
     ·rw [if_pos c14] at H
      have c14b0 := eq_true c14
      have c14b1 : decide (0 ≤ (l0.length : Int)) = true := decide_eq_true c14
      clear c14
      by_cases c15 : ((l0.length : Int) : Int).toNat ≤ 35184372088832
      ·rw [if_pos c15] at H
       have c15b0 := eq_true c15
       have c15b1 : decide (((l0.length : Int) : Int).toNat ≤ 35184372088832) = true := decide_eq_true c15
       clear c15
       obtain ⟨y111, hy111⟩ : ∃ y_ : List Int, y_ = (List.replicate ((l0.length : Int) : Int).toNat 0) := ⟨_, rfl⟩
       replace H : (if 0 ≤ x6_1 then (cupolalaw06_OrderBack.l1 k1 l0 t101 t102 t108 x6_1 ([] : List Int) y111 (wrap64 (((rd_L4 t102 x6_1).length : Int) - 1))) else (none)) = some r := by first | (rw [hy111]; with_reducible exact H) | (have H2_ := (Option.bind_some _ _).symm.trans H; rw [hy111]; with_reducible exact H2_) | (have H2_ := (Option.bind_some _ _).symm.trans H; with_reducible exact H2_) | with_reducible exact H | (rw [hy111]; exact H) | exact H
       have Ny111 := Aside0.mk hy111
       clear hy111
       by_cases c16 : 0 ≤ x6_1
       ·rw [if_pos c16] at H
        have c16b0 : decide (0 ≤ x6_1) = true := decide_eq_true c16
        clear c16
        have H' := Aside0.mk H
        clear H
        obtain ⟨Ao17, co17, eo17⟩ := Kd.S_slice HO_4.out
        subst eo17
        go_wp2_with (first | ((with_reducible refine gate_dst (N := 30) rfl ?_); (try (refine gate_guard (by rfl) ?_; dsimp only)); refine Kd.R_make (Kd.int .i64) _ 3 rfl (N := 30) rfl 33 _ _ rfl (l0.length : Int) rfl rfl Try.underlying33 (.int .i64 0) 8 info3 rfl (by decide) (by omega) 0 (ok := fun _ => True) (okp := fun _ => True) rfl (fun _ hk => hk) trivial (of_decide_eq_true (by first | (with_reducible assumption) | assumption)) (Nat.le_trans (Nat.mul_le_mul_right _ (of_decide_eq_true (by first | (with_reducible assumption) | assumption) : (l0.length : Int).toNat ≤ 35184372088832)) (by omega)) (Below.refl _ _) (Nat.le_refl _) ?_; intro v112 w18 ho19 hb hg_ hnew_; clear hg_ hnew_; (first | rw [← Ny111.out] at ho19 | (simp only [Int.reduceToNat] at ho19; rw [← Ny111.out] at ho19)); have n0_ := Aside0.mk (Kd.S_elder' (by (with_reducible repeat (first | apply Kd.S_alloc | apply Kd.S_drewN | apply Kd.S_drew)); exact HO_4.out) (Kd.R_base ho19) hb); have n1_ := Aside0.mk (Kd.R_below (rp9 HO_5.out) hb); have n2_ := Aside0.mk (Kd.R_lower ho19 (below_size (bp9 HB.out))); have n3_ := Aside0.mk (below_step (bp9 HB.out) hb); clear HO_4; clear HO_5; clear HB; have HO_4 := n0_; have HO_5 := n1_; have HO113 := n2_; have HB := n3_; clear n0_ n1_ n2_ n3_; clear hb ho19; have p114 : 0 ≤ (x6_1 : Int) := of_decide_eq_true (by first | (with_reducible assumption) | assumption); have q114 : x6_1 < (t102.length : Int) := of_decide_eq_true (by first | (with_reducible assumption) | assumption); obtain ⟨ad114, A114_0, c114_0, e114, hx114_0, hl114_0, hi114_0⟩ := at_L4 (Kd.S_reads' HO_4.out).2.2 x6_1 p114 q114; cases e114; obtain ⟨ce114, hce114, hMe114, hcc114⟩ := Kd.S_get HO_4.out [] x6_1 p114 (by first | exact q114 | exact of_decide_eq_true (by first | (with_reducible assumption) | assumption) | (have e_ := (Kd.S_reads' HO_4.out).1; omega)); obtain ⟨ve114_0, rfl, ge114_0⟩ := hMe114; have hv114_0 := hcc114 0 _ rfl; rw [Nat.add_zero, show ((Kd.slice 3 (Kd.int .i64))).sz = 1 from rfl, Nat.mul_one] at hv114_0; replace hv114_0 := Option.some.inj (hv114_0.symm.trans hx114_0); rw [hv114_0] at ge114_0; have HL114_0 := Aside0.mk (show Kd.R (Kd.int .i64) 3 _ _ _ _ (rd_L4 t102 x6_1) from ge114_0); clear hv114_0 ge114_0; clear hcc114 hce114; have HR114_0 := Aside0.mk hi114_0; have HC114_0 := Aside0.mk hl114_0; clear hi114_0 hl114_0; replace p114 := eq_true p114; replace q114 := eq_true q114))
        repeat (go_quiet (first | ((with_reducible refine gate_dst (N := 30) rfl ?_); (try (refine gate_guard (by rfl) ?_; dsimp only)); refine Kd.R_make (Kd.int .i64) _ 3 rfl (N := 30) rfl 33 _ _ rfl (l0.length : Int) rfl rfl Try.underlying33 (.int .i64 0) 8 info3 rfl (by decide) (by omega) 0 (ok := fun _ => True) (okp := fun _ => True) rfl (fun _ hk => hk) trivial (of_decide_eq_true (by first | (with_reducible assumption) | assumption)) (Nat.le_trans (Nat.mul_le_mul_right _ (of_decide_eq_true (by first | (with_reducible assumption) | assumption) : (l0.length : Int).toNat ≤ 35184372088832)) (by omega)) (Below.refl _ _) (Nat.le_refl _) ?_; intro v112 w18 ho19 hb hg_ hnew_; clear hg_ hnew_; (first | rw [← Ny111.out] at ho19 | (simp only [Int.reduceToNat] at ho19; rw [← Ny111.out] at ho19)); have n0_ := Aside0.mk (Kd.S_elder' (by (with_reducible repeat (first | apply Kd.S_alloc | apply Kd.S_drewN | apply Kd.S_drew)); exact HO_4.out) (Kd.R_base ho19) hb); have n1_ := Aside0.mk (Kd.R_below (rp9 HO_5.out) hb); have n2_ := Aside0.mk (Kd.R_lower ho19 (below_size (bp9 HB.out))); have n3_ := Aside0.mk (below_step (bp9 HB.out) hb); clear HO_4; clear HO_5; clear HB; have HO_4 := n0_; have HO_5 := n1_; have HO113 := n2_; have HB := n3_; clear n0_ n1_ n2_ n3_; clear hb ho19; have p114 : 0 ≤ (x6_1 : Int) := of_decide_eq_true (by first | (with_reducible assumption) | assumption); have q114 : x6_1 < (t102.length : Int) := of_decide_eq_true (by first | (with_reducible assumption) | assumption); obtain ⟨ad114, A114_0, c114_0, e114, hx114_0, hl114_0, hi114_0⟩ := at_L4 (Kd.S_reads' HO_4.out).2.2 x6_1 p114 q114; cases e114; obtain ⟨ce114, hce114, hMe114, hcc114⟩ := Kd.S_get HO_4.out [] x6_1 p114 (by first | exact q114 | exact of_decide_eq_true (by first | (with_reducible assumption) | assumption) | (have e_ := (Kd.S_reads' HO_4.out).1; omega)); obtain ⟨ve114_0, rfl, ge114_0⟩ := hMe114; have hv114_0 := hcc114 0 _ rfl; rw [Nat.add_zero, show ((Kd.slice 3 (Kd.int .i64))).sz = 1 from rfl, Nat.mul_one] at hv114_0; replace hv114_0 := Option.some.inj (hv114_0.symm.trans hx114_0); rw [hv114_0] at ge114_0; have HL114_0 := Aside0.mk (show Kd.R (Kd.int .i64) 3 _ _ _ _ (rd_L4 t102 x6_1) from ge114_0); clear hv114_0 ge114_0; clear hcc114 hce114; have HR114_0 := Aside0.mk hi114_0; have HC114_0 := Aside0.mk hl114_0; clear hi114_0 hl114_0; replace p114 := eq_true p114; replace q114 := eq_true q114)); try go_wp2_with (first | ((with_reducible refine gate_dst (N := 30) rfl ?_); (try (refine gate_guard (by rfl) ?_; dsimp only)); refine Kd.R_make (Kd.int .i64) _ 3 rfl (N := 30) rfl 33 _ _ rfl (l0.length : Int) rfl rfl Try.underlying33 (.int .i64 0) 8 info3 rfl (by decide) (by omega) 0 (ok := fun _ => True) (okp := fun _ => True) rfl (fun _ hk => hk) trivial (of_decide_eq_true (by first | (with_reducible assumption) | assumption)) (Nat.le_trans (Nat.mul_le_mul_right _ (of_decide_eq_true (by first | (with_reducible assumption) | assumption) : (l0.length : Int).toNat ≤ 35184372088832)) (by omega)) (Below.refl _ _) (Nat.le_refl _) ?_; intro v112 w18 ho19 hb hg_ hnew_; clear hg_ hnew_; (first | rw [← Ny111.out] at ho19 | (simp only [Int.reduceToNat] at ho19; rw [← Ny111.out] at ho19)); have n0_ := Aside0.mk (Kd.S_elder' (by (with_reducible repeat (first | apply Kd.S_alloc | apply Kd.S_drewN | apply Kd.S_drew)); exact HO_4.out) (Kd.R_base ho19) hb); have n1_ := Aside0.mk (Kd.R_below (rp9 HO_5.out) hb); have n2_ := Aside0.mk (Kd.R_lower ho19 (below_size (bp9 HB.out))); have n3_ := Aside0.mk (below_step (bp9 HB.out) hb); clear HO_4; clear HO_5; clear HB; have HO_4 := n0_; have HO_5 := n1_; have HO113 := n2_; have HB := n3_; clear n0_ n1_ n2_ n3_; clear hb ho19; have p114 : 0 ≤ (x6_1 : Int) := of_decide_eq_true (by first | (with_reducible assumption) | assumption); have q114 : x6_1 < (t102.length : Int) := of_decide_eq_true (by first | (with_reducible assumption) | assumption); obtain ⟨ad114, A114_0, c114_0, e114, hx114_0, hl114_0, hi114_0⟩ := at_L4 (Kd.S_reads' HO_4.out).2.2 x6_1 p114 q114; cases e114; obtain ⟨ce114, hce114, hMe114, hcc114⟩ := Kd.S_get HO_4.out [] x6_1 p114 (by first | exact q114 | exact of_decide_eq_true (by first | (with_reducible assumption) | assumption) | (have e_ := (Kd.S_reads' HO_4.out).1; omega)); obtain ⟨ve114_0, rfl, ge114_0⟩ := hMe114; have hv114_0 := hcc114 0 _ rfl; rw [Nat.add_zero, show ((Kd.slice 3 (Kd.int .i64))).sz = 1 from rfl, Nat.mul_one] at hv114_0; replace hv114_0 := Option.some.inj (hv114_0.symm.trans hx114_0); rw [hv114_0] at ge114_0; have HL114_0 := Aside0.mk (show Kd.R (Kd.int .i64) 3 _ _ _ _ (rd_L4 t102 x6_1) from ge114_0); clear hv114_0 ge114_0; clear hcc114 hce114; have HR114_0 := Aside0.mk hi114_0; have HC114_0 := Aside0.mk hl114_0; clear hi114_0 hl114_0; replace p114 := eq_true p114; replace q114 := eq_true q114)))
        go_loopg [7, 9] k1 (fun kq v7 v9 w' => ∃ (x7_2 : List Int) (x8_2 : List Int) (x9_2 : Int), v9 = .int .i64 x9_2 ∧ Aside0 (cupolalaw06_OrderBack.l1 kq l0 t101 t102 t108 x6_1 x7_2 x8_2 x9_2 = some r) ∧ Aside0 (kq ≤ k1) ∧ Aside0 (Kd.S (Kd.slice 3 (Kd.int .i64)) 33 w' w.heap.size (fun k_ => some k_ ≠ (v7 : Value).ownBlock ∧ some k_ ≠ (v112 : Value).ownBlock) (.slice (some ad114) t102.length co17) t102) ∧ Aside0 (Kd.R k46 46 w' w.heap.size (fun _ => True) v109 t108) ∧ Aside0 (Kd.R (Kd.int .i64) 3 w' w.heap.size (fun k_ => some k_ ≠ (v112 : Value).ownBlock) v7 x7_2) ∧ Aside0 (Kd.R (Kd.int .i64) 3 w' w.heap.size (fun k_ => some k_ ≠ (v7 : Value).ownBlock) v112 x8_2) ∧ Aside0 (Below w.heap.size w w'))
        case atStart => exact ⟨(([] : List Int)), (y111), (wrap64 (((rd_L4 t102 x6_1).length : Int) - 1)), (by first | rfl | (simp; done) | (simp [*]; done)), H', ⟨Nat.le_refl _⟩, ⟨by (with_reducible repeat (first | apply Kd.S_alloc | apply Kd.S_drewN | apply Kd.S_drew)); exact Kd.S_mono HO_4.out (fun _ hk => ⟨(by simp [Value.ownBlock]), hk.2⟩)⟩, ⟨rp9 HO_5.out⟩, ⟨by first | exact Kd.R_nil _ _ _ _ _ | exact Kd.N_nil _ _ _ _ _ | exact Kd.V_nil _ _ _ _ _ | exact Kd.Q_nil _ _ _ _ _ | exact Kd.S_nil _ _ _ _ _⟩, ⟨by (with_reducible repeat (first | apply Kd.R_alloc | apply Kd.R_drewN | apply Kd.R_drew)); exact Kd.R_mono HO113.out (fun _ hk => (by simp [Value.ownBlock]))⟩, ⟨bp9 HB.out⟩⟩
        case round =>
         clear H'
         try clear c1
         try clear p1
         try clear q1
         try clear hx1
         try clear p2
         try clear c3
         try clear c3b0
         try clear c3b1
         try clear p6
         try clear c11
         try clear p11
         try clear q11
         try clear hx11
         try clear c13
         try clear c13b0
         try clear c14
         try clear c14b0
         try clear c14b1
         try clear c15
         try clear c15b0
         try clear c15b1
         try clear c16
         try clear c16b0
         try clear c18
         try clear hx114_0
         try clear p114
         try clear p2
         try clear q114
         obtain ⟨x7_2, x8_2, x9_2, rfl, HA, HK2, HO_4, HO_5, HO_7, HO_8, HB⟩ := hrel
         cases gk with
         | zero => exact absurd HA.out (by simp [cupolalaw06_OrderBack.l1])
         | succ k2 =>
          have H := HA.out
          clear HA
          simp only [cupolalaw06_OrderBack.l1] at H
          by_cases c20 : x9_2 ≥ 0
          ·rw [if_pos c20] at H
           have c20b0 : decide (0 ≤ x9_2) = true := decide_eq_true c20
           clear c20
           by_cases c21 : 0 ≤ x6_1
           ·rw [if_pos c21] at H
            have c21b0 : decide (0 ≤ x6_1) = true := decide_eq_true c21
            clear c21
            by_cases c22 : x6_1 < (t102.length : Int)
            ·rw [if_pos c22] at H
             have c22b0 : decide (x6_1 < (t102.length : Int)) = true := decide_eq_true c22
             clear c22
             by_cases c23 : 0 ≤ x9_2
             ·rw [if_pos c23] at H
              have c23b0 : decide (0 ≤ x9_2) = true := decide_eq_true c23
              clear c23
              by_cases c24 : x9_2 < ((rd_L4 t102 x6_1).length : Int)
              ·rw [if_pos c24] at H
               have c24b0 : decide (x9_2 < ((rd_L4 t102 x6_1).length : Int)) = true := decide_eq_true c24
               clear c24
               by_cases c25 : (rd (rd_L4 t102 x6_1) x9_2) < 0
               ·rw [if_pos c25] at H
                have c25b0 : decide ((rd (rd_L4 t102 x6_1) x9_2) < 0) = true := decide_eq_true c25
                clear c25
                exact absurd ((Option.some.inj H).trans HT9.out) (by decide)
               ·rw [if_neg c25] at H
                have c25b0 : decide ((rd (rd_L4 t102 x6_1) x9_2) < 0) = false := decide_eq_false c25
                clear c25
                by_cases c26 : (rd (rd_L4 t102 x6_1) x9_2) ≥ (l0.length : Int)
                ·rw [if_pos c26] at H
                 have c26b0 : decide ((l0.length : Int) ≤ (rd (rd_L4 t102 x6_1) x9_2)) = true := decide_eq_true c26
                 clear c26
                 exact absurd ((Option.some.inj H).trans HT9.out) (by decide)
                ·rw [if_neg c26] at H
                 have c26b0 : decide ((l0.length : Int) ≤ (rd (rd_L4 t102 x6_1) x9_2)) = false := decide_eq_false c26
                 clear c26
                 by_cases c27 : x7_2.length < 17592186044416
                 ·rw [if_pos c27] at H
                  have LMc27 := Aside0.mk c27
                  clear c27
                  obtain ⟨y117, hy117⟩ : ∃ y_ : List Int, y_ = (x7_2 ++ [rd (rd_L4 t102 x6_1) x9_2]) := ⟨_, rfl⟩
                  replace H : (if 0 ≤ (rd (rd_L4 t102 x6_1) x9_2) then (if (rd (rd_L4 t102 x6_1) x9_2) < (x8_2.length : Int) then (cupolalaw06_OrderBack.l1 k2 l0 t101 t102 t108 x6_1 y117 (x8_2.set ((rd (rd_L4 t102 x6_1) x9_2) : Int).toNat x9_2) (wrap64 (x9_2 - 1))) else (none)) else (none)) = some r := by first | (rw [hy117]; with_reducible exact H) | (have H2_ := (Option.bind_some _ _).symm.trans H; rw [hy117]; with_reducible exact H2_) | (have H2_ := (Option.bind_some _ _).symm.trans H; with_reducible exact H2_) | with_reducible exact H | (rw [hy117]; exact H) | exact H
                  have Ny117 := Aside0.mk hy117
                  clear hy117
                  by_cases c28 : 0 ≤ (rd (rd_L4 t102 x6_1) x9_2)
                  ·rw [if_pos c28] at H
                   have c28b0 : decide (0 ≤ (rd (rd_L4 t102 x6_1) x9_2)) = true := decide_eq_true c28
                   clear c28
                   by_cases c29 : (rd (rd_L4 t102 x6_1) x9_2) < (x8_2.length : Int)
                   ·rw [if_pos c29] at H
                    have c29b0 : decide ((rd (rd_L4 t102 x6_1) x9_2) < (x8_2.length : Int)) = true := decide_eq_true c29
                    clear c29
                    obtain ⟨y120, hy120⟩ : ∃ y_ : List Int, y_ = (x8_2.set ((rd (rd_L4 t102 x6_1) x9_2) : Int).toNat x9_2) := ⟨_, rfl⟩
                    replace H : (cupolalaw06_OrderBack.l1 k2 l0 t101 t102 t108 x6_1 y117 y120 (wrap64 (x9_2 - 1))) = some r := by first | (rw [hy120]; with_reducible exact H) | (have H2_ := (Option.bind_some _ _).symm.trans H; rw [hy120]; with_reducible exact H2_) | (have H2_ := (Option.bind_some _ _).symm.trans H; with_reducible exact H2_) | with_reducible exact H | (rw [hy120]; exact H) | exact H
                    have Ny120 := Aside0.mk hy120
                    clear hy120
                    have H' := Aside0.mk H
                    clear H
                    have p115 : 0 ≤ (x6_1 : Int) := of_decide_eq_true (by first | (with_reducible assumption) | assumption)
                    have q115 : x6_1 < (t102.length : Int) := of_decide_eq_true (by first | (with_reducible assumption) | assumption)
                    obtain ⟨ad115, A115_0, c115_0, e115, hx115_0, hl115_0, hi115_0⟩ := at_L4 (Kd.S_reads' HO_4.out).2.2 x6_1 p115 q115
                    obtain rfl : ad114 = ad115 := (by injection e115)
                    obtain ⟨ce115, hce115, hMe115, hcc115⟩ := Kd.S_get HO_4.out [] x6_1 p115 (by first | exact q115 | exact of_decide_eq_true (by first | (with_reducible assumption) | assumption) | (have e_ := (Kd.S_reads' HO_4.out).1; omega))
                    obtain ⟨ve115_0, rfl, ge115_0⟩ := hMe115
                    have hv115_0 := hcc115 0 _ rfl
                    rw [Nat.add_zero, show ((Kd.slice 3 (Kd.int .i64))).sz = 1 from rfl, Nat.mul_one] at hv115_0
                    replace hv115_0 := Option.some.inj (hv115_0.symm.trans hx115_0)
                    rw [hv115_0] at ge115_0
                    have HL115_0 := Aside0.mk (show Kd.R (Kd.int .i64) 3 _ _ _ _ (rd_L4 t102 x6_1) from ge115_0)
                    clear hv115_0 ge115_0
                    clear hcc115 hce115
                    have HR115_0 := Aside0.mk hi115_0
                    have HC115_0 := Aside0.mk hl115_0
                    clear hi115_0 hl115_0
                    replace p115 := eq_true p115
                    replace q115 := eq_true q115
                    have p116 : 0 ≤ (x9_2 : Int) := of_decide_eq_true (by first | (with_reducible assumption) | assumption)
                    have q116 : x9_2 < ((rd_L4 t102 x6_1).length : Int) := of_decide_eq_true (by first | (with_reducible assumption) | assumption)
                    obtain ⟨ad116, e116, hx116_0⟩ := Kd.at_int (by repeat (first | (with_reducible exact HR115_0.out) | (with_reducible refine Kd.C_alloc ?_ _) | (with_reducible refine Kd.C_drewN ?_ _) | (with_reducible refine Kd.C_drew ?_) | exact HR115_0.out)) x9_2 p116 q116
                    cases e116
                    replace p116 := eq_true p116
                    replace q116 := eq_true q116
                    go_wp2_with (first | ((with_reducible refine gate_builtin (b := .append) (xs := #[.tmp 56, .tmp 58]) rfl ?_); (try (refine gate_guard (by rfl) ?_; dsimp only)); at_builtin; refine Kd.R_append (Kd.int .i64) (w0 := w) w.heap.size rfl (.tmp 56) (.tmp 58) 33 3 (.int .i64 0) 8 rfl Try.underlying33 info3 rfl (by decide) (by omega) u7 x7_2 (rd (rd_L4 t102 x6_1) x9_2) [.int .i64 (rd (rd_L4 t102 x6_1) x9_2)] (fun k_ => some k_ ≠ (v112 : Value).ownBlock) (fun _ => False) rfl rfl ?aP (fun _ hk => hk.elim) ?aF ?aO ?aB ?aS ?aL ?_; (case aP => exact rfl); (case aB => exact (bp9 HB.out)); (case aF => exact (fun k_ hk => Kd.fresh' (Kd.R_lt (rp9 HO_8.out)) k_ hk)); (case aO => exact (rp9 HO_7.out)); (case aS => exact (below_size (bp9 HB.out))); (case aL => have := LMc27.out; omega); intro v118 w31 ho hb hg hat; rw [← Ny117.out] at ho; have n0_ := Aside0.mk (Kd.S_after (ok := (fun k_ => some k_ ≠ (v112 : Value).ownBlock)) (by (with_reducible repeat (first | apply Kd.S_alloc | apply Kd.S_drewN | apply Kd.S_drew)); exact Kd.S_mono HO_4.out (fun _ hk => ⟨hk.2, hk.1⟩)) hg hat); have n1_ := Aside0.mk (Kd.R_over' (rp9 HO_5.out) (Kd.R_typed (rp9 HO_7.out)) (by decide) hg); have n2_ := Aside0.mk (Kd.R_after (ok := (fun _ => True)) (by (with_reducible repeat (first | apply Kd.R_alloc | apply Kd.R_drewN | apply Kd.R_drew)); exact Kd.R_mono HO_8.out (fun _ hk => ⟨trivial, hk⟩)) hg hat); have n3_ := Aside0.mk (Kd.R_after (ok := (fun k_ => some k_ ≠ (.slice (some ad114) t102.length co17 : Value).ownBlock ∧ some k_ ≠ (v112 : Value).ownBlock)) (by (with_reducible repeat (first | apply Kd.R_alloc | apply Kd.R_drewN | apply Kd.R_drew)); exact Kd.R_mono HL115_0.out (fun _ hk => ⟨⟨hk.2, hk.1.2⟩, hk.1.1⟩)) hg hat); have n4_ := Aside0.mk (hb); have n5_ := Aside0.mk (ho); clear HO_4; clear HO_5; clear HO_8; clear HL115_0; clear HB; clear HO_7; have HO_4 := n0_; have HO_5 := n1_; have HO_8 := n2_; have HL115_0 := n3_; have HB := n4_; have HO119 := n5_; clear n0_ n1_ n2_ n3_ n4_ n5_; clear ho hb hg hat; have p30 : 0 ≤ ((rd (rd_L4 t102 x6_1) x9_2) : Int) := of_decide_eq_true (by first | (with_reducible assumption) | assumption); have q30 : ((rd (rd_L4 t102 x6_1) x9_2) : Int) < ((x8_2.length : Int) : Int) := of_decide_eq_true (by first | (with_reducible assumption) | assumption); obtain ⟨go30, co30, eo30, gb30, gl30, cl30, HG30⟩ := Kd.R_form HO_8.out (by omega); (first | cases eo30 | (injection eo30 with ea_ en_ ec_; (first | subst ea_ | (injection ea_ with ea_; subst ea_)); subst ec_; clear en_)); have GB30 := Aside0.mk gb30; have GG30 := Aside0.mk HG30; clear gb30 gl30 HG30; obtain ⟨hx30_0, hf30_0⟩ := Kd.R_celln 0 HO_8.out ((rd (rd_L4 t102 x6_1) x9_2) : Int) p30 q30; replace p30 := eq_true p30; replace q30 := eq_true q30; have n_ := Aside0.mk (Kd.R_mono (ok' := (fun k_ => some k_ ≠ (v118 : Value).ownBlock)) HO_8.out (fun k_ hk => hk.2)); clear HO_8; have HO_8 := n_; clear n_; obtain ⟨hy32_, hz32_⟩ := Kd.R_celln 0 HO_8.out ((rd (rd_L4 t102 x6_1) x9_2) : Int) (of_decide_eq_true (by first | (with_reducible assumption) | assumption)) (of_decide_eq_true (by first | (with_reducible assumption) | assumption)); have HP32 := Kd.R_putg HO_8.out ((rd (rd_L4 t102 x6_1) x9_2) : Int) x9_2) | ((with_reducible refine gate_store (t := 3) (p := 63) rfl ?_); (try (rw [drewN_self w31]; generalize hq_ : World.drewN w31 _ = w31; have n0_ := Aside0.mk (Kd.S_at hq_ HO_4.out); have n1_ := Aside0.mk (Kd.R_at hq_ HO_5.out); have n2_ := Aside0.mk (Kd.R_at hq_ HO_8.out); have n3_ := Aside0.mk (Kd.R_at hq_ HL115_0.out); have n4_ := Aside0.mk (Kd.R_at hq_ HO119.out); have n5_ := Aside0.mk (below_at hq_ HB.out); clear hq_ HO_4 HO_5 HO_8 HL115_0 HO119 HB; have HO_4 := n0_; have HO_5 := n1_; have HO_8 := n2_; have HL115_0 := n3_; have HO119 := n4_; have HB := n5_; clear n0_ n1_ n2_ n3_ n4_ n5_; (try (have n_ := Aside0.mk (Kd.R_mono (ok' := (fun k_ => some k_ ≠ (v118 : Value).ownBlock)) HO_8.out (fun k_ hk => hk.2)); clear HO_8; have HO_8 := n_; clear n_)); (try (obtain ⟨hy32_, hz32_⟩ := Kd.R_celln 0 HO_8.out ((rd (rd_L4 t102 x6_1) x9_2) : Int) (of_decide_eq_true (by first | (with_reducible assumption) | assumption)) (of_decide_eq_true (by first | (with_reducible assumption) | assumption)))); (try (have HP32 := Kd.R_putg HO_8.out ((rd (rd_L4 t102 x6_1) x9_2) : Int) x9_2)))); refine store_event (t := 3) (p := 63) (v := ?vo_w33) (w1 := (w31.setCell ⟨go30, ((rd (rd_L4 t102 x6_1) x9_2) : Int).toNat, none⟩ (.int .i64 x9_2))) ?hg ?ho ?hn ?hr ?_; (case ho => rfl); (case hg => rfl); (case hn => rfl); (case hr => first | (go_simp; done) | (go_simp; rfl)); intro w33 hw; have hg : w31.grownBy w33 (some go30) := (by rw [hw]; exact HP32.2); have hp_ : Kd.R (Kd.int .i64) 3 w33 w.heap.size (fun k_ => some k_ ≠ (v118 : Value).ownBlock) (.slice (some ⟨go30, 0, none⟩) x8_2.length co30) y120 := (by rw [hw, Ny120.out]; exact HP32.1); clear HP32; have n0_ := Aside0.mk (Kd.S_after (v := (.slice (some ⟨go30, 0, none⟩) x8_2.length co30)) (v1 := (.slice (some ⟨go30, 0, none⟩) x8_2.length co30)) (ok := (fun k_ => some k_ ≠ (v118 : Value).ownBlock)) (by (with_reducible repeat (first | apply Kd.S_alloc | apply Kd.S_drewN | apply Kd.S_drew)); exact Kd.S_mono HO_4.out (fun _ hk => ⟨hk.2, hk.1⟩)) hg (.inl rfl)); have n1_ := Aside0.mk (Kd.R_over' (v := (.slice (some ⟨go30, 0, none⟩) x8_2.length co30)) (rp9 HO_5.out) (Kd.R_typed HO_8.out) (by decide) hg); have n2_ := Aside0.mk (hp_); have n3_ := Aside0.mk (Kd.R_after (v := (.slice (some ⟨go30, 0, none⟩) x8_2.length co30)) (v1 := (.slice (some ⟨go30, 0, none⟩) x8_2.length co30)) (ok := (fun k_ => some k_ ≠ (.slice (some ad114) t102.length co17 : Value).ownBlock ∧ some k_ ≠ (v118 : Value).ownBlock)) (by (with_reducible repeat (first | apply Kd.R_alloc | apply Kd.R_drewN | apply Kd.R_drew)); exact Kd.R_mono HL115_0.out (fun _ hk => ⟨⟨hk.1.1, hk.2⟩, hk.1.2⟩)) hg (.inl rfl)); have n4_ := Aside0.mk (Kd.R_after (v := (.slice (some ⟨go30, 0, none⟩) x8_2.length co30)) (v1 := (.slice (some ⟨go30, 0, none⟩) x8_2.length co30)) (ok := (fun _ => True)) (by (with_reducible repeat (first | apply Kd.R_alloc | apply Kd.R_drewN | apply Kd.R_drew)); exact Kd.R_mono HO119.out (fun _ hk => ⟨trivial, hk⟩)) hg (.inl rfl)); have n5_ := Aside0.mk ((by rw [hw]; exact below_set (HB.out) GB30.out : Below w.heap.size w w33)); clear HO_4; clear HO_5; clear HO_8; clear HL115_0; clear HO119; clear HB; have HO_4 := n0_; have HO_5 := n1_; have HO_8 := n2_; have HL115_0 := n3_; have HO119 := n4_; have HB := n5_; clear n0_ n1_ n2_ n3_ n4_ n5_; clear hg hw hp_))
                    repeat (go_quiet (first | ((with_reducible refine gate_builtin (b := .append) (xs := #[.tmp 56, .tmp 58]) rfl ?_); (try (refine gate_guard (by rfl) ?_; dsimp only)); at_builtin; refine Kd.R_append (Kd.int .i64) (w0 := w) w.heap.size rfl (.tmp 56) (.tmp 58) 33 3 (.int .i64 0) 8 rfl Try.underlying33 info3 rfl (by decide) (by omega) u7 x7_2 (rd (rd_L4 t102 x6_1) x9_2) [.int .i64 (rd (rd_L4 t102 x6_1) x9_2)] (fun k_ => some k_ ≠ (v112 : Value).ownBlock) (fun _ => False) rfl rfl ?aP (fun _ hk => hk.elim) ?aF ?aO ?aB ?aS ?aL ?_; (case aP => exact rfl); (case aB => exact (bp9 HB.out)); (case aF => exact (fun k_ hk => Kd.fresh' (Kd.R_lt (rp9 HO_8.out)) k_ hk)); (case aO => exact (rp9 HO_7.out)); (case aS => exact (below_size (bp9 HB.out))); (case aL => have := LMc27.out; omega); intro v118 w31 ho hb hg hat; rw [← Ny117.out] at ho; have n0_ := Aside0.mk (Kd.S_after (ok := (fun k_ => some k_ ≠ (v112 : Value).ownBlock)) (by (with_reducible repeat (first | apply Kd.S_alloc | apply Kd.S_drewN | apply Kd.S_drew)); exact Kd.S_mono HO_4.out (fun _ hk => ⟨hk.2, hk.1⟩)) hg hat); have n1_ := Aside0.mk (Kd.R_over' (rp9 HO_5.out) (Kd.R_typed (rp9 HO_7.out)) (by decide) hg); have n2_ := Aside0.mk (Kd.R_after (ok := (fun _ => True)) (by (with_reducible repeat (first | apply Kd.R_alloc | apply Kd.R_drewN | apply Kd.R_drew)); exact Kd.R_mono HO_8.out (fun _ hk => ⟨trivial, hk⟩)) hg hat); have n3_ := Aside0.mk (Kd.R_after (ok := (fun k_ => some k_ ≠ (.slice (some ad114) t102.length co17 : Value).ownBlock ∧ some k_ ≠ (v112 : Value).ownBlock)) (by (with_reducible repeat (first | apply Kd.R_alloc | apply Kd.R_drewN | apply Kd.R_drew)); exact Kd.R_mono HL115_0.out (fun _ hk => ⟨⟨hk.2, hk.1.2⟩, hk.1.1⟩)) hg hat); have n4_ := Aside0.mk (hb); have n5_ := Aside0.mk (ho); clear HO_4; clear HO_5; clear HO_8; clear HL115_0; clear HB; clear HO_7; have HO_4 := n0_; have HO_5 := n1_; have HO_8 := n2_; have HL115_0 := n3_; have HB := n4_; have HO119 := n5_; clear n0_ n1_ n2_ n3_ n4_ n5_; clear ho hb hg hat; have p30 : 0 ≤ ((rd (rd_L4 t102 x6_1) x9_2) : Int) := of_decide_eq_true (by first | (with_reducible assumption) | assumption); have q30 : ((rd (rd_L4 t102 x6_1) x9_2) : Int) < ((x8_2.length : Int) : Int) := of_decide_eq_true (by first | (with_reducible assumption) | assumption); obtain ⟨go30, co30, eo30, gb30, gl30, cl30, HG30⟩ := Kd.R_form HO_8.out (by omega); (first | cases eo30 | (injection eo30 with ea_ en_ ec_; (first | subst ea_ | (injection ea_ with ea_; subst ea_)); subst ec_; clear en_)); have GB30 := Aside0.mk gb30; have GG30 := Aside0.mk HG30; clear gb30 gl30 HG30; obtain ⟨hx30_0, hf30_0⟩ := Kd.R_celln 0 HO_8.out ((rd (rd_L4 t102 x6_1) x9_2) : Int) p30 q30; replace p30 := eq_true p30; replace q30 := eq_true q30; have n_ := Aside0.mk (Kd.R_mono (ok' := (fun k_ => some k_ ≠ (v118 : Value).ownBlock)) HO_8.out (fun k_ hk => hk.2)); clear HO_8; have HO_8 := n_; clear n_; obtain ⟨hy32_, hz32_⟩ := Kd.R_celln 0 HO_8.out ((rd (rd_L4 t102 x6_1) x9_2) : Int) (of_decide_eq_true (by first | (with_reducible assumption) | assumption)) (of_decide_eq_true (by first | (with_reducible assumption) | assumption)); have HP32 := Kd.R_putg HO_8.out ((rd (rd_L4 t102 x6_1) x9_2) : Int) x9_2) | ((with_reducible refine gate_store (t := 3) (p := 63) rfl ?_); (try (rw [drewN_self w31]; generalize hq_ : World.drewN w31 _ = w31; have n0_ := Aside0.mk (Kd.S_at hq_ HO_4.out); have n1_ := Aside0.mk (Kd.R_at hq_ HO_5.out); have n2_ := Aside0.mk (Kd.R_at hq_ HO_8.out); have n3_ := Aside0.mk (Kd.R_at hq_ HL115_0.out); have n4_ := Aside0.mk (Kd.R_at hq_ HO119.out); have n5_ := Aside0.mk (below_at hq_ HB.out); clear hq_ HO_4 HO_5 HO_8 HL115_0 HO119 HB; have HO_4 := n0_; have HO_5 := n1_; have HO_8 := n2_; have HL115_0 := n3_; have HO119 := n4_; have HB := n5_; clear n0_ n1_ n2_ n3_ n4_ n5_; (try (have n_ := Aside0.mk (Kd.R_mono (ok' := (fun k_ => some k_ ≠ (v118 : Value).ownBlock)) HO_8.out (fun k_ hk => hk.2)); clear HO_8; have HO_8 := n_; clear n_)); (try (obtain ⟨hy32_, hz32_⟩ := Kd.R_celln 0 HO_8.out ((rd (rd_L4 t102 x6_1) x9_2) : Int) (of_decide_eq_true (by first | (with_reducible assumption) | assumption)) (of_decide_eq_true (by first | (with_reducible assumption) | assumption)))); (try (have HP32 := Kd.R_putg HO_8.out ((rd (rd_L4 t102 x6_1) x9_2) : Int) x9_2)))); refine store_event (t := 3) (p := 63) (v := ?vo_w33) (w1 := (w31.setCell ⟨go30, ((rd (rd_L4 t102 x6_1) x9_2) : Int).toNat, none⟩ (.int .i64 x9_2))) ?hg ?ho ?hn ?hr ?_; (case ho => rfl); (case hg => rfl); (case hn => rfl); (case hr => first | (go_simp; done) | (go_simp; rfl)); intro w33 hw; have hg : w31.grownBy w33 (some go30) := (by rw [hw]; exact HP32.2); have hp_ : Kd.R (Kd.int .i64) 3 w33 w.heap.size (fun k_ => some k_ ≠ (v118 : Value).ownBlock) (.slice (some ⟨go30, 0, none⟩) x8_2.length co30) y120 := (by rw [hw, Ny120.out]; exact HP32.1); clear HP32; have n0_ := Aside0.mk (Kd.S_after (v := (.slice (some ⟨go30, 0, none⟩) x8_2.length co30)) (v1 := (.slice (some ⟨go30, 0, none⟩) x8_2.length co30)) (ok := (fun k_ => some k_ ≠ (v118 : Value).ownBlock)) (by (with_reducible repeat (first | apply Kd.S_alloc | apply Kd.S_drewN | apply Kd.S_drew)); exact Kd.S_mono HO_4.out (fun _ hk => ⟨hk.2, hk.1⟩)) hg (.inl rfl)); have n1_ := Aside0.mk (Kd.R_over' (v := (.slice (some ⟨go30, 0, none⟩) x8_2.length co30)) (rp9 HO_5.out) (Kd.R_typed HO_8.out) (by decide) hg); have n2_ := Aside0.mk (hp_); have n3_ := Aside0.mk (Kd.R_after (v := (.slice (some ⟨go30, 0, none⟩) x8_2.length co30)) (v1 := (.slice (some ⟨go30, 0, none⟩) x8_2.length co30)) (ok := (fun k_ => some k_ ≠ (.slice (some ad114) t102.length co17 : Value).ownBlock ∧ some k_ ≠ (v118 : Value).ownBlock)) (by (with_reducible repeat (first | apply Kd.R_alloc | apply Kd.R_drewN | apply Kd.R_drew)); exact Kd.R_mono HL115_0.out (fun _ hk => ⟨⟨hk.1.1, hk.2⟩, hk.1.2⟩)) hg (.inl rfl)); have n4_ := Aside0.mk (Kd.R_after (v := (.slice (some ⟨go30, 0, none⟩) x8_2.length co30)) (v1 := (.slice (some ⟨go30, 0, none⟩) x8_2.length co30)) (ok := (fun _ => True)) (by (with_reducible repeat (first | apply Kd.R_alloc | apply Kd.R_drewN | apply Kd.R_drew)); exact Kd.R_mono HO119.out (fun _ hk => ⟨trivial, hk⟩)) hg (.inl rfl)); have n5_ := Aside0.mk ((by rw [hw]; exact below_set (HB.out) GB30.out : Below w.heap.size w w33)); clear HO_4; clear HO_5; clear HO_8; clear HL115_0; clear HO119; clear HB; have HO_4 := n0_; have HO_5 := n1_; have HO_8 := n2_; have HL115_0 := n3_; have HO119 := n4_; have HB := n5_; clear n0_ n1_ n2_ n3_ n4_ n5_; clear hg hw hp_)); try go_wp2_with (first | ((with_reducible refine gate_builtin (b := .append) (xs := #[.tmp 56, .tmp 58]) rfl ?_); (try (refine gate_guard (by rfl) ?_; dsimp only)); at_builtin; refine Kd.R_append (Kd.int .i64) (w0 := w) w.heap.size rfl (.tmp 56) (.tmp 58) 33 3 (.int .i64 0) 8 rfl Try.underlying33 info3 rfl (by decide) (by omega) u7 x7_2 (rd (rd_L4 t102 x6_1) x9_2) [.int .i64 (rd (rd_L4 t102 x6_1) x9_2)] (fun k_ => some k_ ≠ (v112 : Value).ownBlock) (fun _ => False) rfl rfl ?aP (fun _ hk => hk.elim) ?aF ?aO ?aB ?aS ?aL ?_; (case aP => exact rfl); (case aB => exact (bp9 HB.out)); (case aF => exact (fun k_ hk => Kd.fresh' (Kd.R_lt (rp9 HO_8.out)) k_ hk)); (case aO => exact (rp9 HO_7.out)); (case aS => exact (below_size (bp9 HB.out))); (case aL => have := LMc27.out; omega); intro v118 w31 ho hb hg hat; rw [← Ny117.out] at ho; have n0_ := Aside0.mk (Kd.S_after (ok := (fun k_ => some k_ ≠ (v112 : Value).ownBlock)) (by (with_reducible repeat (first | apply Kd.S_alloc | apply Kd.S_drewN | apply Kd.S_drew)); exact Kd.S_mono HO_4.out (fun _ hk => ⟨hk.2, hk.1⟩)) hg hat); have n1_ := Aside0.mk (Kd.R_over' (rp9 HO_5.out) (Kd.R_typed (rp9 HO_7.out)) (by decide) hg); have n2_ := Aside0.mk (Kd.R_after (ok := (fun _ => True)) (by (with_reducible repeat (first | apply Kd.R_alloc | apply Kd.R_drewN | apply Kd.R_drew)); exact Kd.R_mono HO_8.out (fun _ hk => ⟨trivial, hk⟩)) hg hat); have n3_ := Aside0.mk (Kd.R_after (ok := (fun k_ => some k_ ≠ (.slice (some ad114) t102.length co17 : Value).ownBlock ∧ some k_ ≠ (v112 : Value).ownBlock)) (by (with_reducible repeat (first | apply Kd.R_alloc | apply Kd.R_drewN | apply Kd.R_drew)); exact Kd.R_mono HL115_0.out (fun _ hk => ⟨⟨hk.2, hk.1.2⟩, hk.1.1⟩)) hg hat); have n4_ := Aside0.mk (hb); have n5_ := Aside0.mk (ho); clear HO_4; clear HO_5; clear HO_8; clear HL115_0; clear HB; clear HO_7; have HO_4 := n0_; have HO_5 := n1_; have HO_8 := n2_; have HL115_0 := n3_; have HB := n4_; have HO119 := n5_; clear n0_ n1_ n2_ n3_ n4_ n5_; clear ho hb hg hat; have p30 : 0 ≤ ((rd (rd_L4 t102 x6_1) x9_2) : Int) := of_decide_eq_true (by first | (with_reducible assumption) | assumption); have q30 : ((rd (rd_L4 t102 x6_1) x9_2) : Int) < ((x8_2.length : Int) : Int) := of_decide_eq_true (by first | (with_reducible assumption) | assumption); obtain ⟨go30, co30, eo30, gb30, gl30, cl30, HG30⟩ := Kd.R_form HO_8.out (by omega); (first | cases eo30 | (injection eo30 with ea_ en_ ec_; (first | subst ea_ | (injection ea_ with ea_; subst ea_)); subst ec_; clear en_)); have GB30 := Aside0.mk gb30; have GG30 := Aside0.mk HG30; clear gb30 gl30 HG30; obtain ⟨hx30_0, hf30_0⟩ := Kd.R_celln 0 HO_8.out ((rd (rd_L4 t102 x6_1) x9_2) : Int) p30 q30; replace p30 := eq_true p30; replace q30 := eq_true q30; have n_ := Aside0.mk (Kd.R_mono (ok' := (fun k_ => some k_ ≠ (v118 : Value).ownBlock)) HO_8.out (fun k_ hk => hk.2)); clear HO_8; have HO_8 := n_; clear n_; obtain ⟨hy32_, hz32_⟩ := Kd.R_celln 0 HO_8.out ((rd (rd_L4 t102 x6_1) x9_2) : Int) (of_decide_eq_true (by first | (with_reducible assumption) | assumption)) (of_decide_eq_true (by first | (with_reducible assumption) | assumption)); have HP32 := Kd.R_putg HO_8.out ((rd (rd_L4 t102 x6_1) x9_2) : Int) x9_2) | ((with_reducible refine gate_store (t := 3) (p := 63) rfl ?_); (try (rw [drewN_self w31]; generalize hq_ : World.drewN w31 _ = w31; have n0_ := Aside0.mk (Kd.S_at hq_ HO_4.out); have n1_ := Aside0.mk (Kd.R_at hq_ HO_5.out); have n2_ := Aside0.mk (Kd.R_at hq_ HO_8.out); have n3_ := Aside0.mk (Kd.R_at hq_ HL115_0.out); have n4_ := Aside0.mk (Kd.R_at hq_ HO119.out); have n5_ := Aside0.mk (below_at hq_ HB.out); clear hq_ HO_4 HO_5 HO_8 HL115_0 HO119 HB; have HO_4 := n0_; have HO_5 := n1_; have HO_8 := n2_; have HL115_0 := n3_; have HO119 := n4_; have HB := n5_; clear n0_ n1_ n2_ n3_ n4_ n5_; (try (have n_ := Aside0.mk (Kd.R_mono (ok' := (fun k_ => some k_ ≠ (v118 : Value).ownBlock)) HO_8.out (fun k_ hk => hk.2)); clear HO_8; have HO_8 := n_; clear n_)); (try (obtain ⟨hy32_, hz32_⟩ := Kd.R_celln 0 HO_8.out ((rd (rd_L4 t102 x6_1) x9_2) : Int) (of_decide_eq_true (by first | (with_reducible assumption) | assumption)) (of_decide_eq_true (by first | (with_reducible assumption) | assumption)))); (try (have HP32 := Kd.R_putg HO_8.out ((rd (rd_L4 t102 x6_1) x9_2) : Int) x9_2)))); refine store_event (t := 3) (p := 63) (v := ?vo_w33) (w1 := (w31.setCell ⟨go30, ((rd (rd_L4 t102 x6_1) x9_2) : Int).toNat, none⟩ (.int .i64 x9_2))) ?hg ?ho ?hn ?hr ?_; (case ho => rfl); (case hg => rfl); (case hn => rfl); (case hr => first | (go_simp; done) | (go_simp; rfl)); intro w33 hw; have hg : w31.grownBy w33 (some go30) := (by rw [hw]; exact HP32.2); have hp_ : Kd.R (Kd.int .i64) 3 w33 w.heap.size (fun k_ => some k_ ≠ (v118 : Value).ownBlock) (.slice (some ⟨go30, 0, none⟩) x8_2.length co30) y120 := (by rw [hw, Ny120.out]; exact HP32.1); clear HP32; have n0_ := Aside0.mk (Kd.S_after (v := (.slice (some ⟨go30, 0, none⟩) x8_2.length co30)) (v1 := (.slice (some ⟨go30, 0, none⟩) x8_2.length co30)) (ok := (fun k_ => some k_ ≠ (v118 : Value).ownBlock)) (by (with_reducible repeat (first | apply Kd.S_alloc | apply Kd.S_drewN | apply Kd.S_drew)); exact Kd.S_mono HO_4.out (fun _ hk => ⟨hk.2, hk.1⟩)) hg (.inl rfl)); have n1_ := Aside0.mk (Kd.R_over' (v := (.slice (some ⟨go30, 0, none⟩) x8_2.length co30)) (rp9 HO_5.out) (Kd.R_typed HO_8.out) (by decide) hg); have n2_ := Aside0.mk (hp_); have n3_ := Aside0.mk (Kd.R_after (v := (.slice (some ⟨go30, 0, none⟩) x8_2.length co30)) (v1 := (.slice (some ⟨go30, 0, none⟩) x8_2.length co30)) (ok := (fun k_ => some k_ ≠ (.slice (some ad114) t102.length co17 : Value).ownBlock ∧ some k_ ≠ (v118 : Value).ownBlock)) (by (with_reducible repeat (first | apply Kd.R_alloc | apply Kd.R_drewN | apply Kd.R_drew)); exact Kd.R_mono HL115_0.out (fun _ hk => ⟨⟨hk.1.1, hk.2⟩, hk.1.2⟩)) hg (.inl rfl)); have n4_ := Aside0.mk (Kd.R_after (v := (.slice (some ⟨go30, 0, none⟩) x8_2.length co30)) (v1 := (.slice (some ⟨go30, 0, none⟩) x8_2.length co30)) (ok := (fun _ => True)) (by (with_reducible repeat (first | apply Kd.R_alloc | apply Kd.R_drewN | apply Kd.R_drew)); exact Kd.R_mono HO119.out (fun _ hk => ⟨trivial, hk⟩)) hg (.inl rfl)); have n5_ := Aside0.mk ((by rw [hw]; exact below_set (HB.out) GB30.out : Below w.heap.size w w33)); clear HO_4; clear HO_5; clear HO_8; clear HL115_0; clear HO119; clear HB; have HO_4 := n0_; have HO_5 := n1_; have HO_8 := n2_; have HL115_0 := n3_; have HO119 := n4_; have HB := n5_; clear n0_ n1_ n2_ n3_ n4_ n5_; clear hg hw hp_)))
                    go_roundg k2
                    case measure => have := HK1.out; have := HK2.out; omega
                    case rel => exact ⟨(y117), (y120), (wrap64 (x9_2 - 1)), (by first | rfl | (simp; done) | (simp [*]; done)), H', ⟨by have := HK1.out; have := HK2.out; omega⟩, ⟨by (with_reducible repeat (first | apply Kd.S_alloc | apply Kd.S_drewN | apply Kd.S_drew)); exact HO_4.out⟩, ⟨rp9 HO_5.out⟩, ⟨by (with_reducible repeat (first | apply Kd.R_alloc | apply Kd.R_drewN | apply Kd.R_drew)); exact Kd.R_mono HO119.out (fun _ hk => hk.2)⟩, ⟨rp9 HO_8.out⟩, ⟨bp9 HB.out⟩⟩
                   ·rw [if_neg c29] at H
                    exact absurd H (by simp)
                  ·rw [if_neg c28] at H
                   exact absurd H (by simp)
                 ·rw [if_neg c27] at H
                  exact absurd H (by simp)
              ·rw [if_neg c24] at H
               exact absurd H (by simp)
             ·rw [if_neg c23] at H
              exact absurd H (by simp)
            ·rw [if_neg c22] at H
             exact absurd H (by simp)
           ·rw [if_neg c21] at H
            exact absurd H (by simp)
          ·rw [if_neg c20] at H
           have c20b0 : decide (0 ≤ x9_2) = false := decide_eq_false c20
           clear c20
           replace H := Option.bind_eq_some_iff.mp H
           obtain ⟨t121, A340, H⟩ := H
           have A34 := Aside0.mk A340
           clear A340
           replace H := Option.bind_eq_some_iff.mp H
           obtain ⟨t124, A350, H⟩ := H
           have A35 := Aside0.mk A350
           clear A350
           by_cases c36 : t124 = true
           ·subst c36
            rw [if_pos rfl] at H
            have H' := Aside0.mk H
            clear H
            go_wp2_with (first | (go_at_call 50; (with_reducible refine (rel_Inv.calls k2 _ _ l0 t121 _ ?side1 ?side2 A34.out).mono ?_); (case side1 => exact cp9 HR0.out HB.out); (case side2 => exact HC0.out); rintro e w37 ⟨v122, rfl, ho0, hb⟩; have n0_ := Aside0.mk (Kd.S_below (by (with_reducible repeat (first | apply Kd.S_alloc | apply Kd.S_drewN | apply Kd.S_drew)); exact HO_4.out) hb); have n1_ := Aside0.mk (Kd.R_below (rp9 HO_5.out) hb); have n2_ := Aside0.mk (Kd.R_below (rp9 HO_7.out) hb); have n3_ := Aside0.mk (Kd.R_below (rp9 HO_8.out) hb); have n4_ := Aside0.mk (Kd.R_lower ho0 (below_size (bp9 HB.out))); have n5_ := Aside0.mk (below_step (bp9 HB.out) hb); clear HO_4; clear HO_5; clear HO_7; clear HO_8; clear HB; have HO_4 := n0_; have HO_5 := n1_; have HO_7 := n2_; have HO_8 := n3_; have HO123 := n4_; have HB := n5_; clear n0_ n1_ n2_ n3_ n4_ n5_; (try clear hb); (try clear hb2); (try clear hk); (try clear hi); (try clear ho0); obtain ⟨Ao38, co38, eo38⟩ := Kd.R_slice HO_7.out; subst eo38; obtain ⟨Ao39, co39, eo39⟩ := Kd.R_slice HO123.out; subst eo39) | (go_at_call 92; (with_reducible refine (order_Fits.calls k2 _ _ x7_2 _ _ t121 true _ ?side1 ?side2 ?side3 ?side4 A35.out).mono ?_); (case side1 => exact lp9 (Kd.R_reads' HO_7.out).2.2); (case side2 => exact (Kd.R_reads' HO_7.out).2.1); (case side3 => exact lp9 (Kd.R_reads' HO123.out).2.2); (case side4 => exact (Kd.R_reads' HO123.out).2.1); rintro e w40 ⟨rfl, hb⟩; have n0_ := Aside0.mk (Kd.S_below (by (with_reducible repeat (first | apply Kd.S_alloc | apply Kd.S_drewN | apply Kd.S_drew)); exact HO_4.out) hb); have n1_ := Aside0.mk (Kd.R_below (rp9 HO_5.out) hb); have n2_ := Aside0.mk (Kd.R_below (rp9 HO_7.out) hb); have n3_ := Aside0.mk (Kd.R_below (rp9 HO_8.out) hb); have n4_ := Aside0.mk (Kd.R_below (rp9 HO123.out) hb); have n5_ := Aside0.mk (below_step (bp9 HB.out) hb); clear HO_4; clear HO_5; clear HO_7; clear HO_8; clear HO123; clear HB; have HO_4 := n0_; have HO_5 := n1_; have HO_7 := n2_; have HO_8 := n3_; have HO123 := n4_; have HB := n5_; clear n0_ n1_ n2_ n3_ n4_ n5_; (try clear hb); (try clear hb2); (try clear hk); (try clear hi)))
            repeat (go_quiet (first | (go_at_call 50; (with_reducible refine (rel_Inv.calls k2 _ _ l0 t121 _ ?side1 ?side2 A34.out).mono ?_); (case side1 => exact cp9 HR0.out HB.out); (case side2 => exact HC0.out); rintro e w37 ⟨v122, rfl, ho0, hb⟩; have n0_ := Aside0.mk (Kd.S_below (by (with_reducible repeat (first | apply Kd.S_alloc | apply Kd.S_drewN | apply Kd.S_drew)); exact HO_4.out) hb); have n1_ := Aside0.mk (Kd.R_below (rp9 HO_5.out) hb); have n2_ := Aside0.mk (Kd.R_below (rp9 HO_7.out) hb); have n3_ := Aside0.mk (Kd.R_below (rp9 HO_8.out) hb); have n4_ := Aside0.mk (Kd.R_lower ho0 (below_size (bp9 HB.out))); have n5_ := Aside0.mk (below_step (bp9 HB.out) hb); clear HO_4; clear HO_5; clear HO_7; clear HO_8; clear HB; have HO_4 := n0_; have HO_5 := n1_; have HO_7 := n2_; have HO_8 := n3_; have HO123 := n4_; have HB := n5_; clear n0_ n1_ n2_ n3_ n4_ n5_; (try clear hb); (try clear hb2); (try clear hk); (try clear hi); (try clear ho0); obtain ⟨Ao38, co38, eo38⟩ := Kd.R_slice HO_7.out; subst eo38; obtain ⟨Ao39, co39, eo39⟩ := Kd.R_slice HO123.out; subst eo39) | (go_at_call 92; (with_reducible refine (order_Fits.calls k2 _ _ x7_2 _ _ t121 true _ ?side1 ?side2 ?side3 ?side4 A35.out).mono ?_); (case side1 => exact lp9 (Kd.R_reads' HO_7.out).2.2); (case side2 => exact (Kd.R_reads' HO_7.out).2.1); (case side3 => exact lp9 (Kd.R_reads' HO123.out).2.2); (case side4 => exact (Kd.R_reads' HO123.out).2.1); rintro e w40 ⟨rfl, hb⟩; have n0_ := Aside0.mk (Kd.S_below (by (with_reducible repeat (first | apply Kd.S_alloc | apply Kd.S_drewN | apply Kd.S_drew)); exact HO_4.out) hb); have n1_ := Aside0.mk (Kd.R_below (rp9 HO_5.out) hb); have n2_ := Aside0.mk (Kd.R_below (rp9 HO_7.out) hb); have n3_ := Aside0.mk (Kd.R_below (rp9 HO_8.out) hb); have n4_ := Aside0.mk (Kd.R_below (rp9 HO123.out) hb); have n5_ := Aside0.mk (below_step (bp9 HB.out) hb); clear HO_4; clear HO_5; clear HO_7; clear HO_8; clear HO123; clear HB; have HO_4 := n0_; have HO_5 := n1_; have HO_7 := n2_; have HO_8 := n3_; have HO123 := n4_; have HB := n5_; clear n0_ n1_ n2_ n3_ n4_ n5_; (try clear hb); (try clear hb2); (try clear hk); (try clear hi))); try go_wp2_with (first | (go_at_call 50; (with_reducible refine (rel_Inv.calls k2 _ _ l0 t121 _ ?side1 ?side2 A34.out).mono ?_); (case side1 => exact cp9 HR0.out HB.out); (case side2 => exact HC0.out); rintro e w37 ⟨v122, rfl, ho0, hb⟩; have n0_ := Aside0.mk (Kd.S_below (by (with_reducible repeat (first | apply Kd.S_alloc | apply Kd.S_drewN | apply Kd.S_drew)); exact HO_4.out) hb); have n1_ := Aside0.mk (Kd.R_below (rp9 HO_5.out) hb); have n2_ := Aside0.mk (Kd.R_below (rp9 HO_7.out) hb); have n3_ := Aside0.mk (Kd.R_below (rp9 HO_8.out) hb); have n4_ := Aside0.mk (Kd.R_lower ho0 (below_size (bp9 HB.out))); have n5_ := Aside0.mk (below_step (bp9 HB.out) hb); clear HO_4; clear HO_5; clear HO_7; clear HO_8; clear HB; have HO_4 := n0_; have HO_5 := n1_; have HO_7 := n2_; have HO_8 := n3_; have HO123 := n4_; have HB := n5_; clear n0_ n1_ n2_ n3_ n4_ n5_; (try clear hb); (try clear hb2); (try clear hk); (try clear hi); (try clear ho0); obtain ⟨Ao38, co38, eo38⟩ := Kd.R_slice HO_7.out; subst eo38; obtain ⟨Ao39, co39, eo39⟩ := Kd.R_slice HO123.out; subst eo39) | (go_at_call 92; (with_reducible refine (order_Fits.calls k2 _ _ x7_2 _ _ t121 true _ ?side1 ?side2 ?side3 ?side4 A35.out).mono ?_); (case side1 => exact lp9 (Kd.R_reads' HO_7.out).2.2); (case side2 => exact (Kd.R_reads' HO_7.out).2.1); (case side3 => exact lp9 (Kd.R_reads' HO123.out).2.2); (case side4 => exact (Kd.R_reads' HO123.out).2.1); rintro e w40 ⟨rfl, hb⟩; have n0_ := Aside0.mk (Kd.S_below (by (with_reducible repeat (first | apply Kd.S_alloc | apply Kd.S_drewN | apply Kd.S_drew)); exact HO_4.out) hb); have n1_ := Aside0.mk (Kd.R_below (rp9 HO_5.out) hb); have n2_ := Aside0.mk (Kd.R_below (rp9 HO_7.out) hb); have n3_ := Aside0.mk (Kd.R_below (rp9 HO_8.out) hb); have n4_ := Aside0.mk (Kd.R_below (rp9 HO123.out) hb); have n5_ := Aside0.mk (below_step (bp9 HB.out) hb); clear HO_4; clear HO_5; clear HO_7; clear HO_8; clear HO123; clear HB; have HO_4 := n0_; have HO_5 := n1_; have HO_7 := n2_; have HO_8 := n3_; have HO123 := n4_; have HB := n5_; clear n0_ n1_ n2_ n3_ n4_ n5_; (try clear hb); (try clear hb2); (try clear hk); (try clear hi))))
            go_loopg [11] k2 (fun kq v11 w' => ∃ (x11_3 : Int), v11 = .int .i64 x11_3 ∧ Aside0 (cupolalaw06_OrderBack.l2 kq l0 t101 t102 t108 x6_1 x8_2 x11_3 = some r) ∧ Aside0 (kq ≤ k2) ∧ Aside0 (Kd.S (Kd.slice 3 (Kd.int .i64)) 33 w' w.heap.size (fun k_ => some k_ ≠ (v112 : Value).ownBlock) (.slice (some ad114) t102.length co17) t102) ∧ Aside0 (Kd.R k46 46 w' w.heap.size (fun _ => True) v109 t108) ∧ Aside0 (Kd.R (Kd.int .i64) 3 w' w.heap.size (fun _ => True) v112 x8_2) ∧ Aside0 (Below w.heap.size w w'))
            case atStart => exact ⟨(0), (by first | rfl | (simp; done) | (simp [*]; done)), H', ⟨Nat.le_refl _⟩, ⟨by (with_reducible repeat (first | apply Kd.S_alloc | apply Kd.S_drewN | apply Kd.S_drew)); exact Kd.S_mono HO_4.out (fun _ hk => hk.2)⟩, ⟨rp9 HO_5.out⟩, ⟨by (with_reducible repeat (first | apply Kd.R_alloc | apply Kd.R_drewN | apply Kd.R_drew)); exact Kd.R_mono HO_8.out (fun _ hk => trivial)⟩, ⟨bp9 HB.out⟩⟩
            case round =>
             clear H'
             try clear c1
             try clear p1
             try clear q1
             try clear hx1
             try clear c2
             try clear p2
             try clear c3
             try clear c3b0
             try clear c3b1
             try clear p3
             try clear q3
             try clear hx3
             try clear hf3
             try clear p6
             try clear c11
             try clear p11
             try clear q11
             try clear hx11
             try clear c13
             try clear c13b0
             try clear c14
             try clear c14b0
             try clear c14b1
             try clear c15
             try clear c15b0
             try clear c15b1
             try clear c16
             try clear c16b0
             try clear c18
             try clear c20
             try clear c20b0
             try clear c21
             try clear c21b0
             try clear c22
             try clear c22b0
             try clear c23
             try clear c23b0
             try clear c24
             try clear c24b0
             try clear c25
             try clear c25b0
             try clear c26
             try clear c26b0
             try clear c27
             try clear c28
             try clear c28b0
             try clear c29
             try clear c29b0
             try clear p30
             try clear q30
             try clear hx30
             try clear hf30
             try clear c36
             try clear hx114_0
             try clear hx115_0
             try clear hx116_0
             try clear hx30_0
             try clear p1
             try clear p11
             try clear p114
             try clear p115
             try clear p116
             try clear p2
             try clear p30
             try clear p6
             try clear q1
             try clear q11
             try clear q114
             try clear q115
             try clear q116
             try clear q30
             obtain ⟨x11_3, rfl, HA, HK3, HO_4, HO_5, HO_8, HB⟩ := hrel
             cases gk with
             | zero => exact absurd HA.out (by simp [cupolalaw06_OrderBack.l2])
             | succ k3 =>
              have H := HA.out
              clear HA
              simp only [cupolalaw06_OrderBack.l2] at H
              by_cases c41 : x11_3 < (t108.length : Int)
              ·rw [if_pos c41] at H
               have c41b0 : decide (x11_3 < (t108.length : Int)) = true := decide_eq_true c41
               clear c41
               by_cases c42 : 0 ≤ x11_3
               ·rw [if_pos c42] at H
                have c42b0 : decide (0 ≤ x11_3) = true := decide_eq_true c42
                clear c42
                by_cases c43 : 0 ≤ ((rd_T46 t108 x11_3).f0)
                ·rw [if_pos c43] at H
                 have c43b0 : decide (0 ≤ ((rd_T46 t108 x11_3).f0)) = true := decide_eq_true c43
                 clear c43
                 by_cases c44 : ((rd_T46 t108 x11_3).f0) < (x8_2.length : Int)
                 ·rw [if_pos c44] at H
                  have c44b0 : decide (((rd_T46 t108 x11_3).f0) < (x8_2.length : Int)) = true := decide_eq_true c44
                  clear c44
                  by_cases c45 : 0 ≤ ((rd_T46 t108 x11_3).f1)
                  ·rw [if_pos c45] at H
                   have c45b0 : decide (0 ≤ ((rd_T46 t108 x11_3).f1)) = true := decide_eq_true c45
                   clear c45
                   by_cases c46 : ((rd_T46 t108 x11_3).f1) < (x8_2.length : Int)
                   ·rw [if_pos c46] at H
                    have c46b0 : decide (((rd_T46 t108 x11_3).f1) < (x8_2.length : Int)) = true := decide_eq_true c46
                    clear c46
                    by_cases c47 : (rd x8_2 ((rd_T46 t108 x11_3).f0)) ≥ (rd x8_2 ((rd_T46 t108 x11_3).f1))
                    ·rw [if_pos c47] at H
                     have c47b0 : decide ((rd x8_2 ((rd_T46 t108 x11_3).f1)) ≤ (rd x8_2 ((rd_T46 t108 x11_3).f0))) = true := decide_eq_true c47
                     clear c47
                     exact absurd ((Option.some.inj H).trans HT9.out) (by decide)
                    ·rw [if_neg c47] at H
                     have c47b0 : decide ((rd x8_2 ((rd_T46 t108 x11_3).f1)) ≤ (rd x8_2 ((rd_T46 t108 x11_3).f0))) = false := decide_eq_false c47
                     clear c47
                     have H' := Aside0.mk H
                     clear H
                     obtain ⟨Ao48, co48, eo48⟩ := Kd.R_slice HO_5.out
                     subst eo48
                     have p125 : 0 ≤ (x11_3 : Int) := of_decide_eq_true (by first | (with_reducible assumption) | assumption)
                     have q125 : x11_3 < (t108.length : Int) := of_decide_eq_true (by first | (with_reducible assumption) | assumption)
                     obtain ⟨ad125, e125, hx125_0, hx125_1⟩ := at_T46 (Kd.R_reads' HO_5.out).2.2 x11_3 p125 q125
                     cases e125
                     replace p125 := eq_true p125
                     replace q125 := eq_true q125
                     obtain ⟨Ao49, co49, eo49⟩ := Kd.R_slice HO_8.out
                     subst eo49
                     have p126 : 0 ≤ (((rd_T46 t108 x11_3).f0) : Int) := of_decide_eq_true (by first | (with_reducible assumption) | assumption)
                     have q126 : ((rd_T46 t108 x11_3).f0) < (x8_2.length : Int) := of_decide_eq_true (by first | (with_reducible assumption) | assumption)
                     obtain ⟨ad126, e126, hx126_0⟩ := Kd.at_int (Kd.R_reads' HO_8.out).2.2 ((rd_T46 t108 x11_3).f0) p126 q126
                     cases e126
                     replace p126 := eq_true p126
                     replace q126 := eq_true q126
                     have p127 : 0 ≤ (x11_3 : Int) := of_decide_eq_true (by first | (with_reducible assumption) | assumption)
                     have q127 : x11_3 < (t108.length : Int) := of_decide_eq_true (by first | (with_reducible assumption) | assumption)
                     obtain ⟨ad127, e127, hx127_0, hx127_1⟩ := at_T46 (Kd.R_reads' HO_5.out).2.2 x11_3 p127 q127
                     obtain rfl : ad125 = ad127 := (by injection e127)
                     replace p127 := eq_true p127
                     replace q127 := eq_true q127
                     have p128 : 0 ≤ (((rd_T46 t108 x11_3).f1) : Int) := of_decide_eq_true (by first | (with_reducible assumption) | assumption)
                     have q128 : ((rd_T46 t108 x11_3).f1) < (x8_2.length : Int) := of_decide_eq_true (by first | (with_reducible assumption) | assumption)
                     obtain ⟨ad128, e128, hx128_0⟩ := Kd.at_int (Kd.R_reads' HO_8.out).2.2 ((rd_T46 t108 x11_3).f1) p128 q128
                     obtain rfl : ad126 = ad128 := (by injection e128)
                     replace p128 := eq_true p128
                     replace q128 := eq_true q128
                     go_wp2
                     repeat (go_quiet (fail); try go_wp2)
                     go_roundg k3
                     case measure => have := HK1.out; have := HK2.out; have := HK3.out; omega
                     case rel => exact ⟨(wrap64 (x11_3 + 1)), (by first | rfl | (simp; done) | (simp [*]; done)), H', ⟨by have := HK1.out; have := HK2.out; have := HK3.out; omega⟩, ⟨by (with_reducible repeat (first | apply Kd.S_alloc | apply Kd.S_drewN | apply Kd.S_drew)); exact HO_4.out⟩, ⟨rp9 HO_5.out⟩, ⟨rp9 HO_8.out⟩, ⟨bp9 HB.out⟩⟩
                   ·rw [if_neg c46] at H
                    exact absurd H (by simp)
                  ·rw [if_neg c45] at H
                   exact absurd H (by simp)
                 ·rw [if_neg c44] at H
                  exact absurd H (by simp)
                ·rw [if_neg c43] at H
                 exact absurd H (by simp)
               ·rw [if_neg c42] at H
                exact absurd H (by simp)
              ·rw [if_neg c41] at H
               have c41b0 : decide (x11_3 < (t108.length : Int)) = false := decide_eq_false c41
               clear c41
               have H' := Aside0.mk H
               clear H
               obtain ⟨Ao50, co50, eo50⟩ := Kd.R_slice HO_5.out
               subst eo50
               go_wp2
               repeat (go_quiet (fail); try go_wp2)
               go_roundg k3
               case measure => have := HK1.out; have := HK2.out; have := HK3.out; omega
               case rel => exact ⟨(wrap64 (x6_1 + 1)), (by first | rfl | (simp; done) | (simp [*]; done)), H', ⟨by have := HK1.out; have := HK2.out; have := HK3.out; omega⟩, ⟨by (with_reducible repeat (first | apply Kd.S_alloc | apply Kd.S_drewN | apply Kd.S_drew)); exact Kd.S_mono HO_4.out (fun _ hk => trivial)⟩, ⟨rp9 HO_5.out⟩, ⟨bp9 HB.out⟩⟩
           ·replace c36 := Bool.eq_false_iff.mpr c36
            subst c36
            rw [if_neg (show ¬ (false = true) by decide)] at H
            exact absurd ((Option.some.inj H).trans HT9.out) (by decide)
       ·rw [if_neg c16] at H
        exact absurd H (by simp)
      ·rw [if_neg c15] at H
       exact absurd H (by simp)
     ·rw [if_neg c14] at H
      exact absurd H (by simp)
    ·rw [if_neg c13] at H
     have c13b0 : decide (x6_1 < (t102.length : Int)) = false := decide_eq_false c13
     clear c13
     obtain rfl := Option.some.inj H
     obtain ⟨Ao51, co51, eo51⟩ := Kd.S_slice HO_4.out
     subst eo51
     go_wp2
     repeat (go_quiet (fail); try go_wp2)
     go_ret
     exact ⟨by first | rfl | (simp [errW_none, errW_some] <;> rfl) | (simp [*, errW_none, errW_some] <;> rfl), bp9 HB.out⟩

/-- THE ONE PURE STATEMENT of cupolalaw06_OrderBack: yours. -/
def cupolalaw06_OrderBack.Pure : Prop := ∀ (l0 : List Int), l0.length ≤ maxLen → l0.length * 4 ≤ 140737488351232 → (∀ x ∈ l0, (Lit.int .u32 x).wf = true) → ∃ k, cupolalaw06_OrderBack.f k l0 = some true
theorem cupolalaw06_OrderBack.walk (P : cupolalaw06_OrderBack.Pure) (a0 : Option Addr) (len0 cap0 : Nat) (z0 : List Int) (w : World) (w0 : (a0 = none ∧ len0 = 0 ∧ cap0 = 0 ∧ z0 = []) ∨ ∃ x, a0 = some x ∧ len0 ≤ cap0 ∧ cap0 ≤ maxLen ∧ z0.length = cap0 ∧ (∀ i, i < z0.length → w.cell? (x.add i) = some (.int .u32 (z0.getD i 0))) ∧ ∀ n ∈ z0, (Lit.int .u32 n).wf = true) (y0 : len0 * 4 ≤ 140737488351232) :
  Calls Try.prog 18 #[.slice a0 len0 cap0] w fun e w' => e = .returned (.bool true) ∧ Below w.heap.size w w' := by
 obtain ⟨l0, rfl, hr0, hm0, hw0, hc0⟩ := ReadsInt.ofRowC w0
 obtain ⟨k, h⟩ := P l0 hm0 y0 hw0
 refine (cupolalaw06_OrderBack.calls k _ _ l0 true rfl w (Kd.C_of_reads (d := (0 : Int)) (h1 := fun _ => rfl) hr0) hc0 h).mono ?_
 rintro e w' ⟨rfl, hd⟩
 exact ⟨rfl, hd⟩

end Go.Proofs.Ytbamkkdikeedoaa.G
