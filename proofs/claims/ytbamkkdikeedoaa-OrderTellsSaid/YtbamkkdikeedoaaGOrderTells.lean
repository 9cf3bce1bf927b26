-- Written by drive.py, a program of this seat's session, out of the translation.
import Derived.Test.YtbamkkdikeedoaaG0
import Derived.Test.YtbamkkdikeedoaaGCupolalaw06
import Derived.Test.YtbamkkdikeedoaaGCupolaref01
import Derived.Test.YtbamkkdikeedoaaGCupolaref05
import Derived.Test.YtbamkkdikeedoaaGCupolaref06
import Derived.Test.YtbamkkdikeedoaaGCupolaref06l
import Derived.Test.YtbamkkdikeedoaaGOrder
import Derived.Test.YtbamkkdikeedoaaHandOrder
import Derived.Test.YtbamkkdikeedoaaHandCz
namespace Go.Proofs.Ytbamkkdikeedoaa.G
open Go.RowKit Go.Proofs.YtbamkkdikeedoaaW.PrintWords Go.Proofs.YtbamkkdikeedoaaW.PrintLast Go.Proofs.YtbamkkdikeedoaaW.PrintMore
attribute [local go_sem] max2_int min2_int max_two min_two max_three min_three max_four min_four   -- for this text's walks alone
set_option linter.unusedVariables false
set_option linter.unusedSimpArgs false

/-! ### cupolalaw06_OrderTells: function 26 -/
def cupolalaw06_OrderTells.j0 : Nat → List Int → List Int → Int → Bool → Bool → Option (Bool)
 | 0, _, _, _, _, _ => none
 | k + 1, x0, x1, x2, x7, x20 => if x20 = true then (some x7) else ((order_First.f k x1).bind fun bt102 => ((cupolaref06_First.f k x1).bind fun bt106 => (if x7 = true then ((order_All.f k x0).bind fun t110 => ((cupolaref06_All.f k x0).bind fun t113 => ((cupolaref06_Lists.f k t110 t113).bind fun t116 => (if t116 = true then ((cupolaref01_Ints.f k bt102.1 bt106.1).bind fun t117 => (if t117 = true then (if (bt102.2 == bt106.2) = true then ((order_Linear.f k x1).bind fun t118 => ((cupolaref06_Linear.f k x1).bind fun t121 => ((cupolaref06_Lists.f k t118 t121).bind fun t124 => (if t124 = true then ((order_Fits.f k x0 x1).bind fun t125 => ((cupolaref06_Fits.f k x0 x1).bind fun t126 => (if (t125 == t126) = true then ((order_Of.f k x2 x0).bind fun t127 => ((cupolaref06_Of.f k x2 x0).bind fun t130 => ((cupolaref05_Same.f k t127 t130).bind fun t133 => (some t133)))) else (some false)))) else (some false))))) else (some false)) else (some false))) else (some false))))) else (some false))))
def cupolalaw06_OrderTells.f (k : Nat) (l0 : List Int) (l1 : List Int) (a2 : Int) : Option (Bool) := (cupolalaw06_shown.f k).bind fun t101 => (if (l0.length : Int) > 50 then (cupolalaw06_OrderTells.j0 k l0 l1 a2 t101 true) else (cupolalaw06_OrderTells.j0 k l0 l1 a2 t101 (decide ((l1.length : Int) > 50))))
set_option maxHeartbeats 8000000 in
set_option maxRecDepth 100000 in
theorem cupolalaw06_OrderTells.calls (k : Nat) (A0 : Option Addr) (c0 : Nat) (l0 : List Int) (A1 : Option Addr) (c1 : Nat) (l1 : List Int) (a2 : Int) (r : Bool) (hT : r = true) (w : World) (hr0 : Kd.C (Kd.int .i64) w A0 l0.length l0) (hc0 : l0.length ≤ c0) (hr1 : Kd.C (Kd.int .u32) w A1 l1.length l1) (hc1 : l1.length ≤ c1) (h : cupolalaw06_OrderTells.f k l0 l1 a2 = some r) :
  Calls Try.prog 26 #[.slice A0 l0.length c0, .slice A1 l1.length c1, .int .i64 a2] w fun e w' => e = .returned (.bool r) ∧ Below w.heap.size w w' := by
 have HT9 := Aside0.mk hT
 clear hT
 have HR0 := Aside0.mk hr0
 have HC0 := Aside0.mk hc0
 clear hr0 hc0
 have HR1 := Aside0.mk hr1
 have HC1 := Aside0.mk hc1
 clear hr1 hc1
 have HB := Aside0.mk (Below.refl w.heap.size w)
 have H : ((cupolalaw06_shown.f k).bind fun t101 => (if (l0.length : Int) > 50 then (cupolalaw06_OrderTells.j0 k l0 l1 a2 t101 true) else (cupolalaw06_OrderTells.j0 k l0 l1 a2 t101 (decide ((l1.length : Int) > 50))))) = some r := h
 clear h
 replace H := Option.bind_eq_some_iff.mp H
 obtain ⟨t101, A40, H⟩ := H
 have A4 := Aside0.mk A40
 clear A40
 have HC5 := Aside0.mk H
 clear H
 go_enter Try.func26, Try.ntmps26
 go_upto_region 2 with (first | ((with_reducible refine gate_callee (f := 90) rfl ?_); refine goesL9 (some 12) rfl rfl Try.func90 (by kernel_rfl) rfl #[] rfl ?_; (with_reducible refine (cupolalaw06_shown.calls k  t101 _ A4.out).mono ?_); rintro e w6 ⟨rfl, hb⟩; refine ⟨_, rfl, ?_⟩; have n0_ := Aside0.mk (below_step (bp9 HB.out) hb); clear HB; have HB := n0_; clear n0_; (try clear hb); (try clear hb2); (try clear hk); (try clear hi)))
 (try simp only [Act.put, List.setIfInBounds_toArray, List.set_cons_zero, List.set_cons_succ])
 go_cut [20] (fun v20 wc => ∃ (kq : Nat) (x20_4 : Bool), v20 = .bool x20_4 ∧ Aside0 (cupolalaw06_OrderTells.j0 kq l0 l1 a2 t101 x20_4 = some r) ∧ Aside0 (kq ≤ k) ∧ Aside0 (Below w.heap.size w wc))
 case first =>
  have H := HC5.out
  clear HC5
  by_cases c7 : (l0.length : Int) > 50
  ·rw [if_pos c7] at H
   have c7b0 : decide (50 < (l0.length : Int)) = true := decide_eq_true c7
   have c7b1 : decide (50 < l0.length) = true := decide_eq_true (by omega)
   clear c7
   (first | rw [c7b0] | (simp only [i64_w, i32_w]; rw [c7b0]) | skip)
   have H' := Aside0.mk H
   clear H
   go_wp2
   go_meet
   case rel => exact ⟨_, (true), (by first | rfl | (simp; done) | (simp [*]; done)), H', ⟨by first | omega | exact Nat.le_refl _⟩, ⟨bp9 HB.out⟩⟩
  ·rw [if_neg c7] at H
   have c7b0 : decide (50 < (l0.length : Int)) = false := decide_eq_false c7
   have c7b1 : decide (50 < l0.length) = false := decide_eq_false (by omega)
   clear c7
   (first | rw [c7b0] | (simp only [i64_w, i32_w]; rw [c7b0]) | skip)
   have H' := Aside0.mk H
   clear H
   go_wp2
   go_meet
   case rel => exact ⟨_, (decide ((l1.length : Int) > 50)), (by first | rfl | (simp; done) | (simp [*]; done)), H', ⟨by first | omega | exact Nat.le_refl _⟩, ⟨bp9 HB.out⟩⟩
 case rest =>
  clear HC5
  try clear c1
  try clear c2
  try clear p2
  try clear c7
  try clear c7b0
  try clear c7b1
  obtain ⟨kq, x20_4, rfl, HA, HJ4, HB⟩ := hcut
  cases kq with
  | zero => exact absurd HA.out (by simp [cupolalaw06_OrderTells.j0])
  | succ kj4 =>
   have H := HA.out
   clear HA
   simp only [cupolalaw06_OrderTells.j0] at H
   by_cases c8 : x20_4 = true
   ·subst c8
    rw [if_pos rfl] at H
    obtain rfl := Option.some.inj H
    go_wp2
    go_ret
    exact ⟨by first | rfl | (simp [errW_none, errW_some] <;> rfl) | (simp [*, errW_none, errW_some] <;> rfl), bp9 HB.out⟩
   ·replace c8 := Bool.eq_false_iff.mpr c8
    subst c8
    rw [if_neg (show ¬ (false = true) by decide)] at H
    replace H := Option.bind_eq_some_iff.mp H
    obtain ⟨⟨t102, t103⟩, A90, H⟩ := H
    replace H : ((cupolaref06_First.f kj4 l1).bind fun bt106 => (if t101 = true then ((order_All.f kj4 l0).bind fun t110 => ((cupolaref06_All.f kj4 l0).bind fun t113 => ((cupolaref06_Lists.f kj4 t110 t113).bind fun t116 => (if t116 = true then ((cupolaref01_Ints.f kj4 t102 bt106.1).bind fun t117 => (if t117 = true then (if (t103 == bt106.2) = true then ((order_Linear.f kj4 l1).bind fun t118 => ((cupolaref06_Linear.f kj4 l1).bind fun t121 => ((cupolaref06_Lists.f kj4 t118 t121).bind fun t124 => (if t124 = true then ((order_Fits.f kj4 l0 l1).bind fun t125 => ((cupolaref06_Fits.f kj4 l0 l1).bind fun t126 => (if (t125 == t126) = true then ((order_Of.f kj4 a2 l0).bind fun t127 => ((cupolaref06_Of.f kj4 a2 l0).bind fun t130 => ((cupolaref05_Same.f kj4 t127 t130).bind fun t133 => (some t133)))) else (some false)))) else (some false))))) else (some false)) else (some false))) else (some false))))) else (some false))) = some r := H
    have A9 := Aside0.mk A90
    clear A90
    replace H := Option.bind_eq_some_iff.mp H
    obtain ⟨⟨t106, t107⟩, A100, H⟩ := H
    replace H : (if t101 = true then ((order_All.f kj4 l0).bind fun t110 => ((cupolaref06_All.f kj4 l0).bind fun t113 => ((cupolaref06_Lists.f kj4 t110 t113).bind fun t116 => (if t116 = true then ((cupolaref01_Ints.f kj4 t102 t106).bind fun t117 => (if t117 = true then (if (t103 == t107) = true then ((order_Linear.f kj4 l1).bind fun t118 => ((cupolaref06_Linear.f kj4 l1).bind fun t121 => ((cupolaref06_Lists.f kj4 t118 t121).bind fun t124 => (if t124 = true then ((order_Fits.f kj4 l0 l1).bind fun t125 => ((cupolaref06_Fits.f kj4 l0 l1).bind fun t126 => (if (t125 == t126) = true then ((order_Of.f kj4 a2 l0).bind fun t127 => ((cupolaref06_Of.f kj4 a2 l0).bind fun t130 => ((cupolaref05_Same.f kj4 t127 t130).bind fun t133 => (some t133)))) else (some false)))) else (some false))))) else (some false)) else (some false))) else (some false))))) else (some false)) = some r := H
    have A10 := Aside0.mk A100
    clear A100
    by_cases c11 : t101 = true
    ·subst c11
     rw [if_pos rfl] at H
     replace H := Option.bind_eq_some_iff.mp H
     obtain ⟨t110, A120, H⟩ := H
     have A12 := Aside0.mk A120
     clear A120
     replace H := Option.bind_eq_some_iff.mp H
     obtain ⟨t113, A130, H⟩ := H
     have A13 := Aside0.mk A130
     clear A130
     replace H := Option.bind_eq_some_iff.mp H
     obtain ⟨t116, A140, H⟩ := H
     have A14 := Aside0.mk A140
     clear A140
     by_cases c15 : t116 = true
     ·subst c15
      rw [if_pos rfl] at H
      replace H := Option.bind_eq_some_iff.mp H
      obtain ⟨t117, A160, H⟩ := H
      have A16 := Aside0.mk A160
      clear A160
      by_cases c17 : t117 = true
      ·subst c17
       rw [if_pos rfl] at H
       by_cases c18 : (t103 == t107) = true
       ·rw [if_pos c18] at H
        have c18b0 : (t103 == t107) = true := c18
        (try (have c18b1 : decide (t103 = t107) = true := by simpa using c18))
        (try (have c18b2 : (t103 == t107) = true := by simpa using c18))
        clear c18
        replace H := Option.bind_eq_some_iff.mp H
        obtain ⟨t118, A190, H⟩ := H
        have A19 := Aside0.mk A190
        clear A190
        replace H := Option.bind_eq_some_iff.mp H
        obtain ⟨t121, A200, H⟩ := H
        have A20 := Aside0.mk A200
        clear A200
        replace H := Option.bind_eq_some_iff.mp H
        obtain ⟨t124, A210, H⟩ := H
        have A21 := Aside0.mk A210
        clear A210
        by_cases c22 : t124 = true
        ·subst c22
         rw [if_pos rfl] at H
         replace H := Option.bind_eq_some_iff.mp H
         obtain ⟨t125, A230, H⟩ := H
         have A23 := Aside0.mk A230
         clear A230
         replace H := Option.bind_eq_some_iff.mp H
         obtain ⟨t126, A240, H⟩ := H
         have A24 := Aside0.mk A240
         clear A240
         by_cases c25 : (t125 == t126) = true
         ·rw [if_pos c25] at H
          have c25b0 : (t125 == t126) = true := c25
          (try (have c25b1 : decide (t125 = t126) = true := by simpa using c25))
          (try (have c25b2 : (t125 == t126) = true := by simpa using c25))
          clear c25
          replace H := Option.bind_eq_some_iff.mp H
          obtain ⟨t127, A260, H⟩ := H
          have A26 := Aside0.mk A260
          clear A260
          replace H := Option.bind_eq_some_iff.mp H
          obtain ⟨t130, A270, H⟩ := H
          have A27 := Aside0.mk A270
          clear A270
          replace H := Option.bind_eq_some_iff.mp H
          obtain ⟨t133, A280, H⟩ := H
          have A28 := Aside0.mk A280
          clear A280
          obtain rfl := Option.some.inj H
          go_wp2_with (first | ((with_reducible refine gate_callee (f := 101) rfl ?_); refine goesL9 (some 24) rfl rfl Try.func101 (by kernel_rfl) rfl #[.slice A1 l1.length c1] rfl ?_; (with_reducible refine (order_First.calls kj4 _ _ l1 t102 t103 _ ?side1 ?side2 A9.out).mono ?_); (case side1 => exact cp9 HR1.out HB.out); (case side2 => exact HC1.out); rintro e w29 ⟨v104, rfl, ho0, hb⟩; refine ⟨_, rfl, ?_⟩; have n0_ := Aside0.mk (Kd.R_lower ho0 (below_size (bp9 HB.out))); have n1_ := Aside0.mk (below_step (bp9 HB.out) hb); clear HB; have HO105 := n0_; have HB := n1_; clear n0_ n1_; (try clear hb); (try clear hb2); (try clear hk); (try clear hi); (try clear ho0)) | ((with_reducible refine gate_callee (f := 102) rfl ?_); refine goesL9 (some 29) rfl rfl Try.func102 (by kernel_rfl) rfl #[.slice A1 l1.length c1] rfl ?_; (with_reducible refine (cupolaref06_First.calls kj4 _ _ l1 t106 t107 _ ?side1 ?side2 A10.out).mono ?_); (case side1 => exact cp9 HR1.out HB.out); (case side2 => exact HC1.out); rintro e w30 ⟨v108, rfl, ho0, hb⟩; refine ⟨_, rfl, ?_⟩; have n0_ := Aside0.mk (Kd.R_elder' (rp9 HO105.out) (Kd.R_base ho0) hb); have n1_ := Aside0.mk (Kd.R_lower (Kd.R_new' ho0 (Kd.R_lt (rp9 HO105.out))) (below_size (bp9 HB.out))); have n2_ := Aside0.mk (below_step (bp9 HB.out) hb); clear HO105; clear HB; have HO105 := n0_; have HO109 := n1_; have HB := n2_; clear n0_ n1_ n2_; (try clear hb); (try clear hb2); (try clear hk); (try clear hi); (try clear ho0)) | (go_at_call 99; (with_reducible refine (order_All.calls kj4 _ _ l0 t110 _ ?side1 ?side2 A12.out).mono ?_); (case side1 => exact cp9 HR0.out HB.out); (case side2 => exact HC0.out); rintro e w31 ⟨v111, rfl, ho0, hb⟩; have n0_ := Aside0.mk (Kd.R_below (rp9 HO105.out) hb); have n1_ := Aside0.mk (Kd.R_below (rp9 HO109.out) hb); have n2_ := Aside0.mk (Kd.N_lower (Kd.N_mono (ok' := fun k_ => some k_ ≠ (v104 : Value).ownBlock ∧ some k_ ≠ (v108 : Value).ownBlock) ho0 (fun k_ hk_ => ⟨(Kd.fresh' (Kd.R_lt (rp9 HO105.out)) k_ hk_), (Kd.fresh' (Kd.R_lt (rp9 HO109.out)) k_ hk_)⟩)) (below_size (bp9 HB.out))); have n3_ := Aside0.mk (below_step (bp9 HB.out) hb); clear HO105; clear HO109; clear HB; have HO105 := n0_; have HO109 := n1_; have HO112 := n2_; have HB := n3_; clear n0_ n1_ n2_ n3_; (try clear hb); (try clear hb2); (try clear hk); (try clear hi); (try clear ho0)) | (go_at_call 103; (with_reducible refine (cupolaref06_All.calls kj4 _ _ l0 t113 _ ?side1 ?side2 A13.out).mono ?_); (case side1 => exact cp9 HR0.out HB.out); (case side2 => exact HC0.out); rintro e w32 ⟨v114, rfl, ho0, hb⟩; have n0_ := Aside0.mk (Kd.R_below (rp9 HO105.out) hb); have n1_ := Aside0.mk (Kd.R_below (rp9 HO109.out) hb); have n2_ := Aside0.mk (Kd.N_elder' (by (with_reducible repeat (first | apply Kd.N_alloc | apply Kd.N_drewN | apply Kd.N_drew)); exact HO112.out) (by first | exact Kd.N_base ho0 | exact Kd.S_base ho0) hb); have n3_ := Aside0.mk (Kd.N_lower (Kd.N_mono (ok' := fun k_ => some k_ ≠ (v104 : Value).ownBlock ∧ some k_ ≠ (v108 : Value).ownBlock ∧ some k_ ≠ (v111 : Value).ownBlock) (Kd.S_N (Kd.S_bound ho0)) (fun k_ hk_ => ⟨(Kd.fresh' (Kd.R_lt (rp9 HO105.out)) k_ hk_.2.1), (Kd.fresh' (Kd.R_lt (rp9 HO109.out)) k_ hk_.2.1), (Kd.fresh' (Kd.N_lt (by (with_reducible repeat (first | apply Kd.N_alloc | apply Kd.N_drewN | apply Kd.N_drew)); exact HO112.out)) k_ hk_.2.1)⟩)) (below_size (bp9 HB.out))); have n4_ := Aside0.mk (below_step (bp9 HB.out) hb); clear HO105; clear HO109; clear HO112; clear HB; have HO105 := n0_; have HO109 := n1_; have HO112 := n2_; have HO115 := n3_; have HB := n4_; clear n0_ n1_ n2_ n3_ n4_; (try clear hb); (try clear hb2); (try clear hk); (try clear hi); (try clear ho0); obtain ⟨Ao33, co33, eo33⟩ := Kd.N_slice HO112.out; subst eo33; obtain ⟨Ao34, co34, eo34⟩ := Kd.N_slice HO115.out; subst eo34) | (go_at_call 35; (with_reducible refine (cupolaref06_Lists.calls kj4 _ _ t110 _ _ t113 true _ ?side1 ?side2 ?side3 ?side4 A14.out).mono ?_); (case side1 => exact lp9 (Kd.N_reads' HO112.out).2.2); (case side2 => exact (Kd.N_reads' HO112.out).2.1); (case side3 => exact lp9 (Kd.N_reads' HO115.out).2.2); (case side4 => exact (Kd.N_reads' HO115.out).2.1); rintro e w' ⟨rfl, ⟨nd, rfl⟩⟩; obtain ⟨Ao35, co35, eo35⟩ := Kd.R_slice HO105.out; subst eo35; obtain ⟨Ao36, co36, eo36⟩ := Kd.R_slice HO109.out; subst eo36) | (go_at_call 34; (with_reducible refine (cupolaref01_Ints.calls kj4 _ _ t102 _ _ t106 true _ ?side1 ?side2 ?side3 ?side4 A16.out).mono ?_); (case side1 => exact lp9 (Kd.R_reads' HO105.out).2.2); (case side2 => exact (Kd.R_reads' HO105.out).2.1); (case side3 => exact lp9 (Kd.R_reads' HO109.out).2.2); (case side4 => exact (Kd.R_reads' HO109.out).2.1); rintro e w' ⟨rfl, ⟨nd, rfl⟩⟩) | (go_at_call 91; (with_reducible refine (order_Linear.calls kj4 _ _ l1 t118 _ ?side1 ?side2 A19.out).mono ?_); (case side1 => repeat (first | exact (Kd.C_below HR1.out (bp9 HB.out)) | (with_reducible refine Kd.C_alloc ?_ _) | (with_reducible refine Kd.C_drewN ?_ _) | (with_reducible refine Kd.C_drew ?_))); (case side2 => exact HC1.out); rintro e w37 ⟨v119, rfl, ho0, hb⟩; have n0_ := Aside0.mk (Kd.R_below (rp9 HO105.out) hb); have n1_ := Aside0.mk (Kd.R_below (rp9 HO109.out) hb); have n2_ := Aside0.mk (Kd.N_elder' (by (with_reducible repeat (first | apply Kd.N_alloc | apply Kd.N_drewN | apply Kd.N_drew)); exact HO112.out) (by first | exact Kd.N_base ho0 | exact Kd.S_base ho0) hb); have n3_ := Aside0.mk (Kd.N_elder' (by (with_reducible repeat (first | apply Kd.N_alloc | apply Kd.N_drewN | apply Kd.N_drew)); exact HO115.out) (by first | exact Kd.N_base ho0 | exact Kd.S_base ho0) hb); have n4_ := Aside0.mk (Kd.N_lower (Kd.N_mono (ok' := fun k_ => some k_ ≠ (.slice Ao35 t102.length co35 : Value).ownBlock ∧ some k_ ≠ (.slice Ao36 t106.length co36 : Value).ownBlock ∧ some k_ ≠ (.slice Ao33 t110.length co33 : Value).ownBlock ∧ some k_ ≠ (.slice Ao34 t113.length co34 : Value).ownBlock) (Kd.S_N (Kd.S_bound ho0)) (fun k_ hk_ => ⟨(Kd.fresh' (Kd.R_lt (rp9 HO105.out)) k_ hk_.2.1), (Kd.fresh' (Kd.R_lt (rp9 HO109.out)) k_ hk_.2.1), (Kd.fresh' (Kd.N_lt (by (with_reducible repeat (first | apply Kd.N_alloc | apply Kd.N_drewN | apply Kd.N_drew)); exact HO112.out)) k_ hk_.2.1), (Kd.fresh' (Kd.N_lt (by (with_reducible repeat (first | apply Kd.N_alloc | apply Kd.N_drewN | apply Kd.N_drew)); exact HO115.out)) k_ hk_.2.1)⟩)) (below_size (bp9 HB.out))); have n5_ := Aside0.mk (below_step (bp9 HB.out) hb); clear HO105; clear HO109; clear HO112; clear HO115; clear HB; have HO105 := n0_; have HO109 := n1_; have HO112 := n2_; have HO115 := n3_; have HO120 := n4_; have HB := n5_; clear n0_ n1_ n2_ n3_ n4_ n5_; (try clear hb); (try clear hb2); (try clear hk); (try clear hi); (try clear ho0)) | (go_at_call 104; (with_reducible refine (cupolaref06_Linear.calls kj4 _ _ l1 t121 _ ?side1 ?side2 A20.out).mono ?_); (case side1 => exact cp9 HR1.out HB.out); (case side2 => exact HC1.out); rintro e w38 ⟨v122, rfl, ho0, hb⟩; have n0_ := Aside0.mk (Kd.R_below (rp9 HO105.out) hb); have n1_ := Aside0.mk (Kd.R_below (rp9 HO109.out) hb); have n2_ := Aside0.mk (Kd.N_elder' (by (with_reducible repeat (first | apply Kd.N_alloc | apply Kd.N_drewN | apply Kd.N_drew)); exact HO112.out) (by first | exact Kd.N_base ho0 | exact Kd.S_base ho0) hb); have n3_ := Aside0.mk (Kd.N_elder' (by (with_reducible repeat (first | apply Kd.N_alloc | apply Kd.N_drewN | apply Kd.N_drew)); exact HO115.out) (by first | exact Kd.N_base ho0 | exact Kd.S_base ho0) hb); have n4_ := Aside0.mk (Kd.N_elder' (by (with_reducible repeat (first | apply Kd.N_alloc | apply Kd.N_drewN | apply Kd.N_drew)); exact HO120.out) (by first | exact Kd.N_base ho0 | exact Kd.S_base ho0) hb); have n5_ := Aside0.mk (Kd.N_lower (Kd.N_mono (ok' := fun k_ => some k_ ≠ (.slice Ao35 t102.length co35 : Value).ownBlock ∧ some k_ ≠ (.slice Ao36 t106.length co36 : Value).ownBlock ∧ some k_ ≠ (.slice Ao33 t110.length co33 : Value).ownBlock ∧ some k_ ≠ (.slice Ao34 t113.length co34 : Value).ownBlock ∧ some k_ ≠ (v119 : Value).ownBlock) ho0 (fun k_ hk_ => ⟨(Kd.fresh' (Kd.R_lt (rp9 HO105.out)) k_ hk_), (Kd.fresh' (Kd.R_lt (rp9 HO109.out)) k_ hk_), (Kd.fresh' (Kd.N_lt (by (with_reducible repeat (first | apply Kd.N_alloc | apply Kd.N_drewN | apply Kd.N_drew)); exact HO112.out)) k_ hk_), (Kd.fresh' (Kd.N_lt (by (with_reducible repeat (first | apply Kd.N_alloc | apply Kd.N_drewN | apply Kd.N_drew)); exact HO115.out)) k_ hk_), (Kd.fresh' (Kd.N_lt (by (with_reducible repeat (first | apply Kd.N_alloc | apply Kd.N_drewN | apply Kd.N_drew)); exact HO120.out)) k_ hk_)⟩)) (below_size (bp9 HB.out))); have n6_ := Aside0.mk (below_step (bp9 HB.out) hb); clear HO105; clear HO109; clear HO112; clear HO115; clear HO120; clear HB; have HO105 := n0_; have HO109 := n1_; have HO112 := n2_; have HO115 := n3_; have HO120 := n4_; have HO123 := n5_; have HB := n6_; clear n0_ n1_ n2_ n3_ n4_ n5_ n6_; (try clear hb); (try clear hb2); (try clear hk); (try clear hi); (try clear ho0); obtain ⟨Ao39, co39, eo39⟩ := Kd.N_slice HO120.out; subst eo39; obtain ⟨Ao40, co40, eo40⟩ := Kd.N_slice HO123.out; subst eo40) | (go_at_call 35; (with_reducible refine (cupolaref06_Lists.calls kj4 _ _ t118 _ _ t121 true _ ?side1 ?side2 ?side3 ?side4 A21.out).mono ?_); (case side1 => exact lp9 (Kd.N_reads' HO120.out).2.2); (case side2 => exact (Kd.N_reads' HO120.out).2.1); (case side3 => exact lp9 (Kd.N_reads' HO123.out).2.2); (case side4 => exact (Kd.N_reads' HO123.out).2.1); rintro e w' ⟨rfl, ⟨nd, rfl⟩⟩) | (go_at_call 92; (with_reducible refine (order_Fits.calls kj4 _ _ l0 _ _ l1 t125 _ ?side1 ?side2 ?side3 ?side4 A23.out).mono ?_); (case side1 => repeat (first | exact (Kd.C_below HR0.out (bp9 HB.out)) | (with_reducible refine Kd.C_alloc ?_ _) | (with_reducible refine Kd.C_drewN ?_ _) | (with_reducible refine Kd.C_drew ?_))); (case side2 => exact HC0.out); (case side3 => repeat (first | exact (Kd.C_below HR1.out (bp9 HB.out)) | (with_reducible refine Kd.C_alloc ?_ _) | (with_reducible refine Kd.C_drewN ?_ _) | (with_reducible refine Kd.C_drew ?_))); (case side4 => exact HC1.out); rintro e w41 ⟨rfl, hb⟩; have n0_ := Aside0.mk (Kd.R_below (rp9 HO105.out) hb); have n1_ := Aside0.mk (Kd.R_below (rp9 HO109.out) hb); have n2_ := Aside0.mk (Kd.N_below (by (with_reducible repeat (first | apply Kd.N_alloc | apply Kd.N_drewN | apply Kd.N_drew)); exact HO112.out) hb); have n3_ := Aside0.mk (Kd.N_below (by (with_reducible repeat (first | apply Kd.N_alloc | apply Kd.N_drewN | apply Kd.N_drew)); exact HO115.out) hb); have n4_ := Aside0.mk (Kd.N_below (by (with_reducible repeat (first | apply Kd.N_alloc | apply Kd.N_drewN | apply Kd.N_drew)); exact HO120.out) hb); have n5_ := Aside0.mk (Kd.N_below (by (with_reducible repeat (first | apply Kd.N_alloc | apply Kd.N_drewN | apply Kd.N_drew)); exact HO123.out) hb); have n6_ := Aside0.mk (below_step (bp9 HB.out) hb); clear HO105; clear HO109; clear HO112; clear HO115; clear HO120; clear HO123; clear HB; have HO105 := n0_; have HO109 := n1_; have HO112 := n2_; have HO115 := n3_; have HO120 := n4_; have HO123 := n5_; have HB := n6_; clear n0_ n1_ n2_ n3_ n4_ n5_ n6_; (try clear hb); (try clear hb2); (try clear hk); (try clear hi)) | (go_at_call 105; (with_reducible refine (cupolaref06_Fits.calls kj4 _ _ l0 _ _ l1 t126 _ ?side1 ?side2 ?side3 ?side4 A24.out).mono ?_); (case side1 => exact cp9 HR0.out HB.out); (case side2 => exact HC0.out); (case side3 => exact cp9 HR1.out HB.out); (case side4 => exact HC1.out); rintro e w' ⟨rfl, ⟨nd, rfl⟩⟩) | (go_at_call 106; (with_reducible refine (order_Of.calls kj4 a2 _ _ l0 t127 _ ?side1 ?side2 A26.out).mono ?_); (case side1 => repeat (first | exact (Kd.C_below HR0.out (bp9 HB.out)) | (with_reducible refine Kd.C_alloc ?_ _) | (with_reducible refine Kd.C_drewN ?_ _) | (with_reducible refine Kd.C_drew ?_))); (case side2 => exact HC0.out); rintro e w42 ⟨v128, rfl, ho0, hb⟩; have n0_ := Aside0.mk (Kd.R_below (rp9 HO105.out) hb); have n1_ := Aside0.mk (Kd.R_below (rp9 HO109.out) hb); have n2_ := Aside0.mk (Kd.N_elder' (by (with_reducible repeat (first | apply Kd.N_alloc | apply Kd.N_drewN | apply Kd.N_drew)); exact HO112.out) (Kd.R_base ho0) hb); have n3_ := Aside0.mk (Kd.N_elder' (by (with_reducible repeat (first | apply Kd.N_alloc | apply Kd.N_drewN | apply Kd.N_drew)); exact HO115.out) (Kd.R_base ho0) hb); have n4_ := Aside0.mk (Kd.N_elder' (by (with_reducible repeat (first | apply Kd.N_alloc | apply Kd.N_drewN | apply Kd.N_drew)); exact HO120.out) (Kd.R_base ho0) hb); have n5_ := Aside0.mk (Kd.N_elder' (by (with_reducible repeat (first | apply Kd.N_alloc | apply Kd.N_drewN | apply Kd.N_drew)); exact HO123.out) (Kd.R_base ho0) hb); have n6_ := Aside0.mk (Kd.R_lower ho0 (below_size (bp9 HB.out))); have n7_ := Aside0.mk (below_step (bp9 HB.out) hb); clear HO105; clear HO109; clear HO112; clear HO115; clear HO120; clear HO123; clear HB; have HO105 := n0_; have HO109 := n1_; have HO112 := n2_; have HO115 := n3_; have HO120 := n4_; have HO123 := n5_; have HO129 := n6_; have HB := n7_; clear n0_ n1_ n2_ n3_ n4_ n5_ n6_ n7_; (try clear hb); (try clear hb2); (try clear hk); (try clear hi); (try clear ho0)) | (go_at_call 107; (with_reducible refine (cupolaref06_Of.calls kj4 a2 _ _ l0 t130 _ ?side1 ?side2 A27.out).mono ?_); (case side1 => exact cp9 HR0.out HB.out); (case side2 => exact HC0.out); rintro e w43 ⟨v131, rfl, ho0, hb⟩; have n0_ := Aside0.mk (Kd.R_below (rp9 HO105.out) hb); have n1_ := Aside0.mk (Kd.R_below (rp9 HO109.out) hb); have n2_ := Aside0.mk (Kd.N_elder' (by (with_reducible repeat (first | apply Kd.N_alloc | apply Kd.N_drewN | apply Kd.N_drew)); exact HO112.out) (Kd.R_base ho0) hb); have n3_ := Aside0.mk (Kd.N_elder' (by (with_reducible repeat (first | apply Kd.N_alloc | apply Kd.N_drewN | apply Kd.N_drew)); exact HO115.out) (Kd.R_base ho0) hb); have n4_ := Aside0.mk (Kd.N_elder' (by (with_reducible repeat (first | apply Kd.N_alloc | apply Kd.N_drewN | apply Kd.N_drew)); exact HO120.out) (Kd.R_base ho0) hb); have n5_ := Aside0.mk (Kd.N_elder' (by (with_reducible repeat (first | apply Kd.N_alloc | apply Kd.N_drewN | apply Kd.N_drew)); exact HO123.out) (Kd.R_base ho0) hb); have n6_ := Aside0.mk (Kd.R_elder' (rp9 HO129.out) (Kd.R_base ho0) hb); have n7_ := Aside0.mk (Kd.R_lower (Kd.R_new' ho0 (Kd.R_lt (rp9 HO129.out))) (below_size (bp9 HB.out))); have n8_ := Aside0.mk (below_step (bp9 HB.out) hb); clear HO105; clear HO109; clear HO112; clear HO115; clear HO120; clear HO123; clear HO129; clear HB; have HO105 := n0_; have HO109 := n1_; have HO112 := n2_; have HO115 := n3_; have HO120 := n4_; have HO123 := n5_; have HO129 := n6_; have HO132 := n7_; have HB := n8_; clear n0_ n1_ n2_ n3_ n4_ n5_ n6_ n7_ n8_; (try clear hb); (try clear hb2); (try clear hk); (try clear hi); (try clear ho0); obtain ⟨Ao44, co44, eo44⟩ := Kd.R_slice HO129.out; subst eo44; obtain ⟨Ao45, co45, eo45⟩ := Kd.R_slice HO132.out; subst eo45) | (go_at_call 48; (with_reducible refine (cupolaref05_Same.calls kj4 _ _ t127 _ _ t130 t133 _ ?side1 ?side2 ?side3 ?side4 A28.out).mono ?_); (case side1 => exact lp9 (Kd.R_reads' HO129.out).2.2); (case side2 => exact (Kd.R_reads' HO129.out).2.1); (case side3 => exact lp9 (Kd.R_reads' HO132.out).2.2); (case side4 => exact (Kd.R_reads' HO132.out).2.1); rintro e w46 ⟨rfl, hb⟩; have n0_ := Aside0.mk (Kd.R_below (rp9 HO105.out) hb); have n1_ := Aside0.mk (Kd.R_below (rp9 HO109.out) hb); have n2_ := Aside0.mk (Kd.N_below (by (with_reducible repeat (first | apply Kd.N_alloc | apply Kd.N_drewN | apply Kd.N_drew)); exact HO112.out) hb); have n3_ := Aside0.mk (Kd.N_below (by (with_reducible repeat (first | apply Kd.N_alloc | apply Kd.N_drewN | apply Kd.N_drew)); exact HO115.out) hb); have n4_ := Aside0.mk (Kd.N_below (by (with_reducible repeat (first | apply Kd.N_alloc | apply Kd.N_drewN | apply Kd.N_drew)); exact HO120.out) hb); have n5_ := Aside0.mk (Kd.N_below (by (with_reducible repeat (first | apply Kd.N_alloc | apply Kd.N_drewN | apply Kd.N_drew)); exact HO123.out) hb); have n6_ := Aside0.mk (Kd.R_below (rp9 HO129.out) hb); have n7_ := Aside0.mk (Kd.R_below (rp9 HO132.out) hb); have n8_ := Aside0.mk (below_step (bp9 HB.out) hb); clear HO105; clear HO109; clear HO112; clear HO115; clear HO120; clear HO123; clear HO129; clear HO132; clear HB; have HO105 := n0_; have HO109 := n1_; have HO112 := n2_; have HO115 := n3_; have HO120 := n4_; have HO123 := n5_; have HO129 := n6_; have HO132 := n7_; have HB := n8_; clear n0_ n1_ n2_ n3_ n4_ n5_ n6_ n7_ n8_; (try clear hb); (try clear hb2); (try clear hk); (try clear hi)))
          go_ret
          exact ⟨by first | rfl | (simp [errW_none, errW_some] <;> rfl) | (simp [*, errW_none, errW_some] <;> rfl), bp9 HB.out⟩
         ·rw [if_neg c25] at H
          have c25b0 : (t125 == t126) = false := by simpa using c25
          (try (have c25b1 : decide (t125 = t126) = false := by simpa using c25))
          (try (have c25b2 : (t125 == t126) = false := by simpa using c25))
          (try (have c25b3 : ¬ (t125 = t126) := by simpa using c25))
          clear c25
          exact absurd ((Option.some.inj H).trans HT9.out) (by decide)
        ·replace c22 := Bool.eq_false_iff.mpr c22
         subst c22
         rw [if_neg (show ¬ (false = true) by decide)] at H
         exact absurd ((Option.some.inj H).trans HT9.out) (by decide)
       ·rw [if_neg c18] at H
        have c18b0 : (t103 == t107) = false := by simpa using c18
        (try (have c18b1 : decide (t103 = t107) = false := by simpa using c18))
        (try (have c18b2 : (t103 == t107) = false := by simpa using c18))
        (try (have c18b3 : ¬ (t103 = t107) := by simpa using c18))
        clear c18
        exact absurd ((Option.some.inj H).trans HT9.out) (by decide)
      ·replace c17 := Bool.eq_false_iff.mpr c17
       subst c17
       rw [if_neg (show ¬ (false = true) by decide)] at H
       exact absurd ((Option.some.inj H).trans HT9.out) (by decide)
     ·replace c15 := Bool.eq_false_iff.mpr c15
      subst c15
      rw [if_neg (show ¬ (false = true) by decide)] at H
      exact absurd ((Option.some.inj H).trans HT9.out) (by decide)
    ·replace c11 := Bool.eq_false_iff.mpr c11
     subst c11
     rw [if_neg (show ¬ (false = true) by decide)] at H
     exact absurd ((Option.some.inj H).trans HT9.out) (by decide)

/-- THE ONE PURE STATEMENT of cupolalaw06_OrderTells: yours. -/
def cupolalaw06_OrderTells.Pure : Prop := ∀ (l0 : List Int) (l1 : List Int) (a2 : Int), l0.length ≤ maxLen → l0.length * 8 ≤ 140737488351232 → (∀ x ∈ l0, (Lit.int .i64 x).wf = true) → l1.length ≤ maxLen → l1.length * 4 ≤ 140737488351232 → (∀ x ∈ l1, (Lit.int .u32 x).wf = true) → (Lit.int .i64 a2).wf = true → ∃ k, cupolalaw06_OrderTells.f k l0 l1 a2 = some true
theorem cupolalaw06_OrderTells.walk (P : cupolalaw06_OrderTells.Pure) (a0 : Option Addr) (len0 cap0 : Nat) (z0 : List Int) (a1 : Option Addr) (len1 cap1 : Nat) (z1 : List Int) (a2 : Int) (w : World) (w0 : (a0 = none ∧ len0 = 0 ∧ cap0 = 0 ∧ z0 = []) ∨ ∃ x, a0 = some x ∧ len0 ≤ cap0 ∧ cap0 ≤ maxLen ∧ z0.length = cap0 ∧ (∀ i, i < z0.length → w.cell? (x.add i) = some (.int .i64 (z0.getD i 0))) ∧ ∀ n ∈ z0, (Lit.int .i64 n).wf = true) (y0 : len0 * 8 ≤ 140737488351232) (w1 : (a1 = none ∧ len1 = 0 ∧ cap1 = 0 ∧ z1 = []) ∨ ∃ x, a1 = some x ∧ len1 ≤ cap1 ∧ cap1 ≤ maxLen ∧ z1.length = cap1 ∧ (∀ i, i < z1.length → w.cell? (x.add i) = some (.int .u32 (z1.getD i 0))) ∧ ∀ n ∈ z1, (Lit.int .u32 n).wf = true) (y1 : len1 * 4 ≤ 140737488351232) (w2 : (Lit.int .i64 a2).wf = true) :
  Calls Try.prog 26 #[.slice a0 len0 cap0, .slice a1 len1 cap1, .int .i64 a2] w fun e w' => e = .returned (.bool true) ∧ Below w.heap.size w w' := by
 obtain ⟨l0, rfl, hr0, hm0, hw0, hc0⟩ := ReadsInt.ofRowC w0
 obtain ⟨l1, rfl, hr1, hm1, hw1, hc1⟩ := ReadsInt.ofRowC w1
 obtain ⟨k, h⟩ := P l0 l1 a2 hm0 y0 hw0 hm1 y1 hw1 w2
 refine (cupolalaw06_OrderTells.calls k _ _ l0 _ _ l1 a2 true rfl w (Kd.C_of_reads (d := (0 : Int)) (h1 := fun _ => rfl) hr0) hc0 (Kd.C_of_reads (d := (0 : Int)) (h1 := fun _ => rfl) hr1) hc1 h).mono ?_
 rintro e w' ⟨rfl, hd⟩
 exact ⟨rfl, hd⟩

end Go.Proofs.Ytbamkkdikeedoaa.G
