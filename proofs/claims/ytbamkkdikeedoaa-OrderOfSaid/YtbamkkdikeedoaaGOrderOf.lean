-- Written by drive.py, a program of this seat's session, out of the translation.
import Derived.Test.YtbamkkdikeedoaaG0
import Derived.Test.YtbamkkdikeedoaaGCupolalaw06
import Derived.Test.YtbamkkdikeedoaaGCupolaref01
import Derived.Test.YtbamkkdikeedoaaGOrder
import Derived.Test.YtbamkkdikeedoaaGRel
import Derived.Test.YtbamkkdikeedoaaHandOrder
import Derived.Test.YtbamkkdikeedoaaHandCz
namespace Go.Proofs.Ytbamkkdikeedoaa.G
open Go.RowKit Go.Proofs.YtbamkkdikeedoaaW.PrintWords Go.Proofs.YtbamkkdikeedoaaW.PrintLast Go.Proofs.YtbamkkdikeedoaaW.PrintMore
attribute [local go_sem] max2_int min2_int max_two min_two max_three min_three max_four min_four   -- for this text's walks alone
set_option linter.unusedVariables false
set_option linter.unusedSimpArgs false

/-! ### cupolalaw06_OrderOf: function 29 -/
def cupolalaw06_OrderOf.l0 : Nat → Int → Int → Bool → Int → List Int → Int → Option (Bool)
 | 0, _, _, _, _, _, _ => none
 | k + 1, x1, x2, x7, x8, x9, x10 => if x10 < x8 then (if x9.length < 17592186044416 then (cupolalaw06_OrderOf.l0 k x1 x2 x7 x8 (x9 ++ [x10]) (wrap64 (x10 + 1))) else (none)) else ((order_All.f k x9).bind fun t105 => (if (t105.length : Int) = 0 then (some false) else (if 0 ≤ (Int.tmod (wrap64 (x1)) (t105.length : Int)) then (if (Int.tmod (wrap64 (x1)) (t105.length : Int)) < (t105.length : Int) then ((order_Of.f k x8 (rd_L4 t105 (Int.tmod (wrap64 (x1)) (t105.length : Int)))).bind fun t109 => ((order_Linear.f k t109).bind fun t112 => (if x7 = true then ((rel_Acyclic.f k t109).bind fun t115 => (if t115 = true then (if (t112.length : Int) = 1 then (if 0 < (t112.length : Int) then ((cupolaref01_Ints.f k (rd_L4 t112 0) (rd_L4 t105 (Int.tmod (wrap64 (x1)) (t105.length : Int)))).bind fun t117 => (if t117 = true then ((rel_Only.f k t109 x2 x2).bind fun t118 => ((order_Fits.f k (rd_L4 t105 (Int.tmod (wrap64 (x1)) (t105.length : Int))) t118).bind fun t121 => (if t121 = true then ((rel_Pairs.f k t109).bind fun t122 => (some ((t122.length : Int) == (wrap64 (Int.tdiv (wrap64 (x8 * (mx (wrap64 (x8 - 1)) 0))) 2))))) else (some false)))) else (some false))) else (none)) else (some false)) else (some false))) else (some false)))) else (none)) else (none))))
def cupolalaw06_OrderOf.f (k : Nat) (a0 : Int) (a1 : Int) (a2 : Int) : Option (Bool) := (cupolalaw06_shown.f k).bind fun t101 => (cupolalaw06_OrderOf.l0 k a1 a2 t101 (wrap64 (Int.tmod a0 7)) ([] : List Int) 0)
set_option maxHeartbeats 8000000 in
set_option maxRecDepth 100000 in
theorem cupolalaw06_OrderOf.calls (k : Nat) (a0 : Int) (a1 : Int) (a2 : Int) (r : Bool) (hT : r = true) (w : World) (h : cupolalaw06_OrderOf.f k a0 a1 a2 = some r) :
  Calls Try.prog 29 #[.int .u8 a0, .int .u16 a1, .int .u32 a2] w fun e w' => e = .returned (.bool r) ∧ Below w.heap.size w w' := by
 have HT9 := Aside0.mk hT
 clear hT
 have HB := Aside0.mk (Below.refl w.heap.size w)
 have H : ((cupolalaw06_shown.f k).bind fun t101 => (cupolalaw06_OrderOf.l0 k a1 a2 t101 (wrap64 (Int.tmod a0 7)) ([] : List Int) 0)) = some r := h
 clear h
 replace H := Option.bind_eq_some_iff.mp H
 obtain ⟨t101, A40, H⟩ := H
 have A4 := Aside0.mk A40
 clear A40
 have H' := Aside0.mk H
 clear H
 go_enter Try.func29, Try.ntmps29
 go_wp2_with (first | ((with_reducible refine gate_callee (f := 90) rfl ?_); refine goesL9 (some 15) rfl rfl Try.func90 (by kernel_rfl) rfl #[] rfl ?_; (with_reducible refine (cupolalaw06_shown.calls k  t101 _ A4.out).mono ?_); rintro e w5 ⟨rfl, hb⟩; refine ⟨_, rfl, ?_⟩; have n0_ := Aside0.mk (below_step (bp9 HB.out) hb); clear HB; have HB := n0_; clear n0_; (try clear hb); (try clear hb2); (try clear hk); (try clear hi)))
 go_loopg [9, 10] k (fun kq v9 v10 w' => ∃ (x9_1 : List Int) (x10_1 : Int), v10 = .int .i64 x10_1 ∧ Aside0 (cupolalaw06_OrderOf.l0 kq a1 a2 t101 (wrap64 (Int.tmod a0 7)) x9_1 x10_1 = some r) ∧ Aside0 (kq ≤ k) ∧ Aside0 (Kd.R (Kd.int .i64) 3 w' w.heap.size (fun _ => True) v9 x9_1) ∧ Aside0 (Below w.heap.size w w'))
 case atStart => exact ⟨(([] : List Int)), (0), (by first | rfl | (simp; done) | (simp [*]; done)), H', ⟨Nat.le_refl _⟩, ⟨by first | exact Kd.R_nil _ _ _ _ _ | exact Kd.N_nil _ _ _ _ _ | exact Kd.V_nil _ _ _ _ _ | exact Kd.Q_nil _ _ _ _ _ | exact Kd.S_nil _ _ _ _ _⟩, ⟨bp9 HB.out⟩⟩
 case round =>
  clear H'
  try clear c2
  try clear p2
  obtain ⟨x9_1, x10_1, rfl, HA, HK1, HO_9, HB⟩ := hrel
  cases gk with
  | zero => exact absurd HA.out (by simp [cupolalaw06_OrderOf.l0])
  | succ k1 =>
   have H := HA.out
   clear HA
   simp only [cupolalaw06_OrderOf.l0] at H
   by_cases c6 : x10_1 < (wrap64 (Int.tmod a0 7))
   ·rw [if_pos c6] at H
    have c6b0 : decide (x10_1 < (wrap64 (Int.tmod a0 7))) = true := decide_eq_true c6
    clear c6
    by_cases c7 : x9_1.length < 17592186044416
    ·rw [if_pos c7] at H
     have LMc7 := Aside0.mk c7
     clear c7
     obtain ⟨y102, hy102⟩ : ∃ y_ : List Int, y_ = (x9_1 ++ [x10_1]) := ⟨_, rfl⟩
     replace H : (cupolalaw06_OrderOf.l0 k1 a1 a2 t101 (wrap64 (Int.tmod a0 7)) y102 (wrap64 (x10_1 + 1))) = some r := by first | (rw [hy102]; with_reducible exact H) | (have H2_ := (Option.bind_some _ _).symm.trans H; rw [hy102]; with_reducible exact H2_) | (have H2_ := (Option.bind_some _ _).symm.trans H; with_reducible exact H2_) | with_reducible exact H | (rw [hy102]; exact H) | exact H
     have Ny102 := Aside0.mk hy102
     clear hy102
     have H' := Aside0.mk H
     clear H
     go_wp2_with (first | ((with_reducible refine gate_builtin (b := .append) (xs := #[.tmp 24, .tmp 26]) rfl ?_); (try (refine gate_guard (by rfl) ?_; dsimp only)); at_builtin; refine Kd.R_append (Kd.int .i64) (w0 := w) w.heap.size rfl (.tmp 24) (.tmp 26) 33 3 (.int .i64 0) 8 rfl Try.underlying33 info3 rfl (by decide) (by omega) u9 x9_1 x10_1 [.int .i64 x10_1] (fun _ => True) (fun _ => False) rfl rfl ?aP (fun _ hk => hk.elim) ?aF ?aO ?aB ?aS ?aL ?_; (case aP => exact rfl); (case aB => exact (bp9 HB.out)); (case aF => exact (fun _ _ => trivial)); (case aO => exact (rp9 HO_9.out)); (case aS => exact (below_size (bp9 HB.out))); (case aL => have := LMc7.out; omega); intro v103 w8 ho hb hg hat; rw [← Ny102.out] at ho; have n0_ := Aside0.mk (hb); have n1_ := Aside0.mk (ho); clear HB; clear HO_9; have HB := n0_; have HO104 := n1_; clear n0_ n1_; clear ho hb hg hat))
     go_roundg k1
     case measure => have := HK1.out; omega
     case rel => exact ⟨(y102), (wrap64 (x10_1 + 1)), (by first | rfl | (simp; done) | (simp [*]; done)), H', ⟨by have := HK1.out; omega⟩, ⟨rp9 HO104.out⟩, ⟨bp9 HB.out⟩⟩
    ·rw [if_neg c7] at H
     exact absurd H (by simp)
   ·rw [if_neg c6] at H
    have c6b0 : decide (x10_1 < (wrap64 (Int.tmod a0 7))) = false := decide_eq_false c6
    clear c6
    replace H := Option.bind_eq_some_iff.mp H
    obtain ⟨t105, A90, H⟩ := H
    have A9 := Aside0.mk A90
    clear A90
    by_cases c10 : (t105.length : Int) = 0
    ·rw [if_pos c10] at H
     have c10b0 : ((t105.length : Int) == 0) = true := beq_iff_eq.mpr c10
     have c10b1 : ((t105.length : Int) != 0) = false := bne_eq_false_iff_eq.mpr c10
     clear c10
     exact absurd ((Option.some.inj H).trans HT9.out) (by decide)
    ·rw [if_neg c10] at H
     have c10b0 : ((t105.length : Int) == 0) = false := beq_eq_false_iff_ne.mpr c10
     have c10b1 : ((t105.length : Int) != 0) = true := bne_iff_ne.mpr c10
     have c10b2 : ¬ (t105 = []) := fun h_ => c10 (by rw [h_]; rfl)
     obtain ⟨ji11, hji11⟩ : ∃ j_ : Int, (Int.tmod (wrap64 (a1)) (t105.length : Int)) = j_ := ⟨_, rfl⟩
     replace H : (if 0 ≤ (ji11) then (if (ji11) < (t105.length : Int) then ((order_Of.f k1 (wrap64 (Int.tmod a0 7)) (rd_L4 t105 (ji11))).bind fun t109 => ((order_Linear.f k1 t109).bind fun t112 => (if t101 = true then ((rel_Acyclic.f k1 t109).bind fun t115 => (if t115 = true then (if (t112.length : Int) = 1 then (if 0 < (t112.length : Int) then ((cupolaref01_Ints.f k1 (rd_L4 t112 0) (rd_L4 t105 (ji11))).bind fun t117 => (if t117 = true then ((rel_Only.f k1 t109 a2 a2).bind fun t118 => ((order_Fits.f k1 (rd_L4 t105 (ji11)) t118).bind fun t121 => (if t121 = true then ((rel_Pairs.f k1 t109).bind fun t122 => (some ((t122.length : Int) == (wrap64 (Int.tdiv (wrap64 ((wrap64 (Int.tmod a0 7)) * (mx (wrap64 ((wrap64 (Int.tmod a0 7)) - 1)) 0))) 2))))) else (some false)))) else (some false))) else (none)) else (some false)) else (some false))) else (some false)))) else (none)) else (none)) = some r := by first | (rw [hji11] at H; exact H) | (simp only [hji11] at H ⊢; exact H)
     (try rw [hji11] at A9)
     by_cases c12 : 0 ≤ (ji11)
     ·rw [if_pos c12] at H
      have c12b0 : decide (0 ≤ (ji11)) = true := decide_eq_true c12
      clear c12
      by_cases c13 : (ji11) < (t105.length : Int)
      ·rw [if_pos c13] at H
       have c13b0 : decide ((ji11) < (t105.length : Int)) = true := decide_eq_true c13
       clear c13
       replace H := Option.bind_eq_some_iff.mp H
       obtain ⟨t109, A140, H⟩ := H
       have A14 := Aside0.mk A140
       clear A140
       replace H := Option.bind_eq_some_iff.mp H
       obtain ⟨t112, A150, H⟩ := H
       have A15 := Aside0.mk A150
       clear A150
       by_cases c16 : t101 = true
       ·subst c16
        rw [if_pos rfl] at H
        replace H := Option.bind_eq_some_iff.mp H
        obtain ⟨t115, A170, H⟩ := H
        have A17 := Aside0.mk A170
        clear A170
        by_cases c18 : t115 = true
        ·subst c18
         rw [if_pos rfl] at H
         by_cases c19 : (t112.length : Int) = 1
         ·rw [if_pos c19] at H
          have c19b0 : ((t112.length : Int) == 1) = true := beq_iff_eq.mpr c19
          have c19b1 : ((t112.length : Int) != 1) = false := bne_eq_false_iff_eq.mpr c19
          clear c19
          by_cases c20 : 0 < (t112.length : Int)
          ·rw [if_pos c20] at H
           have c20b0 : decide (0 < (t112.length : Int)) = true := decide_eq_true c20
           have c20b1 : decide (0 < t112.length) = true := decide_eq_true (by omega)
           clear c20
           replace H := Option.bind_eq_some_iff.mp H
           obtain ⟨t117, A210, H⟩ := H
           have A21 := Aside0.mk A210
           clear A210
           by_cases c22 : t117 = true
           ·subst c22
            rw [if_pos rfl] at H
            replace H := Option.bind_eq_some_iff.mp H
            obtain ⟨t118, A230, H⟩ := H
            have A23 := Aside0.mk A230
            clear A230
            replace H := Option.bind_eq_some_iff.mp H
            obtain ⟨t121, A240, H⟩ := H
            have A24 := Aside0.mk A240
            clear A240
            by_cases c25 : t121 = true
            ·subst c25
             rw [if_pos rfl] at H
             replace H := Option.bind_eq_some_iff.mp H
             obtain ⟨t122, A260, H⟩ := H
             have A26 := Aside0.mk A260
             clear A260
             obtain ⟨ji27, hji27⟩ : ∃ j_ : Int, (mx (wrap64 ((wrap64 (Int.tmod a0 7)) - 1)) 0) = j_ := ⟨_, rfl⟩
             replace H : (some ((t122.length : Int) == (wrap64 (Int.tdiv (wrap64 ((wrap64 (Int.tmod a0 7)) * (ji27))) 2)))) = some r := by first | (rw [hji27] at H; exact H) | (simp only [hji27] at H ⊢; exact H)
             (try rw [hji27] at A9)
             (try rw [hji27] at A14)
             (try rw [hji27] at A15)
             (try rw [hji27] at A17)
             (try rw [hji27] at A21)
             (try rw [hji27] at A23)
             (try rw [hji27] at A24)
             (try rw [hji27] at A26)
             have hji27_ : (if (wrap64 ((wrap64 (Int.tmod a0 7)) - 1)) < 0 then 0 else (wrap64 ((wrap64 (Int.tmod a0 7)) - 1))) = ji27 := hji27
             obtain rfl := Option.some.inj H
             obtain ⟨Ao28, co28, eo28⟩ := Kd.R_slice HO_9.out
             subst eo28
             go_wp2_with (first | ((with_reducible refine gate_callee (f := 99) rfl ?_); refine goesL9 (some 29) rfl rfl Try.func99 (by kernel_rfl) rfl #[.slice Ao28 x9_1.length co28] rfl ?_; (with_reducible refine (order_All.calls k1 _ _ x9_1 t105 _ ?side1 ?side2 A9.out).mono ?_); (case side1 => exact lp9 (Kd.R_reads' HO_9.out).2.2); (case side2 => exact (Kd.R_reads' HO_9.out).2.1); rintro e w29 ⟨v106, rfl, ho0, hb⟩; refine ⟨_, rfl, ?_⟩; have n0_ := Aside0.mk (Kd.R_below (rp9 HO_9.out) hb); have n1_ := Aside0.mk (Kd.N_lower (Kd.N_mono (ok' := fun k_ => some k_ ≠ (.slice Ao28 x9_1.length co28 : Value).ownBlock) ho0 (fun k_ hk_ => (Kd.fresh' (Kd.R_lt (rp9 HO_9.out)) k_ hk_))) (below_size (bp9 HB.out))); have n2_ := Aside0.mk (below_step (bp9 HB.out) hb); clear HO_9; clear HB; have HO_9 := n0_; have HO107 := n1_; have HB := n2_; clear n0_ n1_ n2_; (try clear hb); (try clear hb2); (try clear hk); (try clear hi); (try clear ho0); obtain ⟨Ao30, co30, eo30⟩ := Kd.N_slice HO107.out; subst eo30; have p108 : 0 ≤ ((ji11) : Int) := of_decide_eq_true (by first | (with_reducible assumption) | assumption); have q108 : (ji11) < (t105.length : Int) := of_decide_eq_true (by first | (with_reducible assumption) | assumption); obtain ⟨ad108, A108_0, c108_0, e108, hx108_0, hl108_0, hi108_0⟩ := at_L4 (Kd.N_reads' HO107.out).2.2 (ji11) p108 q108; cases e108; obtain ⟨ce108, hce108, hMe108, hcc108⟩ := Kd.N_get HO107.out [] (ji11) p108 (by first | exact q108 | exact of_decide_eq_true (by first | (with_reducible assumption) | assumption) | (have e_ := (Kd.N_reads' HO107.out).1; omega)); obtain ⟨ua108_0, uc108_0, rfl, ul108_0, ge108_0⟩ := Kd.FK_slice_open hMe108; have hv108_0 := hcc108 0 _ rfl; rw [Nat.add_zero, show ((Kd.slice 3 (Kd.int .i64))).sz = 1 from rfl, Nat.mul_one] at hv108_0; replace hv108_0 := Option.some.inj (hv108_0.symm.trans hx108_0); injection hv108_0 with hva_ hvn_ hvc_; rw [hva_] at ge108_0; rw [hvc_] at ul108_0; have HL108_0 := Aside0.mk (show Kd.V (Kd.int .i64) 3 _ w.heap.size _ _ (rd_L4 t105 (ji11)) from Kd.V_mk ul108_0 ge108_0); clear hva_ hvn_ hvc_ ge108_0 ul108_0; clear hcc108 hce108; have HR108_0 := Aside0.mk hi108_0; have HC108_0 := Aside0.mk hl108_0; clear hi108_0 hl108_0; replace p108 := eq_true p108; replace q108 := eq_true q108) | ((with_reducible refine gate_callee (f := 106) rfl ?_); refine goesL_ (some 43) rfl rfl Try.func106 (by kernel_rfl) rfl #[.int .i64 (wrap64 (Int.tmod a0 7)), .slice A108_0 (rd_L4 t105 (ji11)).length c108_0] rfl (by (try simp only [List.map_toArray, List.map_cons, List.map_nil]); first | done | (simp only [hji11]; rfl) | rfl | (simp only [List.length_drop, List.length_take]; rfl)) ?_; (with_reducible refine (order_Of.calls k1 (wrap64 (Int.tmod a0 7)) _ _ (rd_L4 t105 (ji11)) t109 _ ?side1 ?side2 A14.out).mono ?_); (case side1 => repeat (first | exact (by repeat (first | (with_reducible exact HR108_0.out) | (with_reducible refine Kd.C_alloc ?_ _) | (with_reducible refine Kd.C_drewN ?_ _) | (with_reducible refine Kd.C_drew ?_) | exact HR108_0.out)) | (with_reducible refine Kd.C_alloc ?_ _) | (with_reducible refine Kd.C_drewN ?_ _) | (with_reducible refine Kd.C_drew ?_))); (case side2 => exact HC108_0.out); rintro e w31 ⟨v110, rfl, ho0, hb⟩; refine ⟨_, rfl, ?_⟩; have n0_ := Aside0.mk (Kd.R_below (rp9 HO_9.out) hb); have n1_ := Aside0.mk (Kd.N_elder' (by (with_reducible repeat (first | apply Kd.N_alloc | apply Kd.N_drewN | apply Kd.N_drew)); exact HO107.out) (Kd.R_base ho0) hb); have n2_ := Aside0.mk (Kd.V_elder' (by (with_reducible repeat (first | apply Kd.V_alloc | apply Kd.V_drewN | apply Kd.V_drew)); exact HL108_0.out) (Kd.R_base ho0) hb); have n3_ := Aside0.mk (Kd.R_lower ho0 (below_size (bp9 HB.out))); have n4_ := Aside0.mk (Kd.C_below (by repeat (first | (with_reducible exact HR108_0.out) | (with_reducible refine Kd.C_alloc ?_ _) | (with_reducible refine Kd.C_drewN ?_ _) | (with_reducible refine Kd.C_drew ?_) | exact HR108_0.out)) hb); have n5_ := Aside0.mk (below_step (bp9 HB.out) hb); clear HO_9; clear HO107; clear HL108_0; clear HR108_0; clear HB; have HO_9 := n0_; have HO107 := n1_; have HL108_0 := n2_; have HO111 := n3_; have HR108_0 := n4_; have HB := n5_; clear n0_ n1_ n2_ n3_ n4_ n5_; (try clear hb); (try clear hb2); (try clear hk); (try clear hi); (try clear ho0); obtain ⟨Ao32, co32, eo32⟩ := Kd.R_slice HO111.out; subst eo32) | ((with_reducible refine gate_callee (f := 91) rfl ?_); refine goesL9 (some 45) rfl rfl Try.func91 (by kernel_rfl) rfl #[.slice Ao32 t109.length co32] rfl ?_; (with_reducible refine (order_Linear.calls k1 _ _ t109 t112 _ ?side1 ?side2 A15.out).mono ?_); (case side1 => exact lp9 (Kd.R_reads' HO111.out).2.2); (case side2 => exact (Kd.R_reads' HO111.out).2.1); rintro e w33 ⟨v113, rfl, ho0, hb⟩; refine ⟨_, rfl, ?_⟩; have n0_ := Aside0.mk (Kd.R_below (rp9 HO_9.out) hb); have n1_ := Aside0.mk (Kd.N_elder' (by (with_reducible repeat (first | apply Kd.N_alloc | apply Kd.N_drewN | apply Kd.N_drew)); exact HO107.out) (by first | exact Kd.N_base ho0 | exact Kd.S_base ho0) hb); have n2_ := Aside0.mk (Kd.V_elder' (by (with_reducible repeat (first | apply Kd.V_alloc | apply Kd.V_drewN | apply Kd.V_drew)); exact HL108_0.out) (by first | exact Kd.N_base ho0 | exact Kd.S_base ho0) hb); have n3_ := Aside0.mk (Kd.R_below (rp9 HO111.out) hb); have n4_ := Aside0.mk (Kd.N_lower (Kd.N_mono (ok' := fun k_ => some k_ ≠ (.slice Ao28 x9_1.length co28 : Value).ownBlock ∧ some k_ ≠ (.slice (some ad108) t105.length co30 : Value).ownBlock ∧ some k_ ≠ (.slice Ao32 t109.length co32 : Value).ownBlock) (Kd.S_N (Kd.S_bound ho0)) (fun k_ hk_ => ⟨(Kd.fresh' (Kd.R_lt (rp9 HO_9.out)) k_ hk_.2.1), (Kd.fresh' (Kd.N_lt (by (with_reducible repeat (first | apply Kd.N_alloc | apply Kd.N_drewN | apply Kd.N_drew)); exact HO107.out)) k_ hk_.2.1), (Kd.fresh' (Kd.R_lt (rp9 HO111.out)) k_ hk_.2.1)⟩)) (below_size (bp9 HB.out))); have n5_ := Aside0.mk (Kd.C_below (by repeat (first | (with_reducible exact HR108_0.out) | (with_reducible refine Kd.C_alloc ?_ _) | (with_reducible refine Kd.C_drewN ?_ _) | (with_reducible refine Kd.C_drew ?_) | exact HR108_0.out)) hb); have n6_ := Aside0.mk (below_step (bp9 HB.out) hb); clear HO_9; clear HO107; clear HL108_0; clear HO111; clear HR108_0; clear HB; have HO_9 := n0_; have HO107 := n1_; have HL108_0 := n2_; have HO111 := n3_; have HO114 := n4_; have HR108_0 := n5_; have HB := n6_; clear n0_ n1_ n2_ n3_ n4_ n5_ n6_; (try clear hb); (try clear hb2); (try clear hk); (try clear hi); (try clear ho0)) | (go_at_call 44; (with_reducible refine (rel_Acyclic.calls k1 _ _ t109 true _ ?side1 ?side2 A17.out).mono ?_); (case side1 => exact lp9 (Kd.R_reads' HO111.out).2.2); (case side2 => exact (Kd.R_reads' HO111.out).2.1); rintro e w34 ⟨rfl, hb⟩; have n0_ := Aside0.mk (Kd.R_below (rp9 HO_9.out) hb); have n1_ := Aside0.mk (Kd.N_below (by (with_reducible repeat (first | apply Kd.N_alloc | apply Kd.N_drewN | apply Kd.N_drew)); exact HO107.out) hb); have n2_ := Aside0.mk (Kd.V_below (by (with_reducible repeat (first | apply Kd.V_alloc | apply Kd.V_drewN | apply Kd.V_drew)); exact HL108_0.out) hb); have n3_ := Aside0.mk (Kd.R_below (rp9 HO111.out) hb); have n4_ := Aside0.mk (Kd.N_below (by (with_reducible repeat (first | apply Kd.N_alloc | apply Kd.N_drewN | apply Kd.N_drew)); exact HO114.out) hb); have n5_ := Aside0.mk (Kd.C_below (by repeat (first | (with_reducible exact HR108_0.out) | (with_reducible refine Kd.C_alloc ?_ _) | (with_reducible refine Kd.C_drewN ?_ _) | (with_reducible refine Kd.C_drew ?_) | exact HR108_0.out)) hb); have n6_ := Aside0.mk (below_step (bp9 HB.out) hb); clear HO_9; clear HO107; clear HL108_0; clear HO111; clear HO114; clear HR108_0; clear HB; have HO_9 := n0_; have HO107 := n1_; have HL108_0 := n2_; have HO111 := n3_; have HO114 := n4_; have HR108_0 := n5_; have HB := n6_; clear n0_ n1_ n2_ n3_ n4_ n5_ n6_; (try clear hb); (try clear hb2); (try clear hk); (try clear hi); obtain ⟨Ao35, co35, eo35⟩ := Kd.N_slice HO114.out; subst eo35; have p116 : 0 ≤ (0 : Int) := (by omega); have q116 : 0 < (t112.length : Int) := of_decide_eq_true (by first | (with_reducible assumption) | assumption); obtain ⟨ad116, A116_0, c116_0, e116, hx116_0, hl116_0, hi116_0⟩ := at_L4 (Kd.N_reads' HO114.out).2.2 0 p116 q116; cases e116; obtain ⟨ce116, hce116, hMe116, hcc116⟩ := Kd.N_get HO114.out [] 0 p116 (by first | exact q116 | exact of_decide_eq_true (by first | (with_reducible assumption) | assumption) | (have e_ := (Kd.N_reads' HO114.out).1; omega)); obtain ⟨ua116_0, uc116_0, rfl, ul116_0, ge116_0⟩ := Kd.FK_slice_open hMe116; have hv116_0 := hcc116 0 _ rfl; rw [Nat.add_zero, show ((Kd.slice 3 (Kd.int .i64))).sz = 1 from rfl, Nat.mul_one] at hv116_0; replace hv116_0 := Option.some.inj (hv116_0.symm.trans hx116_0); injection hv116_0 with hva_ hvn_ hvc_; rw [hva_] at ge116_0; rw [hvc_] at ul116_0; have HL116_0 := Aside0.mk (show Kd.V (Kd.int .i64) 3 _ w.heap.size _ _ (rd_L4 t112 0) from Kd.V_mk ul116_0 ge116_0); clear hva_ hvn_ hvc_ ge116_0 ul116_0; clear hcc116 hce116; have qi116 : (0 < t112.length) = True := eq_true (by omega); (try rw [show ((0 : Int)).toNat = 0 from rfl] at hx116_0); (try rw [Addr.add_zero'] at hx116_0); have HR116_0 := Aside0.mk hi116_0; have HC116_0 := Aside0.mk hl116_0; clear hi116_0 hl116_0; replace p116 := eq_true p116; replace q116 := eq_true q116) | (go_at_call 34; (with_reducible refine (cupolaref01_Ints.calls k1 _ _ (rd_L4 t112 0) _ _ (rd_L4 t105 (ji11)) true _ ?side1 ?side2 ?side3 ?side4 A21.out).mono ?_); (case side1 => repeat (first | exact (by repeat (first | (with_reducible exact HR116_0.out) | (with_reducible refine Kd.C_alloc ?_ _) | (with_reducible refine Kd.C_drewN ?_ _) | (with_reducible refine Kd.C_drew ?_) | exact HR116_0.out)) | (with_reducible refine Kd.C_alloc ?_ _) | (with_reducible refine Kd.C_drewN ?_ _) | (with_reducible refine Kd.C_drew ?_))); (case side2 => exact HC116_0.out); (case side3 => repeat (first | exact (by repeat (first | (with_reducible exact HR108_0.out) | (with_reducible refine Kd.C_alloc ?_ _) | (with_reducible refine Kd.C_drewN ?_ _) | (with_reducible refine Kd.C_drew ?_) | exact HR108_0.out)) | (with_reducible refine Kd.C_alloc ?_ _) | (with_reducible refine Kd.C_drewN ?_ _) | (with_reducible refine Kd.C_drew ?_))); (case side4 => exact HC108_0.out); rintro e w' ⟨rfl, ⟨nd, rfl⟩⟩) | (go_at_call 54; (with_reducible refine (rel_Only.calls k1 _ _ t109 a2 a2 t118 _ ?side1 ?side2 A23.out).mono ?_); (case side1 => exact lp9 (Kd.R_reads' HO111.out).2.2); (case side2 => exact (Kd.R_reads' HO111.out).2.1); rintro e w36 ⟨v119, rfl, ho0, hb⟩; have n0_ := Aside0.mk (Kd.R_below (rp9 HO_9.out) hb); have n1_ := Aside0.mk (Kd.N_elder' (by (with_reducible repeat (first | apply Kd.N_alloc | apply Kd.N_drewN | apply Kd.N_drew)); exact HO107.out) (Kd.R_base ho0) hb); have n2_ := Aside0.mk (Kd.V_elder' (by (with_reducible repeat (first | apply Kd.V_alloc | apply Kd.V_drewN | apply Kd.V_drew)); exact HL108_0.out) (Kd.R_base ho0) hb); have n3_ := Aside0.mk (Kd.R_elder' (rp9 HO111.out) (Kd.R_base ho0) hb); have n4_ := Aside0.mk (Kd.N_elder' (by (with_reducible repeat (first | apply Kd.N_alloc | apply Kd.N_drewN | apply Kd.N_drew)); exact HO114.out) (Kd.R_base ho0) hb); have n5_ := Aside0.mk (Kd.V_elder' (by (with_reducible repeat (first | apply Kd.V_alloc | apply Kd.V_drewN | apply Kd.V_drew)); exact HL116_0.out) (Kd.R_base ho0) hb); have n6_ := Aside0.mk (Kd.R_lower (Kd.R_new' ho0 (Kd.R_lt (rp9 HO111.out))) (below_size (bp9 HB.out))); have n7_ := Aside0.mk (Kd.C_below (by repeat (first | (with_reducible exact HR108_0.out) | (with_reducible refine Kd.C_alloc ?_ _) | (with_reducible refine Kd.C_drewN ?_ _) | (with_reducible refine Kd.C_drew ?_) | exact HR108_0.out)) hb); have n8_ := Aside0.mk (Kd.C_below (by repeat (first | (with_reducible exact HR116_0.out) | (with_reducible refine Kd.C_alloc ?_ _) | (with_reducible refine Kd.C_drewN ?_ _) | (with_reducible refine Kd.C_drew ?_) | exact HR116_0.out)) hb); have n9_ := Aside0.mk (below_step (bp9 HB.out) hb); clear HO_9; clear HO107; clear HL108_0; clear HO111; clear HO114; clear HL116_0; clear HR108_0; clear HR116_0; clear HB; have HO_9 := n0_; have HO107 := n1_; have HL108_0 := n2_; have HO111 := n3_; have HO114 := n4_; have HL116_0 := n5_; have HO120 := n6_; have HR108_0 := n7_; have HR116_0 := n8_; have HB := n9_; clear n0_ n1_ n2_ n3_ n4_ n5_ n6_ n7_ n8_ n9_; (try clear hb); (try clear hb2); (try clear hk); (try clear hi); (try clear ho0); obtain ⟨Ao37, co37, eo37⟩ := Kd.R_slice HO120.out; subst eo37) | (go_at_call 92; (with_reducible refine (order_Fits.calls k1 _ _ (rd_L4 t105 (ji11)) _ _ t118 true _ ?side1 ?side2 ?side3 ?side4 A24.out).mono ?_); (case side1 => repeat (first | exact (by repeat (first | (with_reducible exact HR108_0.out) | (with_reducible refine Kd.C_alloc ?_ _) | (with_reducible refine Kd.C_drewN ?_ _) | (with_reducible refine Kd.C_drew ?_) | exact HR108_0.out)) | (with_reducible refine Kd.C_alloc ?_ _) | (with_reducible refine Kd.C_drewN ?_ _) | (with_reducible refine Kd.C_drew ?_))); (case side2 => exact HC108_0.out); (case side3 => exact lp9 (Kd.R_reads' HO120.out).2.2); (case side4 => exact (Kd.R_reads' HO120.out).2.1); rintro e w38 ⟨rfl, hb⟩; have n0_ := Aside0.mk (Kd.R_below (rp9 HO_9.out) hb); have n1_ := Aside0.mk (Kd.N_below (by (with_reducible repeat (first | apply Kd.N_alloc | apply Kd.N_drewN | apply Kd.N_drew)); exact HO107.out) hb); have n2_ := Aside0.mk (Kd.V_below (by (with_reducible repeat (first | apply Kd.V_alloc | apply Kd.V_drewN | apply Kd.V_drew)); exact HL108_0.out) hb); have n3_ := Aside0.mk (Kd.R_below (rp9 HO111.out) hb); have n4_ := Aside0.mk (Kd.N_below (by (with_reducible repeat (first | apply Kd.N_alloc | apply Kd.N_drewN | apply Kd.N_drew)); exact HO114.out) hb); have n5_ := Aside0.mk (Kd.V_below (by (with_reducible repeat (first | apply Kd.V_alloc | apply Kd.V_drewN | apply Kd.V_drew)); exact HL116_0.out) hb); have n6_ := Aside0.mk (Kd.R_below (rp9 HO120.out) hb); have n7_ := Aside0.mk (Kd.C_below (by repeat (first | (with_reducible exact HR108_0.out) | (with_reducible refine Kd.C_alloc ?_ _) | (with_reducible refine Kd.C_drewN ?_ _) | (with_reducible refine Kd.C_drew ?_) | exact HR108_0.out)) hb); have n8_ := Aside0.mk (Kd.C_below (by repeat (first | (with_reducible exact HR116_0.out) | (with_reducible refine Kd.C_alloc ?_ _) | (with_reducible refine Kd.C_drewN ?_ _) | (with_reducible refine Kd.C_drew ?_) | exact HR116_0.out)) hb); have n9_ := Aside0.mk (below_step (bp9 HB.out) hb); clear HO_9; clear HO107; clear HL108_0; clear HO111; clear HO114; clear HL116_0; clear HO120; clear HR108_0; clear HR116_0; clear HB; have HO_9 := n0_; have HO107 := n1_; have HL108_0 := n2_; have HO111 := n3_; have HO114 := n4_; have HL116_0 := n5_; have HO120 := n6_; have HR108_0 := n7_; have HR116_0 := n8_; have HB := n9_; clear n0_ n1_ n2_ n3_ n4_ n5_ n6_ n7_ n8_ n9_; (try clear hb); (try clear hb2); (try clear hk); (try clear hi)) | (go_at_call 38; (with_reducible refine (rel_Pairs.calls k1 _ _ t109 t122 _ ?side1 ?side2 A26.out).mono ?_); (case side1 => exact lp9 (Kd.R_reads' HO111.out).2.2); (case side2 => exact (Kd.R_reads' HO111.out).2.1); rintro e w39 ⟨v123, rfl, ho0, hb⟩; have n0_ := Aside0.mk (Kd.R_below (rp9 HO_9.out) hb); have n1_ := Aside0.mk (Kd.N_elder' (by (with_reducible repeat (first | apply Kd.N_alloc | apply Kd.N_drewN | apply Kd.N_drew)); exact HO107.out) (Kd.R_base ho0) hb); have n2_ := Aside0.mk (Kd.V_elder' (by (with_reducible repeat (first | apply Kd.V_alloc | apply Kd.V_drewN | apply Kd.V_drew)); exact HL108_0.out) (Kd.R_base ho0) hb); have n3_ := Aside0.mk (Kd.R_below (rp9 HO111.out) hb); have n4_ := Aside0.mk (Kd.N_elder' (by (with_reducible repeat (first | apply Kd.N_alloc | apply Kd.N_drewN | apply Kd.N_drew)); exact HO114.out) (Kd.R_base ho0) hb); have n5_ := Aside0.mk (Kd.V_elder' (by (with_reducible repeat (first | apply Kd.V_alloc | apply Kd.V_drewN | apply Kd.V_drew)); exact HL116_0.out) (Kd.R_base ho0) hb); have n6_ := Aside0.mk (Kd.R_below (rp9 HO120.out) hb); have n7_ := Aside0.mk (Kd.R_lower ho0 (below_size (bp9 HB.out))); have n8_ := Aside0.mk (Kd.C_below (by repeat (first | (with_reducible exact HR108_0.out) | (with_reducible refine Kd.C_alloc ?_ _) | (with_reducible refine Kd.C_drewN ?_ _) | (with_reducible refine Kd.C_drew ?_) | exact HR108_0.out)) hb); have n9_ := Aside0.mk (Kd.C_below (by repeat (first | (with_reducible exact HR116_0.out) | (with_reducible refine Kd.C_alloc ?_ _) | (with_reducible refine Kd.C_drewN ?_ _) | (with_reducible refine Kd.C_drew ?_) | exact HR116_0.out)) hb); have n10_ := Aside0.mk (below_step (bp9 HB.out) hb); clear HO_9; clear HO107; clear HL108_0; clear HO111; clear HO114; clear HL116_0; clear HO120; clear HR108_0; clear HR116_0; clear HB; have HO_9 := n0_; have HO107 := n1_; have HL108_0 := n2_; have HO111 := n3_; have HO114 := n4_; have HL116_0 := n5_; have HO120 := n6_; have HO124 := n7_; have HR108_0 := n8_; have HR116_0 := n9_; have HB := n10_; clear n0_ n1_ n2_ n3_ n4_ n5_ n6_ n7_ n8_ n9_ n10_; (try clear hb); (try clear hb2); (try clear hk); (try clear hi); (try clear ho0); obtain ⟨Ao40, co40, eo40⟩ := Kd.R_slice HO124.out; subst eo40))
             go_ret
             exact ⟨by first | rfl | (simp [errW_none, errW_some] <;> rfl) | (simp only [← hji11, ← hji27]; first | rfl | (simp [errW_none, errW_some] <;> rfl)) | (simp [*, errW_none, errW_some] <;> rfl), bp9 HB.out⟩
            ·replace c25 := Bool.eq_false_iff.mpr c25
             subst c25
             rw [if_neg (show ¬ (false = true) by decide)] at H
             exact absurd ((Option.some.inj H).trans HT9.out) (by decide)
           ·replace c22 := Bool.eq_false_iff.mpr c22
            subst c22
            rw [if_neg (show ¬ (false = true) by decide)] at H
            exact absurd ((Option.some.inj H).trans HT9.out) (by decide)
          ·rw [if_neg c20] at H
           exact absurd H (by simp)
         ·rw [if_neg c19] at H
          have c19b0 : ((t112.length : Int) == 1) = false := beq_eq_false_iff_ne.mpr c19
          have c19b1 : ((t112.length : Int) != 1) = true := bne_iff_ne.mpr c19
          exact absurd ((Option.some.inj H).trans HT9.out) (by decide)
        ·replace c18 := Bool.eq_false_iff.mpr c18
         subst c18
         rw [if_neg (show ¬ (false = true) by decide)] at H
         exact absurd ((Option.some.inj H).trans HT9.out) (by decide)
       ·replace c16 := Bool.eq_false_iff.mpr c16
        subst c16
        rw [if_neg (show ¬ (false = true) by decide)] at H
        exact absurd ((Option.some.inj H).trans HT9.out) (by decide)
      ·rw [if_neg c13] at H
       exact absurd H (by simp)
     ·rw [if_neg c12] at H
      exact absurd H (by simp)

/-- THE ONE PURE STATEMENT of cupolalaw06_OrderOf: yours. -/
def cupolalaw06_OrderOf.Pure : Prop := ∀ (a0 : Int) (a1 : Int) (a2 : Int), (Lit.int .u8 a0).wf = true → (Lit.int .u16 a1).wf = true → (Lit.int .u32 a2).wf = true → ∃ k, cupolalaw06_OrderOf.f k a0 a1 a2 = some true
theorem cupolalaw06_OrderOf.walk (P : cupolalaw06_OrderOf.Pure) (a0 : Int) (a1 : Int) (a2 : Int) (w : World) (w0 : (Lit.int .u8 a0).wf = true) (w1 : (Lit.int .u16 a1).wf = true) (w2 : (Lit.int .u32 a2).wf = true) :
  Calls Try.prog 29 #[.int .u8 a0, .int .u16 a1, .int .u32 a2] w fun e w' => e = .returned (.bool true) ∧ Below w.heap.size w w' := by
 obtain ⟨k, h⟩ := P a0 a1 a2 w0 w1 w2
 refine (cupolalaw06_OrderOf.calls k a0 a1 a2 true rfl w h).mono ?_
 rintro e w' ⟨rfl, hd⟩
 exact ⟨rfl, hd⟩

end Go.Proofs.Ytbamkkdikeedoaa.G
