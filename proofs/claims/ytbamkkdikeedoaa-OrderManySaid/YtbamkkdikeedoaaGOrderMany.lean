-- Written by drive.py, a program of this seat's session, out of the translation.
import Derived.Test.YtbamkkdikeedoaaG0
import Derived.Test.YtbamkkdikeedoaaGCupolalaw06
import Derived.Test.YtbamkkdikeedoaaGCupolaref01
import Derived.Test.YtbamkkdikeedoaaGCupolaref06l
import Derived.Test.YtbamkkdikeedoaaGOrder
import Derived.Test.YtbamkkdikeedoaaGRel
import Derived.Test.YtbamkkdikeedoaaHandOrder
import Derived.Test.YtbamkkdikeedoaaHandCz
namespace Go.Proofs.Ytbamkkdikeedoaa.G
open Go.RowKit Go.Proofs.YtbamkkdikeedoaaW.PrintWords Go.Proofs.YtbamkkdikeedoaaW.PrintLast Go.Proofs.YtbamkkdikeedoaaW.PrintMore
attribute [local go_sem] max2_int min2_int max_two min_two max_three min_three max_four min_four   -- for this text's walks alone
set_option linter.unusedVariables false
set_option linter.unusedSimpArgs false

/-! ### cupolalaw06_OrderMany: function 24 -/
mutual
def cupolalaw06_OrderMany.l0 : Nat → Bool → Int → List Int → Int → Int → Option (Bool)
 | 0, _, _, _, _, _ => none
 | k + 1, x3, x4, x5, x6, x7 => if x7 < x4 then (if x5.length < 17592186044416 then (cupolalaw06_OrderMany.l0 k x3 x4 (x5 ++ [x7]) (wrap64 (x6 * (wrap64 (x7 + 1)))) (wrap64 (x7 + 1))) else (none)) else ((order_All.f k x5).bind fun t105 => (cupolalaw06_OrderMany.l1 k x3 x4 x6 t105 0))
def cupolalaw06_OrderMany.l1 : Nat → Bool → Int → Int → List (List Int) → Int → Option (Bool)
 | 0, _, _, _, _, _ => none
 | k + 1, x3, x4, x6, x8, x9 => if x9 < (x8.length : Int) then (cupolalaw06_OrderMany.l2 k x3 x4 x6 x8 x9 0) else (if x3 = true then (if (x8.length : Int) = x6 then ((rel_New.f x4).bind fun t113 => ((order_Linear.f k t113).bind fun t116 => ((cupolaref06_Lists.f k t116 x8).bind fun t119 => (some t119)))) else (some false)) else (some false))
def cupolalaw06_OrderMany.l2 : Nat → Bool → Int → Int → List (List Int) → Int → Int → Option (Bool)
 | 0, _, _, _, _, _, _ => none
 | k + 1, x3, x4, x6, x8, x9, x10 => if x10 < x4 then (if 0 ≤ x9 then (if x9 < (x8.length : Int) then ((cupolaref01_In.f k (rd_L4 x8 x9) x10).bind fun t109 => (if t109 = true then (cupolalaw06_OrderMany.l2 k x3 x4 x6 x8 x9 (wrap64 (x10 + 1))) else (some false))) else (none)) else (none)) else (if x9 > 0 then (if 0 ≤ x9 then (if x9 < (x8.length : Int) then (if 0 ≤ (wrap64 (x9 - 1)) then (if (wrap64 (x9 - 1)) < (x8.length : Int) then ((cupolaref01_Ints.f k (rd_L4 x8 x9) (rd_L4 x8 (wrap64 (x9 - 1)))).bind fun t112 => (if t112 = true then (some false) else (cupolalaw06_OrderMany.l1 k x3 x4 x6 x8 (wrap64 (x9 + 1))))) else (none)) else (none)) else (none)) else (none)) else (cupolalaw06_OrderMany.l1 k x3 x4 x6 x8 (wrap64 (x9 + 1))))
end
def cupolalaw06_OrderMany.f (k : Nat) (a0 : Int) : Option (Bool) := (cupolalaw06_shown.f k).bind fun t101 => (cupolalaw06_OrderMany.l0 k t101 (wrap64 (Int.tmod a0 7)) ([] : List Int) 1 0)
set_option maxHeartbeats 8000000 in
set_option maxRecDepth 100000 in
theorem cupolalaw06_OrderMany.calls (k : Nat) (a0 : Int) (r : Bool) (hT : r = true) (w : World) (h : cupolalaw06_OrderMany.f k a0 = some r) :
  Calls Try.prog 24 #[.int .u8 a0] w fun e w' => e = .returned (.bool r) ∧ Below w.heap.size w w' := by
 have HT9 := Aside0.mk hT
 clear hT
 have HB := Aside0.mk (Below.refl w.heap.size w)
 have H : ((cupolalaw06_shown.f k).bind fun t101 => (cupolalaw06_OrderMany.l0 k t101 (wrap64 (Int.tmod a0 7)) ([] : List Int) 1 0)) = some r := h
 clear h
 replace H := Option.bind_eq_some_iff.mp H
 obtain ⟨t101, A20, H⟩ := H
 have A2 := Aside0.mk A20
 clear A20
 have H' := Aside0.mk H
 clear H
 go_enter Try.func24, Try.ntmps24
 go_wp2_with (first | (go_at_call 90; (with_reducible refine (cupolalaw06_shown.calls k  t101 _ A2.out).mono ?_); rintro e w3 ⟨rfl, hb⟩; have n0_ := Aside0.mk (below_step (bp9 HB.out) hb); clear HB; have HB := n0_; clear n0_; (try clear hb); (try clear hb2); (try clear hk); (try clear hi)))
 repeat (go_quiet (first | (go_at_call 90; (with_reducible refine (cupolalaw06_shown.calls k  t101 _ A2.out).mono ?_); rintro e w3 ⟨rfl, hb⟩; have n0_ := Aside0.mk (below_step (bp9 HB.out) hb); clear HB; have HB := n0_; clear n0_; (try clear hb); (try clear hb2); (try clear hk); (try clear hi))); try go_wp2_with (first | (go_at_call 90; (with_reducible refine (cupolalaw06_shown.calls k  t101 _ A2.out).mono ?_); rintro e w3 ⟨rfl, hb⟩; have n0_ := Aside0.mk (below_step (bp9 HB.out) hb); clear HB; have HB := n0_; clear n0_; (try clear hb); (try clear hb2); (try clear hk); (try clear hi))))
 go_loopg [5, 6, 7] k (fun kq v5 v6 v7 w' => ∃ (x5_1 : List Int) (x6_1 : Int) (x7_1 : Int), v6 = .int .i64 x6_1 ∧ v7 = .int .i64 x7_1 ∧ Aside0 (cupolalaw06_OrderMany.l0 kq t101 (wrap64 (Int.tmod a0 7)) x5_1 x6_1 x7_1 = some r) ∧ Aside0 (kq ≤ k) ∧ Aside0 (Kd.R (Kd.int .i64) 3 w' w.heap.size (fun _ => True) v5 x5_1) ∧ Aside0 (Below w.heap.size w w'))
 case atStart => exact ⟨(([] : List Int)), (1), (0), (by first | rfl | (simp; done) | (simp [*]; done)), (by first | rfl | (simp; done) | (simp [*]; done)), H', ⟨Nat.le_refl _⟩, ⟨by first | exact Kd.R_nil _ _ _ _ _ | exact Kd.N_nil _ _ _ _ _ | exact Kd.V_nil _ _ _ _ _ | exact Kd.Q_nil _ _ _ _ _ | exact Kd.S_nil _ _ _ _ _⟩, ⟨bp9 HB.out⟩⟩
 case round =>
  clear H'
  try clear c2
  try clear p2
  obtain ⟨x5_1, x6_1, x7_1, rfl, rfl, HA, HK1, HO_5, HB⟩ := hrel
  cases gk with
  | zero => exact absurd HA.out (by simp [cupolalaw06_OrderMany.l0])
  | succ k1 =>
   have H := HA.out
   clear HA
   simp only [cupolalaw06_OrderMany.l0] at H
   by_cases c4 : x7_1 < (wrap64 (Int.tmod a0 7))
   ·rw [if_pos c4] at H
    have c4b0 : decide (x7_1 < (wrap64 (Int.tmod a0 7))) = true := decide_eq_true c4
    clear c4
    by_cases c5 : x5_1.length < 17592186044416
    ·rw [if_pos c5] at H
     have LMc5 := Aside0.mk c5
     clear c5
     obtain ⟨y102, hy102⟩ : ∃ y_ : List Int, y_ = (x5_1 ++ [x7_1]) := ⟨_, rfl⟩
     replace H : (cupolalaw06_OrderMany.l0 k1 t101 (wrap64 (Int.tmod a0 7)) y102 (wrap64 (x6_1 * (wrap64 (x7_1 + 1)))) (wrap64 (x7_1 + 1))) = some r := by first | (rw [hy102]; with_reducible exact H) | (have H2_ := (Option.bind_some _ _).symm.trans H; rw [hy102]; with_reducible exact H2_) | (have H2_ := (Option.bind_some _ _).symm.trans H; with_reducible exact H2_) | with_reducible exact H | (rw [hy102]; exact H) | exact H
     have Ny102 := Aside0.mk hy102
     clear hy102
     have H' := Aside0.mk H
     clear H
     go_wp2_with (first | ((with_reducible refine gate_builtin (b := .append) (xs := #[.tmp 20, .tmp 22]) rfl ?_); (try (refine gate_guard (by rfl) ?_; dsimp only)); at_builtin; refine Kd.R_append (Kd.int .i64) (w0 := w) w.heap.size rfl (.tmp 20) (.tmp 22) 33 3 (.int .i64 0) 8 rfl Try.underlying33 info3 rfl (by decide) (by omega) u5 x5_1 x7_1 [.int .i64 x7_1] (fun _ => True) (fun _ => False) rfl rfl ?aP (fun _ hk => hk.elim) ?aF ?aO ?aB ?aS ?aL ?_; (case aP => exact rfl); (case aB => exact (bp9 HB.out)); (case aF => exact (fun _ _ => trivial)); (case aO => exact (rp9 HO_5.out)); (case aS => exact (below_size (bp9 HB.out))); (case aL => have := LMc5.out; omega); intro v103 w6 ho hb hg hat; rw [← Ny102.out] at ho; have n0_ := Aside0.mk (hb); have n1_ := Aside0.mk (ho); clear HB; clear HO_5; have HB := n0_; have HO104 := n1_; clear n0_ n1_; clear ho hb hg hat))
     repeat (go_quiet (first | ((with_reducible refine gate_builtin (b := .append) (xs := #[.tmp 20, .tmp 22]) rfl ?_); (try (refine gate_guard (by rfl) ?_; dsimp only)); at_builtin; refine Kd.R_append (Kd.int .i64) (w0 := w) w.heap.size rfl (.tmp 20) (.tmp 22) 33 3 (.int .i64 0) 8 rfl Try.underlying33 info3 rfl (by decide) (by omega) u5 x5_1 x7_1 [.int .i64 x7_1] (fun _ => True) (fun _ => False) rfl rfl ?aP (fun _ hk => hk.elim) ?aF ?aO ?aB ?aS ?aL ?_; (case aP => exact rfl); (case aB => exact (bp9 HB.out)); (case aF => exact (fun _ _ => trivial)); (case aO => exact (rp9 HO_5.out)); (case aS => exact (below_size (bp9 HB.out))); (case aL => have := LMc5.out; omega); intro v103 w6 ho hb hg hat; rw [← Ny102.out] at ho; have n0_ := Aside0.mk (hb); have n1_ := Aside0.mk (ho); clear HB; clear HO_5; have HB := n0_; have HO104 := n1_; clear n0_ n1_; clear ho hb hg hat)); try go_wp2_with (first | ((with_reducible refine gate_builtin (b := .append) (xs := #[.tmp 20, .tmp 22]) rfl ?_); (try (refine gate_guard (by rfl) ?_; dsimp only)); at_builtin; refine Kd.R_append (Kd.int .i64) (w0 := w) w.heap.size rfl (.tmp 20) (.tmp 22) 33 3 (.int .i64 0) 8 rfl Try.underlying33 info3 rfl (by decide) (by omega) u5 x5_1 x7_1 [.int .i64 x7_1] (fun _ => True) (fun _ => False) rfl rfl ?aP (fun _ hk => hk.elim) ?aF ?aO ?aB ?aS ?aL ?_; (case aP => exact rfl); (case aB => exact (bp9 HB.out)); (case aF => exact (fun _ _ => trivial)); (case aO => exact (rp9 HO_5.out)); (case aS => exact (below_size (bp9 HB.out))); (case aL => have := LMc5.out; omega); intro v103 w6 ho hb hg hat; rw [← Ny102.out] at ho; have n0_ := Aside0.mk (hb); have n1_ := Aside0.mk (ho); clear HB; clear HO_5; have HB := n0_; have HO104 := n1_; clear n0_ n1_; clear ho hb hg hat)))
     go_roundg k1
     case measure => have := HK1.out; omega
     case rel => exact ⟨(y102), (wrap64 (x6_1 * (wrap64 (x7_1 + 1)))), (wrap64 (x7_1 + 1)), (by first | rfl | (simp; done) | (simp [*]; done)), (by first | rfl | (simp; done) | (simp [*]; done)), H', ⟨by have := HK1.out; omega⟩, ⟨rp9 HO104.out⟩, ⟨bp9 HB.out⟩⟩
    ·rw [if_neg c5] at H
     exact absurd H (by simp)
   ·rw [if_neg c4] at H
    have c4b0 : decide (x7_1 < (wrap64 (Int.tmod a0 7))) = false := decide_eq_false c4
    clear c4
    replace H := Option.bind_eq_some_iff.mp H
    obtain ⟨t105, A70, H⟩ := H
    have A7 := Aside0.mk A70
    clear A70
    have H' := Aside0.mk H
    clear H
    obtain ⟨Ao8, co8, eo8⟩ := Kd.R_slice HO_5.out
    subst eo8
    go_wp2_with (first | (go_at_call 99; (with_reducible refine (order_All.calls k1 _ _ x5_1 t105 _ ?side1 ?side2 A7.out).mono ?_); (case side1 => exact lp9 (Kd.R_reads' HO_5.out).2.2); (case side2 => exact (Kd.R_reads' HO_5.out).2.1); rintro e w9 ⟨v106, rfl, ho0, hb⟩; have n0_ := Aside0.mk (Kd.R_below (rp9 HO_5.out) hb); have n1_ := Aside0.mk (Kd.N_lower (Kd.N_mono (ok' := fun k_ => some k_ ≠ (.slice Ao8 x5_1.length co8 : Value).ownBlock) ho0 (fun k_ hk_ => (Kd.fresh' (Kd.R_lt (rp9 HO_5.out)) k_ hk_))) (below_size (bp9 HB.out))); have n2_ := Aside0.mk (below_step (bp9 HB.out) hb); clear HO_5; clear HB; have HO_5 := n0_; have HO107 := n1_; have HB := n2_; clear n0_ n1_ n2_; (try clear hb); (try clear hb2); (try clear hk); (try clear hi); (try clear ho0)))
    repeat (go_quiet (first | (go_at_call 99; (with_reducible refine (order_All.calls k1 _ _ x5_1 t105 _ ?side1 ?side2 A7.out).mono ?_); (case side1 => exact lp9 (Kd.R_reads' HO_5.out).2.2); (case side2 => exact (Kd.R_reads' HO_5.out).2.1); rintro e w9 ⟨v106, rfl, ho0, hb⟩; have n0_ := Aside0.mk (Kd.R_below (rp9 HO_5.out) hb); have n1_ := Aside0.mk (Kd.N_lower (Kd.N_mono (ok' := fun k_ => some k_ ≠ (.slice Ao8 x5_1.length co8 : Value).ownBlock) ho0 (fun k_ hk_ => (Kd.fresh' (Kd.R_lt (rp9 HO_5.out)) k_ hk_))) (below_size (bp9 HB.out))); have n2_ := Aside0.mk (below_step (bp9 HB.out) hb); clear HO_5; clear HB; have HO_5 := n0_; have HO107 := n1_; have HB := n2_; clear n0_ n1_ n2_; (try clear hb); (try clear hb2); (try clear hk); (try clear hi); (try clear ho0))); try go_wp2_with (first | (go_at_call 99; (with_reducible refine (order_All.calls k1 _ _ x5_1 t105 _ ?side1 ?side2 A7.out).mono ?_); (case side1 => exact lp9 (Kd.R_reads' HO_5.out).2.2); (case side2 => exact (Kd.R_reads' HO_5.out).2.1); rintro e w9 ⟨v106, rfl, ho0, hb⟩; have n0_ := Aside0.mk (Kd.R_below (rp9 HO_5.out) hb); have n1_ := Aside0.mk (Kd.N_lower (Kd.N_mono (ok' := fun k_ => some k_ ≠ (.slice Ao8 x5_1.length co8 : Value).ownBlock) ho0 (fun k_ hk_ => (Kd.fresh' (Kd.R_lt (rp9 HO_5.out)) k_ hk_))) (below_size (bp9 HB.out))); have n2_ := Aside0.mk (below_step (bp9 HB.out) hb); clear HO_5; clear HB; have HO_5 := n0_; have HO107 := n1_; have HB := n2_; clear n0_ n1_ n2_; (try clear hb); (try clear hb2); (try clear hk); (try clear hi); (try clear ho0))))
    go_loopg [9] k1 (fun kq v9 w' => ∃ (x9_2 : Int), v9 = .int .i64 x9_2 ∧ Aside0 (cupolalaw06_OrderMany.l1 kq t101 (wrap64 (Int.tmod a0 7)) x6_1 t105 x9_2 = some r) ∧ Aside0 (kq ≤ k1) ∧ Aside0 (Kd.N (Kd.slice 3 (Kd.int .i64)) 33 w' w.heap.size (fun _ => True) v106 t105) ∧ Aside0 (Below w.heap.size w w'))
    case atStart => exact ⟨(0), (by first | rfl | (simp; done) | (simp [*]; done)), H', ⟨Nat.le_refl _⟩, ⟨by (with_reducible repeat (first | apply Kd.N_alloc | apply Kd.N_drewN | apply Kd.N_drew)); exact Kd.N_mono HO107.out (fun _ hk => trivial)⟩, ⟨bp9 HB.out⟩⟩
    case round =>
     clear H'
     try clear c2
     try clear p2
     try clear c4
     try clear c4b0
     try clear c5
     try clear p6
     try clear p2
     obtain ⟨x9_2, rfl, HA, HK2, HO_8, HB⟩ := hrel
     cases gk with
     | zero => exact absurd HA.out (by simp [cupolalaw06_OrderMany.l1])
     | succ k2 =>
      have H := HA.out
      clear HA
      simp only [cupolalaw06_OrderMany.l1] at H
      by_cases c10 : x9_2 < (t105.length : Int)
      ·rw [if_pos c10] at H
       have c10b0 : decide (x9_2 < (t105.length : Int)) = true := decide_eq_true c10
       clear c10
       have H' := Aside0.mk H
       clear H
       obtain ⟨Ao11, co11, eo11⟩ := Kd.N_slice HO_8.out
       subst eo11
       go_wp2
       repeat (go_quiet (fail); try go_wp2)
       go_loopg [10] k2 (fun kq v10 w' => ∃ (x10_3 : Int), v10 = .int .i64 x10_3 ∧ Aside0 (cupolalaw06_OrderMany.l2 kq t101 (wrap64 (Int.tmod a0 7)) x6_1 t105 x9_2 x10_3 = some r) ∧ Aside0 (kq ≤ k2) ∧ Aside0 (Kd.N (Kd.slice 3 (Kd.int .i64)) 33 w' w.heap.size (fun _ => True) (.slice Ao11 t105.length co11) t105) ∧ Aside0 (Below w.heap.size w w'))
       case atStart => exact ⟨(0), (by first | rfl | (simp; done) | (simp [*]; done)), H', ⟨Nat.le_refl _⟩, ⟨by (with_reducible repeat (first | apply Kd.N_alloc | apply Kd.N_drewN | apply Kd.N_drew)); exact HO_8.out⟩, ⟨bp9 HB.out⟩⟩
       case round =>
        clear H'
        try clear c1
        try clear c2
        try clear p2
        try clear c4
        try clear c4b0
        try clear c5
        try clear p6
        try clear c10
        try clear c10b0
        try clear p2
        try clear p6
        obtain ⟨x10_3, rfl, HA, HK3, HO_8, HB⟩ := hrel
        cases gk with
        | zero => exact absurd HA.out (by simp [cupolalaw06_OrderMany.l2])
        | succ k3 =>
         have H := HA.out
         clear HA
         simp only [cupolalaw06_OrderMany.l2] at H
         by_cases c12 : x10_3 < (wrap64 (Int.tmod a0 7))
         ·rw [if_pos c12] at H
          have c12b0 : decide (x10_3 < (wrap64 (Int.tmod a0 7))) = true := decide_eq_true c12
          clear c12
          by_cases c13 : 0 ≤ x9_2
          ·rw [if_pos c13] at H
           have c13b0 : decide (0 ≤ x9_2) = true := decide_eq_true c13
           clear c13
           by_cases c14 : x9_2 < (t105.length : Int)
           ·rw [if_pos c14] at H
            have c14b0 : decide (x9_2 < (t105.length : Int)) = true := decide_eq_true c14
            clear c14
            replace H := Option.bind_eq_some_iff.mp H
            obtain ⟨t109, A150, H⟩ := H
            have A15 := Aside0.mk A150
            clear A150
            by_cases c16 : t109 = true
            ·subst c16
             rw [if_pos rfl] at H
             have H' := Aside0.mk H
             clear H
             have p108 : 0 ≤ (x9_2 : Int) := of_decide_eq_true (by first | (with_reducible assumption) | assumption)
             have q108 : x9_2 < (t105.length : Int) := of_decide_eq_true (by first | (with_reducible assumption) | assumption)
             obtain ⟨ad108, A108_0, c108_0, e108, hx108_0, hl108_0, hi108_0⟩ := at_L4 (Kd.N_reads' HO_8.out).2.2 x9_2 p108 q108
             cases e108
             obtain ⟨ce108, hce108, hMe108, hcc108⟩ := Kd.N_get HO_8.out [] x9_2 p108 (by first | exact q108 | exact of_decide_eq_true (by first | (with_reducible assumption) | assumption) | (have e_ := (Kd.N_reads' HO_8.out).1; omega))
             obtain ⟨ua108_0, uc108_0, rfl, ul108_0, ge108_0⟩ := Kd.FK_slice_open hMe108
             have hv108_0 := hcc108 0 _ rfl
             rw [Nat.add_zero, show ((Kd.slice 3 (Kd.int .i64))).sz = 1 from rfl, Nat.mul_one] at hv108_0
             replace hv108_0 := Option.some.inj (hv108_0.symm.trans hx108_0)
             injection hv108_0 with hva_ hvn_ hvc_
             rw [hva_] at ge108_0
             rw [hvc_] at ul108_0
             have HL108_0 := Aside0.mk (show Kd.V (Kd.int .i64) 3 _ w.heap.size _ _ (rd_L4 t105 x9_2) from Kd.V_mk ul108_0 ge108_0)
             clear hva_ hvn_ hvc_ ge108_0 ul108_0
             clear hcc108 hce108
             have HR108_0 := Aside0.mk hi108_0
             have HC108_0 := Aside0.mk hl108_0
             clear hi108_0 hl108_0
             replace p108 := eq_true p108
             replace q108 := eq_true q108
             go_wp2_with (first | (go_at_call 100; (with_reducible refine (cupolaref01_In.calls k3 _ _ (rd_L4 t105 x9_2) x10_3 true _ ?side1 ?side2 A15.out).mono ?_); (case side1 => repeat (first | exact (by repeat (first | (with_reducible exact HR108_0.out) | (with_reducible refine Kd.C_alloc ?_ _) | (with_reducible refine Kd.C_drewN ?_ _) | (with_reducible refine Kd.C_drew ?_) | exact HR108_0.out)) | (with_reducible refine Kd.C_alloc ?_ _) | (with_reducible refine Kd.C_drewN ?_ _) | (with_reducible refine Kd.C_drew ?_))); (case side2 => exact HC108_0.out); rintro e w' ⟨rfl, ⟨nd, rfl⟩⟩; (try first | exact ⟨rfl, _, World.drewN_drewN _ _ _⟩ | exact ⟨rfl, _, Eq.trans (World.drewN_drewN _ _ _) (congrArg (World.drewN _) (Nat.add_assoc _ _ _))⟩)))
             repeat (go_quiet (first | (go_at_call 100; (with_reducible refine (cupolaref01_In.calls k3 _ _ (rd_L4 t105 x9_2) x10_3 true _ ?side1 ?side2 A15.out).mono ?_); (case side1 => repeat (first | exact (by repeat (first | (with_reducible exact HR108_0.out) | (with_reducible refine Kd.C_alloc ?_ _) | (with_reducible refine Kd.C_drewN ?_ _) | (with_reducible refine Kd.C_drew ?_) | exact HR108_0.out)) | (with_reducible refine Kd.C_alloc ?_ _) | (with_reducible refine Kd.C_drewN ?_ _) | (with_reducible refine Kd.C_drew ?_))); (case side2 => exact HC108_0.out); rintro e w' ⟨rfl, ⟨nd, rfl⟩⟩; (try first | exact ⟨rfl, _, World.drewN_drewN _ _ _⟩ | exact ⟨rfl, _, Eq.trans (World.drewN_drewN _ _ _) (congrArg (World.drewN _) (Nat.add_assoc _ _ _))⟩))); try go_wp2_with (first | (go_at_call 100; (with_reducible refine (cupolaref01_In.calls k3 _ _ (rd_L4 t105 x9_2) x10_3 true _ ?side1 ?side2 A15.out).mono ?_); (case side1 => repeat (first | exact (by repeat (first | (with_reducible exact HR108_0.out) | (with_reducible refine Kd.C_alloc ?_ _) | (with_reducible refine Kd.C_drewN ?_ _) | (with_reducible refine Kd.C_drew ?_) | exact HR108_0.out)) | (with_reducible refine Kd.C_alloc ?_ _) | (with_reducible refine Kd.C_drewN ?_ _) | (with_reducible refine Kd.C_drew ?_))); (case side2 => exact HC108_0.out); rintro e w' ⟨rfl, ⟨nd, rfl⟩⟩; (try first | exact ⟨rfl, _, World.drewN_drewN _ _ _⟩ | exact ⟨rfl, _, Eq.trans (World.drewN_drewN _ _ _) (congrArg (World.drewN _) (Nat.add_assoc _ _ _))⟩))))
             go_roundg k3
             case measure => have := HK1.out; have := HK2.out; have := HK3.out; omega
             case rel => exact ⟨(wrap64 (x10_3 + 1)), (by first | rfl | (simp; done) | (simp [*]; done)), H', ⟨by have := HK1.out; have := HK2.out; have := HK3.out; omega⟩, ⟨by (with_reducible repeat (first | apply Kd.N_alloc | apply Kd.N_drewN | apply Kd.N_drew)); exact HO_8.out⟩, ⟨bp9 HB.out⟩⟩
            ·replace c16 := Bool.eq_false_iff.mpr c16
             subst c16
             rw [if_neg (show ¬ (false = true) by decide)] at H
             exact absurd ((Option.some.inj H).trans HT9.out) (by decide)
           ·rw [if_neg c14] at H
            exact absurd H (by simp)
          ·rw [if_neg c13] at H
           exact absurd H (by simp)
         ·rw [if_neg c12] at H
          have c12b0 : decide (x10_3 < (wrap64 (Int.tmod a0 7))) = false := decide_eq_false c12
          clear c12
          by_cases c17 : x9_2 > 0
          ·rw [if_pos c17] at H
           have c17b0 : decide (0 < x9_2) = true := decide_eq_true c17
           clear c17
           by_cases c18 : 0 ≤ x9_2
           ·rw [if_pos c18] at H
            have c18b0 : decide (0 ≤ x9_2) = true := decide_eq_true c18
            clear c18
            by_cases c19 : x9_2 < (t105.length : Int)
            ·rw [if_pos c19] at H
             have c19b0 : decide (x9_2 < (t105.length : Int)) = true := decide_eq_true c19
             clear c19
             obtain ⟨ji20, hji20⟩ : ∃ j_ : Int, (wrap64 (x9_2 - 1)) = j_ := ⟨_, rfl⟩
             replace H : (if 0 ≤ (ji20) then (if (ji20) < (t105.length : Int) then ((cupolaref01_Ints.f k3 (rd_L4 t105 x9_2) (rd_L4 t105 (ji20))).bind fun t112 => (if t112 = true then (some false) else (cupolalaw06_OrderMany.l1 k3 t101 (wrap64 (Int.tmod a0 7)) x6_1 t105 (wrap64 (x9_2 + 1))))) else (none)) else (none)) = some r := by first | (rw [hji20] at H; exact H) | (simp only [hji20] at H ⊢; exact H)
             have hji20w : (IntKind.i64.wrap (x9_2 - 1)) = ji20 := (i64_w _).trans hji20
             by_cases c21 : 0 ≤ (ji20)
             ·rw [if_pos c21] at H
              have c21b0 : decide (0 ≤ (ji20)) = true := decide_eq_true c21
              clear c21
              by_cases c22 : (ji20) < (t105.length : Int)
              ·rw [if_pos c22] at H
               have c22b0 : decide ((ji20) < (t105.length : Int)) = true := decide_eq_true c22
               clear c22
               replace H := Option.bind_eq_some_iff.mp H
               obtain ⟨t112, A230, H⟩ := H
               have A23 := Aside0.mk A230
               clear A230
               by_cases c24 : t112 = true
               ·subst c24
                rw [if_pos rfl] at H
                exact absurd ((Option.some.inj H).trans HT9.out) (by decide)
               ·replace c24 := Bool.eq_false_iff.mpr c24
                subst c24
                rw [if_neg (show ¬ (false = true) by decide)] at H
                have H' := Aside0.mk H
                clear H
                have p110 : 0 ≤ (x9_2 : Int) := of_decide_eq_true (by first | (with_reducible assumption) | assumption)
                have q110 : x9_2 < (t105.length : Int) := of_decide_eq_true (by first | (with_reducible assumption) | assumption)
                obtain ⟨ad110, A110_0, c110_0, e110, hx110_0, hl110_0, hi110_0⟩ := at_L4 (Kd.N_reads' HO_8.out).2.2 x9_2 p110 q110
                cases e110
                obtain ⟨ce110, hce110, hMe110, hcc110⟩ := Kd.N_get HO_8.out [] x9_2 p110 (by first | exact q110 | exact of_decide_eq_true (by first | (with_reducible assumption) | assumption) | (have e_ := (Kd.N_reads' HO_8.out).1; omega))
                obtain ⟨ua110_0, uc110_0, rfl, ul110_0, ge110_0⟩ := Kd.FK_slice_open hMe110
                have hv110_0 := hcc110 0 _ rfl
                rw [Nat.add_zero, show ((Kd.slice 3 (Kd.int .i64))).sz = 1 from rfl, Nat.mul_one] at hv110_0
                replace hv110_0 := Option.some.inj (hv110_0.symm.trans hx110_0)
                injection hv110_0 with hva_ hvn_ hvc_
                rw [hva_] at ge110_0
                rw [hvc_] at ul110_0
                have HL110_0 := Aside0.mk (show Kd.V (Kd.int .i64) 3 _ w.heap.size _ _ (rd_L4 t105 x9_2) from Kd.V_mk ul110_0 ge110_0)
                clear hva_ hvn_ hvc_ ge110_0 ul110_0
                clear hcc110 hce110
                have HR110_0 := Aside0.mk hi110_0
                have HC110_0 := Aside0.mk hl110_0
                clear hi110_0 hl110_0
                replace p110 := eq_true p110
                replace q110 := eq_true q110
                have p111 : 0 ≤ ((ji20) : Int) := of_decide_eq_true (by first | (with_reducible assumption) | assumption)
                have q111 : (ji20) < (t105.length : Int) := of_decide_eq_true (by first | (with_reducible assumption) | assumption)
                obtain ⟨ad111, A111_0, c111_0, e111, hx111_0, hl111_0, hi111_0⟩ := at_L4 (Kd.N_reads' HO_8.out).2.2 (ji20) p111 q111
                obtain rfl : ad110 = ad111 := (by injection e111)
                obtain ⟨ce111, hce111, hMe111, hcc111⟩ := Kd.N_get HO_8.out [] (ji20) p111 (by first | exact q111 | exact of_decide_eq_true (by first | (with_reducible assumption) | assumption) | (have e_ := (Kd.N_reads' HO_8.out).1; omega))
                obtain ⟨ua111_0, uc111_0, rfl, ul111_0, ge111_0⟩ := Kd.FK_slice_open hMe111
                have hv111_0 := hcc111 0 _ rfl
                rw [Nat.add_zero, show ((Kd.slice 3 (Kd.int .i64))).sz = 1 from rfl, Nat.mul_one] at hv111_0
                replace hv111_0 := Option.some.inj (hv111_0.symm.trans hx111_0)
                injection hv111_0 with hva_ hvn_ hvc_
                rw [hva_] at ge111_0
                rw [hvc_] at ul111_0
                have HL111_0 := Aside0.mk (show Kd.V (Kd.int .i64) 3 _ w.heap.size _ _ (rd_L4 t105 (ji20)) from Kd.V_mk ul111_0 ge111_0)
                clear hva_ hvn_ hvc_ ge111_0 ul111_0
                clear hcc111 hce111
                have HR111_0 := Aside0.mk hi111_0
                have HC111_0 := Aside0.mk hl111_0
                clear hi111_0 hl111_0
                replace p111 := eq_true p111
                replace q111 := eq_true q111
                go_wp2_with (first | (go_at_call 34; (with_reducible refine (cupolaref01_Ints.calls k3 _ _ (rd_L4 t105 x9_2) _ _ (rd_L4 t105 (ji20)) false _ ?side1 ?side2 ?side3 ?side4 A23.out).mono ?_); (case side1 => repeat (first | exact (by repeat (first | (with_reducible exact HR110_0.out) | (with_reducible refine Kd.C_alloc ?_ _) | (with_reducible refine Kd.C_drewN ?_ _) | (with_reducible refine Kd.C_drew ?_) | exact HR110_0.out)) | (with_reducible refine Kd.C_alloc ?_ _) | (with_reducible refine Kd.C_drewN ?_ _) | (with_reducible refine Kd.C_drew ?_))); (case side2 => exact HC110_0.out); (case side3 => repeat (first | exact (by repeat (first | (with_reducible exact HR111_0.out) | (with_reducible refine Kd.C_alloc ?_ _) | (with_reducible refine Kd.C_drewN ?_ _) | (with_reducible refine Kd.C_drew ?_) | exact HR111_0.out)) | (with_reducible refine Kd.C_alloc ?_ _) | (with_reducible refine Kd.C_drewN ?_ _) | (with_reducible refine Kd.C_drew ?_))); (case side4 => exact HC111_0.out); rintro e w' ⟨rfl, ⟨nd, rfl⟩⟩; (try first | exact ⟨rfl, _, World.drewN_drewN _ _ _⟩ | exact ⟨rfl, _, Eq.trans (World.drewN_drewN _ _ _) (congrArg (World.drewN _) (Nat.add_assoc _ _ _))⟩)))
                repeat (go_quiet (first | (go_at_call 34; (with_reducible refine (cupolaref01_Ints.calls k3 _ _ (rd_L4 t105 x9_2) _ _ (rd_L4 t105 (ji20)) false _ ?side1 ?side2 ?side3 ?side4 A23.out).mono ?_); (case side1 => repeat (first | exact (by repeat (first | (with_reducible exact HR110_0.out) | (with_reducible refine Kd.C_alloc ?_ _) | (with_reducible refine Kd.C_drewN ?_ _) | (with_reducible refine Kd.C_drew ?_) | exact HR110_0.out)) | (with_reducible refine Kd.C_alloc ?_ _) | (with_reducible refine Kd.C_drewN ?_ _) | (with_reducible refine Kd.C_drew ?_))); (case side2 => exact HC110_0.out); (case side3 => repeat (first | exact (by repeat (first | (with_reducible exact HR111_0.out) | (with_reducible refine Kd.C_alloc ?_ _) | (with_reducible refine Kd.C_drewN ?_ _) | (with_reducible refine Kd.C_drew ?_) | exact HR111_0.out)) | (with_reducible refine Kd.C_alloc ?_ _) | (with_reducible refine Kd.C_drewN ?_ _) | (with_reducible refine Kd.C_drew ?_))); (case side4 => exact HC111_0.out); rintro e w' ⟨rfl, ⟨nd, rfl⟩⟩; (try first | exact ⟨rfl, _, World.drewN_drewN _ _ _⟩ | exact ⟨rfl, _, Eq.trans (World.drewN_drewN _ _ _) (congrArg (World.drewN _) (Nat.add_assoc _ _ _))⟩))); try go_wp2_with (first | (go_at_call 34; (with_reducible refine (cupolaref01_Ints.calls k3 _ _ (rd_L4 t105 x9_2) _ _ (rd_L4 t105 (ji20)) false _ ?side1 ?side2 ?side3 ?side4 A23.out).mono ?_); (case side1 => repeat (first | exact (by repeat (first | (with_reducible exact HR110_0.out) | (with_reducible refine Kd.C_alloc ?_ _) | (with_reducible refine Kd.C_drewN ?_ _) | (with_reducible refine Kd.C_drew ?_) | exact HR110_0.out)) | (with_reducible refine Kd.C_alloc ?_ _) | (with_reducible refine Kd.C_drewN ?_ _) | (with_reducible refine Kd.C_drew ?_))); (case side2 => exact HC110_0.out); (case side3 => repeat (first | exact (by repeat (first | (with_reducible exact HR111_0.out) | (with_reducible refine Kd.C_alloc ?_ _) | (with_reducible refine Kd.C_drewN ?_ _) | (with_reducible refine Kd.C_drew ?_) | exact HR111_0.out)) | (with_reducible refine Kd.C_alloc ?_ _) | (with_reducible refine Kd.C_drewN ?_ _) | (with_reducible refine Kd.C_drew ?_))); (case side4 => exact HC111_0.out); rintro e w' ⟨rfl, ⟨nd, rfl⟩⟩; (try first | exact ⟨rfl, _, World.drewN_drewN _ _ _⟩ | exact ⟨rfl, _, Eq.trans (World.drewN_drewN _ _ _) (congrArg (World.drewN _) (Nat.add_assoc _ _ _))⟩))))
                go_roundg k3
                case measure => have := HK1.out; have := HK2.out; have := HK3.out; omega
                case rel => exact ⟨(wrap64 (x9_2 + 1)), (by first | rfl | (simp; done) | (simp [*]; done)), H', ⟨by have := HK1.out; have := HK2.out; have := HK3.out; omega⟩, ⟨by (with_reducible repeat (first | apply Kd.N_alloc | apply Kd.N_drewN | apply Kd.N_drew)); exact HO_8.out⟩, ⟨bp9 HB.out⟩⟩
              ·rw [if_neg c22] at H
               exact absurd H (by simp)
             ·rw [if_neg c21] at H
              exact absurd H (by simp)
            ·rw [if_neg c19] at H
             exact absurd H (by simp)
           ·rw [if_neg c18] at H
            exact absurd H (by simp)
          ·rw [if_neg c17] at H
           have c17b0 : decide (0 < x9_2) = false := decide_eq_false c17
           clear c17
           have H' := Aside0.mk H
           clear H
           go_wp2
           repeat (go_quiet (fail); try go_wp2)
           go_roundg k3
           case measure => have := HK1.out; have := HK2.out; have := HK3.out; omega
           case rel => exact ⟨(wrap64 (x9_2 + 1)), (by first | rfl | (simp; done) | (simp [*]; done)), H', ⟨by have := HK1.out; have := HK2.out; have := HK3.out; omega⟩, ⟨by (with_reducible repeat (first | apply Kd.N_alloc | apply Kd.N_drewN | apply Kd.N_drew)); exact HO_8.out⟩, ⟨bp9 HB.out⟩⟩
      ·rw [if_neg c10] at H
       have c10b0 : decide (x9_2 < (t105.length : Int)) = false := decide_eq_false c10
       clear c10
       by_cases c25 : t101 = true
       ·subst c25
        rw [if_pos rfl] at H
        by_cases c26 : (t105.length : Int) = x6_1
        ·rw [if_pos c26] at H
         have c26b0 : ((t105.length : Int) == x6_1) = true := beq_iff_eq.mpr c26
         have c26b1 : ((t105.length : Int) != x6_1) = false := bne_eq_false_iff_eq.mpr c26
         clear c26
         replace H := Option.bind_eq_some_iff.mp H
         obtain ⟨t113, A270, H⟩ := H
         have A27 := Aside0.mk A270
         clear A270
         replace H := Option.bind_eq_some_iff.mp H
         obtain ⟨t116, A280, H⟩ := H
         have A28 := Aside0.mk A280
         clear A280
         replace H := Option.bind_eq_some_iff.mp H
         obtain ⟨t119, A290, H⟩ := H
         have A29 := Aside0.mk A290
         clear A290
         obtain rfl := Option.some.inj H
         obtain ⟨Ao30, co30, eo30⟩ := Kd.N_slice HO_8.out
         subst eo30
         go_wp2_with (first | (go_at_call 37; (with_reducible refine (rel_New.calls (wrap64 (Int.tmod a0 7)) t113 _ A27.out).mono ?_); rintro e w31 ⟨v114, rfl, ho0, hb⟩; have n0_ := Aside0.mk (Kd.N_elder' (by (with_reducible repeat (first | apply Kd.N_alloc | apply Kd.N_drewN | apply Kd.N_drew)); exact HO_8.out) (Kd.R_base ho0) hb); have n1_ := Aside0.mk (Kd.R_lower ho0 (below_size (bp9 HB.out))); have n2_ := Aside0.mk (below_step (bp9 HB.out) hb); clear HO_8; clear HB; have HO_8 := n0_; have HO115 := n1_; have HB := n2_; clear n0_ n1_ n2_; (try clear hb); (try clear hb2); (try clear hk); (try clear hi); (try clear ho0); obtain ⟨Ao32, co32, eo32⟩ := Kd.R_slice HO115.out; subst eo32) | (go_at_call 91; (with_reducible refine (order_Linear.calls k2 _ _ t113 t116 _ ?side1 ?side2 A28.out).mono ?_); (case side1 => exact lp9 (Kd.R_reads' HO115.out).2.2); (case side2 => exact (Kd.R_reads' HO115.out).2.1); rintro e w33 ⟨v117, rfl, ho0, hb⟩; have n0_ := Aside0.mk (Kd.N_elder' (by (with_reducible repeat (first | apply Kd.N_alloc | apply Kd.N_drewN | apply Kd.N_drew)); exact HO_8.out) (by first | exact Kd.N_base ho0 | exact Kd.S_base ho0) hb); have n1_ := Aside0.mk (Kd.R_below (rp9 HO115.out) hb); have n2_ := Aside0.mk (Kd.N_lower (Kd.N_mono (ok' := fun k_ => some k_ ≠ (.slice Ao30 t105.length co30 : Value).ownBlock ∧ some k_ ≠ (.slice Ao32 t113.length co32 : Value).ownBlock) (Kd.S_N (Kd.S_bound ho0)) (fun k_ hk_ => ⟨(Kd.fresh' (Kd.N_lt (by (with_reducible repeat (first | apply Kd.N_alloc | apply Kd.N_drewN | apply Kd.N_drew)); exact HO_8.out)) k_ hk_.2.1), (Kd.fresh' (Kd.R_lt (rp9 HO115.out)) k_ hk_.2.1)⟩)) (below_size (bp9 HB.out))); have n3_ := Aside0.mk (below_step (bp9 HB.out) hb); clear HO_8; clear HO115; clear HB; have HO_8 := n0_; have HO115 := n1_; have HO118 := n2_; have HB := n3_; clear n0_ n1_ n2_ n3_; (try clear hb); (try clear hb2); (try clear hk); (try clear hi); (try clear ho0); obtain ⟨Ao34, co34, eo34⟩ := Kd.N_slice HO118.out; subst eo34) | (go_at_call 35; (with_reducible refine (cupolaref06_Lists.calls k2 _ _ t116 _ _ t105 t119 _ ?side1 ?side2 ?side3 ?side4 A29.out).mono ?_); (case side1 => exact lp9 (Kd.N_reads' HO118.out).2.2); (case side2 => exact (Kd.N_reads' HO118.out).2.1); (case side3 => exact lp9 (Kd.N_reads' HO_8.out).2.2); (case side4 => exact (Kd.N_reads' HO_8.out).2.1); rintro e w' ⟨rfl, ⟨nd, rfl⟩⟩; (try first | exact ⟨rfl, _, World.drewN_drewN _ _ _⟩ | exact ⟨rfl, _, Eq.trans (World.drewN_drewN _ _ _) (congrArg (World.drewN _) (Nat.add_assoc _ _ _))⟩)))
         repeat (go_quiet (first | (go_at_call 37; (with_reducible refine (rel_New.calls (wrap64 (Int.tmod a0 7)) t113 _ A27.out).mono ?_); rintro e w31 ⟨v114, rfl, ho0, hb⟩; have n0_ := Aside0.mk (Kd.N_elder' (by (with_reducible repeat (first | apply Kd.N_alloc | apply Kd.N_drewN | apply Kd.N_drew)); exact HO_8.out) (Kd.R_base ho0) hb); have n1_ := Aside0.mk (Kd.R_lower ho0 (below_size (bp9 HB.out))); have n2_ := Aside0.mk (below_step (bp9 HB.out) hb); clear HO_8; clear HB; have HO_8 := n0_; have HO115 := n1_; have HB := n2_; clear n0_ n1_ n2_; (try clear hb); (try clear hb2); (try clear hk); (try clear hi); (try clear ho0); obtain ⟨Ao32, co32, eo32⟩ := Kd.R_slice HO115.out; subst eo32) | (go_at_call 91; (with_reducible refine (order_Linear.calls k2 _ _ t113 t116 _ ?side1 ?side2 A28.out).mono ?_); (case side1 => exact lp9 (Kd.R_reads' HO115.out).2.2); (case side2 => exact (Kd.R_reads' HO115.out).2.1); rintro e w33 ⟨v117, rfl, ho0, hb⟩; have n0_ := Aside0.mk (Kd.N_elder' (by (with_reducible repeat (first | apply Kd.N_alloc | apply Kd.N_drewN | apply Kd.N_drew)); exact HO_8.out) (by first | exact Kd.N_base ho0 | exact Kd.S_base ho0) hb); have n1_ := Aside0.mk (Kd.R_below (rp9 HO115.out) hb); have n2_ := Aside0.mk (Kd.N_lower (Kd.N_mono (ok' := fun k_ => some k_ ≠ (.slice Ao30 t105.length co30 : Value).ownBlock ∧ some k_ ≠ (.slice Ao32 t113.length co32 : Value).ownBlock) (Kd.S_N (Kd.S_bound ho0)) (fun k_ hk_ => ⟨(Kd.fresh' (Kd.N_lt (by (with_reducible repeat (first | apply Kd.N_alloc | apply Kd.N_drewN | apply Kd.N_drew)); exact HO_8.out)) k_ hk_.2.1), (Kd.fresh' (Kd.R_lt (rp9 HO115.out)) k_ hk_.2.1)⟩)) (below_size (bp9 HB.out))); have n3_ := Aside0.mk (below_step (bp9 HB.out) hb); clear HO_8; clear HO115; clear HB; have HO_8 := n0_; have HO115 := n1_; have HO118 := n2_; have HB := n3_; clear n0_ n1_ n2_ n3_; (try clear hb); (try clear hb2); (try clear hk); (try clear hi); (try clear ho0); obtain ⟨Ao34, co34, eo34⟩ := Kd.N_slice HO118.out; subst eo34) | (go_at_call 35; (with_reducible refine (cupolaref06_Lists.calls k2 _ _ t116 _ _ t105 t119 _ ?side1 ?side2 ?side3 ?side4 A29.out).mono ?_); (case side1 => exact lp9 (Kd.N_reads' HO118.out).2.2); (case side2 => exact (Kd.N_reads' HO118.out).2.1); (case side3 => exact lp9 (Kd.N_reads' HO_8.out).2.2); (case side4 => exact (Kd.N_reads' HO_8.out).2.1); rintro e w' ⟨rfl, ⟨nd, rfl⟩⟩; (try first | exact ⟨rfl, _, World.drewN_drewN _ _ _⟩ | exact ⟨rfl, _, Eq.trans (World.drewN_drewN _ _ _) (congrArg (World.drewN _) (Nat.add_assoc _ _ _))⟩))); try go_wp2_with (first | (go_at_call 37; (with_reducible refine (rel_New.calls (wrap64 (Int.tmod a0 7)) t113 _ A27.out).mono ?_); rintro e w31 ⟨v114, rfl, ho0, hb⟩; have n0_ := Aside0.mk (Kd.N_elder' (by (with_reducible repeat (first | apply Kd.N_alloc | apply Kd.N_drewN | apply Kd.N_drew)); exact HO_8.out) (Kd.R_base ho0) hb); have n1_ := Aside0.mk (Kd.R_lower ho0 (below_size (bp9 HB.out))); have n2_ := Aside0.mk (below_step (bp9 HB.out) hb); clear HO_8; clear HB; have HO_8 := n0_; have HO115 := n1_; have HB := n2_; clear n0_ n1_ n2_; (try clear hb); (try clear hb2); (try clear hk); (try clear hi); (try clear ho0); obtain ⟨Ao32, co32, eo32⟩ := Kd.R_slice HO115.out; subst eo32) | (go_at_call 91; (with_reducible refine (order_Linear.calls k2 _ _ t113 t116 _ ?side1 ?side2 A28.out).mono ?_); (case side1 => exact lp9 (Kd.R_reads' HO115.out).2.2); (case side2 => exact (Kd.R_reads' HO115.out).2.1); rintro e w33 ⟨v117, rfl, ho0, hb⟩; have n0_ := Aside0.mk (Kd.N_elder' (by (with_reducible repeat (first | apply Kd.N_alloc | apply Kd.N_drewN | apply Kd.N_drew)); exact HO_8.out) (by first | exact Kd.N_base ho0 | exact Kd.S_base ho0) hb); have n1_ := Aside0.mk (Kd.R_below (rp9 HO115.out) hb); have n2_ := Aside0.mk (Kd.N_lower (Kd.N_mono (ok' := fun k_ => some k_ ≠ (.slice Ao30 t105.length co30 : Value).ownBlock ∧ some k_ ≠ (.slice Ao32 t113.length co32 : Value).ownBlock) (Kd.S_N (Kd.S_bound ho0)) (fun k_ hk_ => ⟨(Kd.fresh' (Kd.N_lt (by (with_reducible repeat (first | apply Kd.N_alloc | apply Kd.N_drewN | apply Kd.N_drew)); exact HO_8.out)) k_ hk_.2.1), (Kd.fresh' (Kd.R_lt (rp9 HO115.out)) k_ hk_.2.1)⟩)) (below_size (bp9 HB.out))); have n3_ := Aside0.mk (below_step (bp9 HB.out) hb); clear HO_8; clear HO115; clear HB; have HO_8 := n0_; have HO115 := n1_; have HO118 := n2_; have HB := n3_; clear n0_ n1_ n2_ n3_; (try clear hb); (try clear hb2); (try clear hk); (try clear hi); (try clear ho0); obtain ⟨Ao34, co34, eo34⟩ := Kd.N_slice HO118.out; subst eo34) | (go_at_call 35; (with_reducible refine (cupolaref06_Lists.calls k2 _ _ t116 _ _ t105 t119 _ ?side1 ?side2 ?side3 ?side4 A29.out).mono ?_); (case side1 => exact lp9 (Kd.N_reads' HO118.out).2.2); (case side2 => exact (Kd.N_reads' HO118.out).2.1); (case side3 => exact lp9 (Kd.N_reads' HO_8.out).2.2); (case side4 => exact (Kd.N_reads' HO_8.out).2.1); rintro e w' ⟨rfl, ⟨nd, rfl⟩⟩; (try first | exact ⟨rfl, _, World.drewN_drewN _ _ _⟩ | exact ⟨rfl, _, Eq.trans (World.drewN_drewN _ _ _) (congrArg (World.drewN _) (Nat.add_assoc _ _ _))⟩))))
         go_ret
         exact ⟨by first | rfl | (simp [errW_none, errW_some] <;> rfl) | (simp [*, errW_none, errW_some] <;> rfl), bp9 HB.out⟩
        ·rw [if_neg c26] at H
         have c26b0 : ((t105.length : Int) == x6_1) = false := beq_eq_false_iff_ne.mpr c26
         have c26b1 : ((t105.length : Int) != x6_1) = true := bne_iff_ne.mpr c26
         exact absurd ((Option.some.inj H).trans HT9.out) (by decide)
       ·replace c25 := Bool.eq_false_iff.mpr c25
        subst c25
        rw [if_neg (show ¬ (false = true) by decide)] at H
        exact absurd ((Option.some.inj H).trans HT9.out) (by decide)

/-- THE ONE PURE STATEMENT of cupolalaw06_OrderMany: yours. -/
def cupolalaw06_OrderMany.Pure : Prop := ∀ (a0 : Int), (Lit.int .u8 a0).wf = true → ∃ k, cupolalaw06_OrderMany.f k a0 = some true
theorem cupolalaw06_OrderMany.walk (P : cupolalaw06_OrderMany.Pure) (a0 : Int) (w : World) (w0 : (Lit.int .u8 a0).wf = true) :
  Calls Try.prog 24 #[.int .u8 a0] w fun e w' => e = .returned (.bool true) ∧ Below w.heap.size w w' := by
 obtain ⟨k, h⟩ := P a0 w0
 refine (cupolalaw06_OrderMany.calls k a0 true rfl w h).mono ?_
 rintro e w' ⟨rfl, hd⟩
 exact ⟨rfl, hd⟩

end Go.Proofs.Ytbamkkdikeedoaa.G
