-- Written by drive.py, a program of this seat's session, out of the translation.
import Derived.Test.YtbamkkdikeedoaaG0
import Derived.Test.YtbamkkdikeedoaaGCupolaref05
import Derived.Test.YtbamkkdikeedoaaHandCz
namespace Go.Proofs.Ytbamkkdikeedoaa.G
open Go.RowKit Go.Proofs.YtbamkkdikeedoaaW.PrintWords Go.Proofs.YtbamkkdikeedoaaW.PrintLast Go.Proofs.YtbamkkdikeedoaaW.PrintMore
set_option maxHeartbeats 8000000
set_option maxRecDepth 100000
set_option linter.unusedVariables false
set_option linter.unusedSimpArgs false
def cupolaref13_part.l0 : Nat → Bool → Int → List (S46) → List (S46) → Int → List (S26) → List Int → List Int → List Int → List Int → List Int → List (List Int) → Option (List Int)
 | 0, _, _, _, _, _, _, _, _, _, _, _, _ => none
 | k + 1, x2, x7, x8, x9, x10, x102000, x102001, x102002, x102003, x102004, x102005, x102006 => if x10 < (x9.length : Int) then (if 0 ≤ x10 then (if ((rd_T46 x9 x10).f0) = ((rd_T46 x9 x10).f1) then (cupolaref13_part.l0 k x2 x7 x8 x9 (wrap64 (x10 + 1)) x102000 x102001 x102002 x102003 x102004 x102005 x102006) else (if 0 ≤ ((rd_T46 x9 x10).f0) then (if ((rd_T46 x9 x10).f0) < (x102000.length : Int) then (if 0 ≤ ((rd_T46 x9 x10).f1) then (if ((rd_T46 x9 x10).f1) < (x102000.length : Int) then (if ((((rd_T26 x102000 ((rd_T46 x9 x10).f0)).f0) == ((rd_T26 x102000 ((rd_T46 x9 x10).f1)).f0)) == x2) = true then (if x8.length < 8796093022208 then (cupolaref13_part.l0 k x2 x7 (x8 ++ [(⟨(rd_T46 x9 x10).f0, (rd_T46 x9 x10).f1⟩ : S46)]) x9 (wrap64 (x10 + 1)) x102000 x102001 x102002 x102003 x102004 x102005 x102006) else (none)) else (cupolaref13_part.l0 k x2 x7 x8 x9 (wrap64 (x10 + 1)) x102000 x102001 x102002 x102003 x102004 x102005 x102006)) else (none)) else (none)) else (none)) else (none))) else (none)) else ((cupolaref05_Made.f k x7 x8).bind fun t114 => (some t114))
def cupolaref13_part.f (k : Nat) (l0_0 : List (S26)) (l0_1 : List Int) (l0_2 : List Int) (l0_3 : List Int) (l0_4 : List Int) (l0_5 : List Int) (l0_6 : List (List Int)) (l1 : List Int) (a2 : Bool) : Option (List Int) := (cupolaref05_Size.f l1).bind fun t102 => (if t102 = (l0_0.length : Int) then ((cupolaref05_Pairs.f k l1).bind fun t103 => (cupolaref13_part.l0 k a2 (l0_0.length : Int) ([] : List (S46)) t103 0 l0_0 l0_1 l0_2 l0_3 l0_4 l0_5 l0_6)) else (some ([] : List Int)))
theorem cupolaref13_part.calls (k : Nat) (A0_0 : Option Addr) (c0_0 : Nat) (l0_0 : List (S26)) (A0_1 : Option Addr) (c0_1 : Nat) (l0_1 : List Int) (A0_2 : Option Addr) (c0_2 : Nat) (l0_2 : List Int) (A0_3 : Option Addr) (c0_3 : Nat) (l0_3 : List Int) (A0_4 : Option Addr) (c0_4 : Nat) (l0_4 : List Int) (A0_5 : Option Addr) (c0_5 : Nat) (l0_5 : List Int) (A0_6 : Option Addr) (c0_6 : Nat) (l0_6 : List (List Int)) (A1 : Option Addr) (c1 : Nat) (l1 : List Int) (a2 : Bool) (r : List Int) (w : World) (hr0_0 : Kd.C k26 w A0_0 l0_0.length l0_0) (hc0_0 : l0_0.length ≤ c0_0) (hr0_1 : Kd.C (Kd.int .u32) w A0_1 l0_1.length l0_1) (hc0_1 : l0_1.length ≤ c0_1) (hr0_2 : Kd.C (Kd.int .u32) w A0_2 l0_2.length l0_2) (hc0_2 : l0_2.length ≤ c0_2) (hr0_3 : Kd.C (Kd.int .u32) w A0_3 l0_3.length l0_3) (hc0_3 : l0_3.length ≤ c0_3) (hr0_4 : Kd.C (Kd.int .u32) w A0_4 l0_4.length l0_4) (hc0_4 : l0_4.length ≤ c0_4) (hr0_5 : Kd.C (Kd.int .u32) w A0_5 l0_5.length l0_5) (hc0_5 : l0_5.length ≤ c0_5) (hr0_6 : Kd.C (Kd.slice 2 (Kd.int .i64)) w A0_6 l0_6.length l0_6) (hc0_6 : l0_6.length ≤ c0_6) (hr1 : Kd.C (Kd.int .u32) w A1 l1.length l1) (hc1 : l1.length ≤ c1) (h : cupolaref13_part.f k l0_0 l0_1 l0_2 l0_3 l0_4 l0_5 l0_6 l1 a2 = some r) :
  Calls Try.prog 154 #[.agg #[.slice A0_0 l0_0.length c0_0, .slice A0_1 l0_1.length c0_1, .slice A0_2 l0_2.length c0_2, .slice A0_3 l0_3.length c0_3, .slice A0_4 l0_4.length c0_4, .slice A0_5 l0_5.length c0_5, .slice A0_6 l0_6.length c0_6], .slice A1 l1.length c1, .bool a2] w fun e w' => ∃ v0_ : Value, e = .returned (v0_) ∧ Kd.R (Kd.int .u32) 52 w' w.heap.size (fun _ => True) v0_ r ∧ Below w.heap.size w w' := by
 have hu76 := Try.underlying76
 have hu46 := Try.underlying46
 have HR0_0 := a9_ hr0_0
 have HC0_0 := a9_ hc0_0
 clear hr0_0 hc0_0
 have HR0_1 := a9_ hr0_1
 have HC0_1 := a9_ hc0_1
 clear hr0_1 hc0_1
 have HR0_2 := a9_ hr0_2
 have HC0_2 := a9_ hc0_2
 clear hr0_2 hc0_2
 have HR0_3 := a9_ hr0_3
 have HC0_3 := a9_ hc0_3
 clear hr0_3 hc0_3
 have HR0_4 := a9_ hr0_4
 have HC0_4 := a9_ hc0_4
 clear hr0_4 hc0_4
 have HR0_5 := a9_ hr0_5
 have HC0_5 := a9_ hc0_5
 clear hr0_5 hc0_5
 have HR0_6 := a9_ hr0_6
 have HC0_6 := a9_ hc0_6
 clear hr0_6 hc0_6
 have HR1 := a9_ hr1
 have HC1 := a9_ hc1
 clear hr1 hc1
 have HB := a9_ (Below.refl w.heap.size w)
 have H : ((cupolaref05_Size.f l1).bind fun t102 => (if t102 = (l0_0.length : Int) then ((cupolaref05_Pairs.f k l1).bind fun t103 => (cupolaref13_part.l0 k a2 (l0_0.length : Int) ([] : List (S46)) t103 0 l0_0 l0_1 l0_2 l0_3 l0_4 l0_5 l0_6)) else (some ([] : List Int)))) = some r := h
 clear h
 replace H := Option.bind_eq_some_iff.mp H
 obtain ⟨t102, A40, H⟩ := H
 have A4 := a9_ A40
 clear A40
 by_cases c5 : t102 = (l0_0.length : Int)
 ·rw [if_pos c5] at H
  have c5b0 : (t102 == (l0_0.length : Int)) = true := beq_iff_eq.mpr c5
  have c5b1 : (t102 != (l0_0.length : Int)) = false := bne_eq_false_iff_eq.mpr c5
  clear c5
  replace H := Option.bind_eq_some_iff.mp H
  obtain ⟨t103, A60, H⟩ := H
  have A6 := a9_ A60
  clear A60
  have H' := a9_ H
  clear H
  go_enter Try.func154, Try.ntmps154
  go_wp2_with (first | ((with_reducible refine gate_dst (N := 3) rfl ?_); refine box9 (N := 3) (cs := #[.slice A0_0 l0_0.length c0_0, .slice A0_1 l0_1.length c0_1, .slice A0_2 l0_2.length c0_2, .slice A0_3 l0_3.length c0_3, .slice A0_4 l0_4.length c0_4, .slice A0_5 l0_5.length c0_5, .slice A0_6 l0_6.length c0_6]) (t := 76) ?_; intro gb101 hg w7 hbox hb; have n0_ := a9_ (below_step (bp9 HB.out) hb); have n1_ := a9_ (hbox); have n2_ := a9_ ((by rw [hg]; exact (below_size (bp9 HB.out)) : w.heap.size ≤ gb101)); have n3_ := n2_; clear HB; have HB := n0_; have BK101 := n1_; have GW101 := n2_; have GE101 := n3_; clear n0_ n1_ n2_ n3_; clear hb hbox hg; obtain ⟨hcz8_0, hcz8_1, hcz8_2, hcz8_3, hcz8_4, hcz8_5, hcz8_6, hfz8_0, hfz8_1, hfz8_2, hfz8_3, hfz8_4, hfz8_5, hfz8_6⟩ := cz7 BK101.out) | (go_at_call 116; (with_reducible refine (cupolaref05_Size.calls _ _ l1 t102 _ ?side1 ?side2 A4.out).mono ?_); (case side1 => exact cp9 HR1.out HB.out); (case side2 => exact HC1.out); rintro e w' ⟨rfl, ⟨nd, rfl⟩⟩; (try first | exact ⟨rfl, _, World.drewN_drewN _ _ _⟩ | exact ⟨rfl, _, Eq.trans (World.drewN_drewN _ _ _) (congrArg (World.drewN _) (Nat.add_assoc _ _ _))⟩)) | (go_at_call 47; (with_reducible refine (cupolaref05_Pairs.calls k _ _ l1 t103 _ ?side1 ?side2 A6.out).mono ?_); (case side1 => repeat (first | exact (Kd.C_below HR1.out (bp9 HB.out)) | (with_reducible refine Kd.C_alloc ?_ _) | (with_reducible refine Kd.C_drewN ?_ _) | (with_reducible refine Kd.C_drew ?_))); (case side2 => exact HC1.out); rintro e w9 ⟨v104, rfl, ho0, hb⟩; have n0_ := a9_ (Kd.R_lower ho0 (below_size (bp9 HB.out))); have n1_ := a9_ (blk_below (kp9 BK101.out) hb); have n2_ := a9_ (below_step (bp9 HB.out) hb); clear BK101; clear HB; have HO105 := n0_; have BK101 := n1_; have HB := n2_; clear n0_ n1_ n2_; (try clear hb); (try clear ho0)))
  repeat (go_quiet (first | ((with_reducible refine gate_dst (N := 3) rfl ?_); refine box9 (N := 3) (cs := #[.slice A0_0 l0_0.length c0_0, .slice A0_1 l0_1.length c0_1, .slice A0_2 l0_2.length c0_2, .slice A0_3 l0_3.length c0_3, .slice A0_4 l0_4.length c0_4, .slice A0_5 l0_5.length c0_5, .slice A0_6 l0_6.length c0_6]) (t := 76) ?_; intro gb101 hg w7 hbox hb; have n0_ := a9_ (below_step (bp9 HB.out) hb); have n1_ := a9_ (hbox); have n2_ := a9_ ((by rw [hg]; exact (below_size (bp9 HB.out)) : w.heap.size ≤ gb101)); have n3_ := n2_; clear HB; have HB := n0_; have BK101 := n1_; have GW101 := n2_; have GE101 := n3_; clear n0_ n1_ n2_ n3_; clear hb hbox hg; obtain ⟨hcz8_0, hcz8_1, hcz8_2, hcz8_3, hcz8_4, hcz8_5, hcz8_6, hfz8_0, hfz8_1, hfz8_2, hfz8_3, hfz8_4, hfz8_5, hfz8_6⟩ := cz7 BK101.out) | (go_at_call 116; (with_reducible refine (cupolaref05_Size.calls _ _ l1 t102 _ ?side1 ?side2 A4.out).mono ?_); (case side1 => exact cp9 HR1.out HB.out); (case side2 => exact HC1.out); rintro e w' ⟨rfl, ⟨nd, rfl⟩⟩; (try first | exact ⟨rfl, _, World.drewN_drewN _ _ _⟩ | exact ⟨rfl, _, Eq.trans (World.drewN_drewN _ _ _) (congrArg (World.drewN _) (Nat.add_assoc _ _ _))⟩)) | (go_at_call 47; (with_reducible refine (cupolaref05_Pairs.calls k _ _ l1 t103 _ ?side1 ?side2 A6.out).mono ?_); (case side1 => repeat (first | exact (Kd.C_below HR1.out (bp9 HB.out)) | (with_reducible refine Kd.C_alloc ?_ _) | (with_reducible refine Kd.C_drewN ?_ _) | (with_reducible refine Kd.C_drew ?_))); (case side2 => exact HC1.out); rintro e w9 ⟨v104, rfl, ho0, hb⟩; have n0_ := a9_ (Kd.R_lower ho0 (below_size (bp9 HB.out))); have n1_ := a9_ (blk_below (kp9 BK101.out) hb); have n2_ := a9_ (below_step (bp9 HB.out) hb); clear BK101; clear HB; have HO105 := n0_; have BK101 := n1_; have HB := n2_; clear n0_ n1_ n2_; (try clear hb); (try clear ho0))); try go_wp2_with (first | ((with_reducible refine gate_dst (N := 3) rfl ?_); refine box9 (N := 3) (cs := #[.slice A0_0 l0_0.length c0_0, .slice A0_1 l0_1.length c0_1, .slice A0_2 l0_2.length c0_2, .slice A0_3 l0_3.length c0_3, .slice A0_4 l0_4.length c0_4, .slice A0_5 l0_5.length c0_5, .slice A0_6 l0_6.length c0_6]) (t := 76) ?_; intro gb101 hg w7 hbox hb; have n0_ := a9_ (below_step (bp9 HB.out) hb); have n1_ := a9_ (hbox); have n2_ := a9_ ((by rw [hg]; exact (below_size (bp9 HB.out)) : w.heap.size ≤ gb101)); have n3_ := n2_; clear HB; have HB := n0_; have BK101 := n1_; have GW101 := n2_; have GE101 := n3_; clear n0_ n1_ n2_ n3_; clear hb hbox hg; obtain ⟨hcz8_0, hcz8_1, hcz8_2, hcz8_3, hcz8_4, hcz8_5, hcz8_6, hfz8_0, hfz8_1, hfz8_2, hfz8_3, hfz8_4, hfz8_5, hfz8_6⟩ := cz7 BK101.out) | (go_at_call 116; (with_reducible refine (cupolaref05_Size.calls _ _ l1 t102 _ ?side1 ?side2 A4.out).mono ?_); (case side1 => exact cp9 HR1.out HB.out); (case side2 => exact HC1.out); rintro e w' ⟨rfl, ⟨nd, rfl⟩⟩; (try first | exact ⟨rfl, _, World.drewN_drewN _ _ _⟩ | exact ⟨rfl, _, Eq.trans (World.drewN_drewN _ _ _) (congrArg (World.drewN _) (Nat.add_assoc _ _ _))⟩)) | (go_at_call 47; (with_reducible refine (cupolaref05_Pairs.calls k _ _ l1 t103 _ ?side1 ?side2 A6.out).mono ?_); (case side1 => repeat (first | exact (Kd.C_below HR1.out (bp9 HB.out)) | (with_reducible refine Kd.C_alloc ?_ _) | (with_reducible refine Kd.C_drewN ?_ _) | (with_reducible refine Kd.C_drew ?_))); (case side2 => exact HC1.out); rintro e w9 ⟨v104, rfl, ho0, hb⟩; have n0_ := a9_ (Kd.R_lower ho0 (below_size (bp9 HB.out))); have n1_ := a9_ (blk_below (kp9 BK101.out) hb); have n2_ := a9_ (below_step (bp9 HB.out) hb); clear BK101; clear HB; have HO105 := n0_; have BK101 := n1_; have HB := n2_; clear n0_ n1_ n2_; (try clear hb); (try clear ho0))))
  go_loopg [8, 10] k (fun kq v8 v10 w' => ∃ (x8_1 : List (S46)) (x10_1 : Int), v10 = .int .i64 x10_1 ∧ Aside0 (cupolaref13_part.l0 kq a2 (l0_0.length : Int) x8_1 t103 x10_1 l0_0 l0_1 l0_2 l0_3 l0_4 l0_5 l0_6 = some r) ∧ Aside0 (kq ≤ k) ∧ Aside0 (Kd.R k46 46 w' w.heap.size (fun k_ => some k_ ≠ (v104 : Value).ownBlock) v8 x8_1) ∧ Aside0 (Kd.R k46 46 w' w.heap.size (fun k_ => some k_ ≠ (v8 : Value).ownBlock) v104 t103) ∧ Aside0 (w'.heap[gb101]? = some (.cells #[(.slice A0_0 l0_0.length c0_0), (.slice A0_1 l0_1.length c0_1), (.slice A0_2 l0_2.length c0_2), (.slice A0_3 l0_3.length c0_3), (.slice A0_4 l0_4.length c0_4), (.slice A0_5 l0_5.length c0_5), (.slice A0_6 l0_6.length c0_6)] 76 (0, 0))) ∧ Aside0 (Below w.heap.size w w'))
  case atStart => exact ⟨(([] : List (S46))), (0), rs9, H', ⟨Nat.le_refl _⟩, ⟨by first | exact Kd.R_nil _ _ _ _ _ | exact Kd.N_nil _ _ _ _ _ | exact Kd.V_nil _ _ _ _ _ | exact Kd.Q_nil _ _ _ _ _ | exact Kd.S_nil _ _ _ _ _⟩, ⟨by (with_reducible repeat (first | apply Kd.R_alloc | apply Kd.R_drewN | apply Kd.R_drew)); exact Kd.R_mono HO105.out (fun _ hk => (by simp [Value.ownBlock]))⟩, ⟨kp9 BK101.out⟩, ⟨bp9 HB.out⟩⟩
  case round =>
   clear H'
   try clear c1
   try clear p2
   try clear c5
   try clear c5b0
   try clear c5b1
   try clear hcz8_0 hcz8_1 hcz8_2 hcz8_3 hcz8_4 hcz8_5 hcz8_6
   try clear hfz8_0 hfz8_1 hfz8_2 hfz8_3 hfz8_4 hfz8_5 hfz8_6
   obtain ⟨x8_1, x10_1, rfl, HA, HK1, HO_8, HO_9, BK101, HB⟩ := hrel
   cases gk with
   | zero => exact absurd HA.out (by simp [cupolaref13_part.l0])
   | succ k1 =>
    have H := HA.out
    clear HA
    simp only [cupolaref13_part.l0] at H
    by_cases c10 : x10_1 < (t103.length : Int)
    ·rw [if_pos c10] at H
     have c10b0 : decide (x10_1 < (t103.length : Int)) = true := decide_eq_true c10
     clear c10
     by_cases c11 : 0 ≤ x10_1
     ·rw [if_pos c11] at H
      have c11b0 : decide (0 ≤ x10_1) = true := decide_eq_true c11
      clear c11
      by_cases c12 : ((rd_T46 t103 x10_1).f0) = ((rd_T46 t103 x10_1).f1)
      ·rw [if_pos c12] at H
       have c12b0 : (((rd_T46 t103 x10_1).f0) == ((rd_T46 t103 x10_1).f1)) = true := beq_iff_eq.mpr c12
       have c12b1 : (((rd_T46 t103 x10_1).f0) != ((rd_T46 t103 x10_1).f1)) = false := bne_eq_false_iff_eq.mpr c12
       clear c12
       have H' := a9_ H
       clear H
       obtain ⟨Ao13, co13, eo13⟩ := Kd.R_slice HO_9.out
       subst eo13
       have p106 : 0 ≤ (x10_1 : Int) := of_decide_eq_true (by first | (with_reducible assumption) | assumption)
       have q106 : x10_1 < (t103.length : Int) := of_decide_eq_true (by first | (with_reducible assumption) | assumption)
       obtain ⟨ad106, e106, hx106_0, hx106_1⟩ := at_T46 (Kd.R_reads' HO_9.out).2.2 x10_1 p106 q106
       cases e106
       replace p106 := eq_true p106
       replace q106 := eq_true q106
       have p107 : 0 ≤ (x10_1 : Int) := of_decide_eq_true (by first | (with_reducible assumption) | assumption)
       have q107 : x10_1 < (t103.length : Int) := of_decide_eq_true (by first | (with_reducible assumption) | assumption)
       obtain ⟨ad107, e107, hx107_0, hx107_1⟩ := at_T46 (Kd.R_reads' HO_9.out).2.2 x10_1 p107 q107
       obtain rfl : ad106 = ad107 := (by injection e107)
       replace p107 := eq_true p107
       replace q107 := eq_true q107
       go_wp2
       repeat (go_quiet (fail); try go_wp2)
       go_roundg k1
       case measure => have := HK1.out; omega
       case rel => exact ⟨(x8_1), (wrap64 (x10_1 + 1)), rs9, H', ⟨by have := HK1.out; omega⟩, ⟨rp9 HO_8.out⟩, ⟨rp9 HO_9.out⟩, ⟨kp9 BK101.out⟩, ⟨bp9 HB.out⟩⟩
      ·rw [if_neg c12] at H
       have c12b0 : (((rd_T46 t103 x10_1).f0) == ((rd_T46 t103 x10_1).f1)) = false := beq_eq_false_iff_ne.mpr c12
       have c12b1 : (((rd_T46 t103 x10_1).f0) != ((rd_T46 t103 x10_1).f1)) = true := bne_iff_ne.mpr c12
       by_cases c14 : 0 ≤ ((rd_T46 t103 x10_1).f0)
       ·rw [if_pos c14] at H
        have c14b0 : decide (0 ≤ ((rd_T46 t103 x10_1).f0)) = true := decide_eq_true c14
        clear c14
        by_cases c15 : ((rd_T46 t103 x10_1).f0) < (l0_0.length : Int)
        ·rw [if_pos c15] at H
         have c15b0 : decide (((rd_T46 t103 x10_1).f0) < (l0_0.length : Int)) = true := decide_eq_true c15
         clear c15
         by_cases c16 : 0 ≤ ((rd_T46 t103 x10_1).f1)
         ·rw [if_pos c16] at H
          have c16b0 : decide (0 ≤ ((rd_T46 t103 x10_1).f1)) = true := decide_eq_true c16
          clear c16
          by_cases c17 : ((rd_T46 t103 x10_1).f1) < (l0_0.length : Int)
          ·rw [if_pos c17] at H
           have c17b0 : decide (((rd_T46 t103 x10_1).f1) < (l0_0.length : Int)) = true := decide_eq_true c17
           clear c17
           by_cases c18 : ((((rd_T26 l0_0 ((rd_T46 t103 x10_1).f0)).f0) == ((rd_T26 l0_0 ((rd_T46 t103 x10_1).f1)).f0)) == a2) = true
           ·rw [if_pos c18] at H
            have c18b0 : ((((rd_T26 l0_0 ((rd_T46 t103 x10_1).f0)).f0) == ((rd_T26 l0_0 ((rd_T46 t103 x10_1).f1)).f0)) == a2) = true := c18
            (try (have c18b1 : decide ((((rd_T26 l0_0 ((rd_T46 t103 x10_1).f0)).f0) == ((rd_T26 l0_0 ((rd_T46 t103 x10_1).f1)).f0)) = a2) = true := by simpa using c18))
            (try (have c18b2 : ((((rd_T26 l0_0 ((rd_T46 t103 x10_1).f0)).f0) == ((rd_T26 l0_0 ((rd_T46 t103 x10_1).f1)).f0)) == a2) = true := by simpa using c18))
            clear c18
            by_cases c19 : x8_1.length < 8796093022208
            ·rw [if_pos c19] at H
             have LMc19 := a9_ c19
             clear c19
             obtain ⟨y111, hy111⟩ : ∃ y_ : List (S46), y_ = (x8_1 ++ [(⟨(rd_T46 t103 x10_1).f0, (rd_T46 t103 x10_1).f1⟩ : S46)]) := ⟨_, rfl⟩
             replace H : (cupolaref13_part.l0 k1 a2 (l0_0.length : Int) y111 t103 (wrap64 (x10_1 + 1)) l0_0 l0_1 l0_2 l0_3 l0_4 l0_5 l0_6) = some r := by first | (rw [hy111]; with_reducible exact H) | (have H2_ := (Option.bind_some _ _).symm.trans H; rw [hy111]; with_reducible exact H2_) | (have H2_ := (Option.bind_some _ _).symm.trans H; with_reducible exact H2_) | with_reducible exact H | (rw [hy111]; exact H) | exact H
             have Ny111 := a9_ hy111
             clear hy111
             have H' := a9_ H
             clear H
             obtain ⟨Ao20, co20, eo20⟩ := Kd.R_slice HO_9.out
             subst eo20
             have p106 : 0 ≤ (x10_1 : Int) := of_decide_eq_true (by first | (with_reducible assumption) | assumption)
             have q106 : x10_1 < (t103.length : Int) := of_decide_eq_true (by first | (with_reducible assumption) | assumption)
             obtain ⟨ad106, e106, hx106_0, hx106_1⟩ := at_T46 (Kd.R_reads' HO_9.out).2.2 x10_1 p106 q106
             cases e106
             replace p106 := eq_true p106
             replace q106 := eq_true q106
             have p107 : 0 ≤ (x10_1 : Int) := of_decide_eq_true (by first | (with_reducible assumption) | assumption)
             have q107 : x10_1 < (t103.length : Int) := of_decide_eq_true (by first | (with_reducible assumption) | assumption)
             obtain ⟨ad107, e107, hx107_0, hx107_1⟩ := at_T46 (Kd.R_reads' HO_9.out).2.2 x10_1 p107 q107
             obtain rfl : ad106 = ad107 := (by injection e107)
             replace p107 := eq_true p107
             replace q107 := eq_true q107
             obtain ⟨hcz21_0, hcz21_1, hcz21_2, hcz21_3, hcz21_4, hcz21_5, hcz21_6, hfz21_0, hfz21_1, hfz21_2, hfz21_3, hfz21_4, hfz21_5, hfz21_6⟩ := cz7 BK101.out
             have p108 : 0 ≤ (((rd_T46 t103 x10_1).f0) : Int) := of_decide_eq_true (by first | (with_reducible assumption) | assumption)
             have q108 : ((rd_T46 t103 x10_1).f0) < (l0_0.length : Int) := of_decide_eq_true (by first | (with_reducible assumption) | assumption)
             obtain ⟨ad108, e108, hx108_0, hx108_1, hx108_2, hx108_3, hx108_4, hx108_5, hx108_6⟩ := at_T26 HR0_0.out ((rd_T46 t103 x10_1).f0) p108 q108
             cases e108
             replace hx108_0 := hb9 HB.out hx108_0
             replace hx108_1 := hb9 HB.out hx108_1
             replace hx108_2 := hb9 HB.out hx108_2
             replace hx108_3 := hb9 HB.out hx108_3
             replace hx108_4 := hb9 HB.out hx108_4
             replace hx108_5 := hb9 HB.out hx108_5
             replace hx108_6 := hb9 HB.out hx108_6
             replace p108 := eq_true p108
             replace q108 := eq_true q108
             have p109 : 0 ≤ (((rd_T46 t103 x10_1).f1) : Int) := of_decide_eq_true (by first | (with_reducible assumption) | assumption)
             have q109 : ((rd_T46 t103 x10_1).f1) < (l0_0.length : Int) := of_decide_eq_true (by first | (with_reducible assumption) | assumption)
             obtain ⟨ad109, e109, hx109_0, hx109_1, hx109_2, hx109_3, hx109_4, hx109_5, hx109_6⟩ := at_T26 HR0_0.out ((rd_T46 t103 x10_1).f1) p109 q109
             obtain rfl : ad108 = ad109 := (by injection e109)
             replace hx109_0 := hb9 HB.out hx109_0
             replace hx109_1 := hb9 HB.out hx109_1
             replace hx109_2 := hb9 HB.out hx109_2
             replace hx109_3 := hb9 HB.out hx109_3
             replace hx109_4 := hb9 HB.out hx109_4
             replace hx109_5 := hb9 HB.out hx109_5
             replace hx109_6 := hb9 HB.out hx109_6
             replace p109 := eq_true p109
             replace q109 := eq_true q109
             have p110 : 0 ≤ (x10_1 : Int) := of_decide_eq_true (by first | (with_reducible assumption) | assumption)
             have q110 : x10_1 < (t103.length : Int) := of_decide_eq_true (by first | (with_reducible assumption) | assumption)
             obtain ⟨ad110, e110, hx110_0, hx110_1⟩ := at_T46 (Kd.R_reads' HO_9.out).2.2 x10_1 p110 q110
             obtain rfl : ad106 = ad110 := (by injection e110)
             replace p110 := eq_true p110
             replace q110 := eq_true q110
             go_wp2_with (first | ((with_reducible refine gate_builtin (b := .append) (xs := #[.tmp 58, .tmp 63]) rfl ?_); at_builtin; refine Kd.R_append k46 (w0 := w) w.heap.size rfl (.tmp 58) (.tmp 63) 43 46 (.agg #[(.int .i64 0), (.int .i64 0)]) 16 rfl Try.underlying43 info46 rfl (by decide) (by omega) u8 x8_1 (⟨(rd_T46 t103 x10_1).f0, (rd_T46 t103 x10_1).f1⟩ : S46) [.int .i64 ((rd_T46 t103 x10_1).f0), .int .i64 ((rd_T46 t103 x10_1).f1)] (fun k_ => some k_ ≠ (.slice (some ad106) t103.length co20 : Value).ownBlock) (fun _ => False) rfl rfl ?aP (fun _ hk => hk.elim) ?aF ?aO ?aB ?aS ?aL ?_; (case aP => exact k46_mkM _ _ _ (⟨(rd_T46 t103 x10_1).f0, (rd_T46 t103 x10_1).f1⟩ : S46)); (case aB => exact (bp9 HB.out)); (case aF => exact (fun k_ hk => Kd.fresh' (Kd.R_lt (rp9 HO_9.out)) k_ hk)); (case aO => exact (rp9 HO_8.out)); (case aS => exact (below_size (bp9 HB.out))); (case aL => have := LMc19.out; omega); intro v112 w22 ho hb hg hat; rw [← Ny111.out] at ho; have n0_ := a9_ (Kd.R_after (ok := (fun _ => True)) (by (with_reducible repeat (first | apply Kd.R_alloc | apply Kd.R_drewN | apply Kd.R_drew)); exact Kd.R_mono HO_9.out (fun _ hk => ⟨trivial, hk⟩)) hg hat); have n1_ := a9_ (blk_grown (g := gb101) (o := .cells #[.slice (some ad108) l0_0.length c0_0, .slice A0_1 l0_1.length c0_1, .slice A0_2 l0_2.length c0_2, .slice A0_3 l0_3.length c0_3, .slice A0_4 l0_4.length c0_4, .slice A0_5 l0_5.length c0_5, .slice A0_6 l0_6.length c0_6] 76 (0, 0)) (kp9 BK101.out) hg (Kd.R_ne HO_8.out BK101.out (by decide))); have n2_ := a9_ (hb); have n3_ := a9_ (ho); clear HO_9; clear BK101; clear HB; clear HO_8; have HO_9 := n0_; have BK101 := n1_; have HB := n2_; have HO113 := n3_; clear n0_ n1_ n2_ n3_; clear ho hb hg hat))
             repeat (go_quiet (first | ((with_reducible refine gate_builtin (b := .append) (xs := #[.tmp 58, .tmp 63]) rfl ?_); at_builtin; refine Kd.R_append k46 (w0 := w) w.heap.size rfl (.tmp 58) (.tmp 63) 43 46 (.agg #[(.int .i64 0), (.int .i64 0)]) 16 rfl Try.underlying43 info46 rfl (by decide) (by omega) u8 x8_1 (⟨(rd_T46 t103 x10_1).f0, (rd_T46 t103 x10_1).f1⟩ : S46) [.int .i64 ((rd_T46 t103 x10_1).f0), .int .i64 ((rd_T46 t103 x10_1).f1)] (fun k_ => some k_ ≠ (.slice (some ad106) t103.length co20 : Value).ownBlock) (fun _ => False) rfl rfl ?aP (fun _ hk => hk.elim) ?aF ?aO ?aB ?aS ?aL ?_; (case aP => exact k46_mkM _ _ _ (⟨(rd_T46 t103 x10_1).f0, (rd_T46 t103 x10_1).f1⟩ : S46)); (case aB => exact (bp9 HB.out)); (case aF => exact (fun k_ hk => Kd.fresh' (Kd.R_lt (rp9 HO_9.out)) k_ hk)); (case aO => exact (rp9 HO_8.out)); (case aS => exact (below_size (bp9 HB.out))); (case aL => have := LMc19.out; omega); intro v112 w22 ho hb hg hat; rw [← Ny111.out] at ho; have n0_ := a9_ (Kd.R_after (ok := (fun _ => True)) (by (with_reducible repeat (first | apply Kd.R_alloc | apply Kd.R_drewN | apply Kd.R_drew)); exact Kd.R_mono HO_9.out (fun _ hk => ⟨trivial, hk⟩)) hg hat); have n1_ := a9_ (blk_grown (g := gb101) (o := .cells #[.slice (some ad108) l0_0.length c0_0, .slice A0_1 l0_1.length c0_1, .slice A0_2 l0_2.length c0_2, .slice A0_3 l0_3.length c0_3, .slice A0_4 l0_4.length c0_4, .slice A0_5 l0_5.length c0_5, .slice A0_6 l0_6.length c0_6] 76 (0, 0)) (kp9 BK101.out) hg (Kd.R_ne HO_8.out BK101.out (by decide))); have n2_ := a9_ (hb); have n3_ := a9_ (ho); clear HO_9; clear BK101; clear HB; clear HO_8; have HO_9 := n0_; have BK101 := n1_; have HB := n2_; have HO113 := n3_; clear n0_ n1_ n2_ n3_; clear ho hb hg hat)); try go_wp2_with (first | ((with_reducible refine gate_builtin (b := .append) (xs := #[.tmp 58, .tmp 63]) rfl ?_); at_builtin; refine Kd.R_append k46 (w0 := w) w.heap.size rfl (.tmp 58) (.tmp 63) 43 46 (.agg #[(.int .i64 0), (.int .i64 0)]) 16 rfl Try.underlying43 info46 rfl (by decide) (by omega) u8 x8_1 (⟨(rd_T46 t103 x10_1).f0, (rd_T46 t103 x10_1).f1⟩ : S46) [.int .i64 ((rd_T46 t103 x10_1).f0), .int .i64 ((rd_T46 t103 x10_1).f1)] (fun k_ => some k_ ≠ (.slice (some ad106) t103.length co20 : Value).ownBlock) (fun _ => False) rfl rfl ?aP (fun _ hk => hk.elim) ?aF ?aO ?aB ?aS ?aL ?_; (case aP => exact k46_mkM _ _ _ (⟨(rd_T46 t103 x10_1).f0, (rd_T46 t103 x10_1).f1⟩ : S46)); (case aB => exact (bp9 HB.out)); (case aF => exact (fun k_ hk => Kd.fresh' (Kd.R_lt (rp9 HO_9.out)) k_ hk)); (case aO => exact (rp9 HO_8.out)); (case aS => exact (below_size (bp9 HB.out))); (case aL => have := LMc19.out; omega); intro v112 w22 ho hb hg hat; rw [← Ny111.out] at ho; have n0_ := a9_ (Kd.R_after (ok := (fun _ => True)) (by (with_reducible repeat (first | apply Kd.R_alloc | apply Kd.R_drewN | apply Kd.R_drew)); exact Kd.R_mono HO_9.out (fun _ hk => ⟨trivial, hk⟩)) hg hat); have n1_ := a9_ (blk_grown (g := gb101) (o := .cells #[.slice (some ad108) l0_0.length c0_0, .slice A0_1 l0_1.length c0_1, .slice A0_2 l0_2.length c0_2, .slice A0_3 l0_3.length c0_3, .slice A0_4 l0_4.length c0_4, .slice A0_5 l0_5.length c0_5, .slice A0_6 l0_6.length c0_6] 76 (0, 0)) (kp9 BK101.out) hg (Kd.R_ne HO_8.out BK101.out (by decide))); have n2_ := a9_ (hb); have n3_ := a9_ (ho); clear HO_9; clear BK101; clear HB; clear HO_8; have HO_9 := n0_; have BK101 := n1_; have HB := n2_; have HO113 := n3_; clear n0_ n1_ n2_ n3_; clear ho hb hg hat)))
             go_roundg k1
             case measure => have := HK1.out; omega
             case rel => exact ⟨(y111), (wrap64 (x10_1 + 1)), rs9, H', ⟨by have := HK1.out; omega⟩, ⟨rp9 HO113.out⟩, ⟨by (with_reducible repeat (first | apply Kd.R_alloc | apply Kd.R_drewN | apply Kd.R_drew)); exact Kd.R_mono HO_9.out (fun _ hk => hk.2)⟩, ⟨kp9 BK101.out⟩, ⟨bp9 HB.out⟩⟩
            ·rw [if_neg c19] at H
             exact absurd H (by simp)
           ·rw [if_neg c18] at H
            have c18b0 : ((((rd_T26 l0_0 ((rd_T46 t103 x10_1).f0)).f0) == ((rd_T26 l0_0 ((rd_T46 t103 x10_1).f1)).f0)) == a2) = false := by simpa using c18
            (try (have c18b1 : decide ((((rd_T26 l0_0 ((rd_T46 t103 x10_1).f0)).f0) == ((rd_T26 l0_0 ((rd_T46 t103 x10_1).f1)).f0)) = a2) = false := by simpa using c18))
            (try (have c18b2 : ((((rd_T26 l0_0 ((rd_T46 t103 x10_1).f0)).f0) == ((rd_T26 l0_0 ((rd_T46 t103 x10_1).f1)).f0)) == a2) = false := by simpa using c18))
            (try (have c18b3 : ¬ ((((rd_T26 l0_0 ((rd_T46 t103 x10_1).f0)).f0) == ((rd_T26 l0_0 ((rd_T46 t103 x10_1).f1)).f0)) = a2) := by simpa using c18))
            clear c18
            have H' := a9_ H
            clear H
            obtain ⟨Ao23, co23, eo23⟩ := Kd.R_slice HO_9.out
            subst eo23
            have p106 : 0 ≤ (x10_1 : Int) := of_decide_eq_true (by first | (with_reducible assumption) | assumption)
            have q106 : x10_1 < (t103.length : Int) := of_decide_eq_true (by first | (with_reducible assumption) | assumption)
            obtain ⟨ad106, e106, hx106_0, hx106_1⟩ := at_T46 (Kd.R_reads' HO_9.out).2.2 x10_1 p106 q106
            cases e106
            replace p106 := eq_true p106
            replace q106 := eq_true q106
            have p107 : 0 ≤ (x10_1 : Int) := of_decide_eq_true (by first | (with_reducible assumption) | assumption)
            have q107 : x10_1 < (t103.length : Int) := of_decide_eq_true (by first | (with_reducible assumption) | assumption)
            obtain ⟨ad107, e107, hx107_0, hx107_1⟩ := at_T46 (Kd.R_reads' HO_9.out).2.2 x10_1 p107 q107
            obtain rfl : ad106 = ad107 := (by injection e107)
            replace p107 := eq_true p107
            replace q107 := eq_true q107
            obtain ⟨hcz24_0, hcz24_1, hcz24_2, hcz24_3, hcz24_4, hcz24_5, hcz24_6, hfz24_0, hfz24_1, hfz24_2, hfz24_3, hfz24_4, hfz24_5, hfz24_6⟩ := cz7 BK101.out
            have p108 : 0 ≤ (((rd_T46 t103 x10_1).f0) : Int) := of_decide_eq_true (by first | (with_reducible assumption) | assumption)
            have q108 : ((rd_T46 t103 x10_1).f0) < (l0_0.length : Int) := of_decide_eq_true (by first | (with_reducible assumption) | assumption)
            obtain ⟨ad108, e108, hx108_0, hx108_1, hx108_2, hx108_3, hx108_4, hx108_5, hx108_6⟩ := at_T26 HR0_0.out ((rd_T46 t103 x10_1).f0) p108 q108
            cases e108
            replace hx108_0 := hb9 HB.out hx108_0
            replace hx108_1 := hb9 HB.out hx108_1
            replace hx108_2 := hb9 HB.out hx108_2
            replace hx108_3 := hb9 HB.out hx108_3
            replace hx108_4 := hb9 HB.out hx108_4
            replace hx108_5 := hb9 HB.out hx108_5
            replace hx108_6 := hb9 HB.out hx108_6
            replace p108 := eq_true p108
            replace q108 := eq_true q108
            have p109 : 0 ≤ (((rd_T46 t103 x10_1).f1) : Int) := of_decide_eq_true (by first | (with_reducible assumption) | assumption)
            have q109 : ((rd_T46 t103 x10_1).f1) < (l0_0.length : Int) := of_decide_eq_true (by first | (with_reducible assumption) | assumption)
            obtain ⟨ad109, e109, hx109_0, hx109_1, hx109_2, hx109_3, hx109_4, hx109_5, hx109_6⟩ := at_T26 HR0_0.out ((rd_T46 t103 x10_1).f1) p109 q109
            obtain rfl : ad108 = ad109 := (by injection e109)
            replace hx109_0 := hb9 HB.out hx109_0
            replace hx109_1 := hb9 HB.out hx109_1
            replace hx109_2 := hb9 HB.out hx109_2
            replace hx109_3 := hb9 HB.out hx109_3
            replace hx109_4 := hb9 HB.out hx109_4
            replace hx109_5 := hb9 HB.out hx109_5
            replace hx109_6 := hb9 HB.out hx109_6
            replace p109 := eq_true p109
            replace q109 := eq_true q109
            go_wp2
            repeat (go_quiet (fail); try go_wp2)
            go_roundg k1
            case measure => have := HK1.out; omega
            case rel => exact ⟨(x8_1), (wrap64 (x10_1 + 1)), rs9, H', ⟨by have := HK1.out; omega⟩, ⟨rp9 HO_8.out⟩, ⟨rp9 HO_9.out⟩, ⟨kp9 BK101.out⟩, ⟨bp9 HB.out⟩⟩
          ·rw [if_neg c17] at H
           exact absurd H (by simp)
         ·rw [if_neg c16] at H
          exact absurd H (by simp)
        ·rw [if_neg c15] at H
         exact absurd H (by simp)
       ·rw [if_neg c14] at H
        exact absurd H (by simp)
     ·rw [if_neg c11] at H
      exact absurd H (by simp)
    ·rw [if_neg c10] at H
     have c10b0 : decide (x10_1 < (t103.length : Int)) = false := decide_eq_false c10
     clear c10
     replace H := Option.bind_eq_some_iff.mp H
     obtain ⟨t114, A250, H⟩ := H
     have A25 := a9_ A250
     clear A250
     obtain rfl := Option.some.inj H
     obtain ⟨Ao26, co26, eo26⟩ := Kd.R_slice HO_9.out
     subst eo26
     obtain ⟨Ao27, co27, eo27⟩ := Kd.R_slice HO_8.out
     subst eo27
     go_wp2_with (first | (go_at_call 119; (with_reducible refine (cupolaref05_Made.calls k1 (l0_0.length : Int) _ _ x8_1 t114 _ ?side1 ?side2 A25.out).mono ?_); (case side1 => exact lp9 (Kd.R_reads' HO_8.out).2.2); (case side2 => exact (Kd.R_reads' HO_8.out).2.1); rintro e w28 ⟨v115, rfl, ho0, hb⟩; have n0_ := a9_ (Kd.R_below (rp9 HO_8.out) hb); have n1_ := a9_ (Kd.R_below (rp9 HO_9.out) hb); have n2_ := a9_ (Kd.R_lower ho0 (below_size (bp9 HB.out))); have n3_ := a9_ (blk_below (kp9 BK101.out) hb); have n4_ := a9_ (below_step (bp9 HB.out) hb); clear HO_8; clear HO_9; clear BK101; clear HB; have HO_8 := n0_; have HO_9 := n1_; have HO116 := n2_; have BK101 := n3_; have HB := n4_; clear n0_ n1_ n2_ n3_ n4_; (try clear hb); (try clear ho0)))
     repeat (go_quiet (first | (go_at_call 119; (with_reducible refine (cupolaref05_Made.calls k1 (l0_0.length : Int) _ _ x8_1 t114 _ ?side1 ?side2 A25.out).mono ?_); (case side1 => exact lp9 (Kd.R_reads' HO_8.out).2.2); (case side2 => exact (Kd.R_reads' HO_8.out).2.1); rintro e w28 ⟨v115, rfl, ho0, hb⟩; have n0_ := a9_ (Kd.R_below (rp9 HO_8.out) hb); have n1_ := a9_ (Kd.R_below (rp9 HO_9.out) hb); have n2_ := a9_ (Kd.R_lower ho0 (below_size (bp9 HB.out))); have n3_ := a9_ (blk_below (kp9 BK101.out) hb); have n4_ := a9_ (below_step (bp9 HB.out) hb); clear HO_8; clear HO_9; clear BK101; clear HB; have HO_8 := n0_; have HO_9 := n1_; have HO116 := n2_; have BK101 := n3_; have HB := n4_; clear n0_ n1_ n2_ n3_ n4_; (try clear hb); (try clear ho0))); try go_wp2_with (first | (go_at_call 119; (with_reducible refine (cupolaref05_Made.calls k1 (l0_0.length : Int) _ _ x8_1 t114 _ ?side1 ?side2 A25.out).mono ?_); (case side1 => exact lp9 (Kd.R_reads' HO_8.out).2.2); (case side2 => exact (Kd.R_reads' HO_8.out).2.1); rintro e w28 ⟨v115, rfl, ho0, hb⟩; have n0_ := a9_ (Kd.R_below (rp9 HO_8.out) hb); have n1_ := a9_ (Kd.R_below (rp9 HO_9.out) hb); have n2_ := a9_ (Kd.R_lower ho0 (below_size (bp9 HB.out))); have n3_ := a9_ (blk_below (kp9 BK101.out) hb); have n4_ := a9_ (below_step (bp9 HB.out) hb); clear HO_8; clear HO_9; clear BK101; clear HB; have HO_8 := n0_; have HO_9 := n1_; have HO116 := n2_; have BK101 := n3_; have HB := n4_; clear n0_ n1_ n2_ n3_ n4_; (try clear hb); (try clear ho0))))
     go_ret
     exact ⟨_, rt9, by (with_reducible repeat (first | apply Kd.R_alloc | apply Kd.R_drewN | apply Kd.R_drew)); exact HO116.out, bp9 HB.out⟩
 ·rw [if_neg c5] at H
  have c5b0 : (t102 == (l0_0.length : Int)) = false := beq_eq_false_iff_ne.mpr c5
  have c5b1 : (t102 != (l0_0.length : Int)) = true := bne_iff_ne.mpr c5
  obtain rfl := Option.some.inj H
  go_enter Try.func154, Try.ntmps154
  go_wp2_with (first | ((with_reducible refine gate_dst (N := 3) rfl ?_); refine box9 (N := 3) (cs := #[.slice A0_0 l0_0.length c0_0, .slice A0_1 l0_1.length c0_1, .slice A0_2 l0_2.length c0_2, .slice A0_3 l0_3.length c0_3, .slice A0_4 l0_4.length c0_4, .slice A0_5 l0_5.length c0_5, .slice A0_6 l0_6.length c0_6]) (t := 76) ?_; intro gb101 hg w29 hbox hb; have n0_ := a9_ (below_step (bp9 HB.out) hb); have n1_ := a9_ (hbox); have n2_ := a9_ ((by rw [hg]; exact (below_size (bp9 HB.out)) : w.heap.size ≤ gb101)); have n3_ := n2_; clear HB; have HB := n0_; have BK101 := n1_; have GW101 := n2_; have GE101 := n3_; clear n0_ n1_ n2_ n3_; clear hb hbox hg; obtain ⟨hcz30_0, hcz30_1, hcz30_2, hcz30_3, hcz30_4, hcz30_5, hcz30_6, hfz30_0, hfz30_1, hfz30_2, hfz30_3, hfz30_4, hfz30_5, hfz30_6⟩ := cz7 BK101.out) | (go_at_call 116; (with_reducible refine (cupolaref05_Size.calls _ _ l1 t102 _ ?side1 ?side2 A4.out).mono ?_); (case side1 => exact cp9 HR1.out HB.out); (case side2 => exact HC1.out); rintro e w' ⟨rfl, ⟨nd, rfl⟩⟩; (try first | exact ⟨rfl, _, World.drewN_drewN _ _ _⟩ | exact ⟨rfl, _, Eq.trans (World.drewN_drewN _ _ _) (congrArg (World.drewN _) (Nat.add_assoc _ _ _))⟩)))
  repeat (go_quiet (first | ((with_reducible refine gate_dst (N := 3) rfl ?_); refine box9 (N := 3) (cs := #[.slice A0_0 l0_0.length c0_0, .slice A0_1 l0_1.length c0_1, .slice A0_2 l0_2.length c0_2, .slice A0_3 l0_3.length c0_3, .slice A0_4 l0_4.length c0_4, .slice A0_5 l0_5.length c0_5, .slice A0_6 l0_6.length c0_6]) (t := 76) ?_; intro gb101 hg w29 hbox hb; have n0_ := a9_ (below_step (bp9 HB.out) hb); have n1_ := a9_ (hbox); have n2_ := a9_ ((by rw [hg]; exact (below_size (bp9 HB.out)) : w.heap.size ≤ gb101)); have n3_ := n2_; clear HB; have HB := n0_; have BK101 := n1_; have GW101 := n2_; have GE101 := n3_; clear n0_ n1_ n2_ n3_; clear hb hbox hg; obtain ⟨hcz30_0, hcz30_1, hcz30_2, hcz30_3, hcz30_4, hcz30_5, hcz30_6, hfz30_0, hfz30_1, hfz30_2, hfz30_3, hfz30_4, hfz30_5, hfz30_6⟩ := cz7 BK101.out) | (go_at_call 116; (with_reducible refine (cupolaref05_Size.calls _ _ l1 t102 _ ?side1 ?side2 A4.out).mono ?_); (case side1 => exact cp9 HR1.out HB.out); (case side2 => exact HC1.out); rintro e w' ⟨rfl, ⟨nd, rfl⟩⟩; (try first | exact ⟨rfl, _, World.drewN_drewN _ _ _⟩ | exact ⟨rfl, _, Eq.trans (World.drewN_drewN _ _ _) (congrArg (World.drewN _) (Nat.add_assoc _ _ _))⟩))); try go_wp2_with (first | ((with_reducible refine gate_dst (N := 3) rfl ?_); refine box9 (N := 3) (cs := #[.slice A0_0 l0_0.length c0_0, .slice A0_1 l0_1.length c0_1, .slice A0_2 l0_2.length c0_2, .slice A0_3 l0_3.length c0_3, .slice A0_4 l0_4.length c0_4, .slice A0_5 l0_5.length c0_5, .slice A0_6 l0_6.length c0_6]) (t := 76) ?_; intro gb101 hg w29 hbox hb; have n0_ := a9_ (below_step (bp9 HB.out) hb); have n1_ := a9_ (hbox); have n2_ := a9_ ((by rw [hg]; exact (below_size (bp9 HB.out)) : w.heap.size ≤ gb101)); have n3_ := n2_; clear HB; have HB := n0_; have BK101 := n1_; have GW101 := n2_; have GE101 := n3_; clear n0_ n1_ n2_ n3_; clear hb hbox hg; obtain ⟨hcz30_0, hcz30_1, hcz30_2, hcz30_3, hcz30_4, hcz30_5, hcz30_6, hfz30_0, hfz30_1, hfz30_2, hfz30_3, hfz30_4, hfz30_5, hfz30_6⟩ := cz7 BK101.out) | (go_at_call 116; (with_reducible refine (cupolaref05_Size.calls _ _ l1 t102 _ ?side1 ?side2 A4.out).mono ?_); (case side1 => exact cp9 HR1.out HB.out); (case side2 => exact HC1.out); rintro e w' ⟨rfl, ⟨nd, rfl⟩⟩; (try first | exact ⟨rfl, _, World.drewN_drewN _ _ _⟩ | exact ⟨rfl, _, Eq.trans (World.drewN_drewN _ _ _) (congrArg (World.drewN _) (Nat.add_assoc _ _ _))⟩))))
  go_ret
  exact ⟨_, rt9, by first | exact Kd.R_nil _ _ _ _ _ | exact Kd.N_nil _ _ _ _ _ | exact Kd.V_nil _ _ _ _ _ | exact Kd.Q_nil _ _ _ _ _ | exact Kd.S_nil _ _ _ _ _, bp9 HB.out⟩
def cupolaref13_Within.f (k : Nat) (l0_0 : List (S26)) (l0_1 : List Int) (l0_2 : List Int) (l0_3 : List Int) (l0_4 : List Int) (l0_5 : List Int) (l0_6 : List (List Int)) (l1 : List Int) : Option (List Int) := (cupolaref13_part.f k l0_0 l0_1 l0_2 l0_3 l0_4 l0_5 l0_6 l1 true).bind fun t102 => (some t102)
theorem cupolaref13_Within.calls (k : Nat) (A0_0 : Option Addr) (c0_0 : Nat) (l0_0 : List (S26)) (A0_1 : Option Addr) (c0_1 : Nat) (l0_1 : List Int) (A0_2 : Option Addr) (c0_2 : Nat) (l0_2 : List Int) (A0_3 : Option Addr) (c0_3 : Nat) (l0_3 : List Int) (A0_4 : Option Addr) (c0_4 : Nat) (l0_4 : List Int) (A0_5 : Option Addr) (c0_5 : Nat) (l0_5 : List Int) (A0_6 : Option Addr) (c0_6 : Nat) (l0_6 : List (List Int)) (A1 : Option Addr) (c1 : Nat) (l1 : List Int) (r : List Int) (w : World) (hr0_0 : Kd.C k26 w A0_0 l0_0.length l0_0) (hc0_0 : l0_0.length ≤ c0_0) (hr0_1 : Kd.C (Kd.int .u32) w A0_1 l0_1.length l0_1) (hc0_1 : l0_1.length ≤ c0_1) (hr0_2 : Kd.C (Kd.int .u32) w A0_2 l0_2.length l0_2) (hc0_2 : l0_2.length ≤ c0_2) (hr0_3 : Kd.C (Kd.int .u32) w A0_3 l0_3.length l0_3) (hc0_3 : l0_3.length ≤ c0_3) (hr0_4 : Kd.C (Kd.int .u32) w A0_4 l0_4.length l0_4) (hc0_4 : l0_4.length ≤ c0_4) (hr0_5 : Kd.C (Kd.int .u32) w A0_5 l0_5.length l0_5) (hc0_5 : l0_5.length ≤ c0_5) (hr0_6 : Kd.C (Kd.slice 2 (Kd.int .i64)) w A0_6 l0_6.length l0_6) (hc0_6 : l0_6.length ≤ c0_6) (hr1 : Kd.C (Kd.int .u32) w A1 l1.length l1) (hc1 : l1.length ≤ c1) (h : cupolaref13_Within.f k l0_0 l0_1 l0_2 l0_3 l0_4 l0_5 l0_6 l1 = some r) :
  Calls Try.prog 137 #[.agg #[.slice A0_0 l0_0.length c0_0, .slice A0_1 l0_1.length c0_1, .slice A0_2 l0_2.length c0_2, .slice A0_3 l0_3.length c0_3, .slice A0_4 l0_4.length c0_4, .slice A0_5 l0_5.length c0_5, .slice A0_6 l0_6.length c0_6], .slice A1 l1.length c1] w fun e w' => ∃ v0_ : Value, e = .returned (v0_) ∧ Kd.R (Kd.int .u32) 52 w' w.heap.size (fun _ => True) v0_ r ∧ Below w.heap.size w w' := by
 have hu76 := Try.underlying76
 have HR0_0 := a9_ hr0_0
 have HC0_0 := a9_ hc0_0
 clear hr0_0 hc0_0
 have HR0_1 := a9_ hr0_1
 have HC0_1 := a9_ hc0_1
 clear hr0_1 hc0_1
 have HR0_2 := a9_ hr0_2
 have HC0_2 := a9_ hc0_2
 clear hr0_2 hc0_2
 have HR0_3 := a9_ hr0_3
 have HC0_3 := a9_ hc0_3
 clear hr0_3 hc0_3
 have HR0_4 := a9_ hr0_4
 have HC0_4 := a9_ hc0_4
 clear hr0_4 hc0_4
 have HR0_5 := a9_ hr0_5
 have HC0_5 := a9_ hc0_5
 clear hr0_5 hc0_5
 have HR0_6 := a9_ hr0_6
 have HC0_6 := a9_ hc0_6
 clear hr0_6 hc0_6
 have HR1 := a9_ hr1
 have HC1 := a9_ hc1
 clear hr1 hc1
 have HB := a9_ (Below.refl w.heap.size w)
 have H : ((cupolaref13_part.f k l0_0 l0_1 l0_2 l0_3 l0_4 l0_5 l0_6 l1 true).bind fun t102 => (some t102)) = some r := h
 clear h
 replace H := Option.bind_eq_some_iff.mp H
 obtain ⟨t102, A30, H⟩ := H
 have A3 := a9_ A30
 clear A30
 obtain rfl := Option.some.inj H
 go_enter Try.func137, Try.ntmps137
 go_wp2_with (first | ((with_reducible refine gate_dst (N := 2) rfl ?_); refine box9 (N := 2) (cs := #[.slice A0_0 l0_0.length c0_0, .slice A0_1 l0_1.length c0_1, .slice A0_2 l0_2.length c0_2, .slice A0_3 l0_3.length c0_3, .slice A0_4 l0_4.length c0_4, .slice A0_5 l0_5.length c0_5, .slice A0_6 l0_6.length c0_6]) (t := 76) ?_; intro gb101 hg w4 hbox hb; have n0_ := a9_ (below_step (bp9 HB.out) hb); have n1_ := a9_ (hbox); have n2_ := a9_ ((by rw [hg]; exact (below_size (bp9 HB.out)) : w.heap.size ≤ gb101)); have n3_ := n2_; clear HB; have HB := n0_; have BK101 := n1_; have GW101 := n2_; have GE101 := n3_; clear n0_ n1_ n2_ n3_; clear hb hbox hg; obtain ⟨hcz5_0, hcz5_1, hcz5_2, hcz5_3, hcz5_4, hcz5_5, hcz5_6, hfz5_0, hfz5_1, hfz5_2, hfz5_3, hfz5_4, hfz5_5, hfz5_6⟩ := cz7 BK101.out) | ((with_reducible refine gate_callee (f := 154) rfl ?_); refine goesL9 (some 7) rfl rfl Try.func154 (by kernel_rfl) rfl #[.agg #[.slice A0_0 l0_0.length c0_0, .slice A0_1 l0_1.length c0_1, .slice A0_2 l0_2.length c0_2, .slice A0_3 l0_3.length c0_3, .slice A0_4 l0_4.length c0_4, .slice A0_5 l0_5.length c0_5, .slice A0_6 l0_6.length c0_6], .slice A1 l1.length c1, .bool true] rfl ?_; (with_reducible refine (cupolaref13_part.calls k _ _ l0_0 _ _ l0_1 _ _ l0_2 _ _ l0_3 _ _ l0_4 _ _ l0_5 _ _ l0_6 _ _ l1 true t102 _ ?side1 ?side2 ?side3 ?side4 ?side5 ?side6 ?side7 ?side8 ?side9 ?side10 ?side11 ?side12 ?side13 ?side14 ?side15 ?side16 A3.out).mono ?_); (case side1 => exact cp9 HR0_0.out HB.out); (case side2 => exact HC0_0.out); (case side3 => exact cp9 HR0_1.out HB.out); (case side4 => exact HC0_1.out); (case side5 => exact cp9 HR0_2.out HB.out); (case side6 => exact HC0_2.out); (case side7 => exact cp9 HR0_3.out HB.out); (case side8 => exact HC0_3.out); (case side9 => exact cp9 HR0_4.out HB.out); (case side10 => exact HC0_4.out); (case side11 => exact cp9 HR0_5.out HB.out); (case side12 => exact HC0_5.out); (case side13 => exact cp9 HR0_6.out HB.out); (case side14 => exact HC0_6.out); (case side15 => exact cp9 HR1.out HB.out); (case side16 => exact HC1.out); rintro e w6 ⟨v103, rfl, ho0, hb⟩; refine ⟨_, rfl, ?_⟩; have n0_ := a9_ (Kd.R_lower ho0 (below_size (bp9 HB.out))); have n1_ := a9_ (blk_below (kp9 BK101.out) hb); have n2_ := a9_ (below_step (bp9 HB.out) hb); clear BK101; clear HB; have HO104 := n0_; have BK101 := n1_; have HB := n2_; clear n0_ n1_ n2_; (try clear hb); (try clear ho0)))
 go_ret
 exact ⟨_, rt9, by (with_reducible repeat (first | apply Kd.R_alloc | apply Kd.R_drewN | apply Kd.R_drew)); exact HO104.out, bp9 HB.out⟩
end Go.Proofs.Ytbamkkdikeedoaa.G
