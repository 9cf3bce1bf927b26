-- Written by drive.py, a program of this seat's session, out of the translation.
import Derived.Test.YtbamkkdikeedoaaG0
import Derived.Test.YtbamkkdikeedoaaGCupolaref01
import Derived.Test.YtbamkkdikeedoaaHandCz
namespace Go.Proofs.Ytbamkkdikeedoaa.G
open Go.RowKit Go.Proofs.YtbamkkdikeedoaaW.PrintWords Go.Proofs.YtbamkkdikeedoaaW.PrintLast Go.Proofs.YtbamkkdikeedoaaW.PrintMore
attribute [local go_sem] max2_int min2_int max_two min_two max_three min_three max_four min_four   -- for this text's walks alone
set_option linter.unusedVariables false
set_option linter.unusedSimpArgs false

/-! ### cupolaref11_May: function 66 -/
mutual
def cupolaref11_May.j0 : Nat → List Int → Int → List Int → Bool → List (S26) → List Int → List Int → List Int → List Int → List Int → List (List Int) → Option (List Int)
 | 0, _, _, _, _, _, _, _, _, _, _, _ => none
 | k + 1, x1, x2, x7, x18, x102000, x102001, x102002, x102003, x102004, x102005, x102006 => if x18 = true then (some x7) else (if 0 ≤ x2 then (if x2 < (x102000.length : Int) then (if ((rd_T26 x102000 x2).f1) = 1 then (if ((rd_T26 x102000 x2).f2) ≥ 0 then (if ((rd_T26 x102000 x2).f2) < (x1.length : Int) then (if 0 ≤ ((rd_T26 x102000 x2).f2) then (cupolaref11_May.j1 k x7 ((rd x1 ((rd_T26 x102000 x2).f2)) == ((rd_T26 x102000 x2).f3)) x102000 x102001 x102002 x102003 x102004 x102005 x102006 ((rd_T26 x102000 x2).f0) ((rd_T26 x102000 x2).f1) ((rd_T26 x102000 x2).f2) ((rd_T26 x102000 x2).f3) ((rd_T26 x102000 x2).f4) ((rd_T26 x102000 x2).f5) ((rd_T26 x102000 x2).f6)) else (none)) else (cupolaref11_May.j1 k x7 false x102000 x102001 x102002 x102003 x102004 x102005 x102006 ((rd_T26 x102000 x2).f0) ((rd_T26 x102000 x2).f1) ((rd_T26 x102000 x2).f2) ((rd_T26 x102000 x2).f3) ((rd_T26 x102000 x2).f4) ((rd_T26 x102000 x2).f5) ((rd_T26 x102000 x2).f6))) else (cupolaref11_May.j1 k x7 false x102000 x102001 x102002 x102003 x102004 x102005 x102006 ((rd_T26 x102000 x2).f0) ((rd_T26 x102000 x2).f1) ((rd_T26 x102000 x2).f2) ((rd_T26 x102000 x2).f3) ((rd_T26 x102000 x2).f4) ((rd_T26 x102000 x2).f5) ((rd_T26 x102000 x2).f6))) else (some x7)) else (none)) else (none))
def cupolaref11_May.j1 : Nat → List Int → Bool → List (S26) → List Int → List Int → List Int → List Int → List Int → List (List Int) → Int → Int → Int → Int → Bool → Bool → Bool → Option (List Int)
 | 0, _, _, _, _, _, _, _, _, _, _, _, _, _, _, _, _ => none
 | k + 1, x7, x48, x102000, x102001, x102002, x102003, x102004, x102005, x102006, x104000, x104001, x104002, x104003, x104004, x104005, x104006 => if x48 = true then (if x7.length < 17592186044416 then (cupolaref11_May.j2 k (x7 ++ [(-1)]) x102000 x102001 x102002 x102003 x102004 x102005 x102006 x104000 x104001 x104002 x104003 x104004 x104005 x104006) else (none)) else (cupolaref11_May.j2 k x7 x102000 x102001 x102002 x102003 x102004 x102005 x102006 x104000 x104001 x104002 x104003 x104004 x104005 x104006)
def cupolaref11_May.j2 : Nat → List Int → List (S26) → List Int → List Int → List Int → List Int → List Int → List (List Int) → Int → Int → Int → Int → Bool → Bool → Bool → Option (List Int)
 | 0, _, _, _, _, _, _, _, _, _, _, _, _, _, _, _ => none
 | k + 1, x7, x102000, x102001, x102002, x102003, x102004, x102005, x102006, x104000, x104001, x104002, x104003, x104004, x104005, x104006 => cupolaref11_May.l0 k x7 0 x102000 x102001 x102002 x102003 x102004 x102005 x102006 x104000 x104001 x104002 x104003 x104004 x104005 x104006
def cupolaref11_May.l0 : Nat → List Int → Int → List (S26) → List Int → List Int → List Int → List Int → List Int → List (List Int) → Int → Int → Int → Int → Bool → Bool → Bool → Option (List Int)
 | 0, _, _, _, _, _, _, _, _, _, _, _, _, _, _, _, _ => none
 | k + 1, x7, x9, x102000, x102001, x102002, x102003, x102004, x102005, x102006, x104000, x104001, x104002, x104003, x104004, x104005, x104006 => if x9 < (x102000.length : Int) then (if 0 ≤ x9 then (if ((rd_T26 x102000 x9).f1) = 2 then (if ((rd_T26 x102000 x9).f2) = x104002 then (cupolaref11_May.j4 k x7 x9 (((rd_T26 x102000 x9).f3) == x104003) x102000 x102001 x102002 x102003 x102004 x102005 x102006 x104000 x104001 x104002 x104003 x104004 x104005 x104006) else (cupolaref11_May.j4 k x7 x9 false x102000 x102001 x102002 x102003 x102004 x102005 x102006 x104000 x104001 x104002 x104003 x104004 x104005 x104006)) else (cupolaref11_May.j4 k x7 x9 false x102000 x102001 x102002 x102003 x102004 x102005 x102006 x104000 x104001 x104002 x104003 x104004 x104005 x104006)) else (none)) else (some x7)
def cupolaref11_May.j4 : Nat → List Int → Int → Bool → List (S26) → List Int → List Int → List Int → List Int → List Int → List (List Int) → Int → Int → Int → Int → Bool → Bool → Bool → Option (List Int)
 | 0, _, _, _, _, _, _, _, _, _, _, _, _, _, _, _, _, _ => none
 | k + 1, x7, x9, x87, x102000, x102001, x102002, x102003, x102004, x102005, x102006, x104000, x104001, x104002, x104003, x104004, x104005, x104006 => if x87 = true then (if x7.length < 17592186044416 then (cupolaref11_May.l0 k (x7 ++ [x9]) (wrap64 (x9 + 1)) x102000 x102001 x102002 x102003 x102004 x102005 x102006 x104000 x104001 x104002 x104003 x104004 x104005 x104006) else (none)) else (cupolaref11_May.l0 k x7 (wrap64 (x9 + 1)) x102000 x102001 x102002 x102003 x102004 x102005 x102006 x104000 x104001 x104002 x104003 x104004 x104005 x104006)
end
def cupolaref11_May.f (k : Nat) (l0_0 : List (S26)) (l0_1 : List Int) (l0_2 : List Int) (l0_3 : List Int) (l0_4 : List Int) (l0_5 : List Int) (l0_6 : List (List Int)) (l1 : List Int) (a2 : Int) : Option (List Int) := if a2 < 0 then (cupolaref11_May.j0 k l1 a2 ([] : List Int) true l0_0 l0_1 l0_2 l0_3 l0_4 l0_5 l0_6) else (cupolaref11_May.j0 k l1 a2 ([] : List Int) (decide (a2 ≥ (l0_0.length : Int))) l0_0 l0_1 l0_2 l0_3 l0_4 l0_5 l0_6)
set_option maxHeartbeats 8000000 in
set_option maxRecDepth 100000 in
theorem cupolaref11_May.calls (k : Nat) (A0_0 : Option Addr) (c0_0 : Nat) (l0_0 : List (S26)) (A0_1 : Option Addr) (c0_1 : Nat) (l0_1 : List Int) (A0_2 : Option Addr) (c0_2 : Nat) (l0_2 : List Int) (A0_3 : Option Addr) (c0_3 : Nat) (l0_3 : List Int) (A0_4 : Option Addr) (c0_4 : Nat) (l0_4 : List Int) (A0_5 : Option Addr) (c0_5 : Nat) (l0_5 : List Int) (A0_6 : Option Addr) (c0_6 : Nat) (l0_6 : List (List Int)) (A1 : Option Addr) (c1 : Nat) (l1 : List Int) (a2 : Int) (r : List Int) (w : World) (hr0_0 : Kd.C k26 w A0_0 l0_0.length l0_0) (hc0_0 : l0_0.length ≤ c0_0) (hr0_1 : Kd.C (Kd.int .u32) w A0_1 l0_1.length l0_1) (hc0_1 : l0_1.length ≤ c0_1) (hr0_2 : Kd.C (Kd.int .u32) w A0_2 l0_2.length l0_2) (hc0_2 : l0_2.length ≤ c0_2) (hr0_3 : Kd.C (Kd.int .u32) w A0_3 l0_3.length l0_3) (hc0_3 : l0_3.length ≤ c0_3) (hr0_4 : Kd.C (Kd.int .u32) w A0_4 l0_4.length l0_4) (hc0_4 : l0_4.length ≤ c0_4) (hr0_5 : Kd.C (Kd.int .u32) w A0_5 l0_5.length l0_5) (hc0_5 : l0_5.length ≤ c0_5) (hr0_6 : Kd.C (Kd.slice 2 (Kd.int .i64)) w A0_6 l0_6.length l0_6) (hc0_6 : l0_6.length ≤ c0_6) (hr1 : Kd.C (Kd.int .i64) w A1 l1.length l1) (hc1 : l1.length ≤ c1) (h : cupolaref11_May.f k l0_0 l0_1 l0_2 l0_3 l0_4 l0_5 l0_6 l1 a2 = some r) :
  Calls Try.prog 66 #[.agg #[.slice A0_0 l0_0.length c0_0, .slice A0_1 l0_1.length c0_1, .slice A0_2 l0_2.length c0_2, .slice A0_3 l0_3.length c0_3, .slice A0_4 l0_4.length c0_4, .slice A0_5 l0_5.length c0_5, .slice A0_6 l0_6.length c0_6], .slice A1 l1.length c1, .int .i64 a2] w fun e w' => ∃ v0_ : Value, e = .returned (v0_) ∧ Kd.R (Kd.int .i64) 3 w' w.heap.size (fun _ => True) v0_ r ∧ Below w.heap.size w w' := by
 have hu76 := Try.underlying76
 have hu26 := Try.underlying26
 have HR0_0 := Aside0.mk hr0_0
 have HC0_0 := Aside0.mk hc0_0
 clear hr0_0 hc0_0
 have HR0_1 := Aside0.mk hr0_1
 have HC0_1 := Aside0.mk hc0_1
 clear hr0_1 hc0_1
 have HR0_2 := Aside0.mk hr0_2
 have HC0_2 := Aside0.mk hc0_2
 clear hr0_2 hc0_2
 have HR0_3 := Aside0.mk hr0_3
 have HC0_3 := Aside0.mk hc0_3
 clear hr0_3 hc0_3
 have HR0_4 := Aside0.mk hr0_4
 have HC0_4 := Aside0.mk hc0_4
 clear hr0_4 hc0_4
 have HR0_5 := Aside0.mk hr0_5
 have HC0_5 := Aside0.mk hc0_5
 clear hr0_5 hc0_5
 have HR0_6 := Aside0.mk hr0_6
 have HC0_6 := Aside0.mk hc0_6
 clear hr0_6 hc0_6
 have HR1 := Aside0.mk hr1
 have HC1 := Aside0.mk hc1
 clear hr1 hc1
 have HB := Aside0.mk (Below.refl w.heap.size w)
 have H : (if a2 < 0 then (cupolaref11_May.j0 k l1 a2 ([] : List Int) true l0_0 l0_1 l0_2 l0_3 l0_4 l0_5 l0_6) else (cupolaref11_May.j0 k l1 a2 ([] : List Int) (decide (a2 ≥ (l0_0.length : Int))) l0_0 l0_1 l0_2 l0_3 l0_4 l0_5 l0_6)) = some r := h
 clear h
 have HC4 := Aside0.mk H
 clear H
 go_enter Try.func66, Try.ntmps66
 go_upto_region 2 with (first | ((with_reducible refine gate_dst (N := 3) rfl ?_); (try (refine gate_guard (by rfl) ?_; dsimp only)); refine box_event ?hg (N := 3) ?hd (cs := #[.slice A0_0 l0_0.length c0_0, .slice A0_1 l0_1.length c0_1, .slice A0_2 l0_2.length c0_2, .slice A0_3 l0_3.length c0_3, .slice A0_4 l0_4.length c0_4, .slice A0_5 l0_5.length c0_5, .slice A0_6 l0_6.length c0_6]) (t := 76) ?hr ?_; (case hd => rfl); (case hg => rfl); (case hr => first | (go_simp; done) | (go_simp; rfl)); intro gb101 hg w5 hbox hb; have n0_ := Aside0.mk (below_step (bp9 HB.out) hb); have n1_ := Aside0.mk (hbox); have n2_ := Aside0.mk ((by rw [hg]; exact (below_size (bp9 HB.out)) : w.heap.size ≤ gb101)); have n3_ := n2_; clear HB; have HB := n0_; have BK101 := n1_; have GW101 := n2_; have GE101 := n3_; clear n0_ n1_ n2_ n3_; clear hb hbox hg))
 repeat (go_quiet (first | ((with_reducible refine gate_dst (N := 3) rfl ?_); (try (refine gate_guard (by rfl) ?_; dsimp only)); refine box_event ?hg (N := 3) ?hd (cs := #[.slice A0_0 l0_0.length c0_0, .slice A0_1 l0_1.length c0_1, .slice A0_2 l0_2.length c0_2, .slice A0_3 l0_3.length c0_3, .slice A0_4 l0_4.length c0_4, .slice A0_5 l0_5.length c0_5, .slice A0_6 l0_6.length c0_6]) (t := 76) ?hr ?_; (case hd => rfl); (case hg => rfl); (case hr => first | (go_simp; done) | (go_simp; rfl)); intro gb101 hg w5 hbox hb; have n0_ := Aside0.mk (below_step (bp9 HB.out) hb); have n1_ := Aside0.mk (hbox); have n2_ := Aside0.mk ((by rw [hg]; exact (below_size (bp9 HB.out)) : w.heap.size ≤ gb101)); have n3_ := n2_; clear HB; have HB := n0_; have BK101 := n1_; have GW101 := n2_; have GE101 := n3_; clear n0_ n1_ n2_ n3_; clear hb hbox hg)); go_upto_region 2 with (first | ((with_reducible refine gate_dst (N := 3) rfl ?_); (try (refine gate_guard (by rfl) ?_; dsimp only)); refine box_event ?hg (N := 3) ?hd (cs := #[.slice A0_0 l0_0.length c0_0, .slice A0_1 l0_1.length c0_1, .slice A0_2 l0_2.length c0_2, .slice A0_3 l0_3.length c0_3, .slice A0_4 l0_4.length c0_4, .slice A0_5 l0_5.length c0_5, .slice A0_6 l0_6.length c0_6]) (t := 76) ?hr ?_; (case hd => rfl); (case hg => rfl); (case hr => first | (go_simp; done) | (go_simp; rfl)); intro gb101 hg w5 hbox hb; have n0_ := Aside0.mk (below_step (bp9 HB.out) hb); have n1_ := Aside0.mk (hbox); have n2_ := Aside0.mk ((by rw [hg]; exact (below_size (bp9 HB.out)) : w.heap.size ≤ gb101)); have n3_ := n2_; clear HB; have HB := n0_; have BK101 := n1_; have GW101 := n2_; have GE101 := n3_; clear n0_ n1_ n2_ n3_; clear hb hbox hg)))
 (try simp only [Act.put, List.setIfInBounds_toArray, List.set_cons_zero, List.set_cons_succ])
 go_cut [18] (fun v18 wc => ∃ (kq : Nat) (x18_3 : Bool), v18 = .bool x18_3 ∧ Aside0 (cupolaref11_May.j0 kq l1 a2 ([] : List Int) x18_3 l0_0 l0_1 l0_2 l0_3 l0_4 l0_5 l0_6 = some r) ∧ Aside0 (kq ≤ k) ∧ Aside0 (Kd.R (Kd.int .i64) 3 wc w.heap.size (fun _ => True) (.slice none 0 0) ([] : List Int)) ∧ Aside0 (wc.heap[gb101]? = some (.cells #[(.slice A0_0 l0_0.length c0_0), (.slice A0_1 l0_1.length c0_1), (.slice A0_2 l0_2.length c0_2), (.slice A0_3 l0_3.length c0_3), (.slice A0_4 l0_4.length c0_4), (.slice A0_5 l0_5.length c0_5), (.slice A0_6 l0_6.length c0_6)] 76 (0, 0))) ∧ Aside0 (Below w.heap.size w wc))
 case first =>
  have H := HC4.out
  clear HC4
  by_cases c6 : a2 < 0
  ·rw [if_pos c6] at H
   have c6b0 : decide (a2 < 0) = true := decide_eq_true c6
   clear c6
   (first | rw [c6b0] | (simp only [i64_w, i32_w]; rw [c6b0]) | skip)
   have H' := Aside0.mk H
   clear H
   go_wp2
   repeat (go_quiet (fail); try go_wp2)
   go_meet
   case rel => exact ⟨_, (true), (by first | rfl | (simp; done) | (simp [*]; done)), H', ⟨by first | omega | exact Nat.le_refl _⟩, ⟨by first | exact Kd.R_nil _ _ _ _ _ | exact Kd.N_nil _ _ _ _ _ | exact Kd.V_nil _ _ _ _ _ | exact Kd.Q_nil _ _ _ _ _ | exact Kd.S_nil _ _ _ _ _⟩, ⟨kp9 BK101.out⟩, ⟨bp9 HB.out⟩⟩
  ·rw [if_neg c6] at H
   have c6b0 : decide (a2 < 0) = false := decide_eq_false c6
   clear c6
   (first | rw [c6b0] | (simp only [i64_w, i32_w]; rw [c6b0]) | skip)
   have H' := Aside0.mk H
   clear H
   obtain ⟨hcz7_0, hcz7_1, hcz7_2, hcz7_3, hcz7_4, hcz7_5, hcz7_6, hfz7_0, hfz7_1, hfz7_2, hfz7_3, hfz7_4, hfz7_5, hfz7_6⟩ := cz7 BK101.out
   go_wp2
   repeat (go_quiet (fail); try go_wp2)
   go_meet
   case rel => exact ⟨_, (decide (a2 ≥ (l0_0.length : Int))), (by first | rfl | (simp; done) | (simp [*]; done)), H', ⟨by first | omega | exact Nat.le_refl _⟩, ⟨by first | exact Kd.R_nil _ _ _ _ _ | exact Kd.N_nil _ _ _ _ _ | exact Kd.V_nil _ _ _ _ _ | exact Kd.Q_nil _ _ _ _ _ | exact Kd.S_nil _ _ _ _ _⟩, ⟨kp9 BK101.out⟩, ⟨bp9 HB.out⟩⟩
 case rest =>
  clear HC4
  try clear c1
  try clear p2
  try clear c6
  try clear c6b0
  try clear hcz7_0 hcz7_1 hcz7_2 hcz7_3 hcz7_4 hcz7_5 hcz7_6
  try clear hfz7_0 hfz7_1 hfz7_2 hfz7_3 hfz7_4 hfz7_5 hfz7_6
  obtain ⟨kq, x18_3, rfl, HA, HJ3, HO_7, BK101, HB⟩ := hcut
  cases kq with
  | zero => exact absurd HA.out (by simp [cupolaref11_May.j0])
  | succ kj3 =>
   have H := HA.out
   clear HA
   simp only [cupolaref11_May.j0] at H
   by_cases c8 : x18_3 = true
   ·subst c8
    rw [if_pos rfl] at H
    obtain rfl := Option.some.inj H
    go_wp2
    repeat (go_quiet (fail); try go_wp2)
    go_ret
    exact ⟨_, by first | rfl | (simp [errW_none, errW_some] <;> rfl) | (simp [*, errW_none, errW_some] <;> rfl), by (with_reducible repeat (first | apply Kd.R_alloc | apply Kd.R_drewN | apply Kd.R_drew)); exact HO_7.out, bp9 HB.out⟩
   ·replace c8 := Bool.eq_false_iff.mpr c8
    subst c8
    rw [if_neg (show ¬ (false = true) by decide)] at H
    by_cases c9 : 0 ≤ a2
    ·rw [if_pos c9] at H
     have c9b0 : decide (0 ≤ a2) = true := decide_eq_true c9
     clear c9
     by_cases c10 : a2 < (l0_0.length : Int)
     ·rw [if_pos c10] at H
      have c10b0 : decide (a2 < (l0_0.length : Int)) = true := decide_eq_true c10
      clear c10
      by_cases c11 : ((rd_T26 l0_0 a2).f1) = 1
      ·rw [if_pos c11] at H
       have c11b0 : (((rd_T26 l0_0 a2).f1) == 1) = true := beq_iff_eq.mpr c11
       have c11b1 : (((rd_T26 l0_0 a2).f1) != 1) = false := bne_eq_false_iff_eq.mpr c11
       clear c11
       have HC12 := Aside0.mk H
       clear H
       obtain ⟨hcz13_0, hcz13_1, hcz13_2, hcz13_3, hcz13_4, hcz13_5, hcz13_6, hfz13_0, hfz13_1, hfz13_2, hfz13_3, hfz13_4, hfz13_5, hfz13_6⟩ := cz7 BK101.out
       have p102 : 0 ≤ (a2 : Int) := of_decide_eq_true (by first | (with_reducible assumption) | assumption)
       have q102 : a2 < (l0_0.length : Int) := of_decide_eq_true (by first | (with_reducible assumption) | assumption)
       obtain ⟨ad102, e102, hx102_0, hx102_1, hx102_2, hx102_3, hx102_4, hx102_5, hx102_6⟩ := at_T26 HR0_0.out a2 p102 q102
       cases e102
       replace hx102_0 := (HB.out.cell (World.block_lt_of_cell? w _ hx102_0)).trans hx102_0
       replace hx102_1 := (HB.out.cell (World.block_lt_of_cell? w _ hx102_1)).trans hx102_1
       replace hx102_2 := (HB.out.cell (World.block_lt_of_cell? w _ hx102_2)).trans hx102_2
       replace hx102_3 := (HB.out.cell (World.block_lt_of_cell? w _ hx102_3)).trans hx102_3
       replace hx102_4 := (HB.out.cell (World.block_lt_of_cell? w _ hx102_4)).trans hx102_4
       replace hx102_5 := (HB.out.cell (World.block_lt_of_cell? w _ hx102_5)).trans hx102_5
       replace hx102_6 := (HB.out.cell (World.block_lt_of_cell? w _ hx102_6)).trans hx102_6
       replace p102 := eq_true p102
       replace q102 := eq_true q102
       go_upto_region 7 with (first | ((with_reducible refine gate_dst (N := 8) rfl ?_); (try (refine gate_guard (by rfl) ?_; dsimp only)); refine box_event ?hg (N := 8) ?hd (cs := #[.int .i64 0, .int .i64 0, .int .i64 0, .int .i64 0, .bool false, .bool false, .bool false]) (t := 26) ?hr ?_; (case hd => rfl); (case hg => rfl); (case hr => first | (go_simp; done) | (go_simp; rfl)); intro gb103 hg w14 hbox hb; have n0_ := Aside0.mk (Kd.R_below (rp9 HO_7.out) hb); have n1_ := Aside0.mk (blk_below (kp9 BK101.out) hb); have n2_ := Aside0.mk (below_step (bp9 HB.out) hb); have n3_ := Aside0.mk (hbox); have n4_ := Aside0.mk ((by rw [hg]; exact (below_size (bp9 HB.out)) : w.heap.size ≤ gb103)); have n5_ := n4_; have n6_ := Aside0.mk ((by rw [hg]; exact Nat.ne_of_lt (blk_lt (g := gb101) (o := .cells #[.slice (some ad102) l0_0.length c0_0, .slice A0_1 l0_1.length c0_1, .slice A0_2 l0_2.length c0_2, .slice A0_3 l0_3.length c0_3, .slice A0_4 l0_4.length c0_4, .slice A0_5 l0_5.length c0_5, .slice A0_6 l0_6.length c0_6] 76 (0, 0)) (kp9 BK101.out)) : gb101 ≠ gb103)); have n7_ := Aside0.mk ((by rw [hg]; exact Nat.ne_of_gt (blk_lt (g := gb101) (o := .cells #[.slice (some ad102) l0_0.length c0_0, .slice A0_1 l0_1.length c0_1, .slice A0_2 l0_2.length c0_2, .slice A0_3 l0_3.length c0_3, .slice A0_4 l0_4.length c0_4, .slice A0_5 l0_5.length c0_5, .slice A0_6 l0_6.length c0_6] 76 (0, 0)) (kp9 BK101.out)) : gb103 ≠ gb101)); clear HO_7; clear BK101; clear HB; have HO_7 := n0_; have BK101 := n1_; have HB := n2_; have BK103 := n3_; have GW103 := n4_; have GE103 := n5_; have NB101_103 := n6_; have NB103_101 := n7_; clear n0_ n1_ n2_ n3_ n4_ n5_ n6_ n7_; clear hb hbox hg; have hnb15 := NB103_101.out; have hnc15 := NB101_103.out; obtain ⟨hcz16_0, hcz16_1, hcz16_2, hcz16_3, hcz16_4, hcz16_5, hcz16_6, hfz16_0, hfz16_1, hfz16_2, hfz16_3, hfz16_4, hfz16_5, hfz16_6⟩ := cz7 BK103.out))
       repeat (go_quiet (first | ((with_reducible refine gate_dst (N := 8) rfl ?_); (try (refine gate_guard (by rfl) ?_; dsimp only)); refine box_event ?hg (N := 8) ?hd (cs := #[.int .i64 0, .int .i64 0, .int .i64 0, .int .i64 0, .bool false, .bool false, .bool false]) (t := 26) ?hr ?_; (case hd => rfl); (case hg => rfl); (case hr => first | (go_simp; done) | (go_simp; rfl)); intro gb103 hg w14 hbox hb; have n0_ := Aside0.mk (Kd.R_below (rp9 HO_7.out) hb); have n1_ := Aside0.mk (blk_below (kp9 BK101.out) hb); have n2_ := Aside0.mk (below_step (bp9 HB.out) hb); have n3_ := Aside0.mk (hbox); have n4_ := Aside0.mk ((by rw [hg]; exact (below_size (bp9 HB.out)) : w.heap.size ≤ gb103)); have n5_ := n4_; have n6_ := Aside0.mk ((by rw [hg]; exact Nat.ne_of_lt (blk_lt (g := gb101) (o := .cells #[.slice (some ad102) l0_0.length c0_0, .slice A0_1 l0_1.length c0_1, .slice A0_2 l0_2.length c0_2, .slice A0_3 l0_3.length c0_3, .slice A0_4 l0_4.length c0_4, .slice A0_5 l0_5.length c0_5, .slice A0_6 l0_6.length c0_6] 76 (0, 0)) (kp9 BK101.out)) : gb101 ≠ gb103)); have n7_ := Aside0.mk ((by rw [hg]; exact Nat.ne_of_gt (blk_lt (g := gb101) (o := .cells #[.slice (some ad102) l0_0.length c0_0, .slice A0_1 l0_1.length c0_1, .slice A0_2 l0_2.length c0_2, .slice A0_3 l0_3.length c0_3, .slice A0_4 l0_4.length c0_4, .slice A0_5 l0_5.length c0_5, .slice A0_6 l0_6.length c0_6] 76 (0, 0)) (kp9 BK101.out)) : gb103 ≠ gb101)); clear HO_7; clear BK101; clear HB; have HO_7 := n0_; have BK101 := n1_; have HB := n2_; have BK103 := n3_; have GW103 := n4_; have GE103 := n5_; have NB101_103 := n6_; have NB103_101 := n7_; clear n0_ n1_ n2_ n3_ n4_ n5_ n6_ n7_; clear hb hbox hg; have hnb15 := NB103_101.out; have hnc15 := NB101_103.out; obtain ⟨hcz16_0, hcz16_1, hcz16_2, hcz16_3, hcz16_4, hcz16_5, hcz16_6, hfz16_0, hfz16_1, hfz16_2, hfz16_3, hfz16_4, hfz16_5, hfz16_6⟩ := cz7 BK103.out)); go_upto_region 7 with (first | ((with_reducible refine gate_dst (N := 8) rfl ?_); (try (refine gate_guard (by rfl) ?_; dsimp only)); refine box_event ?hg (N := 8) ?hd (cs := #[.int .i64 0, .int .i64 0, .int .i64 0, .int .i64 0, .bool false, .bool false, .bool false]) (t := 26) ?hr ?_; (case hd => rfl); (case hg => rfl); (case hr => first | (go_simp; done) | (go_simp; rfl)); intro gb103 hg w14 hbox hb; have n0_ := Aside0.mk (Kd.R_below (rp9 HO_7.out) hb); have n1_ := Aside0.mk (blk_below (kp9 BK101.out) hb); have n2_ := Aside0.mk (below_step (bp9 HB.out) hb); have n3_ := Aside0.mk (hbox); have n4_ := Aside0.mk ((by rw [hg]; exact (below_size (bp9 HB.out)) : w.heap.size ≤ gb103)); have n5_ := n4_; have n6_ := Aside0.mk ((by rw [hg]; exact Nat.ne_of_lt (blk_lt (g := gb101) (o := .cells #[.slice (some ad102) l0_0.length c0_0, .slice A0_1 l0_1.length c0_1, .slice A0_2 l0_2.length c0_2, .slice A0_3 l0_3.length c0_3, .slice A0_4 l0_4.length c0_4, .slice A0_5 l0_5.length c0_5, .slice A0_6 l0_6.length c0_6] 76 (0, 0)) (kp9 BK101.out)) : gb101 ≠ gb103)); have n7_ := Aside0.mk ((by rw [hg]; exact Nat.ne_of_gt (blk_lt (g := gb101) (o := .cells #[.slice (some ad102) l0_0.length c0_0, .slice A0_1 l0_1.length c0_1, .slice A0_2 l0_2.length c0_2, .slice A0_3 l0_3.length c0_3, .slice A0_4 l0_4.length c0_4, .slice A0_5 l0_5.length c0_5, .slice A0_6 l0_6.length c0_6] 76 (0, 0)) (kp9 BK101.out)) : gb103 ≠ gb101)); clear HO_7; clear BK101; clear HB; have HO_7 := n0_; have BK101 := n1_; have HB := n2_; have BK103 := n3_; have GW103 := n4_; have GE103 := n5_; have NB101_103 := n6_; have NB103_101 := n7_; clear n0_ n1_ n2_ n3_ n4_ n5_ n6_ n7_; clear hb hbox hg; have hnb15 := NB103_101.out; have hnc15 := NB101_103.out; obtain ⟨hcz16_0, hcz16_1, hcz16_2, hcz16_3, hcz16_4, hcz16_5, hcz16_6, hfz16_0, hfz16_1, hfz16_2, hfz16_3, hfz16_4, hfz16_5, hfz16_6⟩ := cz7 BK103.out)))
       (try simp only [Act.put, List.setIfInBounds_toArray, List.set_cons_zero, List.set_cons_succ])
       go_cut [48] (fun v48 wc => ∃ (kq : Nat) (x48_11 : Bool), v48 = .bool x48_11 ∧ Aside0 (cupolaref11_May.j1 kq ([] : List Int) x48_11 l0_0 l0_1 l0_2 l0_3 l0_4 l0_5 l0_6 ((rd_T26 l0_0 a2).f0) ((rd_T26 l0_0 a2).f1) ((rd_T26 l0_0 a2).f2) ((rd_T26 l0_0 a2).f3) ((rd_T26 l0_0 a2).f4) ((rd_T26 l0_0 a2).f5) ((rd_T26 l0_0 a2).f6) = some r) ∧ Aside0 (kq ≤ kj3) ∧ Aside0 (Kd.R (Kd.int .i64) 3 wc w.heap.size (fun _ => True) (.slice none 0 0) ([] : List Int)) ∧ Aside0 (wc.heap[gb101]? = some (.cells #[(.slice (some ad102) l0_0.length c0_0), (.slice A0_1 l0_1.length c0_1), (.slice A0_2 l0_2.length c0_2), (.slice A0_3 l0_3.length c0_3), (.slice A0_4 l0_4.length c0_4), (.slice A0_5 l0_5.length c0_5), (.slice A0_6 l0_6.length c0_6)] 76 (0, 0))) ∧ Aside0 (wc.heap[gb103]? = some (.cells #[.int .i64 ((rd_T26 l0_0 a2).f0), .int .i64 ((rd_T26 l0_0 a2).f1), .int .i64 ((rd_T26 l0_0 a2).f2), .int .i64 ((rd_T26 l0_0 a2).f3), .bool ((rd_T26 l0_0 a2).f4), .bool ((rd_T26 l0_0 a2).f5), .bool ((rd_T26 l0_0 a2).f6)] 26 (0, 0))) ∧ Aside0 (Below w.heap.size w wc))
       case first =>
        have H := HC12.out
        clear HC12
        by_cases c17 : ((rd_T26 l0_0 a2).f2) ≥ 0
        ·rw [if_pos c17] at H
         have c17b0 : decide (0 ≤ ((rd_T26 l0_0 a2).f2)) = true := decide_eq_true c17
         clear c17
         (first | rw [c17b0] | (simp only [i64_w, i32_w]; rw [c17b0]) | skip)
         by_cases c18 : ((rd_T26 l0_0 a2).f2) < (l1.length : Int)
         ·rw [if_pos c18] at H
          have c18b0 : decide (((rd_T26 l0_0 a2).f2) < (l1.length : Int)) = true := decide_eq_true c18
          clear c18
          by_cases c19 : 0 ≤ ((rd_T26 l0_0 a2).f2)
          ·rw [if_pos c19] at H
           have c19b0 : decide (0 ≤ ((rd_T26 l0_0 a2).f2)) = true := decide_eq_true c19
           clear c19
           have H' := Aside0.mk H
           clear H
           have hnb20 := NB103_101.out
           have hnc20 := NB101_103.out
           obtain ⟨hcz21_0, hcz21_1, hcz21_2, hcz21_3, hcz21_4, hcz21_5, hcz21_6, hfz21_0, hfz21_1, hfz21_2, hfz21_3, hfz21_4, hfz21_5, hfz21_6⟩ := cz7 BK103.out
           have p104 : 0 ≤ (((rd_T26 l0_0 a2).f2) : Int) := of_decide_eq_true (by first | (with_reducible assumption) | assumption)
           have q104 : ((rd_T26 l0_0 a2).f2) < (l1.length : Int) := of_decide_eq_true (by first | (with_reducible assumption) | assumption)
           obtain ⟨ad104, e104, hx104_0⟩ := Kd.at_int HR1.out ((rd_T26 l0_0 a2).f2) p104 q104
           cases e104
           have hn104_0 : ad104.block ≠ gb103 := Nat.ne_of_lt (Nat.lt_of_lt_of_le (by have := World.block_lt_of_cell? _ _ hx104_0; first | rwa [add_block] at this | exact this) GW103.out)
           have hn104_1 : ad104.block ≠ gb103 := Nat.ne_of_lt (Nat.lt_of_lt_of_le (by have := World.block_lt_of_cell? _ _ hx104_0; first | rwa [add_block] at this | exact this) GW103.out)
           have hn104_2 : ad104.block ≠ gb103 := Nat.ne_of_lt (Nat.lt_of_lt_of_le (by have := World.block_lt_of_cell? _ _ hx104_0; first | rwa [add_block] at this | exact this) GW103.out)
           have hn104_3 : ad104.block ≠ gb103 := Nat.ne_of_lt (Nat.lt_of_lt_of_le (by have := World.block_lt_of_cell? _ _ hx104_0; first | rwa [add_block] at this | exact this) GW103.out)
           have hn104_4 : ad104.block ≠ gb103 := Nat.ne_of_lt (Nat.lt_of_lt_of_le (by have := World.block_lt_of_cell? _ _ hx104_0; first | rwa [add_block] at this | exact this) GW103.out)
           have hn104_5 : ad104.block ≠ gb103 := Nat.ne_of_lt (Nat.lt_of_lt_of_le (by have := World.block_lt_of_cell? _ _ hx104_0; first | rwa [add_block] at this | exact this) GW103.out)
           have hn104_6 : ad104.block ≠ gb103 := Nat.ne_of_lt (Nat.lt_of_lt_of_le (by have := World.block_lt_of_cell? _ _ hx104_0; first | rwa [add_block] at this | exact this) GW103.out)
           replace hx104_0 := (HB.out.cell (World.block_lt_of_cell? w _ hx104_0)).trans hx104_0
           replace hx104_0 := (cell_far (p := ⟨gb103, 0, none⟩) (by first | (rw [add_block]; exact hn104_0) | (show (Addr.add _ _).block ≠ _; rw [add_block]; exact hn104_0) | exact hn104_0) (.int .i64 ((rd_T26 l0_0 a2).f0))).trans hx104_0
           replace hx104_0 := (cell_far (p := ⟨gb103, 1, none⟩) (by first | (rw [add_block]; exact hn104_1) | (show (Addr.add _ _).block ≠ _; rw [add_block]; exact hn104_1) | exact hn104_1) (.int .i64 ((rd_T26 l0_0 a2).f1))).trans hx104_0
           replace hx104_0 := (cell_far (p := ⟨gb103, 2, none⟩) (by first | (rw [add_block]; exact hn104_2) | (show (Addr.add _ _).block ≠ _; rw [add_block]; exact hn104_2) | exact hn104_2) (.int .i64 ((rd_T26 l0_0 a2).f2))).trans hx104_0
           replace hx104_0 := (cell_far (p := ⟨gb103, 3, none⟩) (by first | (rw [add_block]; exact hn104_3) | (show (Addr.add _ _).block ≠ _; rw [add_block]; exact hn104_3) | exact hn104_3) (.int .i64 ((rd_T26 l0_0 a2).f3))).trans hx104_0
           replace hx104_0 := (cell_far (p := ⟨gb103, 4, none⟩) (by first | (rw [add_block]; exact hn104_4) | (show (Addr.add _ _).block ≠ _; rw [add_block]; exact hn104_4) | exact hn104_4) (.bool ((rd_T26 l0_0 a2).f4))).trans hx104_0
           replace hx104_0 := (cell_far (p := ⟨gb103, 5, none⟩) (by first | (rw [add_block]; exact hn104_5) | (show (Addr.add _ _).block ≠ _; rw [add_block]; exact hn104_5) | exact hn104_5) (.bool ((rd_T26 l0_0 a2).f5))).trans hx104_0
           replace hx104_0 := (cell_far (p := ⟨gb103, 6, none⟩) (by first | (rw [add_block]; exact hn104_6) | (show (Addr.add _ _).block ≠ _; rw [add_block]; exact hn104_6) | exact hn104_6) (.bool ((rd_T26 l0_0 a2).f6))).trans hx104_0
           clear hn104_0
           clear hn104_1
           clear hn104_2
           clear hn104_3
           clear hn104_4
           clear hn104_5
           clear hn104_6
           replace p104 := eq_true p104
           replace q104 := eq_true q104
           go_wp2
           repeat (go_quiet (fail); try go_wp2)
           go_meet
           case rel => exact ⟨_, (((rd l1 ((rd_T26 l0_0 a2).f2)) == ((rd_T26 l0_0 a2).f3))), (by first | rfl | (simp; done) | (simp [*]; done)), H', ⟨by have := HJ3.out; first | omega | exact Nat.le_refl _⟩, ⟨by (with_reducible repeat (first | apply Kd.R_alloc | apply Kd.R_drewN | apply Kd.R_drew)); exact Kd.R_mono (Kd.R_far (p := ⟨gb103, 6, none⟩) (Kd.R_far (p := ⟨gb103, 5, none⟩) (Kd.R_far (p := ⟨gb103, 4, none⟩) (Kd.R_far (p := ⟨gb103, 3, none⟩) (Kd.R_far (p := ⟨gb103, 2, none⟩) (Kd.R_far (p := ⟨gb103, 1, none⟩) (Kd.R_far (p := ⟨gb103, 0, none⟩) (Kd.R_types HO_7.out BK103.out (by decide)) (fun _ hk => hk.2) (.int .i64 ((rd_T26 l0_0 a2).f0))) (fun _ hk => hk.2) (.int .i64 ((rd_T26 l0_0 a2).f1))) (fun _ hk => hk.2) (.int .i64 ((rd_T26 l0_0 a2).f2))) (fun _ hk => hk.2) (.int .i64 ((rd_T26 l0_0 a2).f3))) (fun _ hk => hk.2) (.bool ((rd_T26 l0_0 a2).f4))) (fun _ hk => hk.2) (.bool ((rd_T26 l0_0 a2).f5))) (fun _ hk => hk.2) (.bool ((rd_T26 l0_0 a2).f6))) (fun _ hk => trivial)⟩, ⟨by (with_reducible repeat (first | refine blk_drewN ?_ _ | refine blk_drew ?_ | refine blk_alloc ?_ _)); refine blk_far ?_ NB101_103.out _; (with_reducible repeat (first | refine blk_drewN ?_ _ | refine blk_drew ?_ | refine blk_alloc ?_ _)); refine blk_far ?_ NB101_103.out _; (with_reducible repeat (first | refine blk_drewN ?_ _ | refine blk_drew ?_ | refine blk_alloc ?_ _)); refine blk_far ?_ NB101_103.out _; (with_reducible repeat (first | refine blk_drewN ?_ _ | refine blk_drew ?_ | refine blk_alloc ?_ _)); refine blk_far ?_ NB101_103.out _; (with_reducible repeat (first | refine blk_drewN ?_ _ | refine blk_drew ?_ | refine blk_alloc ?_ _)); refine blk_far ?_ NB101_103.out _; (with_reducible repeat (first | refine blk_drewN ?_ _ | refine blk_drew ?_ | refine blk_alloc ?_ _)); refine blk_far ?_ NB101_103.out _; (with_reducible repeat (first | refine blk_drewN ?_ _ | refine blk_drew ?_ | refine blk_alloc ?_ _)); refine blk_far ?_ NB101_103.out _; (with_reducible repeat (first | refine blk_drewN ?_ _ | refine blk_drew ?_ | refine blk_alloc ?_ _)); exact BK101.out⟩, ⟨by (with_reducible repeat (first | refine blk_drewN ?_ _ | refine blk_drew ?_ | refine blk_alloc ?_ _)); refine blk_put (cs := #[.int .i64 ((rd_T26 l0_0 a2).f0), .int .i64 ((rd_T26 l0_0 a2).f1), .int .i64 ((rd_T26 l0_0 a2).f2), .int .i64 ((rd_T26 l0_0 a2).f3), .bool ((rd_T26 l0_0 a2).f4), .bool ((rd_T26 l0_0 a2).f5), .bool false]) ?_ 6 _ rfl; (with_reducible repeat (first | refine blk_drewN ?_ _ | refine blk_drew ?_ | refine blk_alloc ?_ _)); refine blk_put (cs := #[.int .i64 ((rd_T26 l0_0 a2).f0), .int .i64 ((rd_T26 l0_0 a2).f1), .int .i64 ((rd_T26 l0_0 a2).f2), .int .i64 ((rd_T26 l0_0 a2).f3), .bool ((rd_T26 l0_0 a2).f4), .bool false, .bool false]) ?_ 5 _ rfl; (with_reducible repeat (first | refine blk_drewN ?_ _ | refine blk_drew ?_ | refine blk_alloc ?_ _)); refine blk_put (cs := #[.int .i64 ((rd_T26 l0_0 a2).f0), .int .i64 ((rd_T26 l0_0 a2).f1), .int .i64 ((rd_T26 l0_0 a2).f2), .int .i64 ((rd_T26 l0_0 a2).f3), .bool false, .bool false, .bool false]) ?_ 4 _ rfl; (with_reducible repeat (first | refine blk_drewN ?_ _ | refine blk_drew ?_ | refine blk_alloc ?_ _)); refine blk_put (cs := #[.int .i64 ((rd_T26 l0_0 a2).f0), .int .i64 ((rd_T26 l0_0 a2).f1), .int .i64 ((rd_T26 l0_0 a2).f2), .int .i64 0, .bool false, .bool false, .bool false]) ?_ 3 _ rfl; (with_reducible repeat (first | refine blk_drewN ?_ _ | refine blk_drew ?_ | refine blk_alloc ?_ _)); refine blk_put (cs := #[.int .i64 ((rd_T26 l0_0 a2).f0), .int .i64 ((rd_T26 l0_0 a2).f1), .int .i64 0, .int .i64 0, .bool false, .bool false, .bool false]) ?_ 2 _ rfl; (with_reducible repeat (first | refine blk_drewN ?_ _ | refine blk_drew ?_ | refine blk_alloc ?_ _)); refine blk_put (cs := #[.int .i64 ((rd_T26 l0_0 a2).f0), .int .i64 0, .int .i64 0, .int .i64 0, .bool false, .bool false, .bool false]) ?_ 1 _ rfl; (with_reducible repeat (first | refine blk_drewN ?_ _ | refine blk_drew ?_ | refine blk_alloc ?_ _)); refine blk_put (cs := #[.int .i64 0, .int .i64 0, .int .i64 0, .int .i64 0, .bool false, .bool false, .bool false]) ?_ 0 _ rfl; (with_reducible repeat (first | refine blk_drewN ?_ _ | refine blk_drew ?_ | refine blk_alloc ?_ _)); exact BK103.out⟩, ⟨bp9 HB.out⟩⟩
          ·rw [if_neg c19] at H
           exact absurd H (by simp)
         ·rw [if_neg c18] at H
          have c18b0 : decide (((rd_T26 l0_0 a2).f2) < (l1.length : Int)) = false := decide_eq_false c18
          clear c18
          have H' := Aside0.mk H
          clear H
          have hnb22 := NB103_101.out
          have hnc22 := NB101_103.out
          obtain ⟨hcz23_0, hcz23_1, hcz23_2, hcz23_3, hcz23_4, hcz23_5, hcz23_6, hfz23_0, hfz23_1, hfz23_2, hfz23_3, hfz23_4, hfz23_5, hfz23_6⟩ := cz7 BK103.out
          go_wp2
          repeat (go_quiet (fail); try go_wp2)
          go_meet
          case rel => exact ⟨_, (false), (by first | rfl | (simp; done) | (simp [*]; done)), H', ⟨by have := HJ3.out; first | omega | exact Nat.le_refl _⟩, ⟨by (with_reducible repeat (first | apply Kd.R_alloc | apply Kd.R_drewN | apply Kd.R_drew)); exact Kd.R_mono (Kd.R_far (p := ⟨gb103, 6, none⟩) (Kd.R_far (p := ⟨gb103, 5, none⟩) (Kd.R_far (p := ⟨gb103, 4, none⟩) (Kd.R_far (p := ⟨gb103, 3, none⟩) (Kd.R_far (p := ⟨gb103, 2, none⟩) (Kd.R_far (p := ⟨gb103, 1, none⟩) (Kd.R_far (p := ⟨gb103, 0, none⟩) (Kd.R_types HO_7.out BK103.out (by decide)) (fun _ hk => hk.2) (.int .i64 ((rd_T26 l0_0 a2).f0))) (fun _ hk => hk.2) (.int .i64 ((rd_T26 l0_0 a2).f1))) (fun _ hk => hk.2) (.int .i64 ((rd_T26 l0_0 a2).f2))) (fun _ hk => hk.2) (.int .i64 ((rd_T26 l0_0 a2).f3))) (fun _ hk => hk.2) (.bool ((rd_T26 l0_0 a2).f4))) (fun _ hk => hk.2) (.bool ((rd_T26 l0_0 a2).f5))) (fun _ hk => hk.2) (.bool ((rd_T26 l0_0 a2).f6))) (fun _ hk => trivial)⟩, ⟨by (with_reducible repeat (first | refine blk_drewN ?_ _ | refine blk_drew ?_ | refine blk_alloc ?_ _)); refine blk_far ?_ NB101_103.out _; (with_reducible repeat (first | refine blk_drewN ?_ _ | refine blk_drew ?_ | refine blk_alloc ?_ _)); refine blk_far ?_ NB101_103.out _; (with_reducible repeat (first | refine blk_drewN ?_ _ | refine blk_drew ?_ | refine blk_alloc ?_ _)); refine blk_far ?_ NB101_103.out _; (with_reducible repeat (first | refine blk_drewN ?_ _ | refine blk_drew ?_ | refine blk_alloc ?_ _)); refine blk_far ?_ NB101_103.out _; (with_reducible repeat (first | refine blk_drewN ?_ _ | refine blk_drew ?_ | refine blk_alloc ?_ _)); refine blk_far ?_ NB101_103.out _; (with_reducible repeat (first | refine blk_drewN ?_ _ | refine blk_drew ?_ | refine blk_alloc ?_ _)); refine blk_far ?_ NB101_103.out _; (with_reducible repeat (first | refine blk_drewN ?_ _ | refine blk_drew ?_ | refine blk_alloc ?_ _)); refine blk_far ?_ NB101_103.out _; (with_reducible repeat (first | refine blk_drewN ?_ _ | refine blk_drew ?_ | refine blk_alloc ?_ _)); exact BK101.out⟩, ⟨by (with_reducible repeat (first | refine blk_drewN ?_ _ | refine blk_drew ?_ | refine blk_alloc ?_ _)); refine blk_put (cs := #[.int .i64 ((rd_T26 l0_0 a2).f0), .int .i64 ((rd_T26 l0_0 a2).f1), .int .i64 ((rd_T26 l0_0 a2).f2), .int .i64 ((rd_T26 l0_0 a2).f3), .bool ((rd_T26 l0_0 a2).f4), .bool ((rd_T26 l0_0 a2).f5), .bool false]) ?_ 6 _ rfl; (with_reducible repeat (first | refine blk_drewN ?_ _ | refine blk_drew ?_ | refine blk_alloc ?_ _)); refine blk_put (cs := #[.int .i64 ((rd_T26 l0_0 a2).f0), .int .i64 ((rd_T26 l0_0 a2).f1), .int .i64 ((rd_T26 l0_0 a2).f2), .int .i64 ((rd_T26 l0_0 a2).f3), .bool ((rd_T26 l0_0 a2).f4), .bool false, .bool false]) ?_ 5 _ rfl; (with_reducible repeat (first | refine blk_drewN ?_ _ | refine blk_drew ?_ | refine blk_alloc ?_ _)); refine blk_put (cs := #[.int .i64 ((rd_T26 l0_0 a2).f0), .int .i64 ((rd_T26 l0_0 a2).f1), .int .i64 ((rd_T26 l0_0 a2).f2), .int .i64 ((rd_T26 l0_0 a2).f3), .bool false, .bool false, .bool false]) ?_ 4 _ rfl; (with_reducible repeat (first | refine blk_drewN ?_ _ | refine blk_drew ?_ | refine blk_alloc ?_ _)); refine blk_put (cs := #[.int .i64 ((rd_T26 l0_0 a2).f0), .int .i64 ((rd_T26 l0_0 a2).f1), .int .i64 ((rd_T26 l0_0 a2).f2), .int .i64 0, .bool false, .bool false, .bool false]) ?_ 3 _ rfl; (with_reducible repeat (first | refine blk_drewN ?_ _ | refine blk_drew ?_ | refine blk_alloc ?_ _)); refine blk_put (cs := #[.int .i64 ((rd_T26 l0_0 a2).f0), .int .i64 ((rd_T26 l0_0 a2).f1), .int .i64 0, .int .i64 0, .bool false, .bool false, .bool false]) ?_ 2 _ rfl; (with_reducible repeat (first | refine blk_drewN ?_ _ | refine blk_drew ?_ | refine blk_alloc ?_ _)); refine blk_put (cs := #[.int .i64 ((rd_T26 l0_0 a2).f0), .int .i64 0, .int .i64 0, .int .i64 0, .bool false, .bool false, .bool false]) ?_ 1 _ rfl; (with_reducible repeat (first | refine blk_drewN ?_ _ | refine blk_drew ?_ | refine blk_alloc ?_ _)); refine blk_put (cs := #[.int .i64 0, .int .i64 0, .int .i64 0, .int .i64 0, .bool false, .bool false, .bool false]) ?_ 0 _ rfl; (with_reducible repeat (first | refine blk_drewN ?_ _ | refine blk_drew ?_ | refine blk_alloc ?_ _)); exact BK103.out⟩, ⟨bp9 HB.out⟩⟩
        ·rw [if_neg c17] at H
         have c17b0 : decide (0 ≤ ((rd_T26 l0_0 a2).f2)) = false := decide_eq_false c17
         clear c17
         (first | rw [c17b0] | (simp only [i64_w, i32_w]; rw [c17b0]) | skip)
         have H' := Aside0.mk H
         clear H
         have hnb24 := NB103_101.out
         have hnc24 := NB101_103.out
         obtain ⟨hcz25_0, hcz25_1, hcz25_2, hcz25_3, hcz25_4, hcz25_5, hcz25_6, hfz25_0, hfz25_1, hfz25_2, hfz25_3, hfz25_4, hfz25_5, hfz25_6⟩ := cz7 BK103.out
         go_wp2
         repeat (go_quiet (fail); try go_wp2)
         go_meet
         case rel => exact ⟨_, (false), (by first | rfl | (simp; done) | (simp [*]; done)), H', ⟨by have := HJ3.out; first | omega | exact Nat.le_refl _⟩, ⟨by (with_reducible repeat (first | apply Kd.R_alloc | apply Kd.R_drewN | apply Kd.R_drew)); exact Kd.R_mono (Kd.R_far (p := ⟨gb103, 6, none⟩) (Kd.R_far (p := ⟨gb103, 5, none⟩) (Kd.R_far (p := ⟨gb103, 4, none⟩) (Kd.R_far (p := ⟨gb103, 3, none⟩) (Kd.R_far (p := ⟨gb103, 2, none⟩) (Kd.R_far (p := ⟨gb103, 1, none⟩) (Kd.R_far (p := ⟨gb103, 0, none⟩) (Kd.R_types HO_7.out BK103.out (by decide)) (fun _ hk => hk.2) (.int .i64 ((rd_T26 l0_0 a2).f0))) (fun _ hk => hk.2) (.int .i64 ((rd_T26 l0_0 a2).f1))) (fun _ hk => hk.2) (.int .i64 ((rd_T26 l0_0 a2).f2))) (fun _ hk => hk.2) (.int .i64 ((rd_T26 l0_0 a2).f3))) (fun _ hk => hk.2) (.bool ((rd_T26 l0_0 a2).f4))) (fun _ hk => hk.2) (.bool ((rd_T26 l0_0 a2).f5))) (fun _ hk => hk.2) (.bool ((rd_T26 l0_0 a2).f6))) (fun _ hk => trivial)⟩, ⟨by (with_reducible repeat (first | refine blk_drewN ?_ _ | refine blk_drew ?_ | refine blk_alloc ?_ _)); refine blk_far ?_ NB101_103.out _; (with_reducible repeat (first | refine blk_drewN ?_ _ | refine blk_drew ?_ | refine blk_alloc ?_ _)); refine blk_far ?_ NB101_103.out _; (with_reducible repeat (first | refine blk_drewN ?_ _ | refine blk_drew ?_ | refine blk_alloc ?_ _)); refine blk_far ?_ NB101_103.out _; (with_reducible repeat (first | refine blk_drewN ?_ _ | refine blk_drew ?_ | refine blk_alloc ?_ _)); refine blk_far ?_ NB101_103.out _; (with_reducible repeat (first | refine blk_drewN ?_ _ | refine blk_drew ?_ | refine blk_alloc ?_ _)); refine blk_far ?_ NB101_103.out _; (with_reducible repeat (first | refine blk_drewN ?_ _ | refine blk_drew ?_ | refine blk_alloc ?_ _)); refine blk_far ?_ NB101_103.out _; (with_reducible repeat (first | refine blk_drewN ?_ _ | refine blk_drew ?_ | refine blk_alloc ?_ _)); refine blk_far ?_ NB101_103.out _; (with_reducible repeat (first | refine blk_drewN ?_ _ | refine blk_drew ?_ | refine blk_alloc ?_ _)); exact BK101.out⟩, ⟨by (with_reducible repeat (first | refine blk_drewN ?_ _ | refine blk_drew ?_ | refine blk_alloc ?_ _)); refine blk_put (cs := #[.int .i64 ((rd_T26 l0_0 a2).f0), .int .i64 ((rd_T26 l0_0 a2).f1), .int .i64 ((rd_T26 l0_0 a2).f2), .int .i64 ((rd_T26 l0_0 a2).f3), .bool ((rd_T26 l0_0 a2).f4), .bool ((rd_T26 l0_0 a2).f5), .bool false]) ?_ 6 _ rfl; (with_reducible repeat (first | refine blk_drewN ?_ _ | refine blk_drew ?_ | refine blk_alloc ?_ _)); refine blk_put (cs := #[.int .i64 ((rd_T26 l0_0 a2).f0), .int .i64 ((rd_T26 l0_0 a2).f1), .int .i64 ((rd_T26 l0_0 a2).f2), .int .i64 ((rd_T26 l0_0 a2).f3), .bool ((rd_T26 l0_0 a2).f4), .bool false, .bool false]) ?_ 5 _ rfl; (with_reducible repeat (first | refine blk_drewN ?_ _ | refine blk_drew ?_ | refine blk_alloc ?_ _)); refine blk_put (cs := #[.int .i64 ((rd_T26 l0_0 a2).f0), .int .i64 ((rd_T26 l0_0 a2).f1), .int .i64 ((rd_T26 l0_0 a2).f2), .int .i64 ((rd_T26 l0_0 a2).f3), .bool false, .bool false, .bool false]) ?_ 4 _ rfl; (with_reducible repeat (first | refine blk_drewN ?_ _ | refine blk_drew ?_ | refine blk_alloc ?_ _)); refine blk_put (cs := #[.int .i64 ((rd_T26 l0_0 a2).f0), .int .i64 ((rd_T26 l0_0 a2).f1), .int .i64 ((rd_T26 l0_0 a2).f2), .int .i64 0, .bool false, .bool false, .bool false]) ?_ 3 _ rfl; (with_reducible repeat (first | refine blk_drewN ?_ _ | refine blk_drew ?_ | refine blk_alloc ?_ _)); refine blk_put (cs := #[.int .i64 ((rd_T26 l0_0 a2).f0), .int .i64 ((rd_T26 l0_0 a2).f1), .int .i64 0, .int .i64 0, .bool false, .bool false, .bool false]) ?_ 2 _ rfl; (with_reducible repeat (first | refine blk_drewN ?_ _ | refine blk_drew ?_ | refine blk_alloc ?_ _)); refine blk_put (cs := #[.int .i64 ((rd_T26 l0_0 a2).f0), .int .i64 0, .int .i64 0, .int .i64 0, .bool false, .bool false, .bool false]) ?_ 1 _ rfl; (with_reducible repeat (first | refine blk_drewN ?_ _ | refine blk_drew ?_ | refine blk_alloc ?_ _)); refine blk_put (cs := #[.int .i64 0, .int .i64 0, .int .i64 0, .int .i64 0, .bool false, .bool false, .bool false]) ?_ 0 _ rfl; (with_reducible repeat (first | refine blk_drewN ?_ _ | refine blk_drew ?_ | refine blk_alloc ?_ _)); exact BK103.out⟩, ⟨bp9 HB.out⟩⟩
       case rest =>
        clear HC12
        try clear c1
        try clear p1
        try clear q1
        try clear hx1
        try clear c2
        try clear p2
        try clear c6
        try clear c6b0
        try clear c8
        try clear c9
        try clear c9b0
        try clear c10
        try clear c10b0
        try clear p10
        try clear q10
        try clear hx10
        try clear c11
        try clear c11b0
        try clear c11b1
        try clear c15
        try clear c17
        try clear c17b0
        try clear c18
        try clear c18b0
        try clear c19
        try clear c19b0
        try clear c20
        try clear c22
        try clear c24
        try clear hcz13_0 hcz13_1 hcz13_2 hcz13_3 hcz13_4 hcz13_5 hcz13_6
        try clear hcz16_0 hcz16_1 hcz16_2 hcz16_3 hcz16_4 hcz16_5 hcz16_6
        try clear hcz21_0 hcz21_1 hcz21_2 hcz21_3 hcz21_4 hcz21_5 hcz21_6
        try clear hcz23_0 hcz23_1 hcz23_2 hcz23_3 hcz23_4 hcz23_5 hcz23_6
        try clear hcz25_0 hcz25_1 hcz25_2 hcz25_3 hcz25_4 hcz25_5 hcz25_6
        try clear hcz7_0 hcz7_1 hcz7_2 hcz7_3 hcz7_4 hcz7_5 hcz7_6
        try clear hfz13_0 hfz13_1 hfz13_2 hfz13_3 hfz13_4 hfz13_5 hfz13_6
        try clear hfz16_0 hfz16_1 hfz16_2 hfz16_3 hfz16_4 hfz16_5 hfz16_6
        try clear hfz21_0 hfz21_1 hfz21_2 hfz21_3 hfz21_4 hfz21_5 hfz21_6
        try clear hfz23_0 hfz23_1 hfz23_2 hfz23_3 hfz23_4 hfz23_5 hfz23_6
        try clear hfz25_0 hfz25_1 hfz25_2 hfz25_3 hfz25_4 hfz25_5 hfz25_6
        try clear hfz7_0 hfz7_1 hfz7_2 hfz7_3 hfz7_4 hfz7_5 hfz7_6
        try clear hx102_0
        try clear hx102_1
        try clear hx102_2
        try clear hx102_3
        try clear hx102_4
        try clear hx102_5
        try clear hx102_6
        try clear hx104_0
        try clear p102
        try clear p104
        try clear p2
        try clear q102
        try clear q104
        obtain ⟨kq, x48_11, rfl, HA, HJ11, HO_7, BK101, BK103, HB⟩ := hcut
        cases kq with
        | zero => exact absurd HA.out (by simp [cupolaref11_May.j1])
        | succ kj11 =>
         have H := HA.out
         clear HA
         simp only [cupolaref11_May.j1] at H
         have HC26 := Aside0.mk H
         clear H
         go_upto_if 48 with (fail)
         repeat (go_quiet (fail); go_upto_if 48 with (fail))
         go_cut [7] (fun v7 wc => ∃ (kq : Nat) (x7_25 : List Int), Aside0 (cupolaref11_May.j2 kq x7_25 l0_0 l0_1 l0_2 l0_3 l0_4 l0_5 l0_6 ((rd_T26 l0_0 a2).f0) ((rd_T26 l0_0 a2).f1) ((rd_T26 l0_0 a2).f2) ((rd_T26 l0_0 a2).f3) ((rd_T26 l0_0 a2).f4) ((rd_T26 l0_0 a2).f5) ((rd_T26 l0_0 a2).f6) = some r) ∧ Aside0 (kq ≤ kj11) ∧ Aside0 (Kd.R (Kd.int .i64) 3 wc w.heap.size (fun _ => True) v7 x7_25) ∧ Aside0 (wc.heap[gb101]? = some (.cells #[(.slice (some ad102) l0_0.length c0_0), (.slice A0_1 l0_1.length c0_1), (.slice A0_2 l0_2.length c0_2), (.slice A0_3 l0_3.length c0_3), (.slice A0_4 l0_4.length c0_4), (.slice A0_5 l0_5.length c0_5), (.slice A0_6 l0_6.length c0_6)] 76 (0, 0))) ∧ Aside0 (wc.heap[gb103]? = some (.cells #[.int .i64 ((rd_T26 l0_0 a2).f0), .int .i64 ((rd_T26 l0_0 a2).f1), .int .i64 ((rd_T26 l0_0 a2).f2), .int .i64 ((rd_T26 l0_0 a2).f3), .bool ((rd_T26 l0_0 a2).f4), .bool ((rd_T26 l0_0 a2).f5), .bool ((rd_T26 l0_0 a2).f6)] 26 (0, 0))) ∧ Aside0 (Below w.heap.size w wc))
         case first =>
          have H := HC26.out
          clear HC26
          by_cases c27 : x48_11 = true
          ·subst c27
           rw [if_pos rfl] at H
           by_cases c28 : ([] : List Int).length < 17592186044416
           ·rw [if_pos c28] at H
            have LMc28 := Aside0.mk c28
            clear c28
            obtain ⟨y105, hy105⟩ : ∃ y_ : List Int, y_ = (([] : List Int) ++ [(-1)]) := ⟨_, rfl⟩
            replace H : (cupolaref11_May.j2 kj11 y105 l0_0 l0_1 l0_2 l0_3 l0_4 l0_5 l0_6 ((rd_T26 l0_0 a2).f0) ((rd_T26 l0_0 a2).f1) ((rd_T26 l0_0 a2).f2) ((rd_T26 l0_0 a2).f3) ((rd_T26 l0_0 a2).f4) ((rd_T26 l0_0 a2).f5) ((rd_T26 l0_0 a2).f6)) = some r := by first | (rw [hy105]; with_reducible exact H) | (have H2_ := (Option.bind_some _ _).symm.trans H; rw [hy105]; with_reducible exact H2_) | (have H2_ := (Option.bind_some _ _).symm.trans H; with_reducible exact H2_) | with_reducible exact H | (rw [hy105]; exact H) | exact H
            have Ny105 := Aside0.mk hy105
            clear hy105
            have H' := Aside0.mk H
            clear H
            go_wp2_with (first | ((with_reducible refine gate_builtin (b := .append) (xs := #[.tmp 49, .tmp 50]) rfl ?_); (try (refine gate_guard (by rfl) ?_; dsimp only)); at_builtin; refine Kd.R_append (Kd.int .i64) (w0 := w) w.heap.size rfl (.tmp 49) (.tmp 50) 33 3 (.int .i64 0) 8 rfl Try.underlying33 info3 rfl (by decide) (by omega) (.slice none 0 0) ([] : List Int) (-1) [.int .i64 (-1)] (fun _ => True) (fun _ => False) rfl rfl ?aP (fun _ hk => hk.elim) ?aF ?aO ?aB ?aS ?aL ?_; (case aP => exact rfl); (case aB => exact (bp9 HB.out)); (case aF => exact (fun _ _ => trivial)); (case aO => exact (rp9 HO_7.out)); (case aS => exact (below_size (bp9 HB.out))); (case aL => have := LMc28.out; omega); intro v106 w29 ho hb hg hat; rw [← Ny105.out] at ho; have n0_ := Aside0.mk (blk_grown (g := gb101) (o := .cells #[.slice (some ad102) l0_0.length c0_0, .slice A0_1 l0_1.length c0_1, .slice A0_2 l0_2.length c0_2, .slice A0_3 l0_3.length c0_3, .slice A0_4 l0_4.length c0_4, .slice A0_5 l0_5.length c0_5, .slice A0_6 l0_6.length c0_6] 76 (0, 0)) (kp9 BK101.out) hg (Kd.R_ne HO_7.out BK101.out (by decide))); have n1_ := Aside0.mk (blk_grown (g := gb103) (o := .cells #[.int .i64 ((rd_T26 l0_0 a2).f0), .int .i64 ((rd_T26 l0_0 a2).f1), .int .i64 ((rd_T26 l0_0 a2).f2), .int .i64 ((rd_T26 l0_0 a2).f3), .bool ((rd_T26 l0_0 a2).f4), .bool ((rd_T26 l0_0 a2).f5), .bool ((rd_T26 l0_0 a2).f6)] 26 (0, 0)) (kp9 BK103.out) hg (Kd.R_ne HO_7.out BK103.out (by decide))); have n2_ := Aside0.mk (hb); have n3_ := Aside0.mk (ho); clear BK101; clear BK103; clear HB; clear HO_7; have BK101 := n0_; have BK103 := n1_; have HB := n2_; have HO107 := n3_; clear n0_ n1_ n2_ n3_; clear ho hb hg hat))
            repeat (go_quiet (first | ((with_reducible refine gate_builtin (b := .append) (xs := #[.tmp 49, .tmp 50]) rfl ?_); (try (refine gate_guard (by rfl) ?_; dsimp only)); at_builtin; refine Kd.R_append (Kd.int .i64) (w0 := w) w.heap.size rfl (.tmp 49) (.tmp 50) 33 3 (.int .i64 0) 8 rfl Try.underlying33 info3 rfl (by decide) (by omega) (.slice none 0 0) ([] : List Int) (-1) [.int .i64 (-1)] (fun _ => True) (fun _ => False) rfl rfl ?aP (fun _ hk => hk.elim) ?aF ?aO ?aB ?aS ?aL ?_; (case aP => exact rfl); (case aB => exact (bp9 HB.out)); (case aF => exact (fun _ _ => trivial)); (case aO => exact (rp9 HO_7.out)); (case aS => exact (below_size (bp9 HB.out))); (case aL => have := LMc28.out; omega); intro v106 w29 ho hb hg hat; rw [← Ny105.out] at ho; have n0_ := Aside0.mk (blk_grown (g := gb101) (o := .cells #[.slice (some ad102) l0_0.length c0_0, .slice A0_1 l0_1.length c0_1, .slice A0_2 l0_2.length c0_2, .slice A0_3 l0_3.length c0_3, .slice A0_4 l0_4.length c0_4, .slice A0_5 l0_5.length c0_5, .slice A0_6 l0_6.length c0_6] 76 (0, 0)) (kp9 BK101.out) hg (Kd.R_ne HO_7.out BK101.out (by decide))); have n1_ := Aside0.mk (blk_grown (g := gb103) (o := .cells #[.int .i64 ((rd_T26 l0_0 a2).f0), .int .i64 ((rd_T26 l0_0 a2).f1), .int .i64 ((rd_T26 l0_0 a2).f2), .int .i64 ((rd_T26 l0_0 a2).f3), .bool ((rd_T26 l0_0 a2).f4), .bool ((rd_T26 l0_0 a2).f5), .bool ((rd_T26 l0_0 a2).f6)] 26 (0, 0)) (kp9 BK103.out) hg (Kd.R_ne HO_7.out BK103.out (by decide))); have n2_ := Aside0.mk (hb); have n3_ := Aside0.mk (ho); clear BK101; clear BK103; clear HB; clear HO_7; have BK101 := n0_; have BK103 := n1_; have HB := n2_; have HO107 := n3_; clear n0_ n1_ n2_ n3_; clear ho hb hg hat)); try go_wp2_with (first | ((with_reducible refine gate_builtin (b := .append) (xs := #[.tmp 49, .tmp 50]) rfl ?_); (try (refine gate_guard (by rfl) ?_; dsimp only)); at_builtin; refine Kd.R_append (Kd.int .i64) (w0 := w) w.heap.size rfl (.tmp 49) (.tmp 50) 33 3 (.int .i64 0) 8 rfl Try.underlying33 info3 rfl (by decide) (by omega) (.slice none 0 0) ([] : List Int) (-1) [.int .i64 (-1)] (fun _ => True) (fun _ => False) rfl rfl ?aP (fun _ hk => hk.elim) ?aF ?aO ?aB ?aS ?aL ?_; (case aP => exact rfl); (case aB => exact (bp9 HB.out)); (case aF => exact (fun _ _ => trivial)); (case aO => exact (rp9 HO_7.out)); (case aS => exact (below_size (bp9 HB.out))); (case aL => have := LMc28.out; omega); intro v106 w29 ho hb hg hat; rw [← Ny105.out] at ho; have n0_ := Aside0.mk (blk_grown (g := gb101) (o := .cells #[.slice (some ad102) l0_0.length c0_0, .slice A0_1 l0_1.length c0_1, .slice A0_2 l0_2.length c0_2, .slice A0_3 l0_3.length c0_3, .slice A0_4 l0_4.length c0_4, .slice A0_5 l0_5.length c0_5, .slice A0_6 l0_6.length c0_6] 76 (0, 0)) (kp9 BK101.out) hg (Kd.R_ne HO_7.out BK101.out (by decide))); have n1_ := Aside0.mk (blk_grown (g := gb103) (o := .cells #[.int .i64 ((rd_T26 l0_0 a2).f0), .int .i64 ((rd_T26 l0_0 a2).f1), .int .i64 ((rd_T26 l0_0 a2).f2), .int .i64 ((rd_T26 l0_0 a2).f3), .bool ((rd_T26 l0_0 a2).f4), .bool ((rd_T26 l0_0 a2).f5), .bool ((rd_T26 l0_0 a2).f6)] 26 (0, 0)) (kp9 BK103.out) hg (Kd.R_ne HO_7.out BK103.out (by decide))); have n2_ := Aside0.mk (hb); have n3_ := Aside0.mk (ho); clear BK101; clear BK103; clear HB; clear HO_7; have BK101 := n0_; have BK103 := n1_; have HB := n2_; have HO107 := n3_; clear n0_ n1_ n2_ n3_; clear ho hb hg hat)))
            go_meet
            case rel => exact ⟨_, (y105), H', ⟨by have := HJ3.out; have := HJ11.out; first | omega | exact Nat.le_refl _⟩, ⟨rp9 HO107.out⟩, ⟨kp9 BK101.out⟩, ⟨kp9 BK103.out⟩, ⟨bp9 HB.out⟩⟩
           ·rw [if_neg c28] at H
            exact absurd H (by simp)
          ·replace c27 := Bool.eq_false_iff.mpr c27
           subst c27
           rw [if_neg (show ¬ (false = true) by decide)] at H
           have H' := Aside0.mk H
           clear H
           go_wp2
           repeat (go_quiet (fail); try go_wp2)
           go_meet
           case rel => exact ⟨_, (([] : List Int)), H', ⟨by have := HJ3.out; have := HJ11.out; first | omega | exact Nat.le_refl _⟩, ⟨rp9 HO_7.out⟩, ⟨kp9 BK101.out⟩, ⟨kp9 BK103.out⟩, ⟨bp9 HB.out⟩⟩
         case rest =>
          clear HC26
          try clear c1
          try clear p1
          try clear q1
          try clear hx1
          try clear c2
          try clear p2
          try clear c6
          try clear c6b0
          try clear c8
          try clear c9
          try clear c9b0
          try clear c10
          try clear c10b0
          try clear p10
          try clear q10
          try clear hx10
          try clear c11
          try clear c11b0
          try clear c11b1
          try clear c15
          try clear c17
          try clear c17b0
          try clear c18
          try clear c18b0
          try clear c19
          try clear c19b0
          try clear c20
          try clear c22
          try clear c24
          try clear c27
          try clear c28
          try clear hcz13_0 hcz13_1 hcz13_2 hcz13_3 hcz13_4 hcz13_5 hcz13_6
          try clear hcz16_0 hcz16_1 hcz16_2 hcz16_3 hcz16_4 hcz16_5 hcz16_6
          try clear hcz21_0 hcz21_1 hcz21_2 hcz21_3 hcz21_4 hcz21_5 hcz21_6
          try clear hcz23_0 hcz23_1 hcz23_2 hcz23_3 hcz23_4 hcz23_5 hcz23_6
          try clear hcz25_0 hcz25_1 hcz25_2 hcz25_3 hcz25_4 hcz25_5 hcz25_6
          try clear hcz7_0 hcz7_1 hcz7_2 hcz7_3 hcz7_4 hcz7_5 hcz7_6
          try clear hfz13_0 hfz13_1 hfz13_2 hfz13_3 hfz13_4 hfz13_5 hfz13_6
          try clear hfz16_0 hfz16_1 hfz16_2 hfz16_3 hfz16_4 hfz16_5 hfz16_6
          try clear hfz21_0 hfz21_1 hfz21_2 hfz21_3 hfz21_4 hfz21_5 hfz21_6
          try clear hfz23_0 hfz23_1 hfz23_2 hfz23_3 hfz23_4 hfz23_5 hfz23_6
          try clear hfz25_0 hfz25_1 hfz25_2 hfz25_3 hfz25_4 hfz25_5 hfz25_6
          try clear hfz7_0 hfz7_1 hfz7_2 hfz7_3 hfz7_4 hfz7_5 hfz7_6
          try clear hx102_0
          try clear hx102_1
          try clear hx102_2
          try clear hx102_3
          try clear hx102_4
          try clear hx102_5
          try clear hx102_6
          try clear hx104_0
          try clear p1
          try clear p10
          try clear p102
          try clear p104
          try clear p2
          try clear q1
          try clear q10
          try clear q102
          try clear q104
          obtain ⟨kq, x7_25, HA, HJ25, HO_7, BK101, BK103, HB⟩ := hcut
          cases kq with
          | zero => exact absurd HA.out (by simp [cupolaref11_May.j2])
          | succ kj25 =>
           have H := HA.out
           clear HA
           simp only [cupolaref11_May.j2] at H
           have H' := Aside0.mk H
           clear H
           go_wp2
           repeat (go_quiet (fail); try go_wp2)
           go_loopg [7, 9] kj25 (fun kq v7 v9 w' => ∃ (x7_4 : List Int) (x9_4 : Int), v9 = .int .i64 x9_4 ∧ Aside0 (cupolaref11_May.l0 kq x7_4 x9_4 l0_0 l0_1 l0_2 l0_3 l0_4 l0_5 l0_6 ((rd_T26 l0_0 a2).f0) ((rd_T26 l0_0 a2).f1) ((rd_T26 l0_0 a2).f2) ((rd_T26 l0_0 a2).f3) ((rd_T26 l0_0 a2).f4) ((rd_T26 l0_0 a2).f5) ((rd_T26 l0_0 a2).f6) = some r) ∧ Aside0 (kq ≤ kj25) ∧ Aside0 (Kd.R (Kd.int .i64) 3 w' w.heap.size (fun _ => True) v7 x7_4) ∧ Aside0 (w'.heap[gb101]? = some (.cells #[(.slice (some ad102) l0_0.length c0_0), (.slice A0_1 l0_1.length c0_1), (.slice A0_2 l0_2.length c0_2), (.slice A0_3 l0_3.length c0_3), (.slice A0_4 l0_4.length c0_4), (.slice A0_5 l0_5.length c0_5), (.slice A0_6 l0_6.length c0_6)] 76 (0, 0))) ∧ Aside0 (w'.heap[gb103]? = some (.cells #[.int .i64 ((rd_T26 l0_0 a2).f0), .int .i64 ((rd_T26 l0_0 a2).f1), .int .i64 ((rd_T26 l0_0 a2).f2), .int .i64 ((rd_T26 l0_0 a2).f3), .bool ((rd_T26 l0_0 a2).f4), .bool ((rd_T26 l0_0 a2).f5), .bool ((rd_T26 l0_0 a2).f6)] 26 (0, 0))) ∧ Aside0 (Below w.heap.size w w'))
           case atStart => exact ⟨(x7_25), (0), (by first | rfl | (simp; done) | (simp [*]; done)), H', ⟨Nat.le_refl _⟩, ⟨rp9 HO_7.out⟩, ⟨kp9 BK101.out⟩, ⟨kp9 BK103.out⟩, ⟨bp9 HB.out⟩⟩
           case round =>
            clear H'
            try clear c1
            try clear p1
            try clear q1
            try clear hx1
            try clear c2
            try clear p2
            try clear c6
            try clear c6b0
            try clear c8
            try clear c9
            try clear c9b0
            try clear c10
            try clear c10b0
            try clear p10
            try clear q10
            try clear hx10
            try clear c11
            try clear c11b0
            try clear c11b1
            try clear c15
            try clear c17
            try clear c17b0
            try clear c18
            try clear c18b0
            try clear c19
            try clear c19b0
            try clear c20
            try clear c22
            try clear c24
            try clear c27
            try clear c28
            try clear hcz13_0 hcz13_1 hcz13_2 hcz13_3 hcz13_4 hcz13_5 hcz13_6
            try clear hcz16_0 hcz16_1 hcz16_2 hcz16_3 hcz16_4 hcz16_5 hcz16_6
            try clear hcz21_0 hcz21_1 hcz21_2 hcz21_3 hcz21_4 hcz21_5 hcz21_6
            try clear hcz23_0 hcz23_1 hcz23_2 hcz23_3 hcz23_4 hcz23_5 hcz23_6
            try clear hcz25_0 hcz25_1 hcz25_2 hcz25_3 hcz25_4 hcz25_5 hcz25_6
            try clear hcz7_0 hcz7_1 hcz7_2 hcz7_3 hcz7_4 hcz7_5 hcz7_6
            try clear hfz13_0 hfz13_1 hfz13_2 hfz13_3 hfz13_4 hfz13_5 hfz13_6
            try clear hfz16_0 hfz16_1 hfz16_2 hfz16_3 hfz16_4 hfz16_5 hfz16_6
            try clear hfz21_0 hfz21_1 hfz21_2 hfz21_3 hfz21_4 hfz21_5 hfz21_6
            try clear hfz23_0 hfz23_1 hfz23_2 hfz23_3 hfz23_4 hfz23_5 hfz23_6
            try clear hfz25_0 hfz25_1 hfz25_2 hfz25_3 hfz25_4 hfz25_5 hfz25_6
            try clear hfz7_0 hfz7_1 hfz7_2 hfz7_3 hfz7_4 hfz7_5 hfz7_6
            try clear hx102_0
            try clear hx102_1
            try clear hx102_2
            try clear hx102_3
            try clear hx102_4
            try clear hx102_5
            try clear hx102_6
            try clear hx104_0
            try clear p1
            try clear p10
            try clear p102
            try clear p104
            try clear p2
            try clear q1
            try clear q10
            try clear q102
            try clear q104
            obtain ⟨x7_4, x9_4, rfl, HA, HK4, HO_7, BK101, BK103, HB⟩ := hrel
            cases gk with
            | zero => exact absurd HA.out (by simp [cupolaref11_May.l0])
            | succ k4 =>
             have H := HA.out
             clear HA
             simp only [cupolaref11_May.l0] at H
             by_cases c30 : x9_4 < (l0_0.length : Int)
             ·rw [if_pos c30] at H
              have c30b0 : decide (x9_4 < (l0_0.length : Int)) = true := decide_eq_true c30
              clear c30
              have HC31 := Aside0.mk H
              clear H
              have hnb32 := NB101_103.out
              have hnc32 := NB103_101.out
              obtain ⟨hcz33_0, hcz33_1, hcz33_2, hcz33_3, hcz33_4, hcz33_5, hcz33_6, hfz33_0, hfz33_1, hfz33_2, hfz33_3, hfz33_4, hfz33_5, hfz33_6⟩ := cz7 BK101.out
              go_upto_region 12 with (fail)
              repeat (go_quiet (fail); go_upto_region 12 with (fail))
              go_cut [87] (fun v87 wc => ∃ (kq : Nat) (x87_30 : Bool), v87 = .bool x87_30 ∧ Aside0 (cupolaref11_May.j4 kq x7_4 x9_4 x87_30 l0_0 l0_1 l0_2 l0_3 l0_4 l0_5 l0_6 ((rd_T26 l0_0 a2).f0) ((rd_T26 l0_0 a2).f1) ((rd_T26 l0_0 a2).f2) ((rd_T26 l0_0 a2).f3) ((rd_T26 l0_0 a2).f4) ((rd_T26 l0_0 a2).f5) ((rd_T26 l0_0 a2).f6) = some r) ∧ Aside0 (kq ≤ k4) ∧ Aside0 (Kd.R (Kd.int .i64) 3 wc w.heap.size (fun _ => True) u7 x7_4) ∧ Aside0 (wc.heap[gb101]? = some (.cells #[(.slice (some ad102) l0_0.length c0_0), (.slice A0_1 l0_1.length c0_1), (.slice A0_2 l0_2.length c0_2), (.slice A0_3 l0_3.length c0_3), (.slice A0_4 l0_4.length c0_4), (.slice A0_5 l0_5.length c0_5), (.slice A0_6 l0_6.length c0_6)] 76 (0, 0))) ∧ Aside0 (wc.heap[gb103]? = some (.cells #[.int .i64 ((rd_T26 l0_0 a2).f0), .int .i64 ((rd_T26 l0_0 a2).f1), .int .i64 ((rd_T26 l0_0 a2).f2), .int .i64 ((rd_T26 l0_0 a2).f3), .bool ((rd_T26 l0_0 a2).f4), .bool ((rd_T26 l0_0 a2).f5), .bool ((rd_T26 l0_0 a2).f6)] 26 (0, 0))) ∧ Aside0 (Below w.heap.size w wc))
              case first =>
               have H := HC31.out
               clear HC31
               by_cases c34 : 0 ≤ x9_4
               ·rw [if_pos c34] at H
                have c34b0 : decide (0 ≤ x9_4) = true := decide_eq_true c34
                clear c34
                (first | rw [c34b0] | (simp only [i64_w, i32_w]; rw [c34b0]) | skip)
                by_cases c35 : ((rd_T26 l0_0 x9_4).f1) = 2
                ·rw [if_pos c35] at H
                 have c35b0 : (((rd_T26 l0_0 x9_4).f1) == 2) = true := beq_iff_eq.mpr c35
                 have c35b1 : (((rd_T26 l0_0 x9_4).f1) != 2) = false := bne_eq_false_iff_eq.mpr c35
                 clear c35
                 by_cases c36 : ((rd_T26 l0_0 x9_4).f2) = ((rd_T26 l0_0 a2).f2)
                 ·rw [if_pos c36] at H
                  have c36b0 : (((rd_T26 l0_0 x9_4).f2) == ((rd_T26 l0_0 a2).f2)) = true := beq_iff_eq.mpr c36
                  have c36b1 : (((rd_T26 l0_0 x9_4).f2) != ((rd_T26 l0_0 a2).f2)) = false := bne_eq_false_iff_eq.mpr c36
                  clear c36
                  have H' := Aside0.mk H
                  clear H
                  have hnb37 := NB101_103.out
                  have hnc37 := NB103_101.out
                  obtain ⟨hcz38_0, hcz38_1, hcz38_2, hcz38_3, hcz38_4, hcz38_5, hcz38_6, hfz38_0, hfz38_1, hfz38_2, hfz38_3, hfz38_4, hfz38_5, hfz38_6⟩ := cz7 BK101.out
                  have p108 : 0 ≤ (x9_4 : Int) := of_decide_eq_true (by first | (with_reducible assumption) | assumption)
                  have q108 : x9_4 < (l0_0.length : Int) := of_decide_eq_true (by first | (with_reducible assumption) | assumption)
                  obtain ⟨ad108, e108, hx108_0, hx108_1, hx108_2, hx108_3, hx108_4, hx108_5, hx108_6⟩ := at_T26 HR0_0.out x9_4 p108 q108
                  obtain rfl : ad102 = ad108 := (by injection e108)
                  replace hx108_0 := (HB.out.cell (World.block_lt_of_cell? w _ hx108_0)).trans hx108_0
                  replace hx108_1 := (HB.out.cell (World.block_lt_of_cell? w _ hx108_1)).trans hx108_1
                  replace hx108_2 := (HB.out.cell (World.block_lt_of_cell? w _ hx108_2)).trans hx108_2
                  replace hx108_3 := (HB.out.cell (World.block_lt_of_cell? w _ hx108_3)).trans hx108_3
                  replace hx108_4 := (HB.out.cell (World.block_lt_of_cell? w _ hx108_4)).trans hx108_4
                  replace hx108_5 := (HB.out.cell (World.block_lt_of_cell? w _ hx108_5)).trans hx108_5
                  replace hx108_6 := (HB.out.cell (World.block_lt_of_cell? w _ hx108_6)).trans hx108_6
                  replace p108 := eq_true p108
                  replace q108 := eq_true q108
                  have p109 : 0 ≤ (x9_4 : Int) := of_decide_eq_true (by first | (with_reducible assumption) | assumption)
                  have q109 : x9_4 < (l0_0.length : Int) := of_decide_eq_true (by first | (with_reducible assumption) | assumption)
                  obtain ⟨ad109, e109, hx109_0, hx109_1, hx109_2, hx109_3, hx109_4, hx109_5, hx109_6⟩ := at_T26 HR0_0.out x9_4 p109 q109
                  obtain rfl : ad102 = ad109 := (by injection e109)
                  replace hx109_0 := (HB.out.cell (World.block_lt_of_cell? w _ hx109_0)).trans hx109_0
                  replace hx109_1 := (HB.out.cell (World.block_lt_of_cell? w _ hx109_1)).trans hx109_1
                  replace hx109_2 := (HB.out.cell (World.block_lt_of_cell? w _ hx109_2)).trans hx109_2
                  replace hx109_3 := (HB.out.cell (World.block_lt_of_cell? w _ hx109_3)).trans hx109_3
                  replace hx109_4 := (HB.out.cell (World.block_lt_of_cell? w _ hx109_4)).trans hx109_4
                  replace hx109_5 := (HB.out.cell (World.block_lt_of_cell? w _ hx109_5)).trans hx109_5
                  replace hx109_6 := (HB.out.cell (World.block_lt_of_cell? w _ hx109_6)).trans hx109_6
                  replace p109 := eq_true p109
                  replace q109 := eq_true q109
                  obtain ⟨hcz39_0, hcz39_1, hcz39_2, hcz39_3, hcz39_4, hcz39_5, hcz39_6, hfz39_0, hfz39_1, hfz39_2, hfz39_3, hfz39_4, hfz39_5, hfz39_6⟩ := cz7 BK103.out
                  have p110 : 0 ≤ (x9_4 : Int) := of_decide_eq_true (by first | (with_reducible assumption) | assumption)
                  have q110 : x9_4 < (l0_0.length : Int) := of_decide_eq_true (by first | (with_reducible assumption) | assumption)
                  obtain ⟨ad110, e110, hx110_0, hx110_1, hx110_2, hx110_3, hx110_4, hx110_5, hx110_6⟩ := at_T26 HR0_0.out x9_4 p110 q110
                  obtain rfl : ad102 = ad110 := (by injection e110)
                  replace hx110_0 := (HB.out.cell (World.block_lt_of_cell? w _ hx110_0)).trans hx110_0
                  replace hx110_1 := (HB.out.cell (World.block_lt_of_cell? w _ hx110_1)).trans hx110_1
                  replace hx110_2 := (HB.out.cell (World.block_lt_of_cell? w _ hx110_2)).trans hx110_2
                  replace hx110_3 := (HB.out.cell (World.block_lt_of_cell? w _ hx110_3)).trans hx110_3
                  replace hx110_4 := (HB.out.cell (World.block_lt_of_cell? w _ hx110_4)).trans hx110_4
                  replace hx110_5 := (HB.out.cell (World.block_lt_of_cell? w _ hx110_5)).trans hx110_5
                  replace hx110_6 := (HB.out.cell (World.block_lt_of_cell? w _ hx110_6)).trans hx110_6
                  replace p110 := eq_true p110
                  replace q110 := eq_true q110
                  go_wp2
                  repeat (go_quiet (fail); try go_wp2)
                  go_meet
                  case rel => exact ⟨_, ((((rd_T26 l0_0 x9_4).f3) == ((rd_T26 l0_0 a2).f3))), (by first | rfl | (simp; done) | (simp [*]; done)), H', ⟨by have := HJ3.out; have := HJ11.out; have := HJ25.out; have := HK4.out; first | omega | exact Nat.le_refl _⟩, ⟨rp9 HO_7.out⟩, ⟨kp9 BK101.out⟩, ⟨kp9 BK103.out⟩, ⟨bp9 HB.out⟩⟩
                 ·rw [if_neg c36] at H
                  have c36b0 : (((rd_T26 l0_0 x9_4).f2) == ((rd_T26 l0_0 a2).f2)) = false := beq_eq_false_iff_ne.mpr c36
                  have c36b1 : (((rd_T26 l0_0 x9_4).f2) != ((rd_T26 l0_0 a2).f2)) = true := bne_iff_ne.mpr c36
                  have H' := Aside0.mk H
                  clear H
                  have hnb40 := NB101_103.out
                  have hnc40 := NB103_101.out
                  obtain ⟨hcz41_0, hcz41_1, hcz41_2, hcz41_3, hcz41_4, hcz41_5, hcz41_6, hfz41_0, hfz41_1, hfz41_2, hfz41_3, hfz41_4, hfz41_5, hfz41_6⟩ := cz7 BK101.out
                  have p108 : 0 ≤ (x9_4 : Int) := of_decide_eq_true (by first | (with_reducible assumption) | assumption)
                  have q108 : x9_4 < (l0_0.length : Int) := of_decide_eq_true (by first | (with_reducible assumption) | assumption)
                  obtain ⟨ad108, e108, hx108_0, hx108_1, hx108_2, hx108_3, hx108_4, hx108_5, hx108_6⟩ := at_T26 HR0_0.out x9_4 p108 q108
                  obtain rfl : ad102 = ad108 := (by injection e108)
                  replace hx108_0 := (HB.out.cell (World.block_lt_of_cell? w _ hx108_0)).trans hx108_0
                  replace hx108_1 := (HB.out.cell (World.block_lt_of_cell? w _ hx108_1)).trans hx108_1
                  replace hx108_2 := (HB.out.cell (World.block_lt_of_cell? w _ hx108_2)).trans hx108_2
                  replace hx108_3 := (HB.out.cell (World.block_lt_of_cell? w _ hx108_3)).trans hx108_3
                  replace hx108_4 := (HB.out.cell (World.block_lt_of_cell? w _ hx108_4)).trans hx108_4
                  replace hx108_5 := (HB.out.cell (World.block_lt_of_cell? w _ hx108_5)).trans hx108_5
                  replace hx108_6 := (HB.out.cell (World.block_lt_of_cell? w _ hx108_6)).trans hx108_6
                  replace p108 := eq_true p108
                  replace q108 := eq_true q108
                  have p109 : 0 ≤ (x9_4 : Int) := of_decide_eq_true (by first | (with_reducible assumption) | assumption)
                  have q109 : x9_4 < (l0_0.length : Int) := of_decide_eq_true (by first | (with_reducible assumption) | assumption)
                  obtain ⟨ad109, e109, hx109_0, hx109_1, hx109_2, hx109_3, hx109_4, hx109_5, hx109_6⟩ := at_T26 HR0_0.out x9_4 p109 q109
                  obtain rfl : ad102 = ad109 := (by injection e109)
                  replace hx109_0 := (HB.out.cell (World.block_lt_of_cell? w _ hx109_0)).trans hx109_0
                  replace hx109_1 := (HB.out.cell (World.block_lt_of_cell? w _ hx109_1)).trans hx109_1
                  replace hx109_2 := (HB.out.cell (World.block_lt_of_cell? w _ hx109_2)).trans hx109_2
                  replace hx109_3 := (HB.out.cell (World.block_lt_of_cell? w _ hx109_3)).trans hx109_3
                  replace hx109_4 := (HB.out.cell (World.block_lt_of_cell? w _ hx109_4)).trans hx109_4
                  replace hx109_5 := (HB.out.cell (World.block_lt_of_cell? w _ hx109_5)).trans hx109_5
                  replace hx109_6 := (HB.out.cell (World.block_lt_of_cell? w _ hx109_6)).trans hx109_6
                  replace p109 := eq_true p109
                  replace q109 := eq_true q109
                  obtain ⟨hcz42_0, hcz42_1, hcz42_2, hcz42_3, hcz42_4, hcz42_5, hcz42_6, hfz42_0, hfz42_1, hfz42_2, hfz42_3, hfz42_4, hfz42_5, hfz42_6⟩ := cz7 BK103.out
                  go_wp2
                  repeat (go_quiet (fail); try go_wp2)
                  go_meet
                  case rel => exact ⟨_, (false), (by first | rfl | (simp; done) | (simp [*]; done)), H', ⟨by have := HJ3.out; have := HJ11.out; have := HJ25.out; have := HK4.out; first | omega | exact Nat.le_refl _⟩, ⟨rp9 HO_7.out⟩, ⟨kp9 BK101.out⟩, ⟨kp9 BK103.out⟩, ⟨bp9 HB.out⟩⟩
                ·rw [if_neg c35] at H
                 have c35b0 : (((rd_T26 l0_0 x9_4).f1) == 2) = false := beq_eq_false_iff_ne.mpr c35
                 have c35b1 : (((rd_T26 l0_0 x9_4).f1) != 2) = true := bne_iff_ne.mpr c35
                 have H' := Aside0.mk H
                 clear H
                 have hnb43 := NB101_103.out
                 have hnc43 := NB103_101.out
                 obtain ⟨hcz44_0, hcz44_1, hcz44_2, hcz44_3, hcz44_4, hcz44_5, hcz44_6, hfz44_0, hfz44_1, hfz44_2, hfz44_3, hfz44_4, hfz44_5, hfz44_6⟩ := cz7 BK101.out
                 have p108 : 0 ≤ (x9_4 : Int) := of_decide_eq_true (by first | (with_reducible assumption) | assumption)
                 have q108 : x9_4 < (l0_0.length : Int) := of_decide_eq_true (by first | (with_reducible assumption) | assumption)
                 obtain ⟨ad108, e108, hx108_0, hx108_1, hx108_2, hx108_3, hx108_4, hx108_5, hx108_6⟩ := at_T26 HR0_0.out x9_4 p108 q108
                 obtain rfl : ad102 = ad108 := (by injection e108)
                 replace hx108_0 := (HB.out.cell (World.block_lt_of_cell? w _ hx108_0)).trans hx108_0
                 replace hx108_1 := (HB.out.cell (World.block_lt_of_cell? w _ hx108_1)).trans hx108_1
                 replace hx108_2 := (HB.out.cell (World.block_lt_of_cell? w _ hx108_2)).trans hx108_2
                 replace hx108_3 := (HB.out.cell (World.block_lt_of_cell? w _ hx108_3)).trans hx108_3
                 replace hx108_4 := (HB.out.cell (World.block_lt_of_cell? w _ hx108_4)).trans hx108_4
                 replace hx108_5 := (HB.out.cell (World.block_lt_of_cell? w _ hx108_5)).trans hx108_5
                 replace hx108_6 := (HB.out.cell (World.block_lt_of_cell? w _ hx108_6)).trans hx108_6
                 replace p108 := eq_true p108
                 replace q108 := eq_true q108
                 go_wp2
                 repeat (go_quiet (fail); try go_wp2)
                 go_meet
                 case rel => exact ⟨_, (false), (by first | rfl | (simp; done) | (simp [*]; done)), H', ⟨by have := HJ3.out; have := HJ11.out; have := HJ25.out; have := HK4.out; first | omega | exact Nat.le_refl _⟩, ⟨rp9 HO_7.out⟩, ⟨kp9 BK101.out⟩, ⟨kp9 BK103.out⟩, ⟨bp9 HB.out⟩⟩
               ·rw [if_neg c34] at H
                exact absurd H (by simp)
              case rest =>
               clear HC31
               try clear c1
               try clear p1
               try clear q1
               try clear hx1
               try clear c2
               try clear p2
               try clear c3
               try clear c4
               try clear c6
               try clear c6b0
               try clear c8
               try clear c9
               try clear c9b0
               try clear c10
               try clear c10b0
               try clear p10
               try clear q10
               try clear hx10
               try clear c11
               try clear c11b0
               try clear c11b1
               try clear p11
               try clear q11
               try clear hx11
               try clear c15
               try clear c17
               try clear c17b0
               try clear c18
               try clear c18b0
               try clear c19
               try clear c19b0
               try clear c20
               try clear c22
               try clear c24
               try clear c27
               try clear c28
               try clear c30
               try clear c30b0
               try clear c32
               try clear c34
               try clear c34b0
               try clear c35
               try clear c35b0
               try clear c35b1
               try clear c36
               try clear c36b0
               try clear c36b1
               try clear c37
               try clear c40
               try clear c43
               try clear hcz13_0 hcz13_1 hcz13_2 hcz13_3 hcz13_4 hcz13_5 hcz13_6
               try clear hcz16_0 hcz16_1 hcz16_2 hcz16_3 hcz16_4 hcz16_5 hcz16_6
               try clear hcz21_0 hcz21_1 hcz21_2 hcz21_3 hcz21_4 hcz21_5 hcz21_6
               try clear hcz23_0 hcz23_1 hcz23_2 hcz23_3 hcz23_4 hcz23_5 hcz23_6
               try clear hcz25_0 hcz25_1 hcz25_2 hcz25_3 hcz25_4 hcz25_5 hcz25_6
               try clear hcz33_0 hcz33_1 hcz33_2 hcz33_3 hcz33_4 hcz33_5 hcz33_6
               try clear hcz38_0 hcz38_1 hcz38_2 hcz38_3 hcz38_4 hcz38_5 hcz38_6
               try clear hcz39_0 hcz39_1 hcz39_2 hcz39_3 hcz39_4 hcz39_5 hcz39_6
               try clear hcz41_0 hcz41_1 hcz41_2 hcz41_3 hcz41_4 hcz41_5 hcz41_6
               try clear hcz42_0 hcz42_1 hcz42_2 hcz42_3 hcz42_4 hcz42_5 hcz42_6
               try clear hcz44_0 hcz44_1 hcz44_2 hcz44_3 hcz44_4 hcz44_5 hcz44_6
               try clear hcz7_0 hcz7_1 hcz7_2 hcz7_3 hcz7_4 hcz7_5 hcz7_6
               try clear hfz13_0 hfz13_1 hfz13_2 hfz13_3 hfz13_4 hfz13_5 hfz13_6
               try clear hfz16_0 hfz16_1 hfz16_2 hfz16_3 hfz16_4 hfz16_5 hfz16_6
               try clear hfz21_0 hfz21_1 hfz21_2 hfz21_3 hfz21_4 hfz21_5 hfz21_6
               try clear hfz23_0 hfz23_1 hfz23_2 hfz23_3 hfz23_4 hfz23_5 hfz23_6
               try clear hfz25_0 hfz25_1 hfz25_2 hfz25_3 hfz25_4 hfz25_5 hfz25_6
               try clear hfz33_0 hfz33_1 hfz33_2 hfz33_3 hfz33_4 hfz33_5 hfz33_6
               try clear hfz38_0 hfz38_1 hfz38_2 hfz38_3 hfz38_4 hfz38_5 hfz38_6
               try clear hfz39_0 hfz39_1 hfz39_2 hfz39_3 hfz39_4 hfz39_5 hfz39_6
               try clear hfz41_0 hfz41_1 hfz41_2 hfz41_3 hfz41_4 hfz41_5 hfz41_6
               try clear hfz42_0 hfz42_1 hfz42_2 hfz42_3 hfz42_4 hfz42_5 hfz42_6
               try clear hfz44_0 hfz44_1 hfz44_2 hfz44_3 hfz44_4 hfz44_5 hfz44_6
               try clear hfz7_0 hfz7_1 hfz7_2 hfz7_3 hfz7_4 hfz7_5 hfz7_6
               try clear hx102_0
               try clear hx102_1
               try clear hx102_2
               try clear hx102_3
               try clear hx102_4
               try clear hx102_5
               try clear hx102_6
               try clear hx104_0
               try clear hx108_0
               try clear hx108_1
               try clear hx108_2
               try clear hx108_3
               try clear hx108_4
               try clear hx108_5
               try clear hx108_6
               try clear hx109_0
               try clear hx109_1
               try clear hx109_2
               try clear hx109_3
               try clear hx109_4
               try clear hx109_5
               try clear hx109_6
               try clear hx110_0
               try clear hx110_1
               try clear hx110_2
               try clear hx110_3
               try clear hx110_4
               try clear hx110_5
               try clear hx110_6
               try clear p1
               try clear p10
               try clear p102
               try clear p104
               try clear p108
               try clear p109
               try clear p110
               try clear p2
               try clear q1
               try clear q10
               try clear q102
               try clear q104
               try clear q108
               try clear q109
               try clear q110
               obtain ⟨kq, x87_30, rfl, HA, HJ30, HO_7, BK101, BK103, HB⟩ := hcut
               cases kq with
               | zero => exact absurd HA.out (by simp [cupolaref11_May.j4])
               | succ kj30 =>
                have H := HA.out
                clear HA
                simp only [cupolaref11_May.j4] at H
                by_cases c45 : x87_30 = true
                ·subst c45
                 rw [if_pos rfl] at H
                 by_cases c46 : x7_4.length < 17592186044416
                 ·rw [if_pos c46] at H
                  have LMc46 := Aside0.mk c46
                  clear c46
                  obtain ⟨y111, hy111⟩ : ∃ y_ : List Int, y_ = (x7_4 ++ [x9_4]) := ⟨_, rfl⟩
                  replace H : (cupolaref11_May.l0 kj30 y111 (wrap64 (x9_4 + 1)) l0_0 l0_1 l0_2 l0_3 l0_4 l0_5 l0_6 ((rd_T26 l0_0 a2).f0) ((rd_T26 l0_0 a2).f1) ((rd_T26 l0_0 a2).f2) ((rd_T26 l0_0 a2).f3) ((rd_T26 l0_0 a2).f4) ((rd_T26 l0_0 a2).f5) ((rd_T26 l0_0 a2).f6)) = some r := by first | (rw [hy111]; with_reducible exact H) | (have H2_ := (Option.bind_some _ _).symm.trans H; rw [hy111]; with_reducible exact H2_) | (have H2_ := (Option.bind_some _ _).symm.trans H; with_reducible exact H2_) | with_reducible exact H | (rw [hy111]; exact H) | exact H
                  have Ny111 := Aside0.mk hy111
                  clear hy111
                  have H' := Aside0.mk H
                  clear H
                  go_wp2_with (first | ((with_reducible refine gate_builtin (b := .append) (xs := #[.tmp 88, .tmp 90]) rfl ?_); (try (refine gate_guard (by rfl) ?_; dsimp only)); at_builtin; refine Kd.R_append (Kd.int .i64) (w0 := w) w.heap.size rfl (.tmp 88) (.tmp 90) 33 3 (.int .i64 0) 8 rfl Try.underlying33 info3 rfl (by decide) (by omega) u7 x7_4 x9_4 [.int .i64 x9_4] (fun _ => True) (fun _ => False) rfl rfl ?aP (fun _ hk => hk.elim) ?aF ?aO ?aB ?aS ?aL ?_; (case aP => exact rfl); (case aB => exact (bp9 HB.out)); (case aF => exact (fun _ _ => trivial)); (case aO => exact (rp9 HO_7.out)); (case aS => exact (below_size (bp9 HB.out))); (case aL => have := LMc46.out; omega); intro v112 w47 ho hb hg hat; rw [← Ny111.out] at ho; have n0_ := Aside0.mk (blk_grown (g := gb101) (o := .cells #[.slice (some ad102) l0_0.length c0_0, .slice A0_1 l0_1.length c0_1, .slice A0_2 l0_2.length c0_2, .slice A0_3 l0_3.length c0_3, .slice A0_4 l0_4.length c0_4, .slice A0_5 l0_5.length c0_5, .slice A0_6 l0_6.length c0_6] 76 (0, 0)) (kp9 BK101.out) hg (Kd.R_ne HO_7.out BK101.out (by decide))); have n1_ := Aside0.mk (blk_grown (g := gb103) (o := .cells #[.int .i64 ((rd_T26 l0_0 a2).f0), .int .i64 ((rd_T26 l0_0 a2).f1), .int .i64 ((rd_T26 l0_0 a2).f2), .int .i64 ((rd_T26 l0_0 a2).f3), .bool ((rd_T26 l0_0 a2).f4), .bool ((rd_T26 l0_0 a2).f5), .bool ((rd_T26 l0_0 a2).f6)] 26 (0, 0)) (kp9 BK103.out) hg (Kd.R_ne HO_7.out BK103.out (by decide))); have n2_ := Aside0.mk (hb); have n3_ := Aside0.mk (ho); clear BK101; clear BK103; clear HB; clear HO_7; have BK101 := n0_; have BK103 := n1_; have HB := n2_; have HO113 := n3_; clear n0_ n1_ n2_ n3_; clear ho hb hg hat))
                  repeat (go_quiet (first | ((with_reducible refine gate_builtin (b := .append) (xs := #[.tmp 88, .tmp 90]) rfl ?_); (try (refine gate_guard (by rfl) ?_; dsimp only)); at_builtin; refine Kd.R_append (Kd.int .i64) (w0 := w) w.heap.size rfl (.tmp 88) (.tmp 90) 33 3 (.int .i64 0) 8 rfl Try.underlying33 info3 rfl (by decide) (by omega) u7 x7_4 x9_4 [.int .i64 x9_4] (fun _ => True) (fun _ => False) rfl rfl ?aP (fun _ hk => hk.elim) ?aF ?aO ?aB ?aS ?aL ?_; (case aP => exact rfl); (case aB => exact (bp9 HB.out)); (case aF => exact (fun _ _ => trivial)); (case aO => exact (rp9 HO_7.out)); (case aS => exact (below_size (bp9 HB.out))); (case aL => have := LMc46.out; omega); intro v112 w47 ho hb hg hat; rw [← Ny111.out] at ho; have n0_ := Aside0.mk (blk_grown (g := gb101) (o := .cells #[.slice (some ad102) l0_0.length c0_0, .slice A0_1 l0_1.length c0_1, .slice A0_2 l0_2.length c0_2, .slice A0_3 l0_3.length c0_3, .slice A0_4 l0_4.length c0_4, .slice A0_5 l0_5.length c0_5, .slice A0_6 l0_6.length c0_6] 76 (0, 0)) (kp9 BK101.out) hg (Kd.R_ne HO_7.out BK101.out (by decide))); have n1_ := Aside0.mk (blk_grown (g := gb103) (o := .cells #[.int .i64 ((rd_T26 l0_0 a2).f0), .int .i64 ((rd_T26 l0_0 a2).f1), .int .i64 ((rd_T26 l0_0 a2).f2), .int .i64 ((rd_T26 l0_0 a2).f3), .bool ((rd_T26 l0_0 a2).f4), .bool ((rd_T26 l0_0 a2).f5), .bool ((rd_T26 l0_0 a2).f6)] 26 (0, 0)) (kp9 BK103.out) hg (Kd.R_ne HO_7.out BK103.out (by decide))); have n2_ := Aside0.mk (hb); have n3_ := Aside0.mk (ho); clear BK101; clear BK103; clear HB; clear HO_7; have BK101 := n0_; have BK103 := n1_; have HB := n2_; have HO113 := n3_; clear n0_ n1_ n2_ n3_; clear ho hb hg hat)); try go_wp2_with (first | ((with_reducible refine gate_builtin (b := .append) (xs := #[.tmp 88, .tmp 90]) rfl ?_); (try (refine gate_guard (by rfl) ?_; dsimp only)); at_builtin; refine Kd.R_append (Kd.int .i64) (w0 := w) w.heap.size rfl (.tmp 88) (.tmp 90) 33 3 (.int .i64 0) 8 rfl Try.underlying33 info3 rfl (by decide) (by omega) u7 x7_4 x9_4 [.int .i64 x9_4] (fun _ => True) (fun _ => False) rfl rfl ?aP (fun _ hk => hk.elim) ?aF ?aO ?aB ?aS ?aL ?_; (case aP => exact rfl); (case aB => exact (bp9 HB.out)); (case aF => exact (fun _ _ => trivial)); (case aO => exact (rp9 HO_7.out)); (case aS => exact (below_size (bp9 HB.out))); (case aL => have := LMc46.out; omega); intro v112 w47 ho hb hg hat; rw [← Ny111.out] at ho; have n0_ := Aside0.mk (blk_grown (g := gb101) (o := .cells #[.slice (some ad102) l0_0.length c0_0, .slice A0_1 l0_1.length c0_1, .slice A0_2 l0_2.length c0_2, .slice A0_3 l0_3.length c0_3, .slice A0_4 l0_4.length c0_4, .slice A0_5 l0_5.length c0_5, .slice A0_6 l0_6.length c0_6] 76 (0, 0)) (kp9 BK101.out) hg (Kd.R_ne HO_7.out BK101.out (by decide))); have n1_ := Aside0.mk (blk_grown (g := gb103) (o := .cells #[.int .i64 ((rd_T26 l0_0 a2).f0), .int .i64 ((rd_T26 l0_0 a2).f1), .int .i64 ((rd_T26 l0_0 a2).f2), .int .i64 ((rd_T26 l0_0 a2).f3), .bool ((rd_T26 l0_0 a2).f4), .bool ((rd_T26 l0_0 a2).f5), .bool ((rd_T26 l0_0 a2).f6)] 26 (0, 0)) (kp9 BK103.out) hg (Kd.R_ne HO_7.out BK103.out (by decide))); have n2_ := Aside0.mk (hb); have n3_ := Aside0.mk (ho); clear BK101; clear BK103; clear HB; clear HO_7; have BK101 := n0_; have BK103 := n1_; have HB := n2_; have HO113 := n3_; clear n0_ n1_ n2_ n3_; clear ho hb hg hat)))
                  go_roundg kj30
                  case measure => have := HJ3.out; have := HJ11.out; have := HJ25.out; have := HK4.out; have := HJ30.out; omega
                  case rel => exact ⟨(y111), (wrap64 (x9_4 + 1)), (by first | rfl | (simp; done) | (simp [*]; done)), H', ⟨by have := HJ3.out; have := HJ11.out; have := HJ25.out; have := HK4.out; have := HJ30.out; omega⟩, ⟨rp9 HO113.out⟩, ⟨kp9 BK101.out⟩, ⟨kp9 BK103.out⟩, ⟨bp9 HB.out⟩⟩
                 ·rw [if_neg c46] at H
                  exact absurd H (by simp)
                ·replace c45 := Bool.eq_false_iff.mpr c45
                 subst c45
                 rw [if_neg (show ¬ (false = true) by decide)] at H
                 have H' := Aside0.mk H
                 clear H
                 go_wp2
                 repeat (go_quiet (fail); try go_wp2)
                 go_roundg kj30
                 case measure => have := HJ3.out; have := HJ11.out; have := HJ25.out; have := HK4.out; have := HJ30.out; omega
                 case rel => exact ⟨(x7_4), (wrap64 (x9_4 + 1)), (by first | rfl | (simp; done) | (simp [*]; done)), H', ⟨by have := HJ3.out; have := HJ11.out; have := HJ25.out; have := HK4.out; have := HJ30.out; omega⟩, ⟨rp9 HO_7.out⟩, ⟨kp9 BK101.out⟩, ⟨kp9 BK103.out⟩, ⟨bp9 HB.out⟩⟩
             ·rw [if_neg c30] at H
              have c30b0 : decide (x9_4 < (l0_0.length : Int)) = false := decide_eq_false c30
              clear c30
              obtain rfl := Option.some.inj H
              have hnb48 := NB101_103.out
              have hnc48 := NB103_101.out
              obtain ⟨hcz49_0, hcz49_1, hcz49_2, hcz49_3, hcz49_4, hcz49_5, hcz49_6, hfz49_0, hfz49_1, hfz49_2, hfz49_3, hfz49_4, hfz49_5, hfz49_6⟩ := cz7 BK101.out
              go_wp2
              repeat (go_quiet (fail); try go_wp2)
              go_ret
              exact ⟨_, by first | rfl | (simp [errW_none, errW_some] <;> rfl) | (simp [*, errW_none, errW_some] <;> rfl), by (with_reducible repeat (first | apply Kd.R_alloc | apply Kd.R_drewN | apply Kd.R_drew)); exact HO_7.out, bp9 HB.out⟩
      ·rw [if_neg c11] at H
       have c11b0 : (((rd_T26 l0_0 a2).f1) == 1) = false := beq_eq_false_iff_ne.mpr c11
       have c11b1 : (((rd_T26 l0_0 a2).f1) != 1) = true := bne_iff_ne.mpr c11
       obtain rfl := Option.some.inj H
       obtain ⟨hcz50_0, hcz50_1, hcz50_2, hcz50_3, hcz50_4, hcz50_5, hcz50_6, hfz50_0, hfz50_1, hfz50_2, hfz50_3, hfz50_4, hfz50_5, hfz50_6⟩ := cz7 BK101.out
       have p102 : 0 ≤ (a2 : Int) := of_decide_eq_true (by first | (with_reducible assumption) | assumption)
       have q102 : a2 < (l0_0.length : Int) := of_decide_eq_true (by first | (with_reducible assumption) | assumption)
       obtain ⟨ad102, e102, hx102_0, hx102_1, hx102_2, hx102_3, hx102_4, hx102_5, hx102_6⟩ := at_T26 HR0_0.out a2 p102 q102
       cases e102
       replace hx102_0 := (HB.out.cell (World.block_lt_of_cell? w _ hx102_0)).trans hx102_0
       replace hx102_1 := (HB.out.cell (World.block_lt_of_cell? w _ hx102_1)).trans hx102_1
       replace hx102_2 := (HB.out.cell (World.block_lt_of_cell? w _ hx102_2)).trans hx102_2
       replace hx102_3 := (HB.out.cell (World.block_lt_of_cell? w _ hx102_3)).trans hx102_3
       replace hx102_4 := (HB.out.cell (World.block_lt_of_cell? w _ hx102_4)).trans hx102_4
       replace hx102_5 := (HB.out.cell (World.block_lt_of_cell? w _ hx102_5)).trans hx102_5
       replace hx102_6 := (HB.out.cell (World.block_lt_of_cell? w _ hx102_6)).trans hx102_6
       replace p102 := eq_true p102
       replace q102 := eq_true q102
       go_wp2_with (first | ((with_reducible refine gate_dst (N := 8) rfl ?_); (try (refine gate_guard (by rfl) ?_; dsimp only)); refine box_event ?hg (N := 8) ?hd (cs := #[.int .i64 0, .int .i64 0, .int .i64 0, .int .i64 0, .bool false, .bool false, .bool false]) (t := 26) ?hr ?_; (case hd => rfl); (case hg => rfl); (case hr => first | (go_simp; done) | (go_simp; rfl)); intro gb103 hg w51 hbox hb; have n0_ := Aside0.mk (Kd.R_below (rp9 HO_7.out) hb); have n1_ := Aside0.mk (blk_below (kp9 BK101.out) hb); have n2_ := Aside0.mk (below_step (bp9 HB.out) hb); have n3_ := Aside0.mk (hbox); have n4_ := Aside0.mk ((by rw [hg]; exact (below_size (bp9 HB.out)) : w.heap.size ≤ gb103)); have n5_ := n4_; have n6_ := Aside0.mk ((by rw [hg]; exact Nat.ne_of_lt (blk_lt (g := gb101) (o := .cells #[.slice (some ad102) l0_0.length c0_0, .slice A0_1 l0_1.length c0_1, .slice A0_2 l0_2.length c0_2, .slice A0_3 l0_3.length c0_3, .slice A0_4 l0_4.length c0_4, .slice A0_5 l0_5.length c0_5, .slice A0_6 l0_6.length c0_6] 76 (0, 0)) (kp9 BK101.out)) : gb101 ≠ gb103)); have n7_ := Aside0.mk ((by rw [hg]; exact Nat.ne_of_gt (blk_lt (g := gb101) (o := .cells #[.slice (some ad102) l0_0.length c0_0, .slice A0_1 l0_1.length c0_1, .slice A0_2 l0_2.length c0_2, .slice A0_3 l0_3.length c0_3, .slice A0_4 l0_4.length c0_4, .slice A0_5 l0_5.length c0_5, .slice A0_6 l0_6.length c0_6] 76 (0, 0)) (kp9 BK101.out)) : gb103 ≠ gb101)); clear HO_7; clear BK101; clear HB; have HO_7 := n0_; have BK101 := n1_; have HB := n2_; have BK103 := n3_; have GW103 := n4_; have GE103 := n5_; have NB101_103 := n6_; have NB103_101 := n7_; clear n0_ n1_ n2_ n3_ n4_ n5_ n6_ n7_; clear hb hbox hg; have hnb52 := NB103_101.out; have hnc52 := NB101_103.out; obtain ⟨hcz53_0, hcz53_1, hcz53_2, hcz53_3, hcz53_4, hcz53_5, hcz53_6, hfz53_0, hfz53_1, hfz53_2, hfz53_3, hfz53_4, hfz53_5, hfz53_6⟩ := cz7 BK103.out))
       repeat (go_quiet (first | ((with_reducible refine gate_dst (N := 8) rfl ?_); (try (refine gate_guard (by rfl) ?_; dsimp only)); refine box_event ?hg (N := 8) ?hd (cs := #[.int .i64 0, .int .i64 0, .int .i64 0, .int .i64 0, .bool false, .bool false, .bool false]) (t := 26) ?hr ?_; (case hd => rfl); (case hg => rfl); (case hr => first | (go_simp; done) | (go_simp; rfl)); intro gb103 hg w51 hbox hb; have n0_ := Aside0.mk (Kd.R_below (rp9 HO_7.out) hb); have n1_ := Aside0.mk (blk_below (kp9 BK101.out) hb); have n2_ := Aside0.mk (below_step (bp9 HB.out) hb); have n3_ := Aside0.mk (hbox); have n4_ := Aside0.mk ((by rw [hg]; exact (below_size (bp9 HB.out)) : w.heap.size ≤ gb103)); have n5_ := n4_; have n6_ := Aside0.mk ((by rw [hg]; exact Nat.ne_of_lt (blk_lt (g := gb101) (o := .cells #[.slice (some ad102) l0_0.length c0_0, .slice A0_1 l0_1.length c0_1, .slice A0_2 l0_2.length c0_2, .slice A0_3 l0_3.length c0_3, .slice A0_4 l0_4.length c0_4, .slice A0_5 l0_5.length c0_5, .slice A0_6 l0_6.length c0_6] 76 (0, 0)) (kp9 BK101.out)) : gb101 ≠ gb103)); have n7_ := Aside0.mk ((by rw [hg]; exact Nat.ne_of_gt (blk_lt (g := gb101) (o := .cells #[.slice (some ad102) l0_0.length c0_0, .slice A0_1 l0_1.length c0_1, .slice A0_2 l0_2.length c0_2, .slice A0_3 l0_3.length c0_3, .slice A0_4 l0_4.length c0_4, .slice A0_5 l0_5.length c0_5, .slice A0_6 l0_6.length c0_6] 76 (0, 0)) (kp9 BK101.out)) : gb103 ≠ gb101)); clear HO_7; clear BK101; clear HB; have HO_7 := n0_; have BK101 := n1_; have HB := n2_; have BK103 := n3_; have GW103 := n4_; have GE103 := n5_; have NB101_103 := n6_; have NB103_101 := n7_; clear n0_ n1_ n2_ n3_ n4_ n5_ n6_ n7_; clear hb hbox hg; have hnb52 := NB103_101.out; have hnc52 := NB101_103.out; obtain ⟨hcz53_0, hcz53_1, hcz53_2, hcz53_3, hcz53_4, hcz53_5, hcz53_6, hfz53_0, hfz53_1, hfz53_2, hfz53_3, hfz53_4, hfz53_5, hfz53_6⟩ := cz7 BK103.out)); try go_wp2_with (first | ((with_reducible refine gate_dst (N := 8) rfl ?_); (try (refine gate_guard (by rfl) ?_; dsimp only)); refine box_event ?hg (N := 8) ?hd (cs := #[.int .i64 0, .int .i64 0, .int .i64 0, .int .i64 0, .bool false, .bool false, .bool false]) (t := 26) ?hr ?_; (case hd => rfl); (case hg => rfl); (case hr => first | (go_simp; done) | (go_simp; rfl)); intro gb103 hg w51 hbox hb; have n0_ := Aside0.mk (Kd.R_below (rp9 HO_7.out) hb); have n1_ := Aside0.mk (blk_below (kp9 BK101.out) hb); have n2_ := Aside0.mk (below_step (bp9 HB.out) hb); have n3_ := Aside0.mk (hbox); have n4_ := Aside0.mk ((by rw [hg]; exact (below_size (bp9 HB.out)) : w.heap.size ≤ gb103)); have n5_ := n4_; have n6_ := Aside0.mk ((by rw [hg]; exact Nat.ne_of_lt (blk_lt (g := gb101) (o := .cells #[.slice (some ad102) l0_0.length c0_0, .slice A0_1 l0_1.length c0_1, .slice A0_2 l0_2.length c0_2, .slice A0_3 l0_3.length c0_3, .slice A0_4 l0_4.length c0_4, .slice A0_5 l0_5.length c0_5, .slice A0_6 l0_6.length c0_6] 76 (0, 0)) (kp9 BK101.out)) : gb101 ≠ gb103)); have n7_ := Aside0.mk ((by rw [hg]; exact Nat.ne_of_gt (blk_lt (g := gb101) (o := .cells #[.slice (some ad102) l0_0.length c0_0, .slice A0_1 l0_1.length c0_1, .slice A0_2 l0_2.length c0_2, .slice A0_3 l0_3.length c0_3, .slice A0_4 l0_4.length c0_4, .slice A0_5 l0_5.length c0_5, .slice A0_6 l0_6.length c0_6] 76 (0, 0)) (kp9 BK101.out)) : gb103 ≠ gb101)); clear HO_7; clear BK101; clear HB; have HO_7 := n0_; have BK101 := n1_; have HB := n2_; have BK103 := n3_; have GW103 := n4_; have GE103 := n5_; have NB101_103 := n6_; have NB103_101 := n7_; clear n0_ n1_ n2_ n3_ n4_ n5_ n6_ n7_; clear hb hbox hg; have hnb52 := NB103_101.out; have hnc52 := NB101_103.out; obtain ⟨hcz53_0, hcz53_1, hcz53_2, hcz53_3, hcz53_4, hcz53_5, hcz53_6, hfz53_0, hfz53_1, hfz53_2, hfz53_3, hfz53_4, hfz53_5, hfz53_6⟩ := cz7 BK103.out)))
       go_ret
       exact ⟨_, by first | rfl | (simp [errW_none, errW_some] <;> rfl) | (simp [*, errW_none, errW_some] <;> rfl), by (with_reducible repeat (first | apply Kd.R_alloc | apply Kd.R_drewN | apply Kd.R_drew)); exact Kd.R_mono (Kd.R_far (p := ⟨gb103, 6, none⟩) (Kd.R_far (p := ⟨gb103, 5, none⟩) (Kd.R_far (p := ⟨gb103, 4, none⟩) (Kd.R_far (p := ⟨gb103, 3, none⟩) (Kd.R_far (p := ⟨gb103, 2, none⟩) (Kd.R_far (p := ⟨gb103, 1, none⟩) (Kd.R_far (p := ⟨gb103, 0, none⟩) (Kd.R_types HO_7.out BK103.out (by decide)) (fun _ hk => hk.2) (.int .i64 ((rd_T26 l0_0 a2).f0))) (fun _ hk => hk.2) (.int .i64 ((rd_T26 l0_0 a2).f1))) (fun _ hk => hk.2) (.int .i64 ((rd_T26 l0_0 a2).f2))) (fun _ hk => hk.2) (.int .i64 ((rd_T26 l0_0 a2).f3))) (fun _ hk => hk.2) (.bool ((rd_T26 l0_0 a2).f4))) (fun _ hk => hk.2) (.bool ((rd_T26 l0_0 a2).f5))) (fun _ hk => hk.2) (.bool ((rd_T26 l0_0 a2).f6))) (fun _ hk => trivial), bp9 HB.out⟩
     ·rw [if_neg c10] at H
      exact absurd H (by simp)
    ·rw [if_neg c9] at H
     exact absurd H (by simp)

/-! ### cupolaref11_Choices: function 125 -/
def cupolaref11_Choices.l0 : Nat → List Int → List (List Int) → Int → List (S26) → List Int → List Int → List Int → List Int → List Int → List (List Int) → Option ((List (List Int)))
 | 0, _, _, _, _, _, _, _, _, _, _ => none
 | k + 1, x1, x5, x6, x102000, x102001, x102002, x102003, x102004, x102005, x102006 => if x6 < (x102000.length : Int) then (if 0 ≤ x6 then (if ((rd_T26 x102000 x6).f1) = 1 then ((cupolaref11_May.f k x102000 x102001 x102002 x102003 x102004 x102005 x102006 x1 x6).bind fun t103 => (if x5.length < 5864062014805 then (cupolaref11_Choices.l0 k x1 (x5 ++ [t103]) (wrap64 (x6 + 1)) x102000 x102001 x102002 x102003 x102004 x102005 x102006) else (none))) else (if x5.length < 5864062014805 then (cupolaref11_Choices.l0 k x1 (x5 ++ [(([(-2)] : List Int))]) (wrap64 (x6 + 1)) x102000 x102001 x102002 x102003 x102004 x102005 x102006) else (none))) else (none)) else (some x5)
def cupolaref11_Choices.f (k : Nat) (l0_0 : List (S26)) (l0_1 : List Int) (l0_2 : List Int) (l0_3 : List Int) (l0_4 : List Int) (l0_5 : List Int) (l0_6 : List (List Int)) (l1 : List Int) : Option ((List (List Int))) := cupolaref11_Choices.l0 k l1 ([] : List (List Int)) 0 l0_0 l0_1 l0_2 l0_3 l0_4 l0_5 l0_6
set_option maxHeartbeats 8000000 in
set_option maxRecDepth 100000 in
theorem cupolaref11_Choices.calls (k : Nat) (A0_0 : Option Addr) (c0_0 : Nat) (l0_0 : List (S26)) (A0_1 : Option Addr) (c0_1 : Nat) (l0_1 : List Int) (A0_2 : Option Addr) (c0_2 : Nat) (l0_2 : List Int) (A0_3 : Option Addr) (c0_3 : Nat) (l0_3 : List Int) (A0_4 : Option Addr) (c0_4 : Nat) (l0_4 : List Int) (A0_5 : Option Addr) (c0_5 : Nat) (l0_5 : List Int) (A0_6 : Option Addr) (c0_6 : Nat) (l0_6 : List (List Int)) (A1 : Option Addr) (c1 : Nat) (l1 : List Int) (r : List (List Int)) (w : World) (hr0_0 : Kd.C k26 w A0_0 l0_0.length l0_0) (hc0_0 : l0_0.length ≤ c0_0) (hr0_1 : Kd.C (Kd.int .u32) w A0_1 l0_1.length l0_1) (hc0_1 : l0_1.length ≤ c0_1) (hr0_2 : Kd.C (Kd.int .u32) w A0_2 l0_2.length l0_2) (hc0_2 : l0_2.length ≤ c0_2) (hr0_3 : Kd.C (Kd.int .u32) w A0_3 l0_3.length l0_3) (hc0_3 : l0_3.length ≤ c0_3) (hr0_4 : Kd.C (Kd.int .u32) w A0_4 l0_4.length l0_4) (hc0_4 : l0_4.length ≤ c0_4) (hr0_5 : Kd.C (Kd.int .u32) w A0_5 l0_5.length l0_5) (hc0_5 : l0_5.length ≤ c0_5) (hr0_6 : Kd.C (Kd.slice 2 (Kd.int .i64)) w A0_6 l0_6.length l0_6) (hc0_6 : l0_6.length ≤ c0_6) (hr1 : Kd.C (Kd.int .i64) w A1 l1.length l1) (hc1 : l1.length ≤ c1) (h : cupolaref11_Choices.f k l0_0 l0_1 l0_2 l0_3 l0_4 l0_5 l0_6 l1 = some r) :
  Calls Try.prog 125 #[.agg #[.slice A0_0 l0_0.length c0_0, .slice A0_1 l0_1.length c0_1, .slice A0_2 l0_2.length c0_2, .slice A0_3 l0_3.length c0_3, .slice A0_4 l0_4.length c0_4, .slice A0_5 l0_5.length c0_5, .slice A0_6 l0_6.length c0_6], .slice A1 l1.length c1] w fun e w' => ∃ v0_ : Value, e = .returned (v0_) ∧ Kd.S (Kd.slice 3 (Kd.int .i64)) 33 w' w.heap.size (fun _ => True) v0_ r ∧ Below w.heap.size w w' := by
 have hu76 := Try.underlying76
 have HR0_0 := Aside0.mk hr0_0
 have HC0_0 := Aside0.mk hc0_0
 clear hr0_0 hc0_0
 have HR0_1 := Aside0.mk hr0_1
 have HC0_1 := Aside0.mk hc0_1
 clear hr0_1 hc0_1
 have HR0_2 := Aside0.mk hr0_2
 have HC0_2 := Aside0.mk hc0_2
 clear hr0_2 hc0_2
 have HR0_3 := Aside0.mk hr0_3
 have HC0_3 := Aside0.mk hc0_3
 clear hr0_3 hc0_3
 have HR0_4 := Aside0.mk hr0_4
 have HC0_4 := Aside0.mk hc0_4
 clear hr0_4 hc0_4
 have HR0_5 := Aside0.mk hr0_5
 have HC0_5 := Aside0.mk hc0_5
 clear hr0_5 hc0_5
 have HR0_6 := Aside0.mk hr0_6
 have HC0_6 := Aside0.mk hc0_6
 clear hr0_6 hc0_6
 have HR1 := Aside0.mk hr1
 have HC1 := Aside0.mk hc1
 clear hr1 hc1
 have HB := Aside0.mk (Below.refl w.heap.size w)
 have H : (cupolaref11_Choices.l0 k l1 ([] : List (List Int)) 0 l0_0 l0_1 l0_2 l0_3 l0_4 l0_5 l0_6) = some r := h
 clear h
 have H' := Aside0.mk H
 clear H
 go_enter Try.func125, Try.ntmps125
 go_wp2_with (first | ((with_reducible refine gate_dst (N := 2) rfl ?_); refine box_event ?hg (N := 2) ?hd (cs := #[.slice A0_0 l0_0.length c0_0, .slice A0_1 l0_1.length c0_1, .slice A0_2 l0_2.length c0_2, .slice A0_3 l0_3.length c0_3, .slice A0_4 l0_4.length c0_4, .slice A0_5 l0_5.length c0_5, .slice A0_6 l0_6.length c0_6]) (t := 76) ?hr ?_; (case hd => rfl); (case hg => rfl); (case hr => first | (go_simp; done) | (go_simp; rfl)); intro gb101 hg w3 hbox hb; have n0_ := Aside0.mk (below_step (bp9 HB.out) hb); have n1_ := Aside0.mk (hbox); have n2_ := Aside0.mk ((by rw [hg]; exact (below_size (bp9 HB.out)) : w.heap.size ≤ gb101)); have n3_ := n2_; clear HB; have HB := n0_; have BK101 := n1_; have GW101 := n2_; have GE101 := n3_; clear n0_ n1_ n2_ n3_; clear hb hbox hg))
 go_loopg [5, 6] k (fun kq v5 v6 w' => ∃ (x5_1 : List (List Int)) (x6_1 : Int), v6 = .int .i64 x6_1 ∧ Aside0 (cupolaref11_Choices.l0 kq l1 x5_1 x6_1 l0_0 l0_1 l0_2 l0_3 l0_4 l0_5 l0_6 = some r) ∧ Aside0 (kq ≤ k) ∧ Aside0 (Kd.S (Kd.slice 3 (Kd.int .i64)) 33 w' w.heap.size (fun _ => True) v5 x5_1) ∧ Aside0 (w'.heap[gb101]? = some (.cells #[(.slice A0_0 l0_0.length c0_0), (.slice A0_1 l0_1.length c0_1), (.slice A0_2 l0_2.length c0_2), (.slice A0_3 l0_3.length c0_3), (.slice A0_4 l0_4.length c0_4), (.slice A0_5 l0_5.length c0_5), (.slice A0_6 l0_6.length c0_6)] 76 (0, 0))) ∧ Aside0 (Below w.heap.size w w'))
 case atStart => exact ⟨(([] : List (List Int))), (0), (by first | rfl | (simp; done) | (simp [*]; done)), H', ⟨Nat.le_refl _⟩, ⟨by first | exact Kd.S_nil _ _ _ _ _ | exact Kd.N_nil _ _ _ _ _ | exact Kd.V_nil _ _ _ _ _ | exact Kd.Q_nil _ _ _ _ _ | exact Kd.R_nil _ _ _ _ _⟩, ⟨kp9 BK101.out⟩, ⟨bp9 HB.out⟩⟩
 case round =>
  clear H'
  try clear c1
  try clear p2
  obtain ⟨x5_1, x6_1, rfl, HA, HK1, HO_5, BK101, HB⟩ := hrel
  cases gk with
  | zero => exact absurd HA.out (by simp [cupolaref11_Choices.l0])
  | succ k1 =>
   have H := HA.out
   clear HA
   simp only [cupolaref11_Choices.l0] at H
   by_cases c4 : x6_1 < (l0_0.length : Int)
   ·rw [if_pos c4] at H
    have c4b0 : decide (x6_1 < (l0_0.length : Int)) = true := decide_eq_true c4
    clear c4
    by_cases c5 : 0 ≤ x6_1
    ·rw [if_pos c5] at H
     have c5b0 : decide (0 ≤ x6_1) = true := decide_eq_true c5
     clear c5
     by_cases c6 : ((rd_T26 l0_0 x6_1).f1) = 1
     ·rw [if_pos c6] at H
      have c6b0 : (((rd_T26 l0_0 x6_1).f1) == 1) = true := beq_iff_eq.mpr c6
      have c6b1 : (((rd_T26 l0_0 x6_1).f1) != 1) = false := bne_eq_false_iff_eq.mpr c6
      clear c6
      replace H := Option.bind_eq_some_iff.mp H
      obtain ⟨t103, A70, H⟩ := H
      have A7 := Aside0.mk A70
      clear A70
      by_cases c8 : x5_1.length < 5864062014805
      ·rw [if_pos c8] at H
       have LMc8 := Aside0.mk c8
       clear c8
       obtain ⟨y106, hy106⟩ : ∃ y_ : List (List Int), y_ = (x5_1 ++ [t103]) := ⟨_, rfl⟩
       replace H : (cupolaref11_Choices.l0 k1 l1 y106 (wrap64 (x6_1 + 1)) l0_0 l0_1 l0_2 l0_3 l0_4 l0_5 l0_6) = some r := by first | (rw [hy106]; with_reducible exact H) | (have H2_ := (Option.bind_some _ _).symm.trans H; rw [hy106]; with_reducible exact H2_) | (have H2_ := (Option.bind_some _ _).symm.trans H; with_reducible exact H2_) | with_reducible exact H | (rw [hy106]; exact H) | exact H
       have Ny106 := Aside0.mk hy106
       clear hy106
       have H' := Aside0.mk H
       clear H
       obtain ⟨hcz9_0, hcz9_1, hcz9_2, hcz9_3, hcz9_4, hcz9_5, hcz9_6, hfz9_0, hfz9_1, hfz9_2, hfz9_3, hfz9_4, hfz9_5, hfz9_6⟩ := cz7 BK101.out
       have p102 : 0 ≤ (x6_1 : Int) := of_decide_eq_true (by first | (with_reducible assumption) | assumption)
       have q102 : x6_1 < (l0_0.length : Int) := of_decide_eq_true (by first | (with_reducible assumption) | assumption)
       obtain ⟨ad102, e102, hx102_0, hx102_1, hx102_2, hx102_3, hx102_4, hx102_5, hx102_6⟩ := at_T26 HR0_0.out x6_1 p102 q102
       cases e102
       replace hx102_0 := (HB.out.cell (World.block_lt_of_cell? w _ hx102_0)).trans hx102_0
       replace hx102_1 := (HB.out.cell (World.block_lt_of_cell? w _ hx102_1)).trans hx102_1
       replace hx102_2 := (HB.out.cell (World.block_lt_of_cell? w _ hx102_2)).trans hx102_2
       replace hx102_3 := (HB.out.cell (World.block_lt_of_cell? w _ hx102_3)).trans hx102_3
       replace hx102_4 := (HB.out.cell (World.block_lt_of_cell? w _ hx102_4)).trans hx102_4
       replace hx102_5 := (HB.out.cell (World.block_lt_of_cell? w _ hx102_5)).trans hx102_5
       replace hx102_6 := (HB.out.cell (World.block_lt_of_cell? w _ hx102_6)).trans hx102_6
       replace p102 := eq_true p102
       replace q102 := eq_true q102
       go_wp2_with (first | ((with_reducible refine gate_callee (f := 66) rfl ?_); refine goesL9 (some 25) rfl rfl Try.func66 (by kernel_rfl) rfl #[.agg #[.slice (some ad102) l0_0.length c0_0, .slice A0_1 l0_1.length c0_1, .slice A0_2 l0_2.length c0_2, .slice A0_3 l0_3.length c0_3, .slice A0_4 l0_4.length c0_4, .slice A0_5 l0_5.length c0_5, .slice A0_6 l0_6.length c0_6], .slice A1 l1.length c1, .int .i64 x6_1] rfl ?_; (with_reducible refine (cupolaref11_May.calls k1 _ _ l0_0 _ _ l0_1 _ _ l0_2 _ _ l0_3 _ _ l0_4 _ _ l0_5 _ _ l0_6 _ _ l1 x6_1 t103 _ ?side1 ?side2 ?side3 ?side4 ?side5 ?side6 ?side7 ?side8 ?side9 ?side10 ?side11 ?side12 ?side13 ?side14 ?side15 ?side16 A7.out).mono ?_); (case side1 => exact cp9 HR0_0.out HB.out); (case side2 => exact HC0_0.out); (case side3 => exact cp9 HR0_1.out HB.out); (case side4 => exact HC0_1.out); (case side5 => exact cp9 HR0_2.out HB.out); (case side6 => exact HC0_2.out); (case side7 => exact cp9 HR0_3.out HB.out); (case side8 => exact HC0_3.out); (case side9 => exact cp9 HR0_4.out HB.out); (case side10 => exact HC0_4.out); (case side11 => exact cp9 HR0_5.out HB.out); (case side12 => exact HC0_5.out); (case side13 => exact cp9 HR0_6.out HB.out); (case side14 => exact HC0_6.out); (case side15 => exact cp9 HR1.out HB.out); (case side16 => exact HC1.out); rintro e w10 ⟨v104, rfl, ho0, hb⟩; refine ⟨_, rfl, ?_⟩; have n0_ := Aside0.mk (Kd.S_elder' (by (with_reducible repeat (first | apply Kd.S_alloc | apply Kd.S_drewN | apply Kd.S_drew)); exact HO_5.out) (Kd.R_base ho0) hb); have n1_ := Aside0.mk (Kd.R_lower ho0 (below_size (bp9 HB.out))); have n2_ := Aside0.mk (blk_below (kp9 BK101.out) hb); have n3_ := Aside0.mk (below_step (bp9 HB.out) hb); clear HO_5; clear BK101; clear HB; have HO_5 := n0_; have HO105 := n1_; have BK101 := n2_; have HB := n3_; clear n0_ n1_ n2_ n3_; (try clear hb); (try clear hb2); (try clear hk); (try clear hi); (try clear ho0); obtain ⟨Ao12, co12, eo12⟩ := Kd.R_slice HO105.out; subst eo12) | ((with_reducible refine gate_builtin (b := .append) (xs := #[.tmp 21, .tmp 26]) rfl ?_); at_builtin; refine Kd.S_append (Kd.slice 3 (Kd.int .i64)) (w0 := w) w.heap.size rfl (.tmp 21) (.tmp 26) 35 33 (.slice none 0 0) 24 rfl Try.underlying35 info33 rfl (by decide) (by omega) u5 x5_1 t103 [.slice Ao12 t103.length co12] (fun _ => True) (fun k_ => some k_ = (.slice Ao12 t103.length co12 : Value).ownBlock) rfl rfl ?aP (fun k_ hk_ => ((Kd.R_mono (ok' := fun k_ => ((fun _ => True)) k_ ∧ some k_ ≠ (u5 : Value).ownBlock) (Kd.R_apart' (HO105.out) (Kd.S_typed HO_5.out) (by decide)) (fun k_ hk => ⟨trivial, hk.2⟩))).1 k_ hk_.symm) ?aF ?aO ?aB ?aS ?aL ?_; (case aP => exact Kd.M_row (Kd.R_mono (Kd.R_tight rfl (Kd.R_mono (ok' := fun k_ => ((fun _ => True)) k_ ∧ some k_ ≠ (u5 : Value).ownBlock) (Kd.R_apart' (HO105.out) (Kd.S_typed HO_5.out) (by decide)) (fun k_ hk => ⟨trivial, hk.2⟩))) (fun _ h_ => h_))); (case aB => exact (bp9 HB.out)); (case aF => exact (fun _ _ => trivial)); (case aO => exact (by (with_reducible repeat (first | apply Kd.S_alloc | apply Kd.S_drewN | apply Kd.S_drew)); exact Kd.S_mono HO_5.out (fun k_ hk => ⟨trivial, fun e_ => hk.2 e_⟩))); (case aS => exact (below_size (bp9 HB.out))); (case aL => have := LMc8.out; omega); intro v107 w11 ho hb hg hat; rw [← Ny106.out] at ho; have n0_ := Aside0.mk (blk_grown (g := gb101) (o := .cells #[.slice (some ad102) l0_0.length c0_0, .slice A0_1 l0_1.length c0_1, .slice A0_2 l0_2.length c0_2, .slice A0_3 l0_3.length c0_3, .slice A0_4 l0_4.length c0_4, .slice A0_5 l0_5.length c0_5, .slice A0_6 l0_6.length c0_6] 76 (0, 0)) (kp9 BK101.out) hg (Kd.S_ne HO_5.out BK101.out (by decide))); have n1_ := Aside0.mk (hb); have n2_ := Aside0.mk (ho); clear BK101; clear HB; clear HO_5; clear HO105; have BK101 := n0_; have HB := n1_; have HO108 := n2_; clear n0_ n1_ n2_; clear ho hb hg hat))
       go_roundg k1
       case measure => have := HK1.out; omega
       case rel => exact ⟨(y106), (wrap64 (x6_1 + 1)), (by first | rfl | (simp; done) | (simp [*]; done)), H', ⟨by have := HK1.out; omega⟩, ⟨by (with_reducible repeat (first | apply Kd.S_alloc | apply Kd.S_drewN | apply Kd.S_drew)); exact HO108.out⟩, ⟨kp9 BK101.out⟩, ⟨bp9 HB.out⟩⟩
      ·rw [if_neg c8] at H
       exact absurd H (by simp)
     ·rw [if_neg c6] at H
      have c6b0 : (((rd_T26 l0_0 x6_1).f1) == 1) = false := beq_eq_false_iff_ne.mpr c6
      have c6b1 : (((rd_T26 l0_0 x6_1).f1) != 1) = true := bne_iff_ne.mpr c6
      obtain ⟨y109, hy109⟩ : ∃ y_ : List Int, y_ = (([(-2)] : List Int)) := ⟨_, rfl⟩
      replace H : (if x5_1.length < 5864062014805 then (cupolaref11_Choices.l0 k1 l1 (x5_1 ++ [y109]) (wrap64 (x6_1 + 1)) l0_0 l0_1 l0_2 l0_3 l0_4 l0_5 l0_6) else (none)) = some r := by first | (rw [hy109]; with_reducible exact H) | (have H2_ := (Option.bind_some _ _).symm.trans H; rw [hy109]; with_reducible exact H2_) | (have H2_ := (Option.bind_some _ _).symm.trans H; with_reducible exact H2_) | with_reducible exact H | (rw [hy109]; exact H) | exact H
      have Ny109 := Aside0.mk hy109
      clear hy109
      by_cases c13 : x5_1.length < 5864062014805
      ·rw [if_pos c13] at H
       have LMc13 := Aside0.mk c13
       clear c13
       obtain ⟨y112, hy112⟩ : ∃ y_ : List (List Int), y_ = (x5_1 ++ [y109]) := ⟨_, rfl⟩
       replace H : (cupolaref11_Choices.l0 k1 l1 y112 (wrap64 (x6_1 + 1)) l0_0 l0_1 l0_2 l0_3 l0_4 l0_5 l0_6) = some r := by first | (rw [hy112]; with_reducible exact H) | (have H2_ := (Option.bind_some _ _).symm.trans H; rw [hy112]; with_reducible exact H2_) | (have H2_ := (Option.bind_some _ _).symm.trans H; with_reducible exact H2_) | with_reducible exact H | (rw [hy112]; exact H) | exact H
       have Ny112 := Aside0.mk hy112
       clear hy112
       have H' := Aside0.mk H
       clear H
       obtain ⟨hcz14_0, hcz14_1, hcz14_2, hcz14_3, hcz14_4, hcz14_5, hcz14_6, hfz14_0, hfz14_1, hfz14_2, hfz14_3, hfz14_4, hfz14_5, hfz14_6⟩ := cz7 BK101.out
       have p102 : 0 ≤ (x6_1 : Int) := of_decide_eq_true (by first | (with_reducible assumption) | assumption)
       have q102 : x6_1 < (l0_0.length : Int) := of_decide_eq_true (by first | (with_reducible assumption) | assumption)
       obtain ⟨ad102, e102, hx102_0, hx102_1, hx102_2, hx102_3, hx102_4, hx102_5, hx102_6⟩ := at_T26 HR0_0.out x6_1 p102 q102
       cases e102
       replace hx102_0 := (HB.out.cell (World.block_lt_of_cell? w _ hx102_0)).trans hx102_0
       replace hx102_1 := (HB.out.cell (World.block_lt_of_cell? w _ hx102_1)).trans hx102_1
       replace hx102_2 := (HB.out.cell (World.block_lt_of_cell? w _ hx102_2)).trans hx102_2
       replace hx102_3 := (HB.out.cell (World.block_lt_of_cell? w _ hx102_3)).trans hx102_3
       replace hx102_4 := (HB.out.cell (World.block_lt_of_cell? w _ hx102_4)).trans hx102_4
       replace hx102_5 := (HB.out.cell (World.block_lt_of_cell? w _ hx102_5)).trans hx102_5
       replace hx102_6 := (HB.out.cell (World.block_lt_of_cell? w _ hx102_6)).trans hx102_6
       replace p102 := eq_true p102
       replace q102 := eq_true q102
       go_wp2_with (first | ((with_reducible refine gate_dst (N := 29) rfl ?_); refine Kd.R_lit (Kd.int .i64) _ 3 ?hg (N := 29) ?hd (xs := ([(-2)] : List Int)) (inner := [.int .i64 (-2)]) (ok := fun _ => True) (okp := fun _ => True) ?hr ?hp (fun _ hk => hk) trivial (Below.refl _ _) (Nat.le_refl _) (by simp) ?_; (case hd => rfl); (case hg => rfl); (case hr => first | (go_simp; done) | (go_simp; rfl)); (case hp => exact (Reps.one (show Kd.M (Kd.int .i64) _ _ _ (-2) [.int .i64 (-2)] from rfl) (Reps.none _ _))); intro v110 w15 ho16 hb hg_ hnew_; clear hg_ hnew_; (first | rw [← Ny109.out] at ho16 | (simp only [Int.reduceToNat] at ho16; rw [← Ny109.out] at ho16)); have n0_ := Aside0.mk (Kd.S_elder' (by (with_reducible repeat (first | apply Kd.S_alloc | apply Kd.S_drewN | apply Kd.S_drew)); exact HO_5.out) (Kd.R_base ho16) hb); have n1_ := Aside0.mk (Kd.R_lower ho16 (below_size (bp9 HB.out))); have n2_ := Aside0.mk (blk_below (kp9 BK101.out) hb); have n3_ := Aside0.mk (below_step (bp9 HB.out) hb); clear HO_5; clear BK101; clear HB; have HO_5 := n0_; have HO111 := n1_; have BK101 := n2_; have HB := n3_; clear n0_ n1_ n2_ n3_; clear hb ho16; obtain ⟨Ao18, co18, eo18⟩ := Kd.R_slice HO111.out; subst eo18) | ((with_reducible refine gate_builtin (b := .append) (xs := #[.tmp 28, .tmp 30]) rfl ?_); at_builtin; refine Kd.S_append (Kd.slice 3 (Kd.int .i64)) (w0 := w) w.heap.size rfl (.tmp 28) (.tmp 30) 35 33 (.slice none 0 0) 24 rfl Try.underlying35 info33 rfl (by decide) (by omega) u5 x5_1 y109 [.slice Ao18 y109.length co18] (fun _ => True) (fun k_ => some k_ = (.slice Ao18 y109.length co18 : Value).ownBlock) rfl rfl ?aP (fun k_ hk_ => ((Kd.R_mono (ok' := fun k_ => ((fun _ => True)) k_ ∧ some k_ ≠ (u5 : Value).ownBlock) (Kd.R_apart' (HO111.out) (Kd.S_typed HO_5.out) (by decide)) (fun k_ hk => ⟨trivial, hk.2⟩))).1 k_ hk_.symm) ?aF ?aO ?aB ?aS ?aL ?_; (case aP => exact Kd.M_row (Kd.R_mono (Kd.R_tight rfl (Kd.R_mono (ok' := fun k_ => ((fun _ => True)) k_ ∧ some k_ ≠ (u5 : Value).ownBlock) (Kd.R_apart' (HO111.out) (Kd.S_typed HO_5.out) (by decide)) (fun k_ hk => ⟨trivial, hk.2⟩))) (fun _ h_ => h_))); (case aB => exact (bp9 HB.out)); (case aF => exact (fun _ _ => trivial)); (case aO => exact (by (with_reducible repeat (first | apply Kd.S_alloc | apply Kd.S_drewN | apply Kd.S_drew)); exact Kd.S_mono HO_5.out (fun k_ hk => ⟨trivial, fun e_ => hk.2 e_⟩))); (case aS => exact (below_size (bp9 HB.out))); (case aL => have := LMc13.out; omega); intro v113 w17 ho hb hg hat; rw [← Ny112.out] at ho; have n0_ := Aside0.mk (blk_grown (g := gb101) (o := .cells #[.slice (some ad102) l0_0.length c0_0, .slice A0_1 l0_1.length c0_1, .slice A0_2 l0_2.length c0_2, .slice A0_3 l0_3.length c0_3, .slice A0_4 l0_4.length c0_4, .slice A0_5 l0_5.length c0_5, .slice A0_6 l0_6.length c0_6] 76 (0, 0)) (kp9 BK101.out) hg (Kd.S_ne HO_5.out BK101.out (by decide))); have n1_ := Aside0.mk (hb); have n2_ := Aside0.mk (ho); clear BK101; clear HB; clear HO_5; clear HO111; have BK101 := n0_; have HB := n1_; have HO114 := n2_; clear n0_ n1_ n2_; clear ho hb hg hat))
       go_roundg k1
       case measure => have := HK1.out; omega
       case rel => exact ⟨(y112), (wrap64 (x6_1 + 1)), (by first | rfl | (simp; done) | (simp [*]; done)), H', ⟨by have := HK1.out; omega⟩, ⟨by (with_reducible repeat (first | apply Kd.S_alloc | apply Kd.S_drewN | apply Kd.S_drew)); exact HO114.out⟩, ⟨kp9 BK101.out⟩, ⟨bp9 HB.out⟩⟩
      ·rw [if_neg c13] at H
       exact absurd H (by simp)
    ·rw [if_neg c5] at H
     exact absurd H (by simp)
   ·rw [if_neg c4] at H
    have c4b0 : decide (x6_1 < (l0_0.length : Int)) = false := decide_eq_false c4
    clear c4
    obtain rfl := Option.some.inj H
    obtain ⟨hcz19_0, hcz19_1, hcz19_2, hcz19_3, hcz19_4, hcz19_5, hcz19_6, hfz19_0, hfz19_1, hfz19_2, hfz19_3, hfz19_4, hfz19_5, hfz19_6⟩ := cz7 BK101.out
    go_wp2
    go_ret
    exact ⟨_, by first | rfl | (simp [errW_none, errW_some] <;> rfl) | (simp [*, errW_none, errW_some] <;> rfl), by (with_reducible repeat (first | apply Kd.S_alloc | apply Kd.S_drewN | apply Kd.S_drew)); exact HO_5.out, bp9 HB.out⟩

/-! ### cupolaref11_All: function 67 -/
mutual
def cupolaref11_All.l0 : Nat → List (List Int) → Int → Int → Option ((List (List Int)))
 | 0, _, _, _ => none
 | k + 1, x5, x6, x7 => if x7 < (x5.length : Int) then (if 0 ≤ x7 then (if (wrap64 (x6 * ((rd_L5 x5 x7).length : Int))) > 20000 then (some ([] : List (List Int))) else (cupolaref11_All.l0 k x5 (wrap64 (x6 * ((rd_L5 x5 x7).length : Int))) (wrap64 (x7 + 1)))) else (none)) else (cupolaref11_All.l1 k x5 (([[]] : List (List Int))) 0)
def cupolaref11_All.l1 : Nat → List (List Int) → List (List Int) → Int → Option ((List (List Int)))
 | 0, _, _, _ => none
 | k + 1, x5, x8, x9 => if x9 < (x5.length : Int) then (cupolaref11_All.l2 k x5 x8 x9 ([] : List (List Int)) 0) else (some x8)
def cupolaref11_All.l2 : Nat → List (List Int) → List (List Int) → Int → List (List Int) → Int → Option ((List (List Int)))
 | 0, _, _, _, _, _ => none
 | k + 1, x5, x8, x9, x10, x11 => if x11 < (x8.length : Int) then (cupolaref11_All.l3 k x5 x8 x9 x10 x11 0) else (cupolaref11_All.l1 k x5 x10 (wrap64 (x9 + 1)))
def cupolaref11_All.l3 : Nat → List (List Int) → List (List Int) → Int → List (List Int) → Int → Int → Option ((List (List Int)))
 | 0, _, _, _, _, _, _ => none
 | k + 1, x5, x8, x9, x10, x11, x12 => if 0 ≤ x9 then (if x9 < (x5.length : Int) then (if x12 < ((rd_L5 x5 x9).length : Int) then ((some (([] : List Int) : List Int)).bind fun y110 => (if 0 ≤ x11 then (if x11 < (x8.length : Int) then (if y110.length + (rd_L5 x8 x11).length < 17592186044416 then ((some (y110 ++ (rd_L5 x8 x11) : List Int)).bind fun y114 => (if 0 ≤ x12 then ((some (([rd (rd_L5 x5 x9) x12] : List Int) : List Int)).bind fun y119 => (if y114.length + y119.length < 17592186044416 then ((some (([(y114 ++ y119)] : List (List Int)) : List (List Int))).bind fun y125 => (if x10.length + y125.length < 5864062014805 then (cupolaref11_All.l3 k x5 x8 x9 (x10 ++ y125) x11 (wrap64 (x12 + 1))) else (none))) else (none))) else (none))) else (none)) else (none)) else (none))) else (cupolaref11_All.l2 k x5 x8 x9 x10 (wrap64 (x11 + 1)))) else (none)) else (none)
end
def cupolaref11_All.f (k : Nat) (l0_0 : List (S26)) (l0_1 : List Int) (l0_2 : List Int) (l0_3 : List Int) (l0_4 : List Int) (l0_5 : List Int) (l0_6 : List (List Int)) (l1 : List Int) : Option ((List (List Int))) := (cupolaref11_Choices.f k l0_0 l0_1 l0_2 l0_3 l0_4 l0_5 l0_6 l1).bind fun t102 => (cupolaref11_All.l0 k t102 1 0)
def cupolaref11_All.T20 : Bool × List (List Nat × List Nat) := (true, [([], []), ([], []), ([], []), ([], []), ([2, 3], [2, 3]), ([4], [4]), ([1, 5], [1, 5]), ([], []), ([], []), ([7, 8], [7, 8]), ([9], [9]), ([], []), ([10, 11], [10, 11]), ([12], [12]), ([13], [13]), ([6, 14, 6], [6, 14]), ([15], [15]), ([0, 16, 15], [0, 16]), ([17, 17, 0, 1, 2, 3, 4, 5, 6, 7, 8, 9, 10, 11, 12, 13, 14, 15, 16, 17], [0, 17])])
def cupolaref11_All.B20 : List Nat := [0, 0, 0, 0, 12, 28, 62, 0, 0, 384, 896, 0, 3968, 8064, 16256, 32766, 65534, 131071, 262143]
theorem cupolaref11_All.tab20 : rtab .any (opsOf Try.f67 20) = cupolaref11_All.T20 := by kernel_rfl
theorem cupolaref11_All.bits20 : waitsOk cupolaref11_All.T20.2 cupolaref11_All.B20 = true := by kernel_rfl
set_option maxHeartbeats 8000000 in
set_option maxRecDepth 100000 in
theorem cupolaref11_All.calls (k : Nat) (A0_0 : Option Addr) (c0_0 : Nat) (l0_0 : List (S26)) (A0_1 : Option Addr) (c0_1 : Nat) (l0_1 : List Int) (A0_2 : Option Addr) (c0_2 : Nat) (l0_2 : List Int) (A0_3 : Option Addr) (c0_3 : Nat) (l0_3 : List Int) (A0_4 : Option Addr) (c0_4 : Nat) (l0_4 : List Int) (A0_5 : Option Addr) (c0_5 : Nat) (l0_5 : List Int) (A0_6 : Option Addr) (c0_6 : Nat) (l0_6 : List (List Int)) (A1 : Option Addr) (c1 : Nat) (l1 : List Int) (r : List (List Int)) (w : World) (hr0_0 : Kd.C k26 w A0_0 l0_0.length l0_0) (hc0_0 : l0_0.length ≤ c0_0) (hr0_1 : Kd.C (Kd.int .u32) w A0_1 l0_1.length l0_1) (hc0_1 : l0_1.length ≤ c0_1) (hr0_2 : Kd.C (Kd.int .u32) w A0_2 l0_2.length l0_2) (hc0_2 : l0_2.length ≤ c0_2) (hr0_3 : Kd.C (Kd.int .u32) w A0_3 l0_3.length l0_3) (hc0_3 : l0_3.length ≤ c0_3) (hr0_4 : Kd.C (Kd.int .u32) w A0_4 l0_4.length l0_4) (hc0_4 : l0_4.length ≤ c0_4) (hr0_5 : Kd.C (Kd.int .u32) w A0_5 l0_5.length l0_5) (hc0_5 : l0_5.length ≤ c0_5) (hr0_6 : Kd.C (Kd.slice 2 (Kd.int .i64)) w A0_6 l0_6.length l0_6) (hc0_6 : l0_6.length ≤ c0_6) (hr1 : Kd.C (Kd.int .i64) w A1 l1.length l1) (hc1 : l1.length ≤ c1) (h : cupolaref11_All.f k l0_0 l0_1 l0_2 l0_3 l0_4 l0_5 l0_6 l1 = some r) :
  Calls Try.prog 67 #[.agg #[.slice A0_0 l0_0.length c0_0, .slice A0_1 l0_1.length c0_1, .slice A0_2 l0_2.length c0_2, .slice A0_3 l0_3.length c0_3, .slice A0_4 l0_4.length c0_4, .slice A0_5 l0_5.length c0_5, .slice A0_6 l0_6.length c0_6], .slice A1 l1.length c1] w fun e w' => ∃ v0_ : Value, e = .returned (v0_) ∧ Kd.N (Kd.slice 3 (Kd.int .i64)) 33 w' w.heap.size (fun k_ => (w.heap.size ≤ k_)) v0_ r ∧ Below w.heap.size w w' := by
 have hu76 := Try.underlying76
 have HR0_0 := Aside0.mk hr0_0
 have HC0_0 := Aside0.mk hc0_0
 clear hr0_0 hc0_0
 have HR0_1 := Aside0.mk hr0_1
 have HC0_1 := Aside0.mk hc0_1
 clear hr0_1 hc0_1
 have HR0_2 := Aside0.mk hr0_2
 have HC0_2 := Aside0.mk hc0_2
 clear hr0_2 hc0_2
 have HR0_3 := Aside0.mk hr0_3
 have HC0_3 := Aside0.mk hc0_3
 clear hr0_3 hc0_3
 have HR0_4 := Aside0.mk hr0_4
 have HC0_4 := Aside0.mk hc0_4
 clear hr0_4 hc0_4
 have HR0_5 := Aside0.mk hr0_5
 have HC0_5 := Aside0.mk hc0_5
 clear hr0_5 hc0_5
 have HR0_6 := Aside0.mk hr0_6
 have HC0_6 := Aside0.mk hc0_6
 clear hr0_6 hc0_6
 have HR1 := Aside0.mk hr1
 have HC1 := Aside0.mk hc1
 clear hr1 hc1
 have HB := Aside0.mk (Below.refl w.heap.size w)
 have H : ((cupolaref11_Choices.f k l0_0 l0_1 l0_2 l0_3 l0_4 l0_5 l0_6 l1).bind fun t102 => (cupolaref11_All.l0 k t102 1 0)) = some r := h
 clear h
 replace H := Option.bind_eq_some_iff.mp H
 obtain ⟨t102, A30, H⟩ := H
 have A3 := Aside0.mk A30
 clear A30
 have H' := Aside0.mk H
 clear H
 go_enter Try.func67, Try.ntmps67
 go_wp2_with (first | ((with_reducible refine gate_dst (N := 2) rfl ?_); refine box_event ?hg (N := 2) ?hd (cs := #[.slice A0_0 l0_0.length c0_0, .slice A0_1 l0_1.length c0_1, .slice A0_2 l0_2.length c0_2, .slice A0_3 l0_3.length c0_3, .slice A0_4 l0_4.length c0_4, .slice A0_5 l0_5.length c0_5, .slice A0_6 l0_6.length c0_6]) (t := 76) ?hr ?_; (case hd => rfl); (case hg => rfl); (case hr => first | (go_simp; done) | (go_simp; rfl)); intro gb101 hg w4 hbox hb; have n0_ := Aside0.mk (below_step (bp9 HB.out) hb); have n1_ := Aside0.mk (hbox); have n2_ := Aside0.mk ((by rw [hg]; exact (below_size (bp9 HB.out)) : w.heap.size ≤ gb101)); have n3_ := n2_; clear HB; have HB := n0_; have BK101 := n1_; have GW101 := n2_; have GE101 := n3_; clear n0_ n1_ n2_ n3_; clear hb hbox hg; obtain ⟨hcz5_0, hcz5_1, hcz5_2, hcz5_3, hcz5_4, hcz5_5, hcz5_6, hfz5_0, hfz5_1, hfz5_2, hfz5_3, hfz5_4, hfz5_5, hfz5_6⟩ := cz7 BK101.out) | ((with_reducible refine gate_callee (f := 125) rfl ?_); refine goesL9 (some 15) rfl rfl Try.func125 (by kernel_rfl) rfl #[.agg #[.slice A0_0 l0_0.length c0_0, .slice A0_1 l0_1.length c0_1, .slice A0_2 l0_2.length c0_2, .slice A0_3 l0_3.length c0_3, .slice A0_4 l0_4.length c0_4, .slice A0_5 l0_5.length c0_5, .slice A0_6 l0_6.length c0_6], .slice A1 l1.length c1] rfl ?_; (with_reducible refine (cupolaref11_Choices.calls k _ _ l0_0 _ _ l0_1 _ _ l0_2 _ _ l0_3 _ _ l0_4 _ _ l0_5 _ _ l0_6 _ _ l1 t102 _ ?side1 ?side2 ?side3 ?side4 ?side5 ?side6 ?side7 ?side8 ?side9 ?side10 ?side11 ?side12 ?side13 ?side14 ?side15 ?side16 A3.out).mono ?_); (case side1 => exact cp9 HR0_0.out HB.out); (case side2 => exact HC0_0.out); (case side3 => exact cp9 HR0_1.out HB.out); (case side4 => exact HC0_1.out); (case side5 => exact cp9 HR0_2.out HB.out); (case side6 => exact HC0_2.out); (case side7 => exact cp9 HR0_3.out HB.out); (case side8 => exact HC0_3.out); (case side9 => exact cp9 HR0_4.out HB.out); (case side10 => exact HC0_4.out); (case side11 => exact cp9 HR0_5.out HB.out); (case side12 => exact HC0_5.out); (case side13 => exact cp9 HR0_6.out HB.out); (case side14 => exact HC0_6.out); (case side15 => exact cp9 HR1.out HB.out); (case side16 => exact HC1.out); rintro e w6 ⟨v103, rfl, ho0, hb⟩; refine ⟨_, rfl, ?_⟩; have n0_ := Aside0.mk (Kd.N_lower (Kd.N_mono (ok' := fun k_ => (w.heap.size ≤ k_) ∧ k_ ≠ gb101) (Kd.S_N (Kd.S_bound ho0)) (fun k_ hk_ => ⟨(Nat.le_trans (below_size (bp9 HB.out)) hk_.2.1), (Kd.freshB (g := gb101) (o := .cells #[.slice A0_0 l0_0.length c0_0, .slice A0_1 l0_1.length c0_1, .slice A0_2 l0_2.length c0_2, .slice A0_3 l0_3.length c0_3, .slice A0_4 l0_4.length c0_4, .slice A0_5 l0_5.length c0_5, .slice A0_6 l0_6.length c0_6] 76 (0, 0)) (kp9 BK101.out) k_ hk_.2.1)⟩)) (below_size (bp9 HB.out))); have n1_ := Aside0.mk (blk_below (kp9 BK101.out) hb); have n2_ := Aside0.mk (below_step (bp9 HB.out) hb); clear BK101; clear HB; have HO104 := n0_; have BK101 := n1_; have HB := n2_; clear n0_ n1_ n2_; (try clear hb); (try clear hb2); (try clear hk); (try clear hi); (try clear ho0)))
 go_loopg [6, 7] k (fun kq v6 v7 w' => ∃ (x6_1 : Int) (x7_1 : Int), v6 = .int .i64 x6_1 ∧ v7 = .int .i64 x7_1 ∧ Aside0 (cupolaref11_All.l0 kq t102 x6_1 x7_1 = some r) ∧ Aside0 (kq ≤ k) ∧ Aside0 (Kd.N (Kd.slice 3 (Kd.int .i64)) 33 w' w.heap.size (fun k_ => (w.heap.size ≤ k_) ∧ k_ ≠ gb101) v103 t102) ∧ Aside0 (w'.heap[gb101]? = some (.cells #[(.slice A0_0 l0_0.length c0_0), (.slice A0_1 l0_1.length c0_1), (.slice A0_2 l0_2.length c0_2), (.slice A0_3 l0_3.length c0_3), (.slice A0_4 l0_4.length c0_4), (.slice A0_5 l0_5.length c0_5), (.slice A0_6 l0_6.length c0_6)] 76 (0, 0))) ∧ Aside0 (Below w.heap.size w w'))
 case atStart => exact ⟨(1), (0), (by first | rfl | (simp; done) | (simp [*]; done)), (by first | rfl | (simp; done) | (simp [*]; done)), H', ⟨Nat.le_refl _⟩, ⟨by (with_reducible repeat (first | apply Kd.N_alloc | apply Kd.N_drewN | apply Kd.N_drew)); exact HO104.out⟩, ⟨kp9 BK101.out⟩, ⟨bp9 HB.out⟩⟩
 case round =>
  clear H'
  try clear c1
  try clear p2
  try clear c6
  try clear hcz5_0 hcz5_1 hcz5_2 hcz5_3 hcz5_4 hcz5_5 hcz5_6
  try clear hfz5_0 hfz5_1 hfz5_2 hfz5_3 hfz5_4 hfz5_5 hfz5_6
  obtain ⟨x6_1, x7_1, rfl, rfl, HA, HK1, HO_5, BK101, HB⟩ := hrel
  cases gk with
  | zero => exact absurd HA.out (by simp [cupolaref11_All.l0])
  | succ k1 =>
   have H := HA.out
   clear HA
   simp only [cupolaref11_All.l0] at H
   by_cases c7 : x7_1 < (t102.length : Int)
   ·rw [if_pos c7] at H
    have c7b0 : decide (x7_1 < (t102.length : Int)) = true := decide_eq_true c7
    clear c7
    by_cases c8 : 0 ≤ x7_1
    ·rw [if_pos c8] at H
     have c8b0 : decide (0 ≤ x7_1) = true := decide_eq_true c8
     clear c8
     by_cases c9 : (wrap64 (x6_1 * ((rd_L5 t102 x7_1).length : Int))) > 20000
     ·rw [if_pos c9] at H
      have c9b0 : decide (20000 < (wrap64 (x6_1 * ((rd_L5 t102 x7_1).length : Int)))) = true := decide_eq_true c9
      clear c9
      obtain rfl := Option.some.inj H
      obtain ⟨Ao10, co10, eo10⟩ := Kd.N_slice HO_5.out
      subst eo10
      have p105 : 0 ≤ (x7_1 : Int) := of_decide_eq_true (by first | (with_reducible assumption) | assumption)
      have q105 : x7_1 < (t102.length : Int) := of_decide_eq_true (by first | (with_reducible assumption) | assumption)
      obtain ⟨ad105, A105_0, c105_0, e105, hx105_0, hl105_0, hi105_0⟩ := at_L5 (Kd.N_reads' HO_5.out).2.2 x7_1 p105 q105
      cases e105
      obtain ⟨ce105, hce105, hMe105, hcc105⟩ := Kd.N_get HO_5.out [] x7_1 p105 (by first | exact q105 | exact of_decide_eq_true (by first | (with_reducible assumption) | assumption) | (have e_ := (Kd.N_reads' HO_5.out).1; omega))
      obtain ⟨ua105_0, uc105_0, rfl, ul105_0, ge105_0⟩ := Kd.FK_slice_open hMe105
      have hv105_0 := hcc105 0 _ rfl
      rw [Nat.add_zero, show ((Kd.slice 3 (Kd.int .i64))).sz = 1 from rfl, Nat.mul_one] at hv105_0
      replace hv105_0 := Option.some.inj (hv105_0.symm.trans hx105_0)
      injection hv105_0 with hva_ hvn_ hvc_
      rw [hva_] at ge105_0
      rw [hvc_] at ul105_0
      have HL105_0 := Aside0.mk (show Kd.V (Kd.int .i64) 3 _ w.heap.size _ _ (rd_L5 t102 x7_1) from Kd.V_mk ul105_0 ge105_0)
      clear hva_ hvn_ hvc_ ge105_0 ul105_0
      clear hcc105 hce105
      have HR105_0 := Aside0.mk hi105_0
      have HC105_0 := Aside0.mk hl105_0
      clear hi105_0 hl105_0
      replace p105 := eq_true p105
      replace q105 := eq_true q105
      go_wp2
      go_ret
      exact ⟨_, by first | rfl | (simp [errW_none, errW_some] <;> rfl) | (simp [*, errW_none, errW_some] <;> rfl), by first | exact Kd.S_nil _ _ _ _ _ | exact Kd.N_nil _ _ _ _ _ | exact Kd.V_nil _ _ _ _ _ | exact Kd.Q_nil _ _ _ _ _ | exact Kd.R_nil _ _ _ _ _, bp9 HB.out⟩
     ·rw [if_neg c9] at H
      have c9b0 : decide (20000 < (wrap64 (x6_1 * ((rd_L5 t102 x7_1).length : Int)))) = false := decide_eq_false c9
      clear c9
      have H' := Aside0.mk H
      clear H
      obtain ⟨Ao11, co11, eo11⟩ := Kd.N_slice HO_5.out
      subst eo11
      have p105 : 0 ≤ (x7_1 : Int) := of_decide_eq_true (by first | (with_reducible assumption) | assumption)
      have q105 : x7_1 < (t102.length : Int) := of_decide_eq_true (by first | (with_reducible assumption) | assumption)
      obtain ⟨ad105, A105_0, c105_0, e105, hx105_0, hl105_0, hi105_0⟩ := at_L5 (Kd.N_reads' HO_5.out).2.2 x7_1 p105 q105
      cases e105
      obtain ⟨ce105, hce105, hMe105, hcc105⟩ := Kd.N_get HO_5.out [] x7_1 p105 (by first | exact q105 | exact of_decide_eq_true (by first | (with_reducible assumption) | assumption) | (have e_ := (Kd.N_reads' HO_5.out).1; omega))
      obtain ⟨ua105_0, uc105_0, rfl, ul105_0, ge105_0⟩ := Kd.FK_slice_open hMe105
      have hv105_0 := hcc105 0 _ rfl
      rw [Nat.add_zero, show ((Kd.slice 3 (Kd.int .i64))).sz = 1 from rfl, Nat.mul_one] at hv105_0
      replace hv105_0 := Option.some.inj (hv105_0.symm.trans hx105_0)
      injection hv105_0 with hva_ hvn_ hvc_
      rw [hva_] at ge105_0
      rw [hvc_] at ul105_0
      have HL105_0 := Aside0.mk (show Kd.V (Kd.int .i64) 3 _ w.heap.size _ _ (rd_L5 t102 x7_1) from Kd.V_mk ul105_0 ge105_0)
      clear hva_ hvn_ hvc_ ge105_0 ul105_0
      clear hcc105 hce105
      have HR105_0 := Aside0.mk hi105_0
      have HC105_0 := Aside0.mk hl105_0
      clear hi105_0 hl105_0
      replace p105 := eq_true p105
      replace q105 := eq_true q105
      go_wp2
      go_roundg k1
      case measure => have := HK1.out; omega
      case rel => exact ⟨(wrap64 (x6_1 * ((rd_L5 t102 x7_1).length : Int))), (wrap64 (x7_1 + 1)), (by first | rfl | (simp; done) | (simp [*]; done)), (by first | rfl | (simp; done) | (simp [*]; done)), H', ⟨by have := HK1.out; omega⟩, ⟨by (with_reducible repeat (first | apply Kd.N_alloc | apply Kd.N_drewN | apply Kd.N_drew)); exact HO_5.out⟩, ⟨kp9 BK101.out⟩, ⟨bp9 HB.out⟩⟩
    ·rw [if_neg c8] at H
     exact absurd H (by simp)
   ·rw [if_neg c7] at H
    have c7b0 : decide (x7_1 < (t102.length : Int)) = false := decide_eq_false c7
    clear c7
    obtain ⟨y106, hy106⟩ : ∃ y_ : List (List Int), y_ = (([[]] : List (List Int))) := ⟨_, rfl⟩
    replace H : (cupolaref11_All.l1 k1 t102 y106 0) = some r := by first | (rw [hy106]; with_reducible exact H) | (have H2_ := (Option.bind_some _ _).symm.trans H; rw [hy106]; with_reducible exact H2_) | (have H2_ := (Option.bind_some _ _).symm.trans H; with_reducible exact H2_) | with_reducible exact H | (rw [hy106]; exact H) | exact H
    have Ny106 := Aside0.mk hy106
    clear hy106
    have H' := Aside0.mk H
    clear H
    obtain ⟨Ao12, co12, eo12⟩ := Kd.N_slice HO_5.out
    subst eo12
    go_wp2_with (first | ((with_reducible refine gate_dst (N := 31) rfl ?_); refine Kd.N_lit (Kd.slice 3 (Kd.int .i64)) _ 33 ?hg (N' := 31) ?hd (xs := ([[]] : List (List Int))) (inner := [.slice none 0 0]) (ok := (fun k_ => (w.heap.size ≤ k_) ∧ some k_ ≠ (.slice Ao12 t102.length co12 : Value).ownBlock ∧ k_ ≠ gb101)) (okp := (fun k_ => (w.heap.size ≤ k_) ∧ some k_ ≠ (.slice Ao12 t102.length co12 : Value).ownBlock ∧ k_ ≠ gb101)) ?hr ?hp (fun _ hk => hk) ((show ∀ k_, wr.heap.size ≤ k_ → (fun k_ => (w.heap.size ≤ k_) ∧ some k_ ≠ (.slice Ao12 t102.length co12 : Value).ownBlock ∧ k_ ≠ gb101) k_ from fun k_ hk => ⟨(Nat.le_trans (below_size (bp9 HB.out)) hk), Kd.fresh' (Kd.N_lt (by (with_reducible repeat (first | apply Kd.N_alloc | apply Kd.N_drewN | apply Kd.N_drew)); exact HO_5.out)) k_ hk, Kd.freshB (g := gb101) (o := .cells #[.slice A0_0 l0_0.length c0_0, .slice A0_1 l0_1.length c0_1, .slice A0_2 l0_2.length c0_2, .slice A0_3 l0_3.length c0_3, .slice A0_4 l0_4.length c0_4, .slice A0_5 l0_5.length c0_5, .slice A0_6 l0_6.length c0_6] 76 (0, 0)) (kp9 BK101.out) k_ hk⟩) _ (Nat.le_refl _)) (Below.refl _ _) (Nat.le_refl _) (by simp) ?_; (case hd => rfl); (case hg => rfl); (case hr => first | (go_simp; done) | (go_simp; rfl)); (case hp => exact (Reps.one (show Kd.FK (Kd.slice 3 (Kd.int .i64)) _ _ [] [.slice none 0 0] from (Kd.FK_slice_mk (Nat.le_refl _) (Kd.F_nil _ _ _))) (Reps.none _ _))); intro v107 w13 ho14 hb hg_ hnew_; clear hg_ hnew_; (first | rw [← Ny106.out] at ho14 | (simp only [Int.reduceToNat] at ho14; rw [← Ny106.out] at ho14)); have n0_ := Aside0.mk (Kd.N_elder' (by (with_reducible repeat (first | apply Kd.N_alloc | apply Kd.N_drewN | apply Kd.N_drew)); exact HO_5.out) (Kd.N_base ho14) hb); have n1_ := Aside0.mk (Kd.N_lower ho14 (below_size (bp9 HB.out))); have n2_ := Aside0.mk (blk_below (kp9 BK101.out) hb); have n3_ := Aside0.mk (below_step (bp9 HB.out) hb); clear HO_5; clear BK101; clear HB; have HO_5 := n0_; have HO108 := n1_; have BK101 := n2_; have HB := n3_; clear n0_ n1_ n2_ n3_; clear hb ho14))
    go_loopg [8, 9] k1 (fun kq v8 v9 w' => ∃ (x8_2 : List (List Int)) (x9_2 : Int), v9 = .int .i64 x9_2 ∧ Aside0 (cupolaref11_All.l1 kq t102 x8_2 x9_2 = some r) ∧ Aside0 (kq ≤ k1) ∧ Aside0 (Kd.N (Kd.slice 3 (Kd.int .i64)) 33 w' w.heap.size (fun k_ => (w.heap.size ≤ k_) ∧ some k_ ≠ (v8 : Value).ownBlock ∧ k_ ≠ gb101) (.slice Ao12 t102.length co12) t102) ∧ Aside0 (Kd.N (Kd.slice 3 (Kd.int .i64)) 33 w' w.heap.size (fun k_ => (w.heap.size ≤ k_) ∧ some k_ ≠ ((.slice Ao12 t102.length co12) : Value).ownBlock ∧ k_ ≠ gb101) v8 x8_2) ∧ Aside0 (w'.heap[gb101]? = some (.cells #[(.slice A0_0 l0_0.length c0_0), (.slice A0_1 l0_1.length c0_1), (.slice A0_2 l0_2.length c0_2), (.slice A0_3 l0_3.length c0_3), (.slice A0_4 l0_4.length c0_4), (.slice A0_5 l0_5.length c0_5), (.slice A0_6 l0_6.length c0_6)] 76 (0, 0))) ∧ Aside0 (Below w.heap.size w w'))
    case atStart => exact ⟨(y106), (0), (by first | rfl | (simp; done) | (simp [*]; done)), H', ⟨Nat.le_refl _⟩, ⟨by (with_reducible repeat (first | apply Kd.N_alloc | apply Kd.N_drewN | apply Kd.N_drew)); exact Kd.N_mono HO_5.out (fun _ hk => ⟨hk.1.1, ⟨hk.2, hk.1.2⟩⟩)⟩, ⟨by (with_reducible repeat (first | apply Kd.N_alloc | apply Kd.N_drewN | apply Kd.N_drew)); exact HO108.out⟩, ⟨kp9 BK101.out⟩, ⟨bp9 HB.out⟩⟩
    case round =>
     clear H'
     try clear c1
     try clear p1
     try clear q1
     try clear hx1
     try clear p2
     try clear c6
     try clear p6
     try clear c7
     try clear c7b0
     try clear c8
     try clear c8b0
     try clear c9
     try clear c9b0
     try clear c10
     try clear p10
     try clear q10
     try clear hx10
     try clear c12
     try clear hcz5_0 hcz5_1 hcz5_2 hcz5_3 hcz5_4 hcz5_5 hcz5_6
     try clear hfz5_0 hfz5_1 hfz5_2 hfz5_3 hfz5_4 hfz5_5 hfz5_6
     try clear hx105_0
     try clear p105
     try clear p2
     try clear q105
     obtain ⟨x8_2, x9_2, rfl, HA, HK2, HO_5, HO_8, BK101, HB⟩ := hrel
     cases gk with
     | zero => exact absurd HA.out (by simp [cupolaref11_All.l1])
     | succ k2 =>
      have H := HA.out
      clear HA
      simp only [cupolaref11_All.l1] at H
      by_cases c15 : x9_2 < (t102.length : Int)
      ·rw [if_pos c15] at H
       have c15b0 : decide (x9_2 < (t102.length : Int)) = true := decide_eq_true c15
       clear c15
       have H' := Aside0.mk H
       clear H
       go_wp2
       go_loopg [10, 11] k2 (fun kq v10 v11 w' => ∃ (x10_3 : List (List Int)) (x11_3 : Int), v11 = .int .i64 x11_3 ∧ Aside0 (cupolaref11_All.l2 kq t102 x8_2 x9_2 x10_3 x11_3 = some r) ∧ Aside0 (kq ≤ k2) ∧ Aside0 (Kd.N (Kd.slice 3 (Kd.int .i64)) 33 w' w.heap.size (fun k_ => (w.heap.size ≤ k_) ∧ some k_ ≠ (u8 : Value).ownBlock ∧ some k_ ≠ (v10 : Value).ownBlock ∧ k_ ≠ gb101) (.slice Ao12 t102.length co12) t102) ∧ Aside0 (Kd.N (Kd.slice 3 (Kd.int .i64)) 33 w' w.heap.size (fun k_ => (w.heap.size ≤ k_) ∧ some k_ ≠ ((.slice Ao12 t102.length co12) : Value).ownBlock ∧ some k_ ≠ (v10 : Value).ownBlock ∧ k_ ≠ gb101) u8 x8_2) ∧ Aside0 (Kd.N (Kd.slice 3 (Kd.int .i64)) 33 w' w.heap.size (fun k_ => (w.heap.size ≤ k_) ∧ some k_ ≠ ((.slice Ao12 t102.length co12) : Value).ownBlock ∧ some k_ ≠ (u8 : Value).ownBlock ∧ k_ ≠ gb101) v10 x10_3) ∧ Aside0 (w'.heap[gb101]? = some (.cells #[(.slice A0_0 l0_0.length c0_0), (.slice A0_1 l0_1.length c0_1), (.slice A0_2 l0_2.length c0_2), (.slice A0_3 l0_3.length c0_3), (.slice A0_4 l0_4.length c0_4), (.slice A0_5 l0_5.length c0_5), (.slice A0_6 l0_6.length c0_6)] 76 (0, 0))) ∧ Aside0 (Below w.heap.size w w'))
       case atStart => exact ⟨(([] : List (List Int))), (0), (by first | rfl | (simp; done) | (simp [*]; done)), H', ⟨Nat.le_refl _⟩, ⟨by (with_reducible repeat (first | apply Kd.N_alloc | apply Kd.N_drewN | apply Kd.N_drew)); exact Kd.N_mono HO_5.out (fun _ hk => ⟨hk.1, ⟨hk.2.1, ⟨(by simp [Value.ownBlock]), hk.2.2⟩⟩⟩)⟩, ⟨by (with_reducible repeat (first | apply Kd.N_alloc | apply Kd.N_drewN | apply Kd.N_drew)); exact Kd.N_mono HO_8.out (fun _ hk => ⟨hk.1, ⟨hk.2.1, ⟨(by simp [Value.ownBlock]), hk.2.2⟩⟩⟩)⟩, ⟨by first | exact Kd.S_nil _ _ _ _ _ | exact Kd.N_nil _ _ _ _ _ | exact Kd.V_nil _ _ _ _ _ | exact Kd.Q_nil _ _ _ _ _ | exact Kd.R_nil _ _ _ _ _⟩, ⟨kp9 BK101.out⟩, ⟨bp9 HB.out⟩⟩
       case round =>
        clear H'
        try clear c1
        try clear p1
        try clear q1
        try clear hx1
        try clear p2
        try clear c6
        try clear p6
        try clear c7
        try clear c7b0
        try clear c8
        try clear c8b0
        try clear c9
        try clear c9b0
        try clear c10
        try clear p10
        try clear q10
        try clear hx10
        try clear c12
        try clear c15
        try clear c15b0
        try clear hcz5_0 hcz5_1 hcz5_2 hcz5_3 hcz5_4 hcz5_5 hcz5_6
        try clear hfz5_0 hfz5_1 hfz5_2 hfz5_3 hfz5_4 hfz5_5 hfz5_6
        try clear hx105_0
        try clear p1
        try clear p10
        try clear p105
        try clear p2
        try clear p6
        try clear q1
        try clear q10
        try clear q105
        obtain ⟨x10_3, x11_3, rfl, HA, HK3, HO_5, HO_8, HO_10, BK101, HB⟩ := hrel
        cases gk with
        | zero => exact absurd HA.out (by simp [cupolaref11_All.l2])
        | succ k3 =>
         have H := HA.out
         clear HA
         simp only [cupolaref11_All.l2] at H
         by_cases c16 : x11_3 < (x8_2.length : Int)
         ·rw [if_pos c16] at H
          have c16b0 : decide (x11_3 < (x8_2.length : Int)) = true := decide_eq_true c16
          clear c16
          have H' := Aside0.mk H
          clear H
          obtain ⟨Ao17, co17, eo17⟩ := Kd.N_slice HO_8.out
          subst eo17
          go_wp2
          go_loopg [10, 12] k3 (fun kq v10 v12 w' => ∃ (x10_4 : List (List Int)) (x12_4 : Int), v12 = .int .i64 x12_4 ∧ Aside0 (cupolaref11_All.l3 kq t102 x8_2 x9_2 x10_4 x11_3 x12_4 = some r) ∧ Aside0 (kq ≤ k3) ∧ Aside0 (Kd.N (Kd.slice 3 (Kd.int .i64)) 33 w' w.heap.size (fun k_ => (w.heap.size ≤ k_) ∧ some k_ ≠ ((.slice Ao17 x8_2.length co17) : Value).ownBlock ∧ some k_ ≠ (v10 : Value).ownBlock ∧ k_ ≠ gb101) (.slice Ao12 t102.length co12) t102) ∧ Aside0 (Kd.N (Kd.slice 3 (Kd.int .i64)) 33 w' w.heap.size (fun k_ => (w.heap.size ≤ k_) ∧ some k_ ≠ ((.slice Ao12 t102.length co12) : Value).ownBlock ∧ some k_ ≠ (v10 : Value).ownBlock ∧ k_ ≠ gb101) (.slice Ao17 x8_2.length co17) x8_2) ∧ Aside0 (Kd.N (Kd.slice 3 (Kd.int .i64)) 33 w' w.heap.size (fun k_ => (w.heap.size ≤ k_) ∧ some k_ ≠ ((.slice Ao12 t102.length co12) : Value).ownBlock ∧ some k_ ≠ ((.slice Ao17 x8_2.length co17) : Value).ownBlock ∧ k_ ≠ gb101) v10 x10_4) ∧ Aside0 (w'.heap[gb101]? = some (.cells #[(.slice A0_0 l0_0.length c0_0), (.slice A0_1 l0_1.length c0_1), (.slice A0_2 l0_2.length c0_2), (.slice A0_3 l0_3.length c0_3), (.slice A0_4 l0_4.length c0_4), (.slice A0_5 l0_5.length c0_5), (.slice A0_6 l0_6.length c0_6)] 76 (0, 0))) ∧ Aside0 (Below w.heap.size w w'))
          case atStart => exact ⟨(x10_3), (0), (by first | rfl | (simp; done) | (simp [*]; done)), H', ⟨Nat.le_refl _⟩, ⟨by (with_reducible repeat (first | apply Kd.N_alloc | apply Kd.N_drewN | apply Kd.N_drew)); exact HO_5.out⟩, ⟨by (with_reducible repeat (first | apply Kd.N_alloc | apply Kd.N_drewN | apply Kd.N_drew)); exact HO_8.out⟩, ⟨by (with_reducible repeat (first | apply Kd.N_alloc | apply Kd.N_drewN | apply Kd.N_drew)); exact HO_10.out⟩, ⟨kp9 BK101.out⟩, ⟨bp9 HB.out⟩⟩
          case round =>
           clear H'
           try clear c1
           try clear p1
           try clear q1
           try clear hx1
           try clear p2
           try clear c6
           try clear p6
           try clear c7
           try clear c7b0
           try clear c8
           try clear c8b0
           try clear c9
           try clear c9b0
           try clear c10
           try clear p10
           try clear q10
           try clear hx10
           try clear c12
           try clear c15
           try clear c15b0
           try clear c16
           try clear c16b0
           try clear hcz5_0 hcz5_1 hcz5_2 hcz5_3 hcz5_4 hcz5_5 hcz5_6
           try clear hfz5_0 hfz5_1 hfz5_2 hfz5_3 hfz5_4 hfz5_5 hfz5_6
           try clear hx105_0
           try clear p1
           try clear p10
           try clear p105
           try clear p2
           try clear p6
           try clear q1
           try clear q10
           try clear q105
           obtain ⟨x10_4, x12_4, rfl, HA, HK4, HO_5, HO_8, HO_10, BK101, HB⟩ := hrel
           cases gk with
           | zero => exact absurd HA.out (by simp [cupolaref11_All.l3])
           | succ k4 =>
            have H := HA.out
            clear HA
            simp only [cupolaref11_All.l3] at H
            by_cases c18 : 0 ≤ x9_2
            ·rw [if_pos c18] at H
             have c18b0 : decide (0 ≤ x9_2) = true := decide_eq_true c18
             clear c18
             by_cases c19 : x9_2 < (t102.length : Int)
             ·rw [if_pos c19] at H
              have c19b0 : decide (x9_2 < (t102.length : Int)) = true := decide_eq_true c19
              clear c19
              by_cases c20 : x12_4 < ((rd_L5 t102 x9_2).length : Int)
              ·rw [if_pos c20] at H
               have c20b0 : decide (x12_4 < ((rd_L5 t102 x9_2).length : Int)) = true := decide_eq_true c20
               clear c20
               obtain ⟨y110, hy110⟩ : ∃ y_ : List Int, y_ = (([] : List Int)) := ⟨_, rfl⟩
               replace H : (if 0 ≤ x11_3 then (if x11_3 < (x8_2.length : Int) then (if y110.length + (rd_L5 x8_2 x11_3).length < 17592186044416 then ((some (y110 ++ (rd_L5 x8_2 x11_3) : List Int)).bind fun y114 => (if 0 ≤ x12_4 then ((some (([rd (rd_L5 t102 x9_2) x12_4] : List Int) : List Int)).bind fun y119 => (if y114.length + y119.length < 17592186044416 then ((some (([(y114 ++ y119)] : List (List Int)) : List (List Int))).bind fun y125 => (if x10_4.length + y125.length < 5864062014805 then (cupolaref11_All.l3 k4 t102 x8_2 x9_2 (x10_4 ++ y125) x11_3 (wrap64 (x12_4 + 1))) else (none))) else (none))) else (none))) else (none)) else (none)) else (none)) = some r := by first | (rw [hy110]; with_reducible exact H) | (have H2_ := (Option.bind_some _ _).symm.trans H; rw [hy110]; with_reducible exact H2_) | (have H2_ := (Option.bind_some _ _).symm.trans H; with_reducible exact H2_) | with_reducible exact H | (rw [hy110]; exact H) | exact H
               have Ny110 := Aside0.mk hy110
               clear hy110
               by_cases c21 : 0 ≤ x11_3
               ·rw [if_pos c21] at H
                have c21b0 : decide (0 ≤ x11_3) = true := decide_eq_true c21
                clear c21
                by_cases c22 : x11_3 < (x8_2.length : Int)
                ·rw [if_pos c22] at H
                 have c22b0 : decide (x11_3 < (x8_2.length : Int)) = true := decide_eq_true c22
                 clear c22
                 by_cases c23 : y110.length + (rd_L5 x8_2 x11_3).length < 17592186044416
                 ·rw [if_pos c23] at H
                  have LMc23 := Aside0.mk c23
                  clear c23
                  obtain ⟨y114, hy114⟩ : ∃ y_ : List Int, y_ = (y110 ++ (rd_L5 x8_2 x11_3)) := ⟨_, rfl⟩
                  replace H : (if 0 ≤ x12_4 then ((some (([rd (rd_L5 t102 x9_2) x12_4] : List Int) : List Int)).bind fun y119 => (if y114.length + y119.length < 17592186044416 then ((some (([(y114 ++ y119)] : List (List Int)) : List (List Int))).bind fun y125 => (if x10_4.length + y125.length < 5864062014805 then (cupolaref11_All.l3 k4 t102 x8_2 x9_2 (x10_4 ++ y125) x11_3 (wrap64 (x12_4 + 1))) else (none))) else (none))) else (none)) = some r := by first | (rw [hy114]; with_reducible exact H) | (have H2_ := (Option.bind_some _ _).symm.trans H; rw [hy114]; with_reducible exact H2_) | (have H2_ := (Option.bind_some _ _).symm.trans H; with_reducible exact H2_) | with_reducible exact H | (rw [hy114]; exact H) | exact H
                  have Ny114 := Aside0.mk hy114
                  clear hy114
                  by_cases c24 : 0 ≤ x12_4
                  ·rw [if_pos c24] at H
                   have c24b0 : decide (0 ≤ x12_4) = true := decide_eq_true c24
                   clear c24
                   obtain ⟨y119, hy119⟩ : ∃ y_ : List Int, y_ = (([rd (rd_L5 t102 x9_2) x12_4] : List Int)) := ⟨_, rfl⟩
                   replace H : (if y114.length + y119.length < 17592186044416 then ((some (([(y114 ++ y119)] : List (List Int)) : List (List Int))).bind fun y125 => (if x10_4.length + y125.length < 5864062014805 then (cupolaref11_All.l3 k4 t102 x8_2 x9_2 (x10_4 ++ y125) x11_3 (wrap64 (x12_4 + 1))) else (none))) else (none)) = some r := by first | (rw [hy119]; with_reducible exact H) | (have H2_ := (Option.bind_some _ _).symm.trans H; rw [hy119]; with_reducible exact H2_) | (have H2_ := (Option.bind_some _ _).symm.trans H; with_reducible exact H2_) | with_reducible exact H | (rw [hy119]; exact H) | exact H
                   have Ny119 := Aside0.mk hy119
                   clear hy119
                   by_cases c25 : y114.length + y119.length < 17592186044416
                   ·rw [if_pos c25] at H
                    have LMc25 := Aside0.mk c25
                    clear c25
                    obtain ⟨y122, hy122⟩ : ∃ y_ : List Int, y_ = (y114 ++ y119) := ⟨_, rfl⟩
                    replace H : ((some (([y122] : List (List Int)) : List (List Int))).bind fun y125 => (if x10_4.length + y125.length < 5864062014805 then (cupolaref11_All.l3 k4 t102 x8_2 x9_2 (x10_4 ++ y125) x11_3 (wrap64 (x12_4 + 1))) else (none))) = some r := by first | (rw [hy122]; with_reducible exact H) | (have H2_ := (Option.bind_some _ _).symm.trans H; rw [hy122]; with_reducible exact H2_) | (have H2_ := (Option.bind_some _ _).symm.trans H; with_reducible exact H2_) | with_reducible exact H | (rw [hy122]; exact H) | exact H
                    have Ny122 := Aside0.mk hy122
                    clear hy122
                    obtain ⟨y125, hy125⟩ : ∃ y_ : List (List Int), y_ = (([y122] : List (List Int))) := ⟨_, rfl⟩
                    replace H : (if x10_4.length + y125.length < 5864062014805 then (cupolaref11_All.l3 k4 t102 x8_2 x9_2 (x10_4 ++ y125) x11_3 (wrap64 (x12_4 + 1))) else (none)) = some r := by first | (rw [hy125]; with_reducible exact H) | (have H2_ := (Option.bind_some _ _).symm.trans H; rw [hy125]; with_reducible exact H2_) | (have H2_ := (Option.bind_some _ _).symm.trans H; with_reducible exact H2_) | with_reducible exact H | (rw [hy125]; exact H) | exact H
                    have Ny125 := Aside0.mk hy125
                    clear hy125
                    by_cases c26 : x10_4.length + y125.length < 5864062014805
                    ·rw [if_pos c26] at H
                     have LMc26 := Aside0.mk c26
                     clear c26
                     obtain ⟨y128, hy128⟩ : ∃ y_ : List (List Int), y_ = (x10_4 ++ y125) := ⟨_, rfl⟩
                     replace H : (cupolaref11_All.l3 k4 t102 x8_2 x9_2 y128 x11_3 (wrap64 (x12_4 + 1))) = some r := by first | (rw [hy128]; with_reducible exact H) | (have H2_ := (Option.bind_some _ _).symm.trans H; rw [hy128]; with_reducible exact H2_) | (have H2_ := (Option.bind_some _ _).symm.trans H; with_reducible exact H2_) | with_reducible exact H | (rw [hy128]; exact H) | exact H
                     have Ny128 := Aside0.mk hy128
                     clear hy128
                     have H' := Aside0.mk H
                     clear H
                     have p109 : 0 ≤ (x9_2 : Int) := of_decide_eq_true (by first | (with_reducible assumption) | assumption)
                     have q109 : x9_2 < (t102.length : Int) := of_decide_eq_true (by first | (with_reducible assumption) | assumption)
                     obtain ⟨ad109, A109_0, c109_0, e109, hx109_0, hl109_0, hi109_0⟩ := at_L5 (Kd.N_reads' HO_5.out).2.2 x9_2 p109 q109
                     cases e109
                     obtain ⟨ce109, hce109, hMe109, hcc109⟩ := Kd.N_get HO_5.out [] x9_2 p109 (by first | exact q109 | exact of_decide_eq_true (by first | (with_reducible assumption) | assumption) | (have e_ := (Kd.N_reads' HO_5.out).1; omega))
                     obtain ⟨ua109_0, uc109_0, rfl, ul109_0, ge109_0⟩ := Kd.FK_slice_open hMe109
                     have hv109_0 := hcc109 0 _ rfl
                     rw [Nat.add_zero, show ((Kd.slice 3 (Kd.int .i64))).sz = 1 from rfl, Nat.mul_one] at hv109_0
                     replace hv109_0 := Option.some.inj (hv109_0.symm.trans hx109_0)
                     injection hv109_0 with hva_ hvn_ hvc_
                     rw [hva_] at ge109_0
                     rw [hvc_] at ul109_0
                     have HL109_0 := Aside0.mk (show Kd.V (Kd.int .i64) 3 _ w.heap.size _ _ (rd_L5 t102 x9_2) from Kd.V_mk ul109_0 ge109_0)
                     clear hva_ hvn_ hvc_ ge109_0 ul109_0
                     clear hcc109 hce109
                     have HR109_0 := Aside0.mk hi109_0
                     have HC109_0 := Aside0.mk hl109_0
                     clear hi109_0 hl109_0
                     replace p109 := eq_true p109
                     replace q109 := eq_true q109
                     obtain ⟨Ao27, co27, eo27⟩ := Kd.N_slice HO_10.out
                     subst eo27
                     try go_wp2
                     have n0_ := Aside0.mk (Kd.N_drew HO_5.out)
                     have n1_ := Aside0.mk (Kd.N_drew HO_8.out)
                     have n2_ := Aside0.mk (Kd.N_drew HO_10.out)
                     have n3_ := Aside0.mk (Kd.V_drew HL109_0.out)
                     have n4_ := Aside0.mk (blk_drew BK101.out)
                     have n5_ := Aside0.mk (Kd.C_drew HR109_0.out)
                     have n6_ := Aside0.mk (below_drew1 HB.out)
                     clear HO_5 HO_8 HO_10 HL109_0 BK101 HR109_0 HB
                     revert n0_ n1_ n2_ n3_ n4_ n5_ n6_; intro HO_5 HO_8 HO_10 HL109_0 BK101 HR109_0 HB
                     have p113 : 0 ≤ (x11_3 : Int) := of_decide_eq_true (by first | (with_reducible assumption) | assumption)
                     have q113 : x11_3 < (x8_2.length : Int) := of_decide_eq_true (by first | (with_reducible assumption) | assumption)
                     obtain ⟨ad113, A113_0, c113_0, e113, hx113_0, hl113_0, hi113_0⟩ := at_L5 (Kd.N_reads' HO_8.out).2.2 x11_3 p113 q113
                     cases e113
                     obtain ⟨ce113, hce113, hMe113, hcc113⟩ := Kd.N_get HO_8.out [] x11_3 p113 (by first | exact q113 | exact of_decide_eq_true (by first | (with_reducible assumption) | assumption) | (have e_ := (Kd.N_reads' HO_8.out).1; omega))
                     obtain ⟨ua113_0, uc113_0, rfl, ul113_0, ge113_0⟩ := Kd.FK_slice_open hMe113
                     have hv113_0 := hcc113 0 _ rfl
                     rw [Nat.add_zero, show ((Kd.slice 3 (Kd.int .i64))).sz = 1 from rfl, Nat.mul_one] at hv113_0
                     replace hv113_0 := Option.some.inj (hv113_0.symm.trans hx113_0)
                     injection hv113_0 with hva_ hvn_ hvc_
                     rw [hva_] at ge113_0
                     rw [hvc_] at ul113_0
                     have HL113_0 := Aside0.mk (show Kd.V (Kd.int .i64) 3 _ w.heap.size _ _ (rd_L5 x8_2 x11_3) from Kd.V_mk ul113_0 ge113_0)
                     clear hva_ hvn_ hvc_ ge113_0 ul113_0
                     clear hcc113 hce113
                     have HR113_0 := Aside0.mk hi113_0
                     have HC113_0 := Aside0.mk hl113_0
                     clear hi113_0 hl113_0
                     replace p113 := eq_true p113
                     replace q113 := eq_true q113
                     have p117 : 0 ≤ (x9_2 : Int) := of_decide_eq_true (by first | (with_reducible assumption) | assumption)
                     have q117 : x9_2 < (t102.length : Int) := of_decide_eq_true (by first | (with_reducible assumption) | assumption)
                     obtain ⟨ad117, A117_0, c117_0, e117, hx117_0, hl117_0, hi117_0⟩ := at_L5 (Kd.N_reads' HO_5.out).2.2 x9_2 p117 q117
                     obtain rfl : ad109 = ad117 := (by injection e117)
                     obtain ⟨ce117, hce117, hMe117, hcc117⟩ := Kd.N_get HO_5.out [] x9_2 p117 (by first | exact q117 | exact of_decide_eq_true (by first | (with_reducible assumption) | assumption) | (have e_ := (Kd.N_reads' HO_5.out).1; omega))
                     obtain ⟨ua117_0, uc117_0, rfl, ul117_0, ge117_0⟩ := Kd.FK_slice_open hMe117
                     have hv117_0 := hcc117 0 _ rfl
                     rw [Nat.add_zero, show ((Kd.slice 3 (Kd.int .i64))).sz = 1 from rfl, Nat.mul_one] at hv117_0
                     replace hv117_0 := Option.some.inj (hv117_0.symm.trans hx117_0)
                     injection hv117_0 with hva_ hvn_ hvc_
                     rw [hva_] at ge117_0
                     rw [hvc_] at ul117_0
                     have HL117_0 := Aside0.mk (show Kd.V (Kd.int .i64) 3 _ w.heap.size _ _ (rd_L5 t102 x9_2) from Kd.V_mk ul117_0 ge117_0)
                     clear hva_ hvn_ hvc_ ge117_0 ul117_0
                     clear hcc117 hce117
                     have HR117_0 := Aside0.mk hi117_0
                     have HC117_0 := Aside0.mk hl117_0
                     clear hi117_0 hl117_0
                     replace p117 := eq_true p117
                     replace q117 := eq_true q117
                     have p118 : 0 ≤ (x12_4 : Int) := of_decide_eq_true (by first | (with_reducible assumption) | assumption)
                     have q118 : x12_4 < ((rd_L5 t102 x9_2).length : Int) := of_decide_eq_true (by first | (with_reducible assumption) | assumption)
                     obtain ⟨ad118, e118, hx118_0⟩ := Kd.at_int (by repeat (first | (with_reducible exact HR117_0.out) | (with_reducible refine Kd.C_alloc ?_ _) | (with_reducible refine Kd.C_drewN ?_ _) | (with_reducible refine Kd.C_drew ?_) | exact HR117_0.out)) x12_4 p118 q118
                     cases e118
                     replace p118 := eq_true p118
                     replace q118 := eq_true q118
                     refine start_ (n := 19) (S := fun w' => w'.cell? (ad113.add (x11_3).toNat) = some (.slice A113_0 (rd_L5 x8_2 x11_3).length c113_0) ∧ w'.cell? (ad109.add (x9_2).toNat) = some (.slice (some ad118) (rd_L5 t102 x9_2).length c117_0) ∧ w'.cell? (ad118.add (x12_4).toNat) = some (.int .i64 (rd (rd_L5 t102 x9_2) x12_4))) (ds := []) #[o9, o9, o9, o9, o9, o9, o9, o9, o9, o9, o9, o9, o9, o9, o9, o9, o9, o9, o9] (by kernel_rfl) rfl rfl ⟨hx113_0, hx117_0, hx118_0⟩ (fun hHeld => ?_); refine with_tabW cupolaref11_All.tab20 cupolaref11_All.bits20 (fun HT_ HW_ => ?_)
                     generalize wr.drew = w28 at HO_5 HO_8 HO_10 HL109_0 BK101 HR109_0 HB HL113_0 HL117_0 HR113_0 HR117_0 hx113_0 hx117_0 hx118_0 hHeld ⊢
                     refine pure_ (i := 0) (N := some 53) (v := ?_) (a' := ?_) #[i9, o9, o9, o9, o9, o9, o9, o9, o9, o9, o9, o9, o9, o9, o9, o9, o9, o9, o9] rfl rfl (any_of HT_.out (by kernel_rfl)) (fun _ _ _ h => h) (Or.inl ⟨by rfl, ?_⟩) ?_ ?_
                     rotate_left
                     ·intro w'
                      go_simp
                      with_reducible rfl
                     rotate_left
                     ·simp only [Act.put, List.setIfInBounds_toArray, List.set_cons_zero, List.set_cons_succ, i64_w, i32_w]
                      rfl
                     refine pure_ (i := 2) (N := some 55) (v := ?_) (a' := ?_) #[i9, o9, i9, o9, o9, o9, o9, o9, o9, o9, o9, o9, o9, o9, o9, o9, o9, o9, o9] rfl rfl (any_of HT_.out (by kernel_rfl)) (fun _ _ _ h => h) (Or.inl ⟨by rfl, ?_⟩) ?_ ?_
                     rotate_left
                     ·intro w'
                      go_simp
                      with_reducible rfl
                     rotate_left
                     ·simp only [Act.put, List.setIfInBounds_toArray, List.set_cons_zero, List.set_cons_succ, i64_w, i32_w]
                      rfl
                     refine pure_ (i := 3) (N := some 56) (v := ?_) (a' := ?_) #[i9, o9, i9, i9, o9, o9, o9, o9, o9, o9, o9, o9, o9, o9, o9, o9, o9, o9, o9] rfl rfl (any_of HT_.out (by kernel_rfl)) (fun _ _ _ h => h) (Or.inl ⟨by rfl, ?_⟩) ?_ ?_
                     rotate_left
                     ·intro w'
                      go_simp
                      with_reducible rfl
                     rotate_left
                     ·simp only [Act.put, List.setIfInBounds_toArray, List.set_cons_zero, List.set_cons_succ, i64_w, i32_w]
                      rfl
                     refine pure_ (i := 4) (N := some 57) (v := ?_) (a' := ?_) #[i9, o9, i9, i9, i9, o9, o9, o9, o9, o9, o9, o9, o9, o9, o9, o9, o9, o9, o9] rfl rfl (any_of HT_.out (by kernel_rfl)) (fun _ _ _ h => h) (Or.inl ⟨by rfl, ?_⟩) ?_ ?_
                     rotate_left
                     ·intro w'
                      go_simp
                      with_reducible rfl
                     rotate_left
                     ·simp only [Act.put, List.setIfInBounds_toArray, List.set_cons_zero, List.set_cons_succ, i64_w, i32_w]
                      rfl
                     refine pure_ (i := 7) (N := some 60) (v := ?_) (a' := ?_) #[i9, o9, i9, i9, i9, o9, o9, i9, o9, o9, o9, o9, o9, o9, o9, o9, o9, o9, o9] rfl rfl (any_of HT_.out (by kernel_rfl)) (fun _ _ _ h => h) (Or.inl ⟨by rfl, ?_⟩) ?_ ?_
                     rotate_left
                     ·intro w'
                      go_simp
                      with_reducible rfl
                     rotate_left
                     ·simp only [Act.put, List.setIfInBounds_toArray, List.set_cons_zero, List.set_cons_succ, i64_w, i32_w]
                      rfl
                     refine pure_ (i := 8) (N := some 61) (v := ?_) (a' := ?_) #[i9, o9, i9, i9, i9, o9, o9, i9, i9, o9, o9, o9, o9, o9, o9, o9, o9, o9, o9] rfl rfl (any_of HT_.out (by kernel_rfl)) (fun _ _ _ h => h) (Or.inl ⟨by rfl, ?_⟩) ?_ ?_
                     rotate_left
                     ·intro w'
                      go_simp
                      with_reducible rfl
                     rotate_left
                     ·simp only [Act.put, List.setIfInBounds_toArray, List.set_cons_zero, List.set_cons_succ, i64_w, i32_w]
                      rfl
                     refine pure_ (i := 9) (N := some 62) (v := ?_) (a' := ?_) #[i9, o9, i9, i9, i9, o9, o9, i9, i9, i9, o9, o9, o9, o9, o9, o9, o9, o9, o9] rfl rfl (any_of HT_.out (by kernel_rfl)) (fun _ _ _ h => h) (Or.inl ⟨by rfl, ?_⟩) ?_ ?_
                     rotate_left
                     ·intro w'
                      go_simp
                      with_reducible rfl
                     rotate_left
                     ·simp only [Act.put, List.setIfInBounds_toArray, List.set_cons_zero, List.set_cons_succ, i64_w, i32_w]
                      rfl
                     refine pure_ (i := 11) (N := some 64) (v := ?_) (a' := ?_) #[i9, o9, i9, i9, i9, o9, o9, i9, i9, i9, o9, i9, o9, o9, o9, o9, o9, o9, o9] rfl rfl (any_of HT_.out (by kernel_rfl)) (fun _ _ _ h => h) (Or.inl ⟨by rfl, ?_⟩) ?_ ?_
                     rotate_left
                     ·intro w'
                      go_simp
                      with_reducible rfl
                     rotate_left
                     ·simp only [Act.put, List.setIfInBounds_toArray, List.set_cons_zero, List.set_cons_succ, i64_w, i32_w]
                      rfl
                     refine take_ (i := 5) (N := some 58) (v := ?_) (a' := ?_) #[i9, o9, i9, i9, i9, i9, o9, i9, i9, i9, o9, i9, o9, o9, o9, o9, o9, o9, o9] rfl rfl (take_ofW HT_.out HW_.out (by kernel_rfl)) (fun _ _ _ h => h) (Or.inl ⟨by rfl, ?_⟩) hHeld ?_ ?_
                     rotate_left
                     ·rintro w' ⟨s0, s1, s2⟩
                      go_simp
                      with_reducible rfl
                     rotate_left
                     ·simp only [Act.put, List.setIfInBounds_toArray, List.set_cons_zero, List.set_cons_succ, i64_w, i32_w]
                      rfl
                     refine take_ (i := 10) (N := some 63) (v := ?_) (a' := ?_) #[i9, o9, i9, i9, i9, i9, o9, i9, i9, i9, i9, i9, o9, o9, o9, o9, o9, o9, o9] rfl rfl (take_ofW HT_.out HW_.out (by kernel_rfl)) (fun _ _ _ h => h) (Or.inl ⟨by rfl, ?_⟩) hHeld ?_ ?_
                     rotate_left
                     ·rintro w' ⟨s0, s1, s2⟩
                      go_simp
                      with_reducible rfl
                     rotate_left
                     ·simp only [Act.put, List.setIfInBounds_toArray, List.set_cons_zero, List.set_cons_succ, i64_w, i32_w]
                      rfl
                     refine pure_ (i := 12) (N := some 65) (v := ?_) (a' := ?_) #[i9, o9, i9, i9, i9, i9, o9, i9, i9, i9, i9, i9, i9, o9, o9, o9, o9, o9, o9] rfl rfl (any_of HT_.out (by kernel_rfl)) (fun _ _ _ h => h) (Or.inl ⟨by rfl, ?_⟩) ?_ ?_
                     rotate_left
                     ·intro w'
                      go_simp
                      with_reducible rfl
                     rotate_left
                     ·simp only [Act.put, List.setIfInBounds_toArray, List.set_cons_zero, List.set_cons_succ, i64_w, i32_w]
                      rfl
                     refine take_ (i := 13) (N := some 66) (v := ?_) (a' := ?_) #[i9, o9, i9, i9, i9, i9, o9, i9, i9, i9, i9, i9, i9, i9, o9, o9, o9, o9, o9] rfl rfl (take_ofW HT_.out HW_.out (by kernel_rfl)) (fun _ _ _ h => h) (Or.inl ⟨by rfl, ?_⟩) hHeld ?_ ?_
                     rotate_left
                     ·rintro w' ⟨s0, s1, s2⟩
                      go_simp
                      with_reducible rfl
                     rotate_left
                     ·simp only [Act.put, List.setIfInBounds_toArray, List.set_cons_zero, List.set_cons_succ, i64_w, i32_w]
                      rfl
                     refine join_ (σ := Value × Value × Value) 4 #[true, true, true, true, true, true, true, true, true, true, true, true, true, true, true, false, false, false, false] (fun s_ => [(54, s_.1), (59, s_.2.1), (67, s_.2.2)]) (fun s_ w' => (w'.cell? (ad113.add (x11_3).toNat) = some (.slice A113_0 (rd_L5 x8_2 x11_3).length c113_0) ∧ w'.cell? (ad109.add (x9_2).toNat) = some (.slice (some ad118) (rd_L5 t102 x9_2).length c117_0) ∧ w'.cell? (ad118.add (x12_4).toNat) = some (.int .i64 (rd (rd_L5 t102 x9_2) x12_4))) ∧ (Kd.V (Kd.int .i64) 3 w' w.heap.size (fun k_ => (w.heap.size ≤ k_) ∧ some k_ ≠ (s_.2.1 : Value).ownBlock ∧ some k_ ≠ (s_.2.2 : Value).ownBlock ∧ some k_ ≠ (.slice Ao27 x10_4.length co27 : Value).ownBlock ∧ some k_ ≠ (.slice (some ad109) t102.length co12 : Value).ownBlock ∧ some k_ ≠ (.slice (some ad113) x8_2.length co17 : Value).ownBlock ∧ k_ ≠ gb101) (.slice A109_0 (rd_L5 t102 x9_2).length c109_0) (rd_L5 t102 x9_2)) ∧ (Kd.V (Kd.int .i64) 3 w' w.heap.size (fun k_ => (w.heap.size ≤ k_) ∧ some k_ ≠ (s_.2.1 : Value).ownBlock ∧ some k_ ≠ (s_.2.2 : Value).ownBlock ∧ some k_ ≠ (.slice Ao27 x10_4.length co27 : Value).ownBlock ∧ some k_ ≠ (.slice (some ad109) t102.length co12 : Value).ownBlock ∧ some k_ ≠ (.slice (some ad113) x8_2.length co17 : Value).ownBlock ∧ k_ ≠ gb101) (.slice A113_0 (rd_L5 x8_2 x11_3).length c113_0) (rd_L5 x8_2 x11_3)) ∧ (Kd.V (Kd.int .i64) 3 w' w.heap.size (fun k_ => (w.heap.size ≤ k_) ∧ some k_ ≠ (s_.2.1 : Value).ownBlock ∧ some k_ ≠ (s_.2.2 : Value).ownBlock ∧ some k_ ≠ (.slice Ao27 x10_4.length co27 : Value).ownBlock ∧ some k_ ≠ (.slice (some ad109) t102.length co12 : Value).ownBlock ∧ some k_ ≠ (.slice (some ad113) x8_2.length co17 : Value).ownBlock ∧ k_ ≠ gb101) (.slice (some ad118) (rd_L5 t102 x9_2).length c117_0) (rd_L5 t102 x9_2)) ∧ (Kd.R (Kd.int .i64) 3 w' w.heap.size (fun k_ => (w.heap.size ≤ k_) ∧ some k_ ≠ (s_.2.2 : Value).ownBlock) s_.2.1 y114) ∧ (Kd.R (Kd.int .i64) 3 w' w.heap.size (fun k_ => (w.heap.size ≤ k_) ∧ some k_ ≠ (s_.2.1 : Value).ownBlock) s_.2.2 y119) ∧ (Kd.N (Kd.slice 3 (Kd.int .i64)) 33 w' w.heap.size (fun k_ => (w.heap.size ≤ k_) ∧ some k_ ≠ (s_.2.1 : Value).ownBlock ∧ some k_ ≠ (s_.2.2 : Value).ownBlock ∧ some k_ ≠ (.slice (some ad109) t102.length co12 : Value).ownBlock ∧ some k_ ≠ (.slice (some ad113) x8_2.length co17 : Value).ownBlock ∧ k_ ≠ gb101) (.slice Ao27 x10_4.length co27) x10_4) ∧ (Kd.N (Kd.slice 3 (Kd.int .i64)) 33 w' w.heap.size (fun k_ => (w.heap.size ≤ k_) ∧ some k_ ≠ (s_.2.1 : Value).ownBlock ∧ some k_ ≠ (s_.2.2 : Value).ownBlock ∧ some k_ ≠ (.slice Ao27 x10_4.length co27 : Value).ownBlock ∧ some k_ ≠ (.slice (some ad113) x8_2.length co17 : Value).ownBlock ∧ k_ ≠ gb101) (.slice (some ad109) t102.length co12) t102) ∧ (Kd.N (Kd.slice 3 (Kd.int .i64)) 33 w' w.heap.size (fun k_ => (w.heap.size ≤ k_) ∧ some k_ ≠ (s_.2.1 : Value).ownBlock ∧ some k_ ≠ (s_.2.2 : Value).ownBlock ∧ some k_ ≠ (.slice Ao27 x10_4.length co27 : Value).ownBlock ∧ some k_ ≠ (.slice (some ad109) t102.length co12 : Value).ownBlock ∧ k_ ≠ gb101) (.slice (some ad113) x8_2.length co17) x8_2) ∧ (w'.heap[gb101]? = some (.cells #[.slice A0_0 l0_0.length c0_0, .slice A0_1 l0_1.length c0_1, .slice A0_2 l0_2.length c0_2, .slice A0_3 l0_3.length c0_3, .slice A0_4 l0_4.length c0_4, .slice A0_5 l0_5.length c0_5, .slice A0_6 l0_6.length c0_6] 76 (0, 0))) ∧ (Below w.heap.size w w')) ?_ ?_
                     rotate_left
                     ·intro hCont
                      refine two_ (i := 1) (j := 14) (Ni := some 54) (Nj := some 67) #[true, true, true, true, true, true, false, true, true, true, true, true, true, true, false, false, false, false, false] #[true, false, true, true, true, true, false, true, true, true, true, true, true, true, true, false, false, false, false] rfl rfl rfl rfl (two_of HT_.out (by kernel_rfl)) (by decide) (by decide) (fun K hK => ?_) (fun K hK => ?_)
                      ·skip
                       refine Kd.R_lit_step (Kd.int .i64) _ 3 ?hg (N := 54) ?hd (xs := ([] : List Int)) (inner := []) (ok := fun _ => True) (okp := fun _ => True) ?hr ?hp (fun _ hk => hk) trivial (Below.refl _ _) (Nat.le_refl _) (by simp) ?_; (case hd => rfl); (case hg => rfl); (case hr => first | (go_simp; done) | (go_simp; rfl)); (case hp => exact (Reps.none _ _))
                       intro v111 w29 ho30 hb hg_ hnew_
                       have HS0_ := (hb.cell (World.block_lt_of_cell? _ _ (hHeld.1))).trans (hHeld.1)
                       have HS1_ := (hb.cell (World.block_lt_of_cell? _ _ (hHeld.2.1))).trans (hHeld.2.1)
                       have HS2_ := (hb.cell (World.block_lt_of_cell? _ _ (hHeld.2.2))).trans (hHeld.2.2)
                       clear hg_ hnew_
                       (first | rw [← Ny110.out] at ho30 | (simp only [Int.reduceToNat] at ho30; rw [← Ny110.out] at ho30))
                       have n0_ := Aside0.mk (Kd.N_elder' (by (with_reducible repeat (first | apply Kd.N_alloc | apply Kd.N_drewN | apply Kd.N_drew)); exact HO_5.out) (Kd.R_base ho30) hb)
                       have n1_ := Aside0.mk (Kd.N_elder' (by (with_reducible repeat (first | apply Kd.N_alloc | apply Kd.N_drewN | apply Kd.N_drew)); exact HO_8.out) (Kd.R_base ho30) hb)
                       have n2_ := Aside0.mk (Kd.N_elder' (by (with_reducible repeat (first | apply Kd.N_alloc | apply Kd.N_drewN | apply Kd.N_drew)); exact HO_10.out) (Kd.R_base ho30) hb)
                       have n3_ := Aside0.mk (Kd.V_elder' (by (with_reducible repeat (first | apply Kd.V_alloc | apply Kd.V_drewN | apply Kd.V_drew)); exact HL109_0.out) (Kd.R_base ho30) hb)
                       have n4_ := Aside0.mk (Kd.V_elder' (by (with_reducible repeat (first | apply Kd.V_alloc | apply Kd.V_drewN | apply Kd.V_drew)); exact HL113_0.out) (Kd.R_base ho30) hb)
                       have n5_ := Aside0.mk (Kd.V_elder' (by (with_reducible repeat (first | apply Kd.V_alloc | apply Kd.V_drewN | apply Kd.V_drew)); exact HL117_0.out) (Kd.R_base ho30) hb)
                       have n6_ := Aside0.mk (Kd.R_lower (Kd.R_newM (M := fun k_ => (w.heap.size ≤ k_)) ho30 (below_size (bp9 HB.out)) (fun k_ h_ => h_)) (below_size (bp9 HB.out)))
                       have n7_ := Aside0.mk (blk_below (kp9 BK101.out) hb)
                       have n8_ := Aside0.mk (Kd.C_below (by repeat (first | (with_reducible exact HR109_0.out) | (with_reducible refine Kd.C_alloc ?_ _) | (with_reducible refine Kd.C_drewN ?_ _) | (with_reducible refine Kd.C_drew ?_) | exact HR109_0.out)) hb)
                       have n9_ := Aside0.mk (Kd.C_below (by repeat (first | (with_reducible exact HR113_0.out) | (with_reducible refine Kd.C_alloc ?_ _) | (with_reducible refine Kd.C_drewN ?_ _) | (with_reducible refine Kd.C_drew ?_) | exact HR113_0.out)) hb)
                       have n10_ := Aside0.mk (Kd.C_below (by repeat (first | (with_reducible exact HR117_0.out) | (with_reducible refine Kd.C_alloc ?_ _) | (with_reducible refine Kd.C_drewN ?_ _) | (with_reducible refine Kd.C_drew ?_) | exact HR117_0.out)) hb)
                       have n11_ := Aside0.mk (below_step (bp9 HB.out) hb)
                       clear HO_5 HO_8 HO_10 HL109_0 HL113_0 HL117_0 BK101 HR109_0 HR113_0 HR117_0 HB
                       revert n0_ n1_ n2_ n3_ n4_ n5_ n6_ n7_ n8_ n9_ n10_ n11_; intro HO_5 HO_8 HO_10 HL109_0 HL113_0 HL117_0 HO112 BK101 HR109_0 HR113_0 HR117_0 HB
                       clear hb ho30
                       refine hK.out _ _ ⟨HS0_, HS1_, HS2_⟩ (fun hHeld => ?_)
                       clear hK K
                       refine norm_ (a' := ?_) ?_ ?_
                       rotate_left
                       ·show Act.put _ (some 54) _ = _
                        simp only [Act.put, List.setIfInBounds_toArray, List.set_cons_zero, List.set_cons_succ, i64_w, i32_w]
                        rfl
                       refine two_ (i := 6) (j := 14) (Ni := some 59) (Nj := some 67) #[true, true, true, true, true, true, true, true, true, true, true, true, true, true, false, false, false, false, false] #[true, true, true, true, true, true, false, true, true, true, true, true, true, true, true, false, false, false, false] rfl rfl rfl rfl (two_of HT_.out (by kernel_rfl)) (by decide) (by decide) (fun K hK => ?_) (fun K hK => ?_)
                       ·skip
                        refine Kd.R_append_rows_step (Kd.int .i64) (w0 := w) w.heap.size (by rfl) (.tmp 54) (.tmp 58) 33 3 (.int .i64 0) 8 rfl Try.underlying33 info3 rfl (by decide) (by omega) v111 y110 (rd_L5 x8_2 x11_3) _ _ _ (fun k_ => (w.heap.size ≤ k_)) (fun _ => False) rfl rfl ?aO ?aR (fun _ _ h => h) (fun _ h => h.elim) ?aF ?aB ?aS ?aL ?_
                        (case aR => repeat (first | exact (by repeat (first | (with_reducible exact HR113_0.out) | (with_reducible refine Kd.C_alloc ?_ _) | (with_reducible refine Kd.C_drewN ?_ _) | (with_reducible refine Kd.C_drew ?_) | exact HR113_0.out)) | (with_reducible refine Kd.C_alloc ?_ _) | (with_reducible refine Kd.C_drewN ?_ _) | (with_reducible refine Kd.C_drew ?_)))
                        (case aB => exact (bp9 HB.out))
                        (case aF => exact (fun k_ hk => (Nat.le_trans (below_size (bp9 HB.out)) hk)))
                        (case aO => exact (by (with_reducible repeat (first | apply Kd.R_alloc | apply Kd.R_drewN | apply Kd.R_drew)); exact Kd.R_mono HO112.out (fun _ hk => hk.1)))
                        (case aS => exact (below_size (bp9 HB.out)))
                        (case aL => have := LMc23.out; omega)
                        intro v115 w31 ho hb hg hat
                        obtain ⟨_, _, ez_, _, _, _, hz_⟩ := Kd.F_get (Kd.V_F HL117_0.out) (0 : Int) x12_4 (of_eq_true p118) (of_eq_true q118)
                        cases ez_
                        have HS0_ := cell_grown hg hHeld.1 (by rw [add_block]; intro e_; have h_ := HO_8.out.1 ad113.block rfl; (try dsimp only at h_); rw [e_] at h_; simp at h_)
                        have HS1_ := cell_grown hg hHeld.2.1 (by rw [add_block]; intro e_; have h_ := HO_5.out.1 ad109.block rfl; (try dsimp only at h_); rw [e_] at h_; simp at h_)
                        have HS2_ := cell_grown hg hHeld.2.2 (by rw [add_block]; intro e_; have h_ := hz_ (by decide); (try dsimp only at h_); rw [e_] at h_; simp at h_)
                        clear hz_
                        rw [← Ny114.out] at ho
                        have n0_ := Aside0.mk (Kd.N_afterv (ok := (fun k_ => (w.heap.size ≤ k_) ∧ some k_ ≠ (.slice (some ad113) x8_2.length co17 : Value).ownBlock ∧ some k_ ≠ (.slice Ao27 x10_4.length co27 : Value).ownBlock ∧ k_ ≠ gb101)) (by (with_reducible repeat (first | apply Kd.N_alloc | apply Kd.N_drewN | apply Kd.N_drew)); exact HO_5.out) hg hat)
                        have n1_ := Aside0.mk (Kd.N_afterv (ok := (fun k_ => (w.heap.size ≤ k_) ∧ some k_ ≠ (.slice (some ad109) t102.length co12 : Value).ownBlock ∧ some k_ ≠ (.slice Ao27 x10_4.length co27 : Value).ownBlock ∧ k_ ≠ gb101)) (by (with_reducible repeat (first | apply Kd.N_alloc | apply Kd.N_drewN | apply Kd.N_drew)); exact HO_8.out) hg hat)
                        have n2_ := Aside0.mk (Kd.N_afterv (ok := (fun k_ => (w.heap.size ≤ k_) ∧ some k_ ≠ (.slice (some ad109) t102.length co12 : Value).ownBlock ∧ some k_ ≠ (.slice (some ad113) x8_2.length co17 : Value).ownBlock ∧ k_ ≠ gb101)) (by (with_reducible repeat (first | apply Kd.N_alloc | apply Kd.N_drewN | apply Kd.N_drew)); exact HO_10.out) hg hat)
                        have n3_ := Aside0.mk (blk_grown (g := gb101) (o := .cells #[.slice A0_0 l0_0.length c0_0, .slice A0_1 l0_1.length c0_1, .slice A0_2 l0_2.length c0_2, .slice A0_3 l0_3.length c0_3, .slice A0_4 l0_4.length c0_4, .slice A0_5 l0_5.length c0_5, .slice A0_6 l0_6.length c0_6] 76 (0, 0)) (kp9 BK101.out) hg (Kd.R_ne HO112.out BK101.out (by decide)))
                        have n4_ := Aside0.mk (Kd.V_afterv (ok := (fun k_ => (w.heap.size ≤ k_) ∧ some k_ ≠ (.slice (some ad109) t102.length co12 : Value).ownBlock ∧ some k_ ≠ (.slice (some ad113) x8_2.length co17 : Value).ownBlock ∧ some k_ ≠ (.slice Ao27 x10_4.length co27 : Value).ownBlock ∧ k_ ≠ gb101)) (by (with_reducible repeat (first | apply Kd.V_alloc | apply Kd.V_drewN | apply Kd.V_drew)); exact Kd.V_mono HL109_0.out (fun _ hk => ⟨⟨hk.1.1.1, ⟨hk.1.2, ⟨hk.1.1.2.1, ⟨hk.1.1.2.2.1, hk.1.1.2.2.2⟩⟩⟩⟩, hk.2⟩)) hg hat)
                        have n5_ := Aside0.mk (Kd.V_afterv (ok := (fun k_ => (w.heap.size ≤ k_) ∧ some k_ ≠ (.slice (some ad109) t102.length co12 : Value).ownBlock ∧ some k_ ≠ (.slice (some ad113) x8_2.length co17 : Value).ownBlock ∧ some k_ ≠ (.slice Ao27 x10_4.length co27 : Value).ownBlock ∧ k_ ≠ gb101)) (by (with_reducible repeat (first | apply Kd.V_alloc | apply Kd.V_drewN | apply Kd.V_drew)); exact Kd.V_mono HL113_0.out (fun _ hk => ⟨⟨hk.1.1.1, ⟨hk.1.1.2.1, ⟨hk.1.2, ⟨hk.1.1.2.2.1, hk.1.1.2.2.2⟩⟩⟩⟩, hk.2⟩)) hg hat)
                        have n6_ := Aside0.mk (Kd.V_afterv (ok := (fun k_ => (w.heap.size ≤ k_) ∧ some k_ ≠ (.slice (some ad109) t102.length co12 : Value).ownBlock ∧ some k_ ≠ (.slice (some ad113) x8_2.length co17 : Value).ownBlock ∧ some k_ ≠ (.slice Ao27 x10_4.length co27 : Value).ownBlock ∧ k_ ≠ gb101)) (by (with_reducible repeat (first | apply Kd.V_alloc | apply Kd.V_drewN | apply Kd.V_drew)); exact Kd.V_mono HL117_0.out (fun _ hk => ⟨⟨hk.1.1.1, ⟨hk.1.2, ⟨hk.1.1.2.1, ⟨hk.1.1.2.2.1, hk.1.1.2.2.2⟩⟩⟩⟩, hk.2⟩)) hg hat)
                        have n7_ := Aside0.mk (hb)
                        have n8_ := Aside0.mk (ho)
                        clear HO_5 HO_8 HO_10 BK101 HL109_0 HL113_0 HL117_0 HB HO112
                        revert n0_ n1_ n2_ n3_ n4_ n5_ n6_ n7_ n8_; intro HO_5 HO_8 HO_10 BK101 HL109_0 HL113_0 HL117_0 HB HO116
                        clear ho hb hg hat

                        refine hK.out _ _ ⟨HS0_, HS1_, HS2_⟩ (fun hHeld => ?_)
                        clear hK K
                        refine norm_ (a' := ?_) ?_ ?_
                        rotate_left
                        ·show Act.put _ (some 59) _ = _
                         simp only [Act.put, List.setIfInBounds_toArray, List.set_cons_zero, List.set_cons_succ, i64_w, i32_w]
                         rfl
                        refine one_ (i := 14) (N := some 67) #[i9, i9, i9, i9, i9, i9, i9, i9, i9, i9, i9, i9, i9, i9, i9, o9, o9, o9, o9] rfl rfl (one_of HT_.out (by kernel_rfl)) (by decide) (fun K hK => ?_)
                        refine Kd.R_lit_step (Kd.int .i64) _ 3 ?hg (N := 67) ?hd (xs := ([rd (rd_L5 t102 x9_2) x12_4] : List Int)) (inner := [.int .i64 (rd (rd_L5 t102 x9_2) x12_4)]) (ok := fun _ => True) (okp := fun _ => True) ?hr ?hp (fun _ hk => hk) trivial (Below.refl _ _) (Nat.le_refl _) (by simp) ?_; (case hd => rfl); (case hg => rfl); (case hr => first | (go_simp; done) | (go_simp; rfl)); (case hp => exact (Reps.one (show Kd.M (Kd.int .i64) _ _ _ (rd (rd_L5 t102 x9_2) x12_4) [.int .i64 (rd (rd_L5 t102 x9_2) x12_4)] from rfl) (Reps.none _ _)))
                        intro v120 w32 ho33 hb hg_ hnew_
                        have HS0_ := (hb.cell (World.block_lt_of_cell? _ _ (hHeld.1))).trans (hHeld.1)
                        have HS1_ := (hb.cell (World.block_lt_of_cell? _ _ (hHeld.2.1))).trans (hHeld.2.1)
                        have HS2_ := (hb.cell (World.block_lt_of_cell? _ _ (hHeld.2.2))).trans (hHeld.2.2)
                        clear hg_ hnew_
                        (first | rw [← Ny119.out] at ho33 | (simp only [Int.reduceToNat] at ho33; rw [← Ny119.out] at ho33))
                        have n0_ := Aside0.mk (Kd.N_elder' (by (with_reducible repeat (first | apply Kd.N_alloc | apply Kd.N_drewN | apply Kd.N_drew)); exact HO_5.out) (Kd.R_base ho33) hb)
                        have n1_ := Aside0.mk (Kd.N_elder' (by (with_reducible repeat (first | apply Kd.N_alloc | apply Kd.N_drewN | apply Kd.N_drew)); exact HO_8.out) (Kd.R_base ho33) hb)
                        have n2_ := Aside0.mk (Kd.N_elder' (by (with_reducible repeat (first | apply Kd.N_alloc | apply Kd.N_drewN | apply Kd.N_drew)); exact HO_10.out) (Kd.R_base ho33) hb)
                        have n3_ := Aside0.mk (Kd.V_elder' (by (with_reducible repeat (first | apply Kd.V_alloc | apply Kd.V_drewN | apply Kd.V_drew)); exact HL109_0.out) (Kd.R_base ho33) hb)
                        have n4_ := Aside0.mk (Kd.V_elder' (by (with_reducible repeat (first | apply Kd.V_alloc | apply Kd.V_drewN | apply Kd.V_drew)); exact HL113_0.out) (Kd.R_base ho33) hb)
                        have n5_ := Aside0.mk (Kd.V_elder' (by (with_reducible repeat (first | apply Kd.V_alloc | apply Kd.V_drewN | apply Kd.V_drew)); exact HL117_0.out) (Kd.R_base ho33) hb)
                        have n6_ := Aside0.mk (Kd.R_elder' (rp9 HO116.out) (Kd.R_base ho33) hb)
                        have n7_ := Aside0.mk (Kd.R_lower (Kd.R_new' (Kd.R_newM (M := fun k_ => (w.heap.size ≤ k_)) ho33 (below_size (bp9 HB.out)) (fun k_ h_ => h_)) (Kd.R_lt (rp9 HO116.out))) (below_size (bp9 HB.out)))
                        have n8_ := Aside0.mk (blk_below (kp9 BK101.out) hb)
                        have n9_ := Aside0.mk (below_step (bp9 HB.out) hb)
                        clear HO_5 HO_8 HO_10 HL109_0 HL113_0 HL117_0 HO116 BK101 HB
                        revert n0_ n1_ n2_ n3_ n4_ n5_ n6_ n7_ n8_ n9_; intro HO_5 HO_8 HO_10 HL109_0 HL113_0 HL117_0 HO116 HO121 BK101 HB
                        clear hb ho33
                        refine hK.out _ _ ⟨HS0_, HS1_, HS2_⟩ (fun hHeld => ?_)
                        clear hK K
                        refine norm_ (a' := ?_) ?_ ?_
                        rotate_left
                        ·show Act.put _ (some 67) _ = _
                         simp only [Act.put, List.setIfInBounds_toArray, List.set_cons_zero, List.set_cons_succ, i64_w, i32_w]
                         rfl
                        exact norm_ (by simp only [putAll, Act.put, List.setIfInBounds_toArray, List.set_cons_zero, List.set_cons_succ]) (hCont (v111, v115, v120) _ ⟨hHeld, (by (with_reducible repeat (first | apply Kd.V_alloc | apply Kd.V_drewN | apply Kd.V_drew)); exact Kd.V_mono HL109_0.out (fun _ hk => ⟨hk.1.1.1, ⟨hk.1.2, ⟨hk.2, ⟨hk.1.1.2.2.2.1, ⟨hk.1.1.2.1, ⟨hk.1.1.2.2.1, hk.1.1.2.2.2.2⟩⟩⟩⟩⟩⟩)), (by (with_reducible repeat (first | apply Kd.V_alloc | apply Kd.V_drewN | apply Kd.V_drew)); exact Kd.V_mono HL113_0.out (fun _ hk => ⟨hk.1.1.1, ⟨hk.1.2, ⟨hk.2, ⟨hk.1.1.2.2.2.1, ⟨hk.1.1.2.1, ⟨hk.1.1.2.2.1, hk.1.1.2.2.2.2⟩⟩⟩⟩⟩⟩)), (by (with_reducible repeat (first | apply Kd.V_alloc | apply Kd.V_drewN | apply Kd.V_drew)); exact Kd.V_mono HL117_0.out (fun _ hk => ⟨hk.1.1.1, ⟨hk.1.2, ⟨hk.2, ⟨hk.1.1.2.2.2.1, ⟨hk.1.1.2.1, ⟨hk.1.1.2.2.1, hk.1.1.2.2.2.2⟩⟩⟩⟩⟩⟩)), (rp9 HO116.out), (by (with_reducible repeat (first | apply Kd.R_alloc | apply Kd.R_drewN | apply Kd.R_drew)); exact Kd.R_mono HO121.out (fun _ hk => ⟨hk.1.1, hk.2⟩)), (by (with_reducible repeat (first | apply Kd.N_alloc | apply Kd.N_drewN | apply Kd.N_drew)); exact Kd.N_mono HO_10.out (fun _ hk => ⟨hk.1.1.1, ⟨hk.1.2, ⟨hk.2, ⟨hk.1.1.2.1, ⟨hk.1.1.2.2.1, hk.1.1.2.2.2⟩⟩⟩⟩⟩)), (by (with_reducible repeat (first | apply Kd.N_alloc | apply Kd.N_drewN | apply Kd.N_drew)); exact Kd.N_mono HO_5.out (fun _ hk => ⟨hk.1.1.1, ⟨hk.1.2, ⟨hk.2, ⟨hk.1.1.2.2.1, ⟨hk.1.1.2.1, hk.1.1.2.2.2⟩⟩⟩⟩⟩)), (by (with_reducible repeat (first | apply Kd.N_alloc | apply Kd.N_drewN | apply Kd.N_drew)); exact Kd.N_mono HO_8.out (fun _ hk => ⟨hk.1.1.1, ⟨hk.1.2, ⟨hk.2, ⟨hk.1.1.2.2.1, ⟨hk.1.1.2.1, hk.1.1.2.2.2⟩⟩⟩⟩⟩)), (kp9 BK101.out), (bp9 HB.out)⟩)
                       ·skip
                        refine Kd.R_lit_step (Kd.int .i64) _ 3 ?hg (N := 67) ?hd (xs := ([rd (rd_L5 t102 x9_2) x12_4] : List Int)) (inner := [.int .i64 (rd (rd_L5 t102 x9_2) x12_4)]) (ok := fun _ => True) (okp := fun _ => True) ?hr ?hp (fun _ hk => hk) trivial (Below.refl _ _) (Nat.le_refl _) (by simp) ?_; (case hd => rfl); (case hg => rfl); (case hr => first | (go_simp; done) | (go_simp; rfl)); (case hp => exact (Reps.one (show Kd.M (Kd.int .i64) _ _ _ (rd (rd_L5 t102 x9_2) x12_4) [.int .i64 (rd (rd_L5 t102 x9_2) x12_4)] from rfl) (Reps.none _ _)))
                        intro v120 w31 ho32 hb hg_ hnew_
                        have HS0_ := (hb.cell (World.block_lt_of_cell? _ _ (hHeld.1))).trans (hHeld.1)
                        have HS1_ := (hb.cell (World.block_lt_of_cell? _ _ (hHeld.2.1))).trans (hHeld.2.1)
                        have HS2_ := (hb.cell (World.block_lt_of_cell? _ _ (hHeld.2.2))).trans (hHeld.2.2)
                        clear hg_ hnew_
                        (first | rw [← Ny119.out] at ho32 | (simp only [Int.reduceToNat] at ho32; rw [← Ny119.out] at ho32))
                        have n0_ := Aside0.mk (Kd.N_elder' (by (with_reducible repeat (first | apply Kd.N_alloc | apply Kd.N_drewN | apply Kd.N_drew)); exact HO_5.out) (Kd.R_base ho32) hb)
                        have n1_ := Aside0.mk (Kd.N_elder' (by (with_reducible repeat (first | apply Kd.N_alloc | apply Kd.N_drewN | apply Kd.N_drew)); exact HO_8.out) (Kd.R_base ho32) hb)
                        have n2_ := Aside0.mk (Kd.N_elder' (by (with_reducible repeat (first | apply Kd.N_alloc | apply Kd.N_drewN | apply Kd.N_drew)); exact HO_10.out) (Kd.R_base ho32) hb)
                        have n3_ := Aside0.mk (Kd.V_elder' (by (with_reducible repeat (first | apply Kd.V_alloc | apply Kd.V_drewN | apply Kd.V_drew)); exact HL109_0.out) (Kd.R_base ho32) hb)
                        have n4_ := Aside0.mk (Kd.V_elder' (by (with_reducible repeat (first | apply Kd.V_alloc | apply Kd.V_drewN | apply Kd.V_drew)); exact HL113_0.out) (Kd.R_base ho32) hb)
                        have n5_ := Aside0.mk (Kd.V_elder' (by (with_reducible repeat (first | apply Kd.V_alloc | apply Kd.V_drewN | apply Kd.V_drew)); exact HL117_0.out) (Kd.R_base ho32) hb)
                        have n6_ := Aside0.mk (Kd.R_elder' (rp9 HO112.out) (Kd.R_base ho32) hb)
                        have n7_ := Aside0.mk (Kd.R_lower (Kd.R_new' (Kd.R_newM (M := fun k_ => (w.heap.size ≤ k_)) ho32 (below_size (bp9 HB.out)) (fun k_ h_ => h_)) (Kd.R_lt (rp9 HO112.out))) (below_size (bp9 HB.out)))
                        have n8_ := Aside0.mk (blk_below (kp9 BK101.out) hb)
                        have n9_ := Aside0.mk (Kd.C_below (by repeat (first | (with_reducible exact HR109_0.out) | (with_reducible refine Kd.C_alloc ?_ _) | (with_reducible refine Kd.C_drewN ?_ _) | (with_reducible refine Kd.C_drew ?_) | exact HR109_0.out)) hb)
                        have n10_ := Aside0.mk (Kd.C_below (by repeat (first | (with_reducible exact HR113_0.out) | (with_reducible refine Kd.C_alloc ?_ _) | (with_reducible refine Kd.C_drewN ?_ _) | (with_reducible refine Kd.C_drew ?_) | exact HR113_0.out)) hb)
                        have n11_ := Aside0.mk (Kd.C_below (by repeat (first | (with_reducible exact HR117_0.out) | (with_reducible refine Kd.C_alloc ?_ _) | (with_reducible refine Kd.C_drewN ?_ _) | (with_reducible refine Kd.C_drew ?_) | exact HR117_0.out)) hb)
                        have n12_ := Aside0.mk (below_step (bp9 HB.out) hb)
                        clear HO_5 HO_8 HO_10 HL109_0 HL113_0 HL117_0 HO112 BK101 HR109_0 HR113_0 HR117_0 HB
                        revert n0_ n1_ n2_ n3_ n4_ n5_ n6_ n7_ n8_ n9_ n10_ n11_ n12_; intro HO_5 HO_8 HO_10 HL109_0 HL113_0 HL117_0 HO112 HO121 BK101 HR109_0 HR113_0 HR117_0 HB
                        clear hb ho32
                        refine hK.out _ _ ⟨HS0_, HS1_, HS2_⟩ (fun hHeld => ?_)
                        clear hK K
                        refine norm_ (a' := ?_) ?_ ?_
                        rotate_left
                        ·show Act.put _ (some 67) _ = _
                         simp only [Act.put, List.setIfInBounds_toArray, List.set_cons_zero, List.set_cons_succ, i64_w, i32_w]
                         rfl
                        refine one_ (i := 6) (N := some 59) #[i9, i9, i9, i9, i9, i9, i9, i9, i9, i9, i9, i9, i9, i9, i9, o9, o9, o9, o9] rfl rfl (one_of HT_.out (by kernel_rfl)) (by decide) (fun K hK => ?_)
                        refine Kd.R_append_rows_step (Kd.int .i64) (w0 := w) w.heap.size (by rfl) (.tmp 54) (.tmp 58) 33 3 (.int .i64 0) 8 rfl Try.underlying33 info3 rfl (by decide) (by omega) v111 y110 (rd_L5 x8_2 x11_3) _ _ _ (fun k_ => (w.heap.size ≤ k_) ∧ some k_ ≠ (v120 : Value).ownBlock) (fun _ => False) rfl rfl ?aO ?aR (fun _ _ h => h) (fun _ h => h.elim) ?aF ?aB ?aS ?aL ?_
                        (case aR => repeat (first | exact (by repeat (first | (with_reducible exact HR113_0.out) | (with_reducible refine Kd.C_alloc ?_ _) | (with_reducible refine Kd.C_drewN ?_ _) | (with_reducible refine Kd.C_drew ?_) | exact HR113_0.out)) | (with_reducible refine Kd.C_alloc ?_ _) | (with_reducible refine Kd.C_drewN ?_ _) | (with_reducible refine Kd.C_drew ?_)))
                        (case aB => exact (bp9 HB.out))
                        (case aF => exact (fun k_ hk => ⟨(Nat.le_trans (below_size (bp9 HB.out)) hk), Kd.fresh' (Kd.R_lt (rp9 HO121.out)) k_ hk⟩))
                        (case aO => exact (by (with_reducible repeat (first | apply Kd.R_alloc | apply Kd.R_drewN | apply Kd.R_drew)); exact Kd.R_mono HO112.out (fun _ hk => ⟨hk.1.1, hk.2⟩)))
                        (case aS => exact (below_size (bp9 HB.out)))
                        (case aL => have := LMc23.out; omega)
                        intro v115 w33 ho hb hg hat
                        obtain ⟨_, _, ez_, _, _, _, hz_⟩ := Kd.F_get (Kd.V_F HL117_0.out) (0 : Int) x12_4 (of_eq_true p118) (of_eq_true q118)
                        cases ez_
                        have HS0_ := cell_grown hg hHeld.1 (by rw [add_block]; intro e_; have h_ := HO_8.out.1 ad113.block rfl; (try dsimp only at h_); rw [e_] at h_; simp at h_)
                        have HS1_ := cell_grown hg hHeld.2.1 (by rw [add_block]; intro e_; have h_ := HO_5.out.1 ad109.block rfl; (try dsimp only at h_); rw [e_] at h_; simp at h_)
                        have HS2_ := cell_grown hg hHeld.2.2 (by rw [add_block]; intro e_; have h_ := hz_ (by decide); (try dsimp only at h_); rw [e_] at h_; simp at h_)
                        clear hz_
                        rw [← Ny114.out] at ho
                        have n0_ := Aside0.mk (Kd.N_afterv (ok := (fun k_ => (w.heap.size ≤ k_) ∧ some k_ ≠ (.slice (some ad113) x8_2.length co17 : Value).ownBlock ∧ some k_ ≠ (.slice Ao27 x10_4.length co27 : Value).ownBlock ∧ some k_ ≠ (v120 : Value).ownBlock ∧ k_ ≠ gb101)) (by (with_reducible repeat (first | apply Kd.N_alloc | apply Kd.N_drewN | apply Kd.N_drew)); exact Kd.N_mono HO_5.out (fun _ hk => ⟨⟨hk.1.1.1, ⟨hk.1.1.2.1, ⟨hk.1.1.2.2.1, ⟨hk.2, hk.1.1.2.2.2⟩⟩⟩⟩, hk.1.2⟩)) hg hat)
                        have n1_ := Aside0.mk (Kd.N_afterv (ok := (fun k_ => (w.heap.size ≤ k_) ∧ some k_ ≠ (.slice (some ad109) t102.length co12 : Value).ownBlock ∧ some k_ ≠ (.slice Ao27 x10_4.length co27 : Value).ownBlock ∧ some k_ ≠ (v120 : Value).ownBlock ∧ k_ ≠ gb101)) (by (with_reducible repeat (first | apply Kd.N_alloc | apply Kd.N_drewN | apply Kd.N_drew)); exact Kd.N_mono HO_8.out (fun _ hk => ⟨⟨hk.1.1.1, ⟨hk.1.1.2.1, ⟨hk.1.1.2.2.1, ⟨hk.2, hk.1.1.2.2.2⟩⟩⟩⟩, hk.1.2⟩)) hg hat)
                        have n2_ := Aside0.mk (Kd.N_afterv (ok := (fun k_ => (w.heap.size ≤ k_) ∧ some k_ ≠ (.slice (some ad109) t102.length co12 : Value).ownBlock ∧ some k_ ≠ (.slice (some ad113) x8_2.length co17 : Value).ownBlock ∧ some k_ ≠ (v120 : Value).ownBlock ∧ k_ ≠ gb101)) (by (with_reducible repeat (first | apply Kd.N_alloc | apply Kd.N_drewN | apply Kd.N_drew)); exact Kd.N_mono HO_10.out (fun _ hk => ⟨⟨hk.1.1.1, ⟨hk.1.1.2.1, ⟨hk.1.1.2.2.1, ⟨hk.2, hk.1.1.2.2.2⟩⟩⟩⟩, hk.1.2⟩)) hg hat)
                        have n3_ := Aside0.mk (blk_grown (g := gb101) (o := .cells #[.slice A0_0 l0_0.length c0_0, .slice A0_1 l0_1.length c0_1, .slice A0_2 l0_2.length c0_2, .slice A0_3 l0_3.length c0_3, .slice A0_4 l0_4.length c0_4, .slice A0_5 l0_5.length c0_5, .slice A0_6 l0_6.length c0_6] 76 (0, 0)) (kp9 BK101.out) hg (Kd.R_ne HO112.out BK101.out (by decide)))
                        have n4_ := Aside0.mk (Kd.V_afterv (ok := (fun k_ => (w.heap.size ≤ k_) ∧ some k_ ≠ (.slice (some ad109) t102.length co12 : Value).ownBlock ∧ some k_ ≠ (.slice (some ad113) x8_2.length co17 : Value).ownBlock ∧ some k_ ≠ (.slice Ao27 x10_4.length co27 : Value).ownBlock ∧ some k_ ≠ (v120 : Value).ownBlock ∧ k_ ≠ gb101)) (by (with_reducible repeat (first | apply Kd.V_alloc | apply Kd.V_drewN | apply Kd.V_drew)); exact Kd.V_mono HL109_0.out (fun _ hk => ⟨⟨hk.1.1.1.1, ⟨hk.1.1.2, ⟨hk.1.1.1.2.1, ⟨hk.1.1.1.2.2.1, ⟨hk.2, hk.1.1.1.2.2.2⟩⟩⟩⟩⟩, hk.1.2⟩)) hg hat)
                        have n5_ := Aside0.mk (Kd.V_afterv (ok := (fun k_ => (w.heap.size ≤ k_) ∧ some k_ ≠ (.slice (some ad109) t102.length co12 : Value).ownBlock ∧ some k_ ≠ (.slice (some ad113) x8_2.length co17 : Value).ownBlock ∧ some k_ ≠ (.slice Ao27 x10_4.length co27 : Value).ownBlock ∧ some k_ ≠ (v120 : Value).ownBlock ∧ k_ ≠ gb101)) (by (with_reducible repeat (first | apply Kd.V_alloc | apply Kd.V_drewN | apply Kd.V_drew)); exact Kd.V_mono HL113_0.out (fun _ hk => ⟨⟨hk.1.1.1.1, ⟨hk.1.1.1.2.1, ⟨hk.1.1.2, ⟨hk.1.1.1.2.2.1, ⟨hk.2, hk.1.1.1.2.2.2⟩⟩⟩⟩⟩, hk.1.2⟩)) hg hat)
                        have n6_ := Aside0.mk (Kd.V_afterv (ok := (fun k_ => (w.heap.size ≤ k_) ∧ some k_ ≠ (.slice (some ad109) t102.length co12 : Value).ownBlock ∧ some k_ ≠ (.slice (some ad113) x8_2.length co17 : Value).ownBlock ∧ some k_ ≠ (.slice Ao27 x10_4.length co27 : Value).ownBlock ∧ some k_ ≠ (v120 : Value).ownBlock ∧ k_ ≠ gb101)) (by (with_reducible repeat (first | apply Kd.V_alloc | apply Kd.V_drewN | apply Kd.V_drew)); exact Kd.V_mono HL117_0.out (fun _ hk => ⟨⟨hk.1.1.1.1, ⟨hk.1.1.2, ⟨hk.1.1.1.2.1, ⟨hk.1.1.1.2.2.1, ⟨hk.2, hk.1.1.1.2.2.2⟩⟩⟩⟩⟩, hk.1.2⟩)) hg hat)
                        have n7_ := Aside0.mk (Kd.R_after (ok := (fun k_ => (w.heap.size ≤ k_))) (by (with_reducible repeat (first | apply Kd.R_alloc | apply Kd.R_drewN | apply Kd.R_drew)); exact Kd.R_mono HO121.out (fun _ hk => ⟨hk.1.1, hk.2⟩)) hg hat)
                        have n8_ := Aside0.mk (hb)
                        have n9_ := Aside0.mk (ho)
                        clear HO_5 HO_8 HO_10 BK101 HL109_0 HL113_0 HL117_0 HO121 HB HO112
                        revert n0_ n1_ n2_ n3_ n4_ n5_ n6_ n7_ n8_ n9_; intro HO_5 HO_8 HO_10 BK101 HL109_0 HL113_0 HL117_0 HO121 HB HO116
                        clear ho hb hg hat

                        refine hK.out _ _ ⟨HS0_, HS1_, HS2_⟩ (fun hHeld => ?_)
                        clear hK K
                        refine norm_ (a' := ?_) ?_ ?_
                        rotate_left
                        ·show Act.put _ (some 59) _ = _
                         simp only [Act.put, List.setIfInBounds_toArray, List.set_cons_zero, List.set_cons_succ, i64_w, i32_w]
                         rfl
                        exact norm_ (by simp only [putAll, Act.put, List.setIfInBounds_toArray, List.set_cons_zero, List.set_cons_succ]) (hCont (v111, v115, v120) _ ⟨hHeld, (by (with_reducible repeat (first | apply Kd.V_alloc | apply Kd.V_drewN | apply Kd.V_drew)); exact Kd.V_mono HL109_0.out (fun _ hk => ⟨hk.1.1, ⟨hk.2, ⟨hk.1.2.2.2.2.1, ⟨hk.1.2.2.2.1, ⟨hk.1.2.1, ⟨hk.1.2.2.1, hk.1.2.2.2.2.2⟩⟩⟩⟩⟩⟩)), (by (with_reducible repeat (first | apply Kd.V_alloc | apply Kd.V_drewN | apply Kd.V_drew)); exact Kd.V_mono HL113_0.out (fun _ hk => ⟨hk.1.1, ⟨hk.2, ⟨hk.1.2.2.2.2.1, ⟨hk.1.2.2.2.1, ⟨hk.1.2.1, ⟨hk.1.2.2.1, hk.1.2.2.2.2.2⟩⟩⟩⟩⟩⟩)), (by (with_reducible repeat (first | apply Kd.V_alloc | apply Kd.V_drewN | apply Kd.V_drew)); exact Kd.V_mono HL117_0.out (fun _ hk => ⟨hk.1.1, ⟨hk.2, ⟨hk.1.2.2.2.2.1, ⟨hk.1.2.2.2.1, ⟨hk.1.2.1, ⟨hk.1.2.2.1, hk.1.2.2.2.2.2⟩⟩⟩⟩⟩⟩)), (rp9 HO116.out), (rp9 HO121.out), (by (with_reducible repeat (first | apply Kd.N_alloc | apply Kd.N_drewN | apply Kd.N_drew)); exact Kd.N_mono HO_10.out (fun _ hk => ⟨hk.1.1, ⟨hk.2, ⟨hk.1.2.2.2.1, ⟨hk.1.2.1, ⟨hk.1.2.2.1, hk.1.2.2.2.2⟩⟩⟩⟩⟩)), (by (with_reducible repeat (first | apply Kd.N_alloc | apply Kd.N_drewN | apply Kd.N_drew)); exact Kd.N_mono HO_5.out (fun _ hk => ⟨hk.1.1, ⟨hk.2, ⟨hk.1.2.2.2.1, ⟨hk.1.2.2.1, ⟨hk.1.2.1, hk.1.2.2.2.2⟩⟩⟩⟩⟩)), (by (with_reducible repeat (first | apply Kd.N_alloc | apply Kd.N_drewN | apply Kd.N_drew)); exact Kd.N_mono HO_8.out (fun _ hk => ⟨hk.1.1, ⟨hk.2, ⟨hk.1.2.2.2.1, ⟨hk.1.2.2.1, ⟨hk.1.2.1, hk.1.2.2.2.2⟩⟩⟩⟩⟩)), (kp9 BK101.out), (bp9 HB.out)⟩)
                      ·skip
                       refine Kd.R_lit_step (Kd.int .i64) _ 3 ?hg (N := 67) ?hd (xs := ([rd (rd_L5 t102 x9_2) x12_4] : List Int)) (inner := [.int .i64 (rd (rd_L5 t102 x9_2) x12_4)]) (ok := fun _ => True) (okp := fun _ => True) ?hr ?hp (fun _ hk => hk) trivial (Below.refl _ _) (Nat.le_refl _) (by simp) ?_; (case hd => rfl); (case hg => rfl); (case hr => first | (go_simp; done) | (go_simp; rfl)); (case hp => exact (Reps.one (show Kd.M (Kd.int .i64) _ _ _ (rd (rd_L5 t102 x9_2) x12_4) [.int .i64 (rd (rd_L5 t102 x9_2) x12_4)] from rfl) (Reps.none _ _)))
                       intro v120 w29 ho30 hb hg_ hnew_
                       have HS0_ := (hb.cell (World.block_lt_of_cell? _ _ (hHeld.1))).trans (hHeld.1)
                       have HS1_ := (hb.cell (World.block_lt_of_cell? _ _ (hHeld.2.1))).trans (hHeld.2.1)
                       have HS2_ := (hb.cell (World.block_lt_of_cell? _ _ (hHeld.2.2))).trans (hHeld.2.2)
                       clear hg_ hnew_
                       (first | rw [← Ny119.out] at ho30 | (simp only [Int.reduceToNat] at ho30; rw [← Ny119.out] at ho30))
                       have n0_ := Aside0.mk (Kd.N_elder' (by (with_reducible repeat (first | apply Kd.N_alloc | apply Kd.N_drewN | apply Kd.N_drew)); exact HO_5.out) (Kd.R_base ho30) hb)
                       have n1_ := Aside0.mk (Kd.N_elder' (by (with_reducible repeat (first | apply Kd.N_alloc | apply Kd.N_drewN | apply Kd.N_drew)); exact HO_8.out) (Kd.R_base ho30) hb)
                       have n2_ := Aside0.mk (Kd.N_elder' (by (with_reducible repeat (first | apply Kd.N_alloc | apply Kd.N_drewN | apply Kd.N_drew)); exact HO_10.out) (Kd.R_base ho30) hb)
                       have n3_ := Aside0.mk (Kd.V_elder' (by (with_reducible repeat (first | apply Kd.V_alloc | apply Kd.V_drewN | apply Kd.V_drew)); exact HL109_0.out) (Kd.R_base ho30) hb)
                       have n4_ := Aside0.mk (Kd.V_elder' (by (with_reducible repeat (first | apply Kd.V_alloc | apply Kd.V_drewN | apply Kd.V_drew)); exact HL113_0.out) (Kd.R_base ho30) hb)
                       have n5_ := Aside0.mk (Kd.V_elder' (by (with_reducible repeat (first | apply Kd.V_alloc | apply Kd.V_drewN | apply Kd.V_drew)); exact HL117_0.out) (Kd.R_base ho30) hb)
                       have n6_ := Aside0.mk (Kd.R_lower (Kd.R_newM (M := fun k_ => (w.heap.size ≤ k_)) ho30 (below_size (bp9 HB.out)) (fun k_ h_ => h_)) (below_size (bp9 HB.out)))
                       have n7_ := Aside0.mk (blk_below (kp9 BK101.out) hb)
                       have n8_ := Aside0.mk (Kd.C_below (by repeat (first | (with_reducible exact HR109_0.out) | (with_reducible refine Kd.C_alloc ?_ _) | (with_reducible refine Kd.C_drewN ?_ _) | (with_reducible refine Kd.C_drew ?_) | exact HR109_0.out)) hb)
                       have n9_ := Aside0.mk (Kd.C_below (by repeat (first | (with_reducible exact HR113_0.out) | (with_reducible refine Kd.C_alloc ?_ _) | (with_reducible refine Kd.C_drewN ?_ _) | (with_reducible refine Kd.C_drew ?_) | exact HR113_0.out)) hb)
                       have n10_ := Aside0.mk (Kd.C_below (by repeat (first | (with_reducible exact HR117_0.out) | (with_reducible refine Kd.C_alloc ?_ _) | (with_reducible refine Kd.C_drewN ?_ _) | (with_reducible refine Kd.C_drew ?_) | exact HR117_0.out)) hb)
                       have n11_ := Aside0.mk (below_step (bp9 HB.out) hb)
                       clear HO_5 HO_8 HO_10 HL109_0 HL113_0 HL117_0 BK101 HR109_0 HR113_0 HR117_0 HB
                       revert n0_ n1_ n2_ n3_ n4_ n5_ n6_ n7_ n8_ n9_ n10_ n11_; intro HO_5 HO_8 HO_10 HL109_0 HL113_0 HL117_0 HO121 BK101 HR109_0 HR113_0 HR117_0 HB
                       clear hb ho30
                       refine hK.out _ _ ⟨HS0_, HS1_, HS2_⟩ (fun hHeld => ?_)
                       clear hK K
                       refine norm_ (a' := ?_) ?_ ?_
                       rotate_left
                       ·show Act.put _ (some 67) _ = _
                        simp only [Act.put, List.setIfInBounds_toArray, List.set_cons_zero, List.set_cons_succ, i64_w, i32_w]
                        rfl
                       refine one_ (i := 1) (N := some 54) #[i9, i9, i9, i9, i9, i9, o9, i9, i9, i9, i9, i9, i9, i9, i9, o9, o9, o9, o9] rfl rfl (one_of HT_.out (by kernel_rfl)) (by decide) (fun K hK => ?_)
                       refine Kd.R_lit_step (Kd.int .i64) _ 3 ?hg (N := 54) ?hd (xs := ([] : List Int)) (inner := []) (ok := fun _ => True) (okp := fun _ => True) ?hr ?hp (fun _ hk => hk) trivial (Below.refl _ _) (Nat.le_refl _) (by simp) ?_; (case hd => rfl); (case hg => rfl); (case hr => first | (go_simp; done) | (go_simp; rfl)); (case hp => exact (Reps.none _ _))
                       intro v111 w31 ho32 hb hg_ hnew_
                       have HS0_ := (hb.cell (World.block_lt_of_cell? _ _ (hHeld.1))).trans (hHeld.1)
                       have HS1_ := (hb.cell (World.block_lt_of_cell? _ _ (hHeld.2.1))).trans (hHeld.2.1)
                       have HS2_ := (hb.cell (World.block_lt_of_cell? _ _ (hHeld.2.2))).trans (hHeld.2.2)
                       clear hg_ hnew_
                       (first | rw [← Ny110.out] at ho32 | (simp only [Int.reduceToNat] at ho32; rw [← Ny110.out] at ho32))
                       have n0_ := Aside0.mk (Kd.N_elder' (by (with_reducible repeat (first | apply Kd.N_alloc | apply Kd.N_drewN | apply Kd.N_drew)); exact HO_5.out) (Kd.R_base ho32) hb)
                       have n1_ := Aside0.mk (Kd.N_elder' (by (with_reducible repeat (first | apply Kd.N_alloc | apply Kd.N_drewN | apply Kd.N_drew)); exact HO_8.out) (Kd.R_base ho32) hb)
                       have n2_ := Aside0.mk (Kd.N_elder' (by (with_reducible repeat (first | apply Kd.N_alloc | apply Kd.N_drewN | apply Kd.N_drew)); exact HO_10.out) (Kd.R_base ho32) hb)
                       have n3_ := Aside0.mk (Kd.V_elder' (by (with_reducible repeat (first | apply Kd.V_alloc | apply Kd.V_drewN | apply Kd.V_drew)); exact HL109_0.out) (Kd.R_base ho32) hb)
                       have n4_ := Aside0.mk (Kd.V_elder' (by (with_reducible repeat (first | apply Kd.V_alloc | apply Kd.V_drewN | apply Kd.V_drew)); exact HL113_0.out) (Kd.R_base ho32) hb)
                       have n5_ := Aside0.mk (Kd.V_elder' (by (with_reducible repeat (first | apply Kd.V_alloc | apply Kd.V_drewN | apply Kd.V_drew)); exact HL117_0.out) (Kd.R_base ho32) hb)
                       have n6_ := Aside0.mk (Kd.R_elder' (rp9 HO121.out) (Kd.R_base ho32) hb)
                       have n7_ := Aside0.mk (Kd.R_lower (Kd.R_new' (Kd.R_newM (M := fun k_ => (w.heap.size ≤ k_)) ho32 (below_size (bp9 HB.out)) (fun k_ h_ => h_)) (Kd.R_lt (rp9 HO121.out))) (below_size (bp9 HB.out)))
                       have n8_ := Aside0.mk (blk_below (kp9 BK101.out) hb)
                       have n9_ := Aside0.mk (Kd.C_below (by repeat (first | (with_reducible exact HR109_0.out) | (with_reducible refine Kd.C_alloc ?_ _) | (with_reducible refine Kd.C_drewN ?_ _) | (with_reducible refine Kd.C_drew ?_) | exact HR109_0.out)) hb)
                       have n10_ := Aside0.mk (Kd.C_below (by repeat (first | (with_reducible exact HR113_0.out) | (with_reducible refine Kd.C_alloc ?_ _) | (with_reducible refine Kd.C_drewN ?_ _) | (with_reducible refine Kd.C_drew ?_) | exact HR113_0.out)) hb)
                       have n11_ := Aside0.mk (Kd.C_below (by repeat (first | (with_reducible exact HR117_0.out) | (with_reducible refine Kd.C_alloc ?_ _) | (with_reducible refine Kd.C_drewN ?_ _) | (with_reducible refine Kd.C_drew ?_) | exact HR117_0.out)) hb)
                       have n12_ := Aside0.mk (below_step (bp9 HB.out) hb)
                       clear HO_5 HO_8 HO_10 HL109_0 HL113_0 HL117_0 HO121 BK101 HR109_0 HR113_0 HR117_0 HB
                       revert n0_ n1_ n2_ n3_ n4_ n5_ n6_ n7_ n8_ n9_ n10_ n11_ n12_; intro HO_5 HO_8 HO_10 HL109_0 HL113_0 HL117_0 HO121 HO112 BK101 HR109_0 HR113_0 HR117_0 HB
                       clear hb ho32
                       refine hK.out _ _ ⟨HS0_, HS1_, HS2_⟩ (fun hHeld => ?_)
                       clear hK K
                       refine norm_ (a' := ?_) ?_ ?_
                       rotate_left
                       ·show Act.put _ (some 54) _ = _
                        simp only [Act.put, List.setIfInBounds_toArray, List.set_cons_zero, List.set_cons_succ, i64_w, i32_w]
                        rfl
                       refine one_ (i := 6) (N := some 59) #[i9, i9, i9, i9, i9, i9, i9, i9, i9, i9, i9, i9, i9, i9, i9, o9, o9, o9, o9] rfl rfl (one_of HT_.out (by kernel_rfl)) (by decide) (fun K hK => ?_)
                       refine Kd.R_append_rows_step (Kd.int .i64) (w0 := w) w.heap.size (by rfl) (.tmp 54) (.tmp 58) 33 3 (.int .i64 0) 8 rfl Try.underlying33 info3 rfl (by decide) (by omega) v111 y110 (rd_L5 x8_2 x11_3) _ _ _ (fun k_ => (w.heap.size ≤ k_) ∧ some k_ ≠ (v120 : Value).ownBlock) (fun _ => False) rfl rfl ?aO ?aR (fun _ _ h => h) (fun _ h => h.elim) ?aF ?aB ?aS ?aL ?_
                       (case aR => repeat (first | exact (by repeat (first | (with_reducible exact HR113_0.out) | (with_reducible refine Kd.C_alloc ?_ _) | (with_reducible refine Kd.C_drewN ?_ _) | (with_reducible refine Kd.C_drew ?_) | exact HR113_0.out)) | (with_reducible refine Kd.C_alloc ?_ _) | (with_reducible refine Kd.C_drewN ?_ _) | (with_reducible refine Kd.C_drew ?_)))
                       (case aB => exact (bp9 HB.out))
                       (case aF => exact (fun k_ hk => ⟨(Nat.le_trans (below_size (bp9 HB.out)) hk), Kd.fresh' (Kd.R_lt (rp9 HO121.out)) k_ hk⟩))
                       (case aO => exact (by (with_reducible repeat (first | apply Kd.R_alloc | apply Kd.R_drewN | apply Kd.R_drew)); exact Kd.R_mono HO112.out (fun _ hk => ⟨hk.1.1, hk.2⟩)))
                       (case aS => exact (below_size (bp9 HB.out)))
                       (case aL => have := LMc23.out; omega)
                       intro v115 w33 ho hb hg hat
                       obtain ⟨_, _, ez_, _, _, _, hz_⟩ := Kd.F_get (Kd.V_F HL117_0.out) (0 : Int) x12_4 (of_eq_true p118) (of_eq_true q118)
                       cases ez_
                       have HS0_ := cell_grown hg hHeld.1 (by rw [add_block]; intro e_; have h_ := HO_8.out.1 ad113.block rfl; (try dsimp only at h_); rw [e_] at h_; simp at h_)
                       have HS1_ := cell_grown hg hHeld.2.1 (by rw [add_block]; intro e_; have h_ := HO_5.out.1 ad109.block rfl; (try dsimp only at h_); rw [e_] at h_; simp at h_)
                       have HS2_ := cell_grown hg hHeld.2.2 (by rw [add_block]; intro e_; have h_ := hz_ (by decide); (try dsimp only at h_); rw [e_] at h_; simp at h_)
                       clear hz_
                       rw [← Ny114.out] at ho
                       have n0_ := Aside0.mk (Kd.N_afterv (ok := (fun k_ => (w.heap.size ≤ k_) ∧ some k_ ≠ (.slice (some ad113) x8_2.length co17 : Value).ownBlock ∧ some k_ ≠ (.slice Ao27 x10_4.length co27 : Value).ownBlock ∧ some k_ ≠ (v120 : Value).ownBlock ∧ k_ ≠ gb101)) (by (with_reducible repeat (first | apply Kd.N_alloc | apply Kd.N_drewN | apply Kd.N_drew)); exact Kd.N_mono HO_5.out (fun _ hk => ⟨⟨hk.1.1.1, ⟨hk.1.1.2.1, ⟨hk.1.1.2.2.1, ⟨hk.1.2, hk.1.1.2.2.2⟩⟩⟩⟩, hk.2⟩)) hg hat)
                       have n1_ := Aside0.mk (Kd.N_afterv (ok := (fun k_ => (w.heap.size ≤ k_) ∧ some k_ ≠ (.slice (some ad109) t102.length co12 : Value).ownBlock ∧ some k_ ≠ (.slice Ao27 x10_4.length co27 : Value).ownBlock ∧ some k_ ≠ (v120 : Value).ownBlock ∧ k_ ≠ gb101)) (by (with_reducible repeat (first | apply Kd.N_alloc | apply Kd.N_drewN | apply Kd.N_drew)); exact Kd.N_mono HO_8.out (fun _ hk => ⟨⟨hk.1.1.1, ⟨hk.1.1.2.1, ⟨hk.1.1.2.2.1, ⟨hk.1.2, hk.1.1.2.2.2⟩⟩⟩⟩, hk.2⟩)) hg hat)
                       have n2_ := Aside0.mk (Kd.N_afterv (ok := (fun k_ => (w.heap.size ≤ k_) ∧ some k_ ≠ (.slice (some ad109) t102.length co12 : Value).ownBlock ∧ some k_ ≠ (.slice (some ad113) x8_2.length co17 : Value).ownBlock ∧ some k_ ≠ (v120 : Value).ownBlock ∧ k_ ≠ gb101)) (by (with_reducible repeat (first | apply Kd.N_alloc | apply Kd.N_drewN | apply Kd.N_drew)); exact Kd.N_mono HO_10.out (fun _ hk => ⟨⟨hk.1.1.1, ⟨hk.1.1.2.1, ⟨hk.1.1.2.2.1, ⟨hk.1.2, hk.1.1.2.2.2⟩⟩⟩⟩, hk.2⟩)) hg hat)
                       have n3_ := Aside0.mk (blk_grown (g := gb101) (o := .cells #[.slice A0_0 l0_0.length c0_0, .slice A0_1 l0_1.length c0_1, .slice A0_2 l0_2.length c0_2, .slice A0_3 l0_3.length c0_3, .slice A0_4 l0_4.length c0_4, .slice A0_5 l0_5.length c0_5, .slice A0_6 l0_6.length c0_6] 76 (0, 0)) (kp9 BK101.out) hg (Kd.R_ne HO112.out BK101.out (by decide)))
                       have n4_ := Aside0.mk (Kd.V_afterv (ok := (fun k_ => (w.heap.size ≤ k_) ∧ some k_ ≠ (.slice (some ad109) t102.length co12 : Value).ownBlock ∧ some k_ ≠ (.slice (some ad113) x8_2.length co17 : Value).ownBlock ∧ some k_ ≠ (.slice Ao27 x10_4.length co27 : Value).ownBlock ∧ some k_ ≠ (v120 : Value).ownBlock ∧ k_ ≠ gb101)) (by (with_reducible repeat (first | apply Kd.V_alloc | apply Kd.V_drewN | apply Kd.V_drew)); exact Kd.V_mono HL109_0.out (fun _ hk => ⟨⟨hk.1.1.1.1, ⟨hk.1.1.2, ⟨hk.1.1.1.2.1, ⟨hk.1.1.1.2.2.1, ⟨hk.1.2, hk.1.1.1.2.2.2⟩⟩⟩⟩⟩, hk.2⟩)) hg hat)
                       have n5_ := Aside0.mk (Kd.V_afterv (ok := (fun k_ => (w.heap.size ≤ k_) ∧ some k_ ≠ (.slice (some ad109) t102.length co12 : Value).ownBlock ∧ some k_ ≠ (.slice (some ad113) x8_2.length co17 : Value).ownBlock ∧ some k_ ≠ (.slice Ao27 x10_4.length co27 : Value).ownBlock ∧ some k_ ≠ (v120 : Value).ownBlock ∧ k_ ≠ gb101)) (by (with_reducible repeat (first | apply Kd.V_alloc | apply Kd.V_drewN | apply Kd.V_drew)); exact Kd.V_mono HL113_0.out (fun _ hk => ⟨⟨hk.1.1.1.1, ⟨hk.1.1.1.2.1, ⟨hk.1.1.2, ⟨hk.1.1.1.2.2.1, ⟨hk.1.2, hk.1.1.1.2.2.2⟩⟩⟩⟩⟩, hk.2⟩)) hg hat)
                       have n6_ := Aside0.mk (Kd.V_afterv (ok := (fun k_ => (w.heap.size ≤ k_) ∧ some k_ ≠ (.slice (some ad109) t102.length co12 : Value).ownBlock ∧ some k_ ≠ (.slice (some ad113) x8_2.length co17 : Value).ownBlock ∧ some k_ ≠ (.slice Ao27 x10_4.length co27 : Value).ownBlock ∧ some k_ ≠ (v120 : Value).ownBlock ∧ k_ ≠ gb101)) (by (with_reducible repeat (first | apply Kd.V_alloc | apply Kd.V_drewN | apply Kd.V_drew)); exact Kd.V_mono HL117_0.out (fun _ hk => ⟨⟨hk.1.1.1.1, ⟨hk.1.1.2, ⟨hk.1.1.1.2.1, ⟨hk.1.1.1.2.2.1, ⟨hk.1.2, hk.1.1.1.2.2.2⟩⟩⟩⟩⟩, hk.2⟩)) hg hat)
                       have n7_ := Aside0.mk (Kd.R_after (ok := (fun k_ => (w.heap.size ≤ k_))) (by (with_reducible repeat (first | apply Kd.R_alloc | apply Kd.R_drewN | apply Kd.R_drew)); exact Kd.R_mono HO121.out (fun _ hk => ⟨hk.1.1, hk.2⟩)) hg hat)
                       have n8_ := Aside0.mk (hb)
                       have n9_ := Aside0.mk (ho)
                       clear HO_5 HO_8 HO_10 BK101 HL109_0 HL113_0 HL117_0 HO121 HB HO112
                       revert n0_ n1_ n2_ n3_ n4_ n5_ n6_ n7_ n8_ n9_; intro HO_5 HO_8 HO_10 BK101 HL109_0 HL113_0 HL117_0 HO121 HB HO116
                       clear ho hb hg hat

                       refine hK.out _ _ ⟨HS0_, HS1_, HS2_⟩ (fun hHeld => ?_)
                       clear hK K
                       refine norm_ (a' := ?_) ?_ ?_
                       rotate_left
                       ·show Act.put _ (some 59) _ = _
                        simp only [Act.put, List.setIfInBounds_toArray, List.set_cons_zero, List.set_cons_succ, i64_w, i32_w]
                        rfl
                       exact norm_ (by simp only [putAll, Act.put, List.setIfInBounds_toArray, List.set_cons_zero, List.set_cons_succ]) (hCont (v111, v115, v120) _ ⟨hHeld, (by (with_reducible repeat (first | apply Kd.V_alloc | apply Kd.V_drewN | apply Kd.V_drew)); exact Kd.V_mono HL109_0.out (fun _ hk => ⟨hk.1.1, ⟨hk.2, ⟨hk.1.2.2.2.2.1, ⟨hk.1.2.2.2.1, ⟨hk.1.2.1, ⟨hk.1.2.2.1, hk.1.2.2.2.2.2⟩⟩⟩⟩⟩⟩)), (by (with_reducible repeat (first | apply Kd.V_alloc | apply Kd.V_drewN | apply Kd.V_drew)); exact Kd.V_mono HL113_0.out (fun _ hk => ⟨hk.1.1, ⟨hk.2, ⟨hk.1.2.2.2.2.1, ⟨hk.1.2.2.2.1, ⟨hk.1.2.1, ⟨hk.1.2.2.1, hk.1.2.2.2.2.2⟩⟩⟩⟩⟩⟩)), (by (with_reducible repeat (first | apply Kd.V_alloc | apply Kd.V_drewN | apply Kd.V_drew)); exact Kd.V_mono HL117_0.out (fun _ hk => ⟨hk.1.1, ⟨hk.2, ⟨hk.1.2.2.2.2.1, ⟨hk.1.2.2.2.1, ⟨hk.1.2.1, ⟨hk.1.2.2.1, hk.1.2.2.2.2.2⟩⟩⟩⟩⟩⟩)), (rp9 HO116.out), (rp9 HO121.out), (by (with_reducible repeat (first | apply Kd.N_alloc | apply Kd.N_drewN | apply Kd.N_drew)); exact Kd.N_mono HO_10.out (fun _ hk => ⟨hk.1.1, ⟨hk.2, ⟨hk.1.2.2.2.1, ⟨hk.1.2.1, ⟨hk.1.2.2.1, hk.1.2.2.2.2⟩⟩⟩⟩⟩)), (by (with_reducible repeat (first | apply Kd.N_alloc | apply Kd.N_drewN | apply Kd.N_drew)); exact Kd.N_mono HO_5.out (fun _ hk => ⟨hk.1.1, ⟨hk.2, ⟨hk.1.2.2.2.1, ⟨hk.1.2.2.1, ⟨hk.1.2.1, hk.1.2.2.2.2⟩⟩⟩⟩⟩)), (by (with_reducible repeat (first | apply Kd.N_alloc | apply Kd.N_drewN | apply Kd.N_drew)); exact Kd.N_mono HO_8.out (fun _ hk => ⟨hk.1.1, ⟨hk.2, ⟨hk.1.2.2.2.1, ⟨hk.1.2.2.1, ⟨hk.1.2.1, hk.1.2.2.2.2⟩⟩⟩⟩⟩)), (kp9 BK101.out), (bp9 HB.out)⟩)
                     rintro ⟨v111, v115, v120⟩ w34 ⟨hS_, h0_, h1_, h2_, h3_, h4_, h5_, h6_, h7_, h8_, h9_⟩
                     have n0_ : Aside0 (Kd.V (Kd.int .i64) 3 w34 w.heap.size (fun k_ => (w.heap.size ≤ k_) ∧ some k_ ≠ (v115 : Value).ownBlock ∧ some k_ ≠ (v120 : Value).ownBlock ∧ some k_ ≠ (.slice Ao27 x10_4.length co27 : Value).ownBlock ∧ some k_ ≠ (.slice (some ad109) t102.length co12 : Value).ownBlock ∧ some k_ ≠ (.slice (some ad113) x8_2.length co17 : Value).ownBlock ∧ k_ ≠ gb101) (.slice A109_0 (rd_L5 t102 x9_2).length c109_0) (rd_L5 t102 x9_2)) := ⟨h0_⟩
                     have n1_ : Aside0 (Kd.V (Kd.int .i64) 3 w34 w.heap.size (fun k_ => (w.heap.size ≤ k_) ∧ some k_ ≠ (v115 : Value).ownBlock ∧ some k_ ≠ (v120 : Value).ownBlock ∧ some k_ ≠ (.slice Ao27 x10_4.length co27 : Value).ownBlock ∧ some k_ ≠ (.slice (some ad109) t102.length co12 : Value).ownBlock ∧ some k_ ≠ (.slice (some ad113) x8_2.length co17 : Value).ownBlock ∧ k_ ≠ gb101) (.slice A113_0 (rd_L5 x8_2 x11_3).length c113_0) (rd_L5 x8_2 x11_3)) := ⟨h1_⟩
                     have n2_ : Aside0 (Kd.V (Kd.int .i64) 3 w34 w.heap.size (fun k_ => (w.heap.size ≤ k_) ∧ some k_ ≠ (v115 : Value).ownBlock ∧ some k_ ≠ (v120 : Value).ownBlock ∧ some k_ ≠ (.slice Ao27 x10_4.length co27 : Value).ownBlock ∧ some k_ ≠ (.slice (some ad109) t102.length co12 : Value).ownBlock ∧ some k_ ≠ (.slice (some ad113) x8_2.length co17 : Value).ownBlock ∧ k_ ≠ gb101) (.slice (some ad118) (rd_L5 t102 x9_2).length c117_0) (rd_L5 t102 x9_2)) := ⟨h2_⟩
                     have n3_ : Aside0 (Kd.R (Kd.int .i64) 3 w34 w.heap.size (fun k_ => (w.heap.size ≤ k_) ∧ some k_ ≠ (v120 : Value).ownBlock) v115 y114) := ⟨h3_⟩
                     have n4_ : Aside0 (Kd.R (Kd.int .i64) 3 w34 w.heap.size (fun k_ => (w.heap.size ≤ k_) ∧ some k_ ≠ (v115 : Value).ownBlock) v120 y119) := ⟨h4_⟩
                     have n5_ : Aside0 (Kd.N (Kd.slice 3 (Kd.int .i64)) 33 w34 w.heap.size (fun k_ => (w.heap.size ≤ k_) ∧ some k_ ≠ (v115 : Value).ownBlock ∧ some k_ ≠ (v120 : Value).ownBlock ∧ some k_ ≠ (.slice (some ad109) t102.length co12 : Value).ownBlock ∧ some k_ ≠ (.slice (some ad113) x8_2.length co17 : Value).ownBlock ∧ k_ ≠ gb101) (.slice Ao27 x10_4.length co27) x10_4) := ⟨h5_⟩
                     have n6_ : Aside0 (Kd.N (Kd.slice 3 (Kd.int .i64)) 33 w34 w.heap.size (fun k_ => (w.heap.size ≤ k_) ∧ some k_ ≠ (v115 : Value).ownBlock ∧ some k_ ≠ (v120 : Value).ownBlock ∧ some k_ ≠ (.slice Ao27 x10_4.length co27 : Value).ownBlock ∧ some k_ ≠ (.slice (some ad113) x8_2.length co17 : Value).ownBlock ∧ k_ ≠ gb101) (.slice (some ad109) t102.length co12) t102) := ⟨h6_⟩
                     have n7_ : Aside0 (Kd.N (Kd.slice 3 (Kd.int .i64)) 33 w34 w.heap.size (fun k_ => (w.heap.size ≤ k_) ∧ some k_ ≠ (v115 : Value).ownBlock ∧ some k_ ≠ (v120 : Value).ownBlock ∧ some k_ ≠ (.slice Ao27 x10_4.length co27 : Value).ownBlock ∧ some k_ ≠ (.slice (some ad109) t102.length co12 : Value).ownBlock ∧ k_ ≠ gb101) (.slice (some ad113) x8_2.length co17) x8_2) := ⟨h7_⟩
                     have n8_ : Aside0 (w34.heap[gb101]? = some (.cells #[.slice A0_0 l0_0.length c0_0, .slice A0_1 l0_1.length c0_1, .slice A0_2 l0_2.length c0_2, .slice A0_3 l0_3.length c0_3, .slice A0_4 l0_4.length c0_4, .slice A0_5 l0_5.length c0_5, .slice A0_6 l0_6.length c0_6] 76 (0, 0))) := ⟨h8_⟩
                     have n9_ : Aside0 (Below w.heap.size w w34) := ⟨h9_⟩
                     clear HO_5 HO_8 HO_10 HL109_0 BK101 HR109_0 HB
                     clear h0_ h1_ h2_ h3_ h4_ h5_ h6_ h7_ h8_ h9_
                     revert n0_ n1_ n2_ n3_ n4_ n5_ n6_ n7_ n8_ n9_; intro HL109_0 HL113_0 HL117_0 HO116 HO121 HO_10 HO_5 HO_8 BK101 HB
                     have hHeld : w34.cell? (ad113.add (x11_3).toNat) = some (.slice A113_0 (rd_L5 x8_2 x11_3).length c113_0) ∧ w34.cell? (ad109.add (x9_2).toNat) = some (.slice (some ad118) (rd_L5 t102 x9_2).length c117_0) ∧ w34.cell? (ad118.add (x12_4).toNat) = some (.int .i64 (rd (rd_L5 t102 x9_2) x12_4)) := hS_
                     obtain ⟨Ao36, co36, eo36⟩ := Kd.R_slice HO121.out
                     (first | subst eo36 | (injection eo36 with f1_ f2_ f3_; have f4_ := f1_.symm; have f5_ := f3_.symm; clear f1_ f2_ f3_; subst f4_; subst f5_))
                     refine norm_ (a' := ?_) ?_ ?_
                     rotate_left
                     ·simp only [putAll, Act.put, List.setIfInBounds_toArray, List.set_cons_zero, List.set_cons_succ]
                      rfl
                     refine one_ (i := 15) (N := some 68) #[i9, i9, i9, i9, i9, i9, i9, i9, i9, i9, i9, i9, i9, i9, i9, i9, o9, o9, o9] rfl rfl (one_of HT_.out (by kernel_rfl)) (by decide) (fun K hK => ?_)
                     refine Kd.R_append_rows_step (Kd.int .i64) (w0 := w) w.heap.size (by rfl) (.tmp 59) (.tmp 67) 33 3 (.int .i64 0) 8 rfl Try.underlying33 info3 rfl (by decide) (by omega) v115 y114 y119 _ _ _ (fun k_ => (w.heap.size ≤ k_) ∧ some k_ ≠ (.slice Ao36 y119.length co36 : Value).ownBlock) (fun _ => False) rfl rfl ?aO ?aR (fun _ _ h => h) (fun _ h => h.elim) ?aF ?aB ?aS ?aL ?_
                     (case aR => exact lp9 (Kd.R_reads' HO121.out).2.2)
                     (case aB => exact (bp9 HB.out))
                     (case aF => exact (fun k_ hk => ⟨(Nat.le_trans (below_size (bp9 HB.out)) hk), Kd.fresh' (Kd.R_lt (rp9 HO121.out)) k_ hk⟩))
                     (case aO => exact (rp9 HO116.out))
                     (case aS => exact (below_size (bp9 HB.out)))
                     (case aL => have := LMc25.out; omega)
                     intro v123 w35 ho hb hg hat
                     obtain ⟨_, _, ez_, _, _, _, hz_⟩ := Kd.F_get (Kd.V_F HL117_0.out) (0 : Int) x12_4 (of_eq_true p118) (of_eq_true q118)
                     cases ez_
                     have HS0_ := cell_grown hg hHeld.1 (by rw [add_block]; intro e_; have h_ := HO_8.out.1 ad113.block rfl; (try dsimp only at h_); rw [e_] at h_; simp at h_)
                     have HS1_ := cell_grown hg hHeld.2.1 (by rw [add_block]; intro e_; have h_ := HO_5.out.1 ad109.block rfl; (try dsimp only at h_); rw [e_] at h_; simp at h_)
                     have HS2_ := cell_grown hg hHeld.2.2 (by rw [add_block]; intro e_; have h_ := hz_ (by decide); (try dsimp only at h_); rw [e_] at h_; simp at h_)
                     clear hz_
                     rw [← Ny122.out] at ho
                     have n0_ := Aside0.mk (Kd.N_afterv (ok := (fun k_ => (w.heap.size ≤ k_) ∧ some k_ ≠ (.slice (some ad113) x8_2.length co17 : Value).ownBlock ∧ some k_ ≠ (.slice Ao27 x10_4.length co27 : Value).ownBlock ∧ some k_ ≠ (.slice Ao36 y119.length co36 : Value).ownBlock ∧ k_ ≠ gb101)) (by (with_reducible repeat (first | apply Kd.N_alloc | apply Kd.N_drewN | apply Kd.N_drew)); exact Kd.N_mono HO_5.out (fun _ hk => ⟨⟨hk.1, ⟨hk.2.2.2.2.1, ⟨hk.2.2.2.1, ⟨hk.2.2.1, hk.2.2.2.2.2⟩⟩⟩⟩, hk.2.1⟩)) hg hat)
                     have n1_ := Aside0.mk (Kd.N_afterv (ok := (fun k_ => (w.heap.size ≤ k_) ∧ some k_ ≠ (.slice (some ad109) t102.length co12 : Value).ownBlock ∧ some k_ ≠ (.slice Ao27 x10_4.length co27 : Value).ownBlock ∧ some k_ ≠ (.slice Ao36 y119.length co36 : Value).ownBlock ∧ k_ ≠ gb101)) (by (with_reducible repeat (first | apply Kd.N_alloc | apply Kd.N_drewN | apply Kd.N_drew)); exact Kd.N_mono HO_8.out (fun _ hk => ⟨⟨hk.1, ⟨hk.2.2.2.2.1, ⟨hk.2.2.2.1, ⟨hk.2.2.1, hk.2.2.2.2.2⟩⟩⟩⟩, hk.2.1⟩)) hg hat)
                     have n2_ := Aside0.mk (Kd.N_afterv (ok := (fun k_ => (w.heap.size ≤ k_) ∧ some k_ ≠ (.slice (some ad109) t102.length co12 : Value).ownBlock ∧ some k_ ≠ (.slice (some ad113) x8_2.length co17 : Value).ownBlock ∧ some k_ ≠ (.slice Ao36 y119.length co36 : Value).ownBlock ∧ k_ ≠ gb101)) (by (with_reducible repeat (first | apply Kd.N_alloc | apply Kd.N_drewN | apply Kd.N_drew)); exact Kd.N_mono HO_10.out (fun _ hk => ⟨⟨hk.1, ⟨hk.2.2.2.1, ⟨hk.2.2.2.2.1, ⟨hk.2.2.1, hk.2.2.2.2.2⟩⟩⟩⟩, hk.2.1⟩)) hg hat)
                     have n3_ := Aside0.mk (blk_grown (g := gb101) (o := .cells #[.slice A0_0 l0_0.length c0_0, .slice A0_1 l0_1.length c0_1, .slice A0_2 l0_2.length c0_2, .slice A0_3 l0_3.length c0_3, .slice A0_4 l0_4.length c0_4, .slice A0_5 l0_5.length c0_5, .slice A0_6 l0_6.length c0_6] 76 (0, 0)) (kp9 BK101.out) hg (Kd.R_ne HO116.out BK101.out (by decide)))
                     have n4_ := Aside0.mk (Kd.V_afterv (ok := (fun k_ => (w.heap.size ≤ k_) ∧ some k_ ≠ (.slice (some ad109) t102.length co12 : Value).ownBlock ∧ some k_ ≠ (.slice (some ad113) x8_2.length co17 : Value).ownBlock ∧ some k_ ≠ (.slice Ao27 x10_4.length co27 : Value).ownBlock ∧ some k_ ≠ (.slice Ao36 y119.length co36 : Value).ownBlock ∧ k_ ≠ gb101)) (by (with_reducible repeat (first | apply Kd.V_alloc | apply Kd.V_drewN | apply Kd.V_drew)); exact Kd.V_mono HL109_0.out (fun _ hk => ⟨⟨hk.1, ⟨hk.2.2.2.2.1, ⟨hk.2.2.2.2.2.1, ⟨hk.2.2.2.1, ⟨hk.2.2.1, hk.2.2.2.2.2.2⟩⟩⟩⟩⟩, hk.2.1⟩)) hg hat)
                     have n5_ := Aside0.mk (Kd.V_afterv (ok := (fun k_ => (w.heap.size ≤ k_) ∧ some k_ ≠ (.slice (some ad109) t102.length co12 : Value).ownBlock ∧ some k_ ≠ (.slice (some ad113) x8_2.length co17 : Value).ownBlock ∧ some k_ ≠ (.slice Ao27 x10_4.length co27 : Value).ownBlock ∧ some k_ ≠ (.slice Ao36 y119.length co36 : Value).ownBlock ∧ k_ ≠ gb101)) (by (with_reducible repeat (first | apply Kd.V_alloc | apply Kd.V_drewN | apply Kd.V_drew)); exact Kd.V_mono HL113_0.out (fun _ hk => ⟨⟨hk.1, ⟨hk.2.2.2.2.1, ⟨hk.2.2.2.2.2.1, ⟨hk.2.2.2.1, ⟨hk.2.2.1, hk.2.2.2.2.2.2⟩⟩⟩⟩⟩, hk.2.1⟩)) hg hat)
                     have n6_ := Aside0.mk (Kd.V_afterv (ok := (fun k_ => (w.heap.size ≤ k_) ∧ some k_ ≠ (.slice (some ad109) t102.length co12 : Value).ownBlock ∧ some k_ ≠ (.slice (some ad113) x8_2.length co17 : Value).ownBlock ∧ some k_ ≠ (.slice Ao27 x10_4.length co27 : Value).ownBlock ∧ some k_ ≠ (.slice Ao36 y119.length co36 : Value).ownBlock ∧ k_ ≠ gb101)) (by (with_reducible repeat (first | apply Kd.V_alloc | apply Kd.V_drewN | apply Kd.V_drew)); exact Kd.V_mono HL117_0.out (fun _ hk => ⟨⟨hk.1, ⟨hk.2.2.2.2.1, ⟨hk.2.2.2.2.2.1, ⟨hk.2.2.2.1, ⟨hk.2.2.1, hk.2.2.2.2.2.2⟩⟩⟩⟩⟩, hk.2.1⟩)) hg hat)
                     have n7_ := Aside0.mk (Kd.R_after (ok := (fun k_ => (w.heap.size ≤ k_))) (rp9 HO121.out) hg hat)
                     have n8_ := Aside0.mk (hb)
                     have n9_ := Aside0.mk (ho)
                     clear HO_5 HO_8 HO_10 BK101 HL109_0 HL113_0 HL117_0 HO121 HB HO116
                     revert n0_ n1_ n2_ n3_ n4_ n5_ n6_ n7_ n8_ n9_; intro HO_5 HO_8 HO_10 BK101 HL109_0 HL113_0 HL117_0 HO121 HB HO124
                     clear ho hb hg hat
                     obtain ⟨Ao37, co37, eo37⟩ := Kd.R_slice HO124.out
                     (first | subst eo37 | (injection eo37 with f1_ f2_ f3_; have f4_ := f1_.symm; have f5_ := f3_.symm; clear f1_ f2_ f3_; subst f4_; subst f5_))

                     refine hK.out _ _ ⟨HS0_, HS1_, HS2_⟩ (fun hHeld => ?_)
                     clear hK K
                     refine norm_ (a' := ?_) ?_ ?_
                     rotate_left
                     ·show Act.put _ (some 68) _ = _
                      simp only [Act.put, List.setIfInBounds_toArray, List.set_cons_zero, List.set_cons_succ, i64_w, i32_w]
                      rfl
                     refine one_ (i := 16) (N := some 69) #[i9, i9, i9, i9, i9, i9, i9, i9, i9, i9, i9, i9, i9, i9, i9, i9, i9, o9, o9] rfl rfl (one_of HT_.out (by kernel_rfl)) (by decide) (fun K hK => ?_)
                     refine Kd.N_lit_step (Kd.slice 3 (Kd.int .i64)) _ 33 ?hg (N' := 69) ?hd (xs := ([y122] : List (List Int))) (inner := [.slice Ao37 y122.length co37]) (ok := (fun k_ => (w.heap.size ≤ k_) ∧ some k_ ≠ (.slice (some ad109) t102.length co12 : Value).ownBlock ∧ some k_ ≠ (.slice (some ad113) x8_2.length co17 : Value).ownBlock ∧ some k_ ≠ (.slice Ao27 x10_4.length co27 : Value).ownBlock ∧ some k_ ≠ (.slice Ao36 y119.length co36 : Value).ownBlock ∧ k_ ≠ gb101)) (okp := (fun k_ => (w.heap.size ≤ k_) ∧ some k_ ≠ (.slice (some ad109) t102.length co12 : Value).ownBlock ∧ some k_ ≠ (.slice (some ad113) x8_2.length co17 : Value).ownBlock ∧ some k_ ≠ (.slice Ao27 x10_4.length co27 : Value).ownBlock ∧ some k_ ≠ (.slice Ao36 y119.length co36 : Value).ownBlock ∧ k_ ≠ gb101)) ?hr ?hp (fun _ hk => hk) ((show ∀ k_, w35.heap.size ≤ k_ → (fun k_ => (w.heap.size ≤ k_) ∧ some k_ ≠ (.slice (some ad109) t102.length co12 : Value).ownBlock ∧ some k_ ≠ (.slice (some ad113) x8_2.length co17 : Value).ownBlock ∧ some k_ ≠ (.slice Ao27 x10_4.length co27 : Value).ownBlock ∧ some k_ ≠ (.slice Ao36 y119.length co36 : Value).ownBlock ∧ k_ ≠ gb101) k_ from fun k_ hk => ⟨(Nat.le_trans (below_size (bp9 HB.out)) hk), Kd.fresh' (Kd.N_lt (by (with_reducible repeat (first | apply Kd.N_alloc | apply Kd.N_drewN | apply Kd.N_drew)); exact HO_5.out)) k_ hk, Kd.fresh' (Kd.N_lt (by (with_reducible repeat (first | apply Kd.N_alloc | apply Kd.N_drewN | apply Kd.N_drew)); exact HO_8.out)) k_ hk, Kd.fresh' (Kd.N_lt (by (with_reducible repeat (first | apply Kd.N_alloc | apply Kd.N_drewN | apply Kd.N_drew)); exact HO_10.out)) k_ hk, Kd.fresh' (Kd.R_lt (rp9 HO121.out)) k_ hk, Kd.freshB (g := gb101) (o := .cells #[.slice A0_0 l0_0.length c0_0, .slice A0_1 l0_1.length c0_1, .slice A0_2 l0_2.length c0_2, .slice A0_3 l0_3.length c0_3, .slice A0_4 l0_4.length c0_4, .slice A0_5 l0_5.length c0_5, .slice A0_6 l0_6.length c0_6] 76 (0, 0)) (kp9 BK101.out) k_ hk⟩) _ (Nat.le_refl _)) (Below.refl _ _) (Nat.le_refl _) (by simp) ?_; (case hd => rfl); (case hg => rfl); (case hr => first | (go_simp; done) | (go_simp; rfl)); (case hp => exact (Reps.one (show Kd.FK (Kd.slice 3 (Kd.int .i64)) _ _ y122 [.slice Ao37 y122.length co37] from (Kd.FK_slice_mk (Kd.R_reads' (Kd.R_mono (ok' := (fun k_ => (w.heap.size ≤ k_) ∧ some k_ ≠ (.slice (some ad109) t102.length co12 : Value).ownBlock ∧ some k_ ≠ (.slice (some ad113) x8_2.length co17 : Value).ownBlock ∧ some k_ ≠ (.slice Ao27 x10_4.length co27 : Value).ownBlock ∧ some k_ ≠ (.slice Ao36 y119.length co36 : Value).ownBlock ∧ k_ ≠ gb101)) (Kd.R_types (Kd.R_apart' (Kd.R_apart' (Kd.R_apart' (HO124.out) (Kd.N_typed HO_5.out) (by decide)) (Kd.N_typed HO_8.out) (by decide)) (Kd.N_typed HO_10.out) (by decide)) BK101.out (by decide)) (fun k_ hk => ⟨hk.1.1.1.1.1, ⟨hk.1.1.1.2, ⟨hk.1.1.2, ⟨hk.1.2, ⟨hk.1.1.1.1.2, hk.2⟩⟩⟩⟩⟩))).2.1 (Kd.R_F (Kd.R_mono (ok' := (fun k_ => (w.heap.size ≤ k_) ∧ some k_ ≠ (.slice (some ad109) t102.length co12 : Value).ownBlock ∧ some k_ ≠ (.slice (some ad113) x8_2.length co17 : Value).ownBlock ∧ some k_ ≠ (.slice Ao27 x10_4.length co27 : Value).ownBlock ∧ some k_ ≠ (.slice Ao36 y119.length co36 : Value).ownBlock ∧ k_ ≠ gb101)) (Kd.R_types (Kd.R_apart' (Kd.R_apart' (Kd.R_apart' (HO124.out) (Kd.N_typed HO_5.out) (by decide)) (Kd.N_typed HO_8.out) (by decide)) (Kd.N_typed HO_10.out) (by decide)) BK101.out (by decide)) (fun k_ hk => ⟨hk.1.1.1.1.1, ⟨hk.1.1.1.2, ⟨hk.1.1.2, ⟨hk.1.2, ⟨hk.1.1.1.1.2, hk.2⟩⟩⟩⟩⟩))))) (Reps.none _ _)))
                     intro v126 w38 ho39 hb hg_ hnew_
                     have HS0_ := (hb.cell (World.block_lt_of_cell? _ _ (hHeld.1))).trans (hHeld.1)
                     have HS1_ := (hb.cell (World.block_lt_of_cell? _ _ (hHeld.2.1))).trans (hHeld.2.1)
                     have HS2_ := (hb.cell (World.block_lt_of_cell? _ _ (hHeld.2.2))).trans (hHeld.2.2)
                     clear hg_ hnew_
                     (first | rw [← Ny125.out] at ho39 | (simp only [Int.reduceToNat] at ho39; rw [← Ny125.out] at ho39))
                     have n0_ := Aside0.mk (Kd.N_elder' (by (with_reducible repeat (first | apply Kd.N_alloc | apply Kd.N_drewN | apply Kd.N_drew)); exact HO_5.out) (Kd.N_base ho39) hb)
                     have n1_ := Aside0.mk (Kd.N_elder' (by (with_reducible repeat (first | apply Kd.N_alloc | apply Kd.N_drewN | apply Kd.N_drew)); exact HO_8.out) (Kd.N_base ho39) hb)
                     have n2_ := Aside0.mk (Kd.N_elder' (by (with_reducible repeat (first | apply Kd.N_alloc | apply Kd.N_drewN | apply Kd.N_drew)); exact HO_10.out) (Kd.N_base ho39) hb)
                     have n3_ := Aside0.mk (Kd.V_elder' (by (with_reducible repeat (first | apply Kd.V_alloc | apply Kd.V_drewN | apply Kd.V_drew)); exact HL109_0.out) (Kd.N_base ho39) hb)
                     have n4_ := Aside0.mk (Kd.V_elder' (by (with_reducible repeat (first | apply Kd.V_alloc | apply Kd.V_drewN | apply Kd.V_drew)); exact HL113_0.out) (Kd.N_base ho39) hb)
                     have n5_ := Aside0.mk (Kd.V_elder' (by (with_reducible repeat (first | apply Kd.V_alloc | apply Kd.V_drewN | apply Kd.V_drew)); exact HL117_0.out) (Kd.N_base ho39) hb)
                     have n6_ := Aside0.mk (Kd.R_below (rp9 HO121.out) hb)
                     have n7_ := Aside0.mk (Kd.N_lower ho39 (below_size (bp9 HB.out)))
                     have n8_ := Aside0.mk (blk_below (kp9 BK101.out) hb)
                     have n9_ := Aside0.mk (below_step (bp9 HB.out) hb)
                     clear HO_5 HO_8 HO_10 HL109_0 HL113_0 HL117_0 HO121 BK101 HB HO124
                     revert n0_ n1_ n2_ n3_ n4_ n5_ n6_ n7_ n8_ n9_; intro HO_5 HO_8 HO_10 HL109_0 HL113_0 HL117_0 HO121 HO127 BK101 HB
                     clear hb ho39
                     obtain ⟨Ao41, co41, eo41⟩ := Kd.N_slice HO127.out
                     (first | subst eo41 | (injection eo41 with f1_ f2_ f3_; have f4_ := f1_.symm; have f5_ := f3_.symm; clear f1_ f2_ f3_; subst f4_; subst f5_))
                     refine hK.out _ _ ⟨HS0_, HS1_, HS2_⟩ (fun hHeld => ?_)
                     clear hK K
                     refine norm_ (a' := ?_) ?_ ?_
                     rotate_left
                     ·show Act.put _ (some 69) _ = _
                      simp only [Act.put, List.setIfInBounds_toArray, List.set_cons_zero, List.set_cons_succ, i64_w, i32_w]
                      rfl
                     refine one_ (i := 17) (N := some 70) #[i9, i9, i9, i9, i9, i9, i9, i9, i9, i9, i9, i9, i9, i9, i9, i9, i9, i9, o9] rfl rfl (one_of HT_.out (by kernel_rfl)) (by decide) (fun K hK => ?_)
                     refine Kd.N_append_rows_step (Kd.slice 3 (Kd.int .i64)) (w0 := w) w.heap.size (by rfl) (.tmp 53) (.tmp 69) 35 33 (.slice none 0 0) 24 rfl Try.underlying35 info33 rfl (by decide) (by omega) (.slice Ao27 x10_4.length co27) x10_4 y125 _ _ _ (fun k_ => (w.heap.size ≤ k_) ∧ some k_ ≠ (.slice (some ad109) t102.length co12 : Value).ownBlock ∧ some k_ ≠ (.slice (some ad113) x8_2.length co17 : Value).ownBlock ∧ some k_ ≠ (.slice Ao36 y119.length co36 : Value).ownBlock ∧ k_ ≠ gb101) (fun k_ => ((fun k_ => (w.heap.size ≤ k_) ∧ some k_ ≠ (.slice (some ad109) t102.length co12 : Value).ownBlock ∧ some k_ ≠ (.slice (some ad113) x8_2.length co17 : Value).ownBlock ∧ some k_ ≠ (.slice Ao36 y119.length co36 : Value).ownBlock ∧ k_ ≠ gb101)) k_ ∧ some k_ ≠ (.slice Ao27 x10_4.length co27 : Value).ownBlock) rfl rfl ?aO ?aR (fun _ hk => hk) ?aF ?aB ?aS ?aL ?_
                     (case aR => exact (by skip; exact Kd.N_F (Kd.N_mono (ok' := (fun k_ => ((fun k_ => (w.heap.size ≤ k_) ∧ some k_ ≠ (.slice (some ad109) t102.length co12 : Value).ownBlock ∧ some k_ ≠ (.slice (some ad113) x8_2.length co17 : Value).ownBlock ∧ some k_ ≠ (.slice Ao36 y119.length co36 : Value).ownBlock ∧ k_ ≠ gb101)) k_ ∧ some k_ ≠ (.slice Ao27 x10_4.length co27 : Value).ownBlock)) (HO127.out) (fun k_ hk => ⟨⟨hk.1, ⟨hk.2.1, ⟨hk.2.2.1, ⟨hk.2.2.2.2.1, hk.2.2.2.2.2⟩⟩⟩⟩, hk.2.2.2.1⟩))))
                     (case aB => exact (bp9 HB.out))
                     (case aF => exact (fun k_ hk => ⟨(Nat.le_trans (below_size (bp9 HB.out)) hk), Kd.fresh' (Kd.N_lt (by (with_reducible repeat (first | apply Kd.N_alloc | apply Kd.N_drewN | apply Kd.N_drew)); exact HO_5.out)) k_ hk, Kd.fresh' (Kd.N_lt (by (with_reducible repeat (first | apply Kd.N_alloc | apply Kd.N_drewN | apply Kd.N_drew)); exact HO_8.out)) k_ hk, Kd.fresh' (Kd.R_lt (rp9 HO121.out)) k_ hk, Kd.freshB (g := gb101) (o := .cells #[.slice A0_0 l0_0.length c0_0, .slice A0_1 l0_1.length c0_1, .slice A0_2 l0_2.length c0_2, .slice A0_3 l0_3.length c0_3, .slice A0_4 l0_4.length c0_4, .slice A0_5 l0_5.length c0_5, .slice A0_6 l0_6.length c0_6] 76 (0, 0)) (kp9 BK101.out) k_ hk⟩))
                     (case aO => exact (by (with_reducible repeat (first | apply Kd.N_alloc | apply Kd.N_drewN | apply Kd.N_drew)); exact Kd.N_mono HO_10.out (fun _ hk => ⟨hk.1.1.1, ⟨hk.1.1.2.1, ⟨hk.1.1.2.2.1, ⟨hk.1.1.2.2.2.1, hk.1.1.2.2.2.2⟩⟩⟩⟩)))
                     (case aS => exact (below_size (bp9 HB.out)))
                     (case aL => have := LMc26.out; omega)
                     intro v129 w40 ho hb hg hat
                     obtain ⟨_, _, ez_, _, _, _, hz_⟩ := Kd.F_get (Kd.V_F HL117_0.out) (0 : Int) x12_4 (of_eq_true p118) (of_eq_true q118)
                     cases ez_
                     have HS0_ := cell_grown hg hHeld.1 (by rw [add_block]; intro e_; have h_ := HO_8.out.1 ad113.block rfl; (try dsimp only at h_); rw [e_] at h_; simp at h_)
                     have HS1_ := cell_grown hg hHeld.2.1 (by rw [add_block]; intro e_; have h_ := HO_5.out.1 ad109.block rfl; (try dsimp only at h_); rw [e_] at h_; simp at h_)
                     have HS2_ := cell_grown hg hHeld.2.2 (by rw [add_block]; intro e_; have h_ := hz_ (by decide); (try dsimp only at h_); rw [e_] at h_; simp at h_)
                     clear hz_
                     rw [← Ny128.out] at ho
                     have n0_ := Aside0.mk (Kd.N_afterv (ok := (fun k_ => (w.heap.size ≤ k_) ∧ some k_ ≠ (.slice (some ad113) x8_2.length co17 : Value).ownBlock ∧ some k_ ≠ (.slice Ao36 y119.length co36 : Value).ownBlock ∧ some k_ ≠ (.slice Ao41 y125.length co41 : Value).ownBlock ∧ k_ ≠ gb101)) (by (with_reducible repeat (first | apply Kd.N_alloc | apply Kd.N_drewN | apply Kd.N_drew)); exact Kd.N_mono HO_5.out (fun _ hk => ⟨⟨hk.1.1.1, ⟨hk.1.1.2.1, ⟨hk.1.1.2.2.2.1, ⟨hk.2, hk.1.1.2.2.2.2⟩⟩⟩⟩, hk.1.1.2.2.1⟩)) hg hat)
                     have n1_ := Aside0.mk (Kd.N_afterv (ok := (fun k_ => (w.heap.size ≤ k_) ∧ some k_ ≠ (.slice (some ad109) t102.length co12 : Value).ownBlock ∧ some k_ ≠ (.slice Ao36 y119.length co36 : Value).ownBlock ∧ some k_ ≠ (.slice Ao41 y125.length co41 : Value).ownBlock ∧ k_ ≠ gb101)) (by (with_reducible repeat (first | apply Kd.N_alloc | apply Kd.N_drewN | apply Kd.N_drew)); exact Kd.N_mono HO_8.out (fun _ hk => ⟨⟨hk.1.1.1, ⟨hk.1.1.2.1, ⟨hk.1.1.2.2.2.1, ⟨hk.2, hk.1.1.2.2.2.2⟩⟩⟩⟩, hk.1.1.2.2.1⟩)) hg hat)
                     have n2_ := Aside0.mk (blk_grown (g := gb101) (o := .cells #[.slice A0_0 l0_0.length c0_0, .slice A0_1 l0_1.length c0_1, .slice A0_2 l0_2.length c0_2, .slice A0_3 l0_3.length c0_3, .slice A0_4 l0_4.length c0_4, .slice A0_5 l0_5.length c0_5, .slice A0_6 l0_6.length c0_6] 76 (0, 0)) (kp9 BK101.out) hg (Kd.N_ne HO_10.out BK101.out (by decide)))
                     have n3_ := Aside0.mk (Kd.V_afterv (ok := (fun k_ => (w.heap.size ≤ k_) ∧ some k_ ≠ (.slice (some ad109) t102.length co12 : Value).ownBlock ∧ some k_ ≠ (.slice (some ad113) x8_2.length co17 : Value).ownBlock ∧ some k_ ≠ (.slice Ao36 y119.length co36 : Value).ownBlock ∧ some k_ ≠ (.slice Ao41 y125.length co41 : Value).ownBlock ∧ k_ ≠ gb101)) (by (with_reducible repeat (first | apply Kd.V_alloc | apply Kd.V_drewN | apply Kd.V_drew)); exact Kd.V_mono HL109_0.out (fun _ hk => ⟨⟨hk.1.1.1, ⟨hk.1.1.2.1, ⟨hk.1.1.2.2.1, ⟨hk.1.1.2.2.2.2.1, ⟨hk.2, hk.1.1.2.2.2.2.2⟩⟩⟩⟩⟩, hk.1.1.2.2.2.1⟩)) hg hat)
                     have n4_ := Aside0.mk (Kd.V_afterv (ok := (fun k_ => (w.heap.size ≤ k_) ∧ some k_ ≠ (.slice (some ad109) t102.length co12 : Value).ownBlock ∧ some k_ ≠ (.slice (some ad113) x8_2.length co17 : Value).ownBlock ∧ some k_ ≠ (.slice Ao36 y119.length co36 : Value).ownBlock ∧ some k_ ≠ (.slice Ao41 y125.length co41 : Value).ownBlock ∧ k_ ≠ gb101)) (by (with_reducible repeat (first | apply Kd.V_alloc | apply Kd.V_drewN | apply Kd.V_drew)); exact Kd.V_mono HL113_0.out (fun _ hk => ⟨⟨hk.1.1.1, ⟨hk.1.1.2.1, ⟨hk.1.1.2.2.1, ⟨hk.1.1.2.2.2.2.1, ⟨hk.2, hk.1.1.2.2.2.2.2⟩⟩⟩⟩⟩, hk.1.1.2.2.2.1⟩)) hg hat)
                     have n5_ := Aside0.mk (Kd.V_afterv (ok := (fun k_ => (w.heap.size ≤ k_) ∧ some k_ ≠ (.slice (some ad109) t102.length co12 : Value).ownBlock ∧ some k_ ≠ (.slice (some ad113) x8_2.length co17 : Value).ownBlock ∧ some k_ ≠ (.slice Ao36 y119.length co36 : Value).ownBlock ∧ some k_ ≠ (.slice Ao41 y125.length co41 : Value).ownBlock ∧ k_ ≠ gb101)) (by (with_reducible repeat (first | apply Kd.V_alloc | apply Kd.V_drewN | apply Kd.V_drew)); exact Kd.V_mono HL117_0.out (fun _ hk => ⟨⟨hk.1.1.1, ⟨hk.1.1.2.1, ⟨hk.1.1.2.2.1, ⟨hk.1.1.2.2.2.2.1, ⟨hk.2, hk.1.1.2.2.2.2.2⟩⟩⟩⟩⟩, hk.1.1.2.2.2.1⟩)) hg hat)
                     have n6_ := Aside0.mk (Kd.R_over' (rp9 HO121.out) (Kd.N_typed (by (with_reducible repeat (first | apply Kd.N_alloc | apply Kd.N_drewN | apply Kd.N_drew)); exact HO_10.out)) (by decide) hg)
                     have n7_ := Aside0.mk (Kd.N_afterv (ok := (fun k_ => (w.heap.size ≤ k_) ∧ some k_ ≠ (.slice (some ad109) t102.length co12 : Value).ownBlock ∧ some k_ ≠ (.slice (some ad113) x8_2.length co17 : Value).ownBlock ∧ some k_ ≠ (.slice Ao36 y119.length co36 : Value).ownBlock ∧ k_ ≠ gb101)) (by (with_reducible repeat (first | apply Kd.N_alloc | apply Kd.N_drewN | apply Kd.N_drew)); exact Kd.N_mono HO127.out (fun _ hk => ⟨⟨hk.1, ⟨hk.2.1, ⟨hk.2.2.1, ⟨hk.2.2.2.2.1, hk.2.2.2.2.2⟩⟩⟩⟩, hk.2.2.2.1⟩)) hg hat)
                     have n8_ := Aside0.mk (hb)
                     have n9_ := Aside0.mk (ho)
                     clear HO_5 HO_8 BK101 HL109_0 HL113_0 HL117_0 HO121 HO127 HB HO_10
                     revert n0_ n1_ n2_ n3_ n4_ n5_ n6_ n7_ n8_ n9_; intro HO_5 HO_8 BK101 HL109_0 HL113_0 HL117_0 HO121 HO127 HB HO130
                     clear ho hb hg hat

                     refine hK.out _ _ ⟨HS0_, HS1_, HS2_⟩ (fun hHeld => ?_)
                     clear hK K
                     refine norm_ (a' := ?_) ?_ ?_
                     rotate_left
                     ·show Act.put _ (some 70) _ = _
                      simp only [Act.put, List.setIfInBounds_toArray, List.set_cons_zero, List.set_cons_succ, i64_w, i32_w]
                      rfl
                     refine pure_ (i := 18) (N := some 10) (v := ?_) (a' := ?_) #[i9, i9, i9, i9, i9, i9, i9, i9, i9, i9, i9, i9, i9, i9, i9, i9, i9, i9, i9] rfl rfl (any_of HT_.out (by kernel_rfl)) (fun _ _ _ h => h) (Or.inl ⟨by rfl, ?_⟩) ?_ ?_
                     rotate_left
                     ·intro w'
                      go_simp
                      with_reducible rfl
                     rotate_left
                     ·simp only [Act.put, List.setIfInBounds_toArray, List.set_cons_zero, List.set_cons_succ, i64_w, i32_w]
                      rfl
                     refine done_ (done_of HT_.out (by kernel_rfl)) ?_
                     try go_wp2
                     go_roundg k4
                     case measure => have := HK1.out; have := HK2.out; have := HK3.out; have := HK4.out; omega
                     case rel => exact ⟨(y128), (wrap64 (x12_4 + 1)), (by first | rfl | (simp; done) | (simp [*]; done)), H', ⟨by have := HK1.out; have := HK2.out; have := HK3.out; have := HK4.out; omega⟩, ⟨by (with_reducible repeat (first | apply Kd.N_alloc | apply Kd.N_drewN | apply Kd.N_drew)); exact Kd.N_mono HO_5.out (fun _ hk => ⟨hk.1.1, ⟨hk.1.2.1, ⟨hk.2, hk.1.2.2.2.2⟩⟩⟩)⟩, ⟨by (with_reducible repeat (first | apply Kd.N_alloc | apply Kd.N_drewN | apply Kd.N_drew)); exact Kd.N_mono HO_8.out (fun _ hk => ⟨hk.1.1, ⟨hk.1.2.1, ⟨hk.2, hk.1.2.2.2.2⟩⟩⟩)⟩, ⟨by (with_reducible repeat (first | apply Kd.N_alloc | apply Kd.N_drewN | apply Kd.N_drew)); exact Kd.N_mono HO130.out (fun _ hk => ⟨hk.1, ⟨hk.2.1, ⟨hk.2.2.1, hk.2.2.2.2⟩⟩⟩)⟩, ⟨kp9 BK101.out⟩, ⟨bp9 HB.out⟩⟩
                    ·rw [if_neg c26] at H
                     exact absurd H (by simp)
                   ·rw [if_neg c25] at H
                    exact absurd H (by simp)
                  ·rw [if_neg c24] at H
                   exact absurd H (by simp)
                 ·rw [if_neg c23] at H
                  exact absurd H (by simp)
                ·rw [if_neg c22] at H
                 exact absurd H (by simp)
               ·rw [if_neg c21] at H
                exact absurd H (by simp)
              ·rw [if_neg c20] at H
               have c20b0 : decide (x12_4 < ((rd_L5 t102 x9_2).length : Int)) = false := decide_eq_false c20
               clear c20
               have H' := Aside0.mk H
               clear H
               have p109 : 0 ≤ (x9_2 : Int) := of_decide_eq_true (by first | (with_reducible assumption) | assumption)
               have q109 : x9_2 < (t102.length : Int) := of_decide_eq_true (by first | (with_reducible assumption) | assumption)
               obtain ⟨ad109, A109_0, c109_0, e109, hx109_0, hl109_0, hi109_0⟩ := at_L5 (Kd.N_reads' HO_5.out).2.2 x9_2 p109 q109
               cases e109
               obtain ⟨ce109, hce109, hMe109, hcc109⟩ := Kd.N_get HO_5.out [] x9_2 p109 (by first | exact q109 | exact of_decide_eq_true (by first | (with_reducible assumption) | assumption) | (have e_ := (Kd.N_reads' HO_5.out).1; omega))
               obtain ⟨ua109_0, uc109_0, rfl, ul109_0, ge109_0⟩ := Kd.FK_slice_open hMe109
               have hv109_0 := hcc109 0 _ rfl
               rw [Nat.add_zero, show ((Kd.slice 3 (Kd.int .i64))).sz = 1 from rfl, Nat.mul_one] at hv109_0
               replace hv109_0 := Option.some.inj (hv109_0.symm.trans hx109_0)
               injection hv109_0 with hva_ hvn_ hvc_
               rw [hva_] at ge109_0
               rw [hvc_] at ul109_0
               have HL109_0 := Aside0.mk (show Kd.V (Kd.int .i64) 3 _ w.heap.size _ _ (rd_L5 t102 x9_2) from Kd.V_mk ul109_0 ge109_0)
               clear hva_ hvn_ hvc_ ge109_0 ul109_0
               clear hcc109 hce109
               have HR109_0 := Aside0.mk hi109_0
               have HC109_0 := Aside0.mk hl109_0
               clear hi109_0 hl109_0
               replace p109 := eq_true p109
               replace q109 := eq_true q109
               go_wp2
               go_roundg k4
               case measure => have := HK1.out; have := HK2.out; have := HK3.out; have := HK4.out; omega
               case rel => exact ⟨(x10_4), (wrap64 (x11_3 + 1)), (by first | rfl | (simp; done) | (simp [*]; done)), H', ⟨by have := HK1.out; have := HK2.out; have := HK3.out; have := HK4.out; omega⟩, ⟨by (with_reducible repeat (first | apply Kd.N_alloc | apply Kd.N_drewN | apply Kd.N_drew)); exact HO_5.out⟩, ⟨by (with_reducible repeat (first | apply Kd.N_alloc | apply Kd.N_drewN | apply Kd.N_drew)); exact HO_8.out⟩, ⟨by (with_reducible repeat (first | apply Kd.N_alloc | apply Kd.N_drewN | apply Kd.N_drew)); exact HO_10.out⟩, ⟨kp9 BK101.out⟩, ⟨bp9 HB.out⟩⟩
             ·rw [if_neg c19] at H
              exact absurd H (by simp)
            ·rw [if_neg c18] at H
             exact absurd H (by simp)
         ·rw [if_neg c16] at H
          have c16b0 : decide (x11_3 < (x8_2.length : Int)) = false := decide_eq_false c16
          clear c16
          have H' := Aside0.mk H
          clear H
          obtain ⟨Ao42, co42, eo42⟩ := Kd.N_slice HO_8.out
          subst eo42
          go_wp2
          go_roundg k3
          case measure => have := HK1.out; have := HK2.out; have := HK3.out; omega
          case rel => exact ⟨(x10_3), (wrap64 (x9_2 + 1)), (by first | rfl | (simp; done) | (simp [*]; done)), H', ⟨by have := HK1.out; have := HK2.out; have := HK3.out; omega⟩, ⟨by (with_reducible repeat (first | apply Kd.N_alloc | apply Kd.N_drewN | apply Kd.N_drew)); exact Kd.N_mono HO_5.out (fun _ hk => ⟨hk.1, ⟨hk.2.2.1, hk.2.2.2⟩⟩)⟩, ⟨by (with_reducible repeat (first | apply Kd.N_alloc | apply Kd.N_drewN | apply Kd.N_drew)); exact Kd.N_mono HO_10.out (fun _ hk => ⟨hk.1, ⟨hk.2.1, hk.2.2.2⟩⟩)⟩, ⟨kp9 BK101.out⟩, ⟨bp9 HB.out⟩⟩
      ·rw [if_neg c15] at H
       have c15b0 : decide (x9_2 < (t102.length : Int)) = false := decide_eq_false c15
       clear c15
       obtain rfl := Option.some.inj H
       go_wp2
       go_ret
       exact ⟨_, by first | rfl | (simp [errW_none, errW_some] <;> rfl) | (simp [*, errW_none, errW_some] <;> rfl), by (with_reducible repeat (first | apply Kd.N_alloc | apply Kd.N_drewN | apply Kd.N_drew)); exact Kd.N_mono HO_8.out (fun _ hk => hk.1), bp9 HB.out⟩

/-! ### cupolaref11_Fits: function 68 -/
def cupolaref11_Fits.l0 : Nat → List Int → List (List Int) → Int → Option (Bool)
 | 0, _, _, _ => none
 | k + 1, x2, x7, x8 => if x8 < (x7.length : Int) then (if 0 ≤ x8 then (if x8 < (x2.length : Int) then ((cupolaref01_In.f k (rd_L5 x7 x8) (rd x2 x8)).bind fun t107 => (if t107 = true then (cupolaref11_Fits.l0 k x2 x7 (wrap64 (x8 + 1))) else (some false))) else (none)) else (none)) else (some true)
def cupolaref11_Fits.f (k : Nat) (l0_0 : List (S26)) (l0_1 : List Int) (l0_2 : List Int) (l0_3 : List Int) (l0_4 : List Int) (l0_5 : List Int) (l0_6 : List (List Int)) (l1 : List Int) (l2 : List Int) : Option (Bool) := (cupolaref11_Choices.f k l0_0 l0_1 l0_2 l0_3 l0_4 l0_5 l0_6 l1).bind fun t102 => (if (l2.length : Int) = (t102.length : Int) then (cupolaref11_Fits.l0 k l2 t102 0) else (some false))
set_option maxHeartbeats 8000000 in
set_option maxRecDepth 100000 in
theorem cupolaref11_Fits.calls (k : Nat) (A0_0 : Option Addr) (c0_0 : Nat) (l0_0 : List (S26)) (A0_1 : Option Addr) (c0_1 : Nat) (l0_1 : List Int) (A0_2 : Option Addr) (c0_2 : Nat) (l0_2 : List Int) (A0_3 : Option Addr) (c0_3 : Nat) (l0_3 : List Int) (A0_4 : Option Addr) (c0_4 : Nat) (l0_4 : List Int) (A0_5 : Option Addr) (c0_5 : Nat) (l0_5 : List Int) (A0_6 : Option Addr) (c0_6 : Nat) (l0_6 : List (List Int)) (A1 : Option Addr) (c1 : Nat) (l1 : List Int) (A2 : Option Addr) (c2 : Nat) (l2 : List Int) (r : Bool) (w : World) (hr0_0 : Kd.C k26 w A0_0 l0_0.length l0_0) (hc0_0 : l0_0.length ≤ c0_0) (hr0_1 : Kd.C (Kd.int .u32) w A0_1 l0_1.length l0_1) (hc0_1 : l0_1.length ≤ c0_1) (hr0_2 : Kd.C (Kd.int .u32) w A0_2 l0_2.length l0_2) (hc0_2 : l0_2.length ≤ c0_2) (hr0_3 : Kd.C (Kd.int .u32) w A0_3 l0_3.length l0_3) (hc0_3 : l0_3.length ≤ c0_3) (hr0_4 : Kd.C (Kd.int .u32) w A0_4 l0_4.length l0_4) (hc0_4 : l0_4.length ≤ c0_4) (hr0_5 : Kd.C (Kd.int .u32) w A0_5 l0_5.length l0_5) (hc0_5 : l0_5.length ≤ c0_5) (hr0_6 : Kd.C (Kd.slice 2 (Kd.int .i64)) w A0_6 l0_6.length l0_6) (hc0_6 : l0_6.length ≤ c0_6) (hr1 : Kd.C (Kd.int .i64) w A1 l1.length l1) (hc1 : l1.length ≤ c1) (hr2 : Kd.C (Kd.int .i64) w A2 l2.length l2) (hc2 : l2.length ≤ c2) (h : cupolaref11_Fits.f k l0_0 l0_1 l0_2 l0_3 l0_4 l0_5 l0_6 l1 l2 = some r) :
  Calls Try.prog 68 #[.agg #[.slice A0_0 l0_0.length c0_0, .slice A0_1 l0_1.length c0_1, .slice A0_2 l0_2.length c0_2, .slice A0_3 l0_3.length c0_3, .slice A0_4 l0_4.length c0_4, .slice A0_5 l0_5.length c0_5, .slice A0_6 l0_6.length c0_6], .slice A1 l1.length c1, .slice A2 l2.length c2] w fun e w' => e = .returned (.bool r) ∧ Below w.heap.size w w' := by
 have hu76 := Try.underlying76
 have HR0_0 := Aside0.mk hr0_0
 have HC0_0 := Aside0.mk hc0_0
 clear hr0_0 hc0_0
 have HR0_1 := Aside0.mk hr0_1
 have HC0_1 := Aside0.mk hc0_1
 clear hr0_1 hc0_1
 have HR0_2 := Aside0.mk hr0_2
 have HC0_2 := Aside0.mk hc0_2
 clear hr0_2 hc0_2
 have HR0_3 := Aside0.mk hr0_3
 have HC0_3 := Aside0.mk hc0_3
 clear hr0_3 hc0_3
 have HR0_4 := Aside0.mk hr0_4
 have HC0_4 := Aside0.mk hc0_4
 clear hr0_4 hc0_4
 have HR0_5 := Aside0.mk hr0_5
 have HC0_5 := Aside0.mk hc0_5
 clear hr0_5 hc0_5
 have HR0_6 := Aside0.mk hr0_6
 have HC0_6 := Aside0.mk hc0_6
 clear hr0_6 hc0_6
 have HR1 := Aside0.mk hr1
 have HC1 := Aside0.mk hc1
 clear hr1 hc1
 have HR2 := Aside0.mk hr2
 have HC2 := Aside0.mk hc2
 clear hr2 hc2
 have HB := Aside0.mk (Below.refl w.heap.size w)
 have H : ((cupolaref11_Choices.f k l0_0 l0_1 l0_2 l0_3 l0_4 l0_5 l0_6 l1).bind fun t102 => (if (l2.length : Int) = (t102.length : Int) then (cupolaref11_Fits.l0 k l2 t102 0) else (some false))) = some r := h
 clear h
 replace H := Option.bind_eq_some_iff.mp H
 obtain ⟨t102, A40, H⟩ := H
 have A4 := Aside0.mk A40
 clear A40
 by_cases c5 : (l2.length : Int) = (t102.length : Int)
 ·rw [if_pos c5] at H
  have c5b0 : ((l2.length : Int) == (t102.length : Int)) = true := beq_iff_eq.mpr c5
  have c5b1 : ((l2.length : Int) != (t102.length : Int)) = false := bne_eq_false_iff_eq.mpr c5
  have c5b2 : (l2.length == t102.length) = true := by first | simpa using c5 | (simp at c5 ⊢; omega)
  clear c5
  have H' := Aside0.mk H
  clear H
  go_enter Try.func68, Try.ntmps68
  go_wp2_with (first | ((with_reducible refine gate_dst (N := 3) rfl ?_); refine box_event ?hg (N := 3) ?hd (cs := #[.slice A0_0 l0_0.length c0_0, .slice A0_1 l0_1.length c0_1, .slice A0_2 l0_2.length c0_2, .slice A0_3 l0_3.length c0_3, .slice A0_4 l0_4.length c0_4, .slice A0_5 l0_5.length c0_5, .slice A0_6 l0_6.length c0_6]) (t := 76) ?hr ?_; (case hd => rfl); (case hg => rfl); (case hr => first | (go_simp; done) | (go_simp; rfl)); intro gb101 hg w6 hbox hb; have n0_ := Aside0.mk (below_step (bp9 HB.out) hb); have n1_ := Aside0.mk (hbox); have n2_ := Aside0.mk ((by rw [hg]; exact (below_size (bp9 HB.out)) : w.heap.size ≤ gb101)); have n3_ := n2_; clear HB; have HB := n0_; have BK101 := n1_; have GW101 := n2_; have GE101 := n3_; clear n0_ n1_ n2_ n3_; clear hb hbox hg; obtain ⟨hcz7_0, hcz7_1, hcz7_2, hcz7_3, hcz7_4, hcz7_5, hcz7_6, hfz7_0, hfz7_1, hfz7_2, hfz7_3, hfz7_4, hfz7_5, hfz7_6⟩ := cz7 BK101.out) | (go_at_call 125; (with_reducible refine (cupolaref11_Choices.calls k _ _ l0_0 _ _ l0_1 _ _ l0_2 _ _ l0_3 _ _ l0_4 _ _ l0_5 _ _ l0_6 _ _ l1 t102 _ ?side1 ?side2 ?side3 ?side4 ?side5 ?side6 ?side7 ?side8 ?side9 ?side10 ?side11 ?side12 ?side13 ?side14 ?side15 ?side16 A4.out).mono ?_); (case side1 => exact cp9 HR0_0.out HB.out); (case side2 => exact HC0_0.out); (case side3 => exact cp9 HR0_1.out HB.out); (case side4 => exact HC0_1.out); (case side5 => exact cp9 HR0_2.out HB.out); (case side6 => exact HC0_2.out); (case side7 => exact cp9 HR0_3.out HB.out); (case side8 => exact HC0_3.out); (case side9 => exact cp9 HR0_4.out HB.out); (case side10 => exact HC0_4.out); (case side11 => exact cp9 HR0_5.out HB.out); (case side12 => exact HC0_5.out); (case side13 => exact cp9 HR0_6.out HB.out); (case side14 => exact HC0_6.out); (case side15 => exact cp9 HR1.out HB.out); (case side16 => exact HC1.out); rintro e w8 ⟨v103, rfl, ho0, hb⟩; have n0_ := Aside0.mk (Kd.S_lower ho0 (below_size (bp9 HB.out))); have n1_ := Aside0.mk (blk_below (kp9 BK101.out) hb); have n2_ := Aside0.mk (below_step (bp9 HB.out) hb); clear BK101; clear HB; have HO104 := n0_; have BK101 := n1_; have HB := n2_; clear n0_ n1_ n2_; (try clear hb); (try clear hb2); (try clear hk); (try clear hi); (try clear ho0); obtain ⟨Ao9, co9, eo9⟩ := Kd.S_slice HO104.out; subst eo9))
  repeat (go_quiet (first | ((with_reducible refine gate_dst (N := 3) rfl ?_); refine box_event ?hg (N := 3) ?hd (cs := #[.slice A0_0 l0_0.length c0_0, .slice A0_1 l0_1.length c0_1, .slice A0_2 l0_2.length c0_2, .slice A0_3 l0_3.length c0_3, .slice A0_4 l0_4.length c0_4, .slice A0_5 l0_5.length c0_5, .slice A0_6 l0_6.length c0_6]) (t := 76) ?hr ?_; (case hd => rfl); (case hg => rfl); (case hr => first | (go_simp; done) | (go_simp; rfl)); intro gb101 hg w6 hbox hb; have n0_ := Aside0.mk (below_step (bp9 HB.out) hb); have n1_ := Aside0.mk (hbox); have n2_ := Aside0.mk ((by rw [hg]; exact (below_size (bp9 HB.out)) : w.heap.size ≤ gb101)); have n3_ := n2_; clear HB; have HB := n0_; have BK101 := n1_; have GW101 := n2_; have GE101 := n3_; clear n0_ n1_ n2_ n3_; clear hb hbox hg; obtain ⟨hcz7_0, hcz7_1, hcz7_2, hcz7_3, hcz7_4, hcz7_5, hcz7_6, hfz7_0, hfz7_1, hfz7_2, hfz7_3, hfz7_4, hfz7_5, hfz7_6⟩ := cz7 BK101.out) | (go_at_call 125; (with_reducible refine (cupolaref11_Choices.calls k _ _ l0_0 _ _ l0_1 _ _ l0_2 _ _ l0_3 _ _ l0_4 _ _ l0_5 _ _ l0_6 _ _ l1 t102 _ ?side1 ?side2 ?side3 ?side4 ?side5 ?side6 ?side7 ?side8 ?side9 ?side10 ?side11 ?side12 ?side13 ?side14 ?side15 ?side16 A4.out).mono ?_); (case side1 => exact cp9 HR0_0.out HB.out); (case side2 => exact HC0_0.out); (case side3 => exact cp9 HR0_1.out HB.out); (case side4 => exact HC0_1.out); (case side5 => exact cp9 HR0_2.out HB.out); (case side6 => exact HC0_2.out); (case side7 => exact cp9 HR0_3.out HB.out); (case side8 => exact HC0_3.out); (case side9 => exact cp9 HR0_4.out HB.out); (case side10 => exact HC0_4.out); (case side11 => exact cp9 HR0_5.out HB.out); (case side12 => exact HC0_5.out); (case side13 => exact cp9 HR0_6.out HB.out); (case side14 => exact HC0_6.out); (case side15 => exact cp9 HR1.out HB.out); (case side16 => exact HC1.out); rintro e w8 ⟨v103, rfl, ho0, hb⟩; have n0_ := Aside0.mk (Kd.S_lower ho0 (below_size (bp9 HB.out))); have n1_ := Aside0.mk (blk_below (kp9 BK101.out) hb); have n2_ := Aside0.mk (below_step (bp9 HB.out) hb); clear BK101; clear HB; have HO104 := n0_; have BK101 := n1_; have HB := n2_; clear n0_ n1_ n2_; (try clear hb); (try clear hb2); (try clear hk); (try clear hi); (try clear ho0); obtain ⟨Ao9, co9, eo9⟩ := Kd.S_slice HO104.out; subst eo9)); try go_wp2_with (first | ((with_reducible refine gate_dst (N := 3) rfl ?_); refine box_event ?hg (N := 3) ?hd (cs := #[.slice A0_0 l0_0.length c0_0, .slice A0_1 l0_1.length c0_1, .slice A0_2 l0_2.length c0_2, .slice A0_3 l0_3.length c0_3, .slice A0_4 l0_4.length c0_4, .slice A0_5 l0_5.length c0_5, .slice A0_6 l0_6.length c0_6]) (t := 76) ?hr ?_; (case hd => rfl); (case hg => rfl); (case hr => first | (go_simp; done) | (go_simp; rfl)); intro gb101 hg w6 hbox hb; have n0_ := Aside0.mk (below_step (bp9 HB.out) hb); have n1_ := Aside0.mk (hbox); have n2_ := Aside0.mk ((by rw [hg]; exact (below_size (bp9 HB.out)) : w.heap.size ≤ gb101)); have n3_ := n2_; clear HB; have HB := n0_; have BK101 := n1_; have GW101 := n2_; have GE101 := n3_; clear n0_ n1_ n2_ n3_; clear hb hbox hg; obtain ⟨hcz7_0, hcz7_1, hcz7_2, hcz7_3, hcz7_4, hcz7_5, hcz7_6, hfz7_0, hfz7_1, hfz7_2, hfz7_3, hfz7_4, hfz7_5, hfz7_6⟩ := cz7 BK101.out) | (go_at_call 125; (with_reducible refine (cupolaref11_Choices.calls k _ _ l0_0 _ _ l0_1 _ _ l0_2 _ _ l0_3 _ _ l0_4 _ _ l0_5 _ _ l0_6 _ _ l1 t102 _ ?side1 ?side2 ?side3 ?side4 ?side5 ?side6 ?side7 ?side8 ?side9 ?side10 ?side11 ?side12 ?side13 ?side14 ?side15 ?side16 A4.out).mono ?_); (case side1 => exact cp9 HR0_0.out HB.out); (case side2 => exact HC0_0.out); (case side3 => exact cp9 HR0_1.out HB.out); (case side4 => exact HC0_1.out); (case side5 => exact cp9 HR0_2.out HB.out); (case side6 => exact HC0_2.out); (case side7 => exact cp9 HR0_3.out HB.out); (case side8 => exact HC0_3.out); (case side9 => exact cp9 HR0_4.out HB.out); (case side10 => exact HC0_4.out); (case side11 => exact cp9 HR0_5.out HB.out); (case side12 => exact HC0_5.out); (case side13 => exact cp9 HR0_6.out HB.out); (case side14 => exact HC0_6.out); (case side15 => exact cp9 HR1.out HB.out); (case side16 => exact HC1.out); rintro e w8 ⟨v103, rfl, ho0, hb⟩; have n0_ := Aside0.mk (Kd.S_lower ho0 (below_size (bp9 HB.out))); have n1_ := Aside0.mk (blk_below (kp9 BK101.out) hb); have n2_ := Aside0.mk (below_step (bp9 HB.out) hb); clear BK101; clear HB; have HO104 := n0_; have BK101 := n1_; have HB := n2_; clear n0_ n1_ n2_; (try clear hb); (try clear hb2); (try clear hk); (try clear hi); (try clear ho0); obtain ⟨Ao9, co9, eo9⟩ := Kd.S_slice HO104.out; subst eo9)))
  go_loopg [8] k (fun kq v8 w' => ∃ (x8_1 : Int), v8 = .int .i64 x8_1 ∧ Aside0 (cupolaref11_Fits.l0 kq l2 t102 x8_1 = some r) ∧ Aside0 (kq ≤ k) ∧ Aside0 (Kd.S (Kd.slice 3 (Kd.int .i64)) 33 w' w.heap.size (fun _ => True) (.slice Ao9 t102.length co9) t102) ∧ Aside0 (w'.heap[gb101]? = some (.cells #[(.slice A0_0 l0_0.length c0_0), (.slice A0_1 l0_1.length c0_1), (.slice A0_2 l0_2.length c0_2), (.slice A0_3 l0_3.length c0_3), (.slice A0_4 l0_4.length c0_4), (.slice A0_5 l0_5.length c0_5), (.slice A0_6 l0_6.length c0_6)] 76 (0, 0))) ∧ Aside0 (Below w.heap.size w w'))
  case atStart => exact ⟨(0), (by first | rfl | (simp; done) | (simp [*]; done)), H', ⟨Nat.le_refl _⟩, ⟨by (with_reducible repeat (first | apply Kd.S_alloc | apply Kd.S_drewN | apply Kd.S_drew)); exact HO104.out⟩, ⟨kp9 BK101.out⟩, ⟨bp9 HB.out⟩⟩
  case round =>
   clear H'
   try clear c1
   try clear c2
   try clear p2
   try clear c5
   try clear c5b0
   try clear c5b1
   try clear c5b2
   try clear c6
   try clear hcz7_0 hcz7_1 hcz7_2 hcz7_3 hcz7_4 hcz7_5 hcz7_6
   try clear hfz7_0 hfz7_1 hfz7_2 hfz7_3 hfz7_4 hfz7_5 hfz7_6
   obtain ⟨x8_1, rfl, HA, HK1, HO_7, BK101, HB⟩ := hrel
   cases gk with
   | zero => exact absurd HA.out (by simp [cupolaref11_Fits.l0])
   | succ k1 =>
    have H := HA.out
    clear HA
    simp only [cupolaref11_Fits.l0] at H
    by_cases c10 : x8_1 < (t102.length : Int)
    ·rw [if_pos c10] at H
     have c10b0 : decide (x8_1 < (t102.length : Int)) = true := decide_eq_true c10
     clear c10
     by_cases c11 : 0 ≤ x8_1
     ·rw [if_pos c11] at H
      have c11b0 : decide (0 ≤ x8_1) = true := decide_eq_true c11
      clear c11
      by_cases c12 : x8_1 < (l2.length : Int)
      ·rw [if_pos c12] at H
       have c12b0 : decide (x8_1 < (l2.length : Int)) = true := decide_eq_true c12
       clear c12
       replace H := Option.bind_eq_some_iff.mp H
       obtain ⟨t107, A130, H⟩ := H
       have A13 := Aside0.mk A130
       clear A130
       by_cases c14 : t107 = true
       ·subst c14
        rw [if_pos rfl] at H
        have H' := Aside0.mk H
        clear H
        have p105 : 0 ≤ (x8_1 : Int) := of_decide_eq_true (by first | (with_reducible assumption) | assumption)
        have q105 : x8_1 < (t102.length : Int) := of_decide_eq_true (by first | (with_reducible assumption) | assumption)
        obtain ⟨ad105, A105_0, c105_0, e105, hx105_0, hl105_0, hi105_0⟩ := at_L5 (Kd.S_reads' HO_7.out).2.2 x8_1 p105 q105
        cases e105
        obtain ⟨ce105, hce105, hMe105, hcc105⟩ := Kd.S_get HO_7.out [] x8_1 p105 (by first | exact q105 | exact of_decide_eq_true (by first | (with_reducible assumption) | assumption) | (have e_ := (Kd.S_reads' HO_7.out).1; omega))
        obtain ⟨ve105_0, rfl, ge105_0⟩ := hMe105
        have hv105_0 := hcc105 0 _ rfl
        rw [Nat.add_zero, show ((Kd.slice 3 (Kd.int .i64))).sz = 1 from rfl, Nat.mul_one] at hv105_0
        replace hv105_0 := Option.some.inj (hv105_0.symm.trans hx105_0)
        rw [hv105_0] at ge105_0
        have HL105_0 := Aside0.mk (show Kd.R (Kd.int .i64) 3 _ _ _ _ (rd_L5 t102 x8_1) from ge105_0)
        clear hv105_0 ge105_0
        clear hcc105 hce105
        have HR105_0 := Aside0.mk hi105_0
        have HC105_0 := Aside0.mk hl105_0
        clear hi105_0 hl105_0
        replace p105 := eq_true p105
        replace q105 := eq_true q105
        have p106 : 0 ≤ (x8_1 : Int) := of_decide_eq_true (by first | (with_reducible assumption) | assumption)
        have q106 : x8_1 < (l2.length : Int) := of_decide_eq_true (by first | (with_reducible assumption) | assumption)
        obtain ⟨ad106, e106, hx106_0⟩ := Kd.at_int HR2.out x8_1 p106 q106
        cases e106
        replace hx106_0 := (HB.out.cell (World.block_lt_of_cell? w _ hx106_0)).trans hx106_0
        replace p106 := eq_true p106
        replace q106 := eq_true q106
        go_wp2_with (first | (go_at_call 100; (with_reducible refine (cupolaref01_In.calls k1 _ _ (rd_L5 t102 x8_1) (rd l2 x8_1) true _ ?side1 ?side2 A13.out).mono ?_); (case side1 => repeat (first | exact (by repeat (first | (with_reducible exact HR105_0.out) | (with_reducible refine Kd.C_alloc ?_ _) | (with_reducible refine Kd.C_drewN ?_ _) | (with_reducible refine Kd.C_drew ?_) | exact HR105_0.out)) | (with_reducible refine Kd.C_alloc ?_ _) | (with_reducible refine Kd.C_drewN ?_ _) | (with_reducible refine Kd.C_drew ?_))); (case side2 => exact HC105_0.out); rintro e w' ⟨rfl, ⟨nd, rfl⟩⟩; (try first | exact ⟨rfl, _, World.drewN_drewN _ _ _⟩ | exact ⟨rfl, _, Eq.trans (World.drewN_drewN _ _ _) (congrArg (World.drewN _) (Nat.add_assoc _ _ _))⟩)))
        repeat (go_quiet (first | (go_at_call 100; (with_reducible refine (cupolaref01_In.calls k1 _ _ (rd_L5 t102 x8_1) (rd l2 x8_1) true _ ?side1 ?side2 A13.out).mono ?_); (case side1 => repeat (first | exact (by repeat (first | (with_reducible exact HR105_0.out) | (with_reducible refine Kd.C_alloc ?_ _) | (with_reducible refine Kd.C_drewN ?_ _) | (with_reducible refine Kd.C_drew ?_) | exact HR105_0.out)) | (with_reducible refine Kd.C_alloc ?_ _) | (with_reducible refine Kd.C_drewN ?_ _) | (with_reducible refine Kd.C_drew ?_))); (case side2 => exact HC105_0.out); rintro e w' ⟨rfl, ⟨nd, rfl⟩⟩; (try first | exact ⟨rfl, _, World.drewN_drewN _ _ _⟩ | exact ⟨rfl, _, Eq.trans (World.drewN_drewN _ _ _) (congrArg (World.drewN _) (Nat.add_assoc _ _ _))⟩))); try go_wp2_with (first | (go_at_call 100; (with_reducible refine (cupolaref01_In.calls k1 _ _ (rd_L5 t102 x8_1) (rd l2 x8_1) true _ ?side1 ?side2 A13.out).mono ?_); (case side1 => repeat (first | exact (by repeat (first | (with_reducible exact HR105_0.out) | (with_reducible refine Kd.C_alloc ?_ _) | (with_reducible refine Kd.C_drewN ?_ _) | (with_reducible refine Kd.C_drew ?_) | exact HR105_0.out)) | (with_reducible refine Kd.C_alloc ?_ _) | (with_reducible refine Kd.C_drewN ?_ _) | (with_reducible refine Kd.C_drew ?_))); (case side2 => exact HC105_0.out); rintro e w' ⟨rfl, ⟨nd, rfl⟩⟩; (try first | exact ⟨rfl, _, World.drewN_drewN _ _ _⟩ | exact ⟨rfl, _, Eq.trans (World.drewN_drewN _ _ _) (congrArg (World.drewN _) (Nat.add_assoc _ _ _))⟩))))
        go_roundg k1
        case measure => have := HK1.out; omega
        case rel => exact ⟨(wrap64 (x8_1 + 1)), (by first | rfl | (simp; done) | (simp [*]; done)), H', ⟨by have := HK1.out; omega⟩, ⟨by (with_reducible repeat (first | apply Kd.S_alloc | apply Kd.S_drewN | apply Kd.S_drew)); exact HO_7.out⟩, ⟨kp9 BK101.out⟩, ⟨bp9 HB.out⟩⟩
       ·replace c14 := Bool.eq_false_iff.mpr c14
        subst c14
        rw [if_neg (show ¬ (false = true) by decide)] at H
        obtain rfl := Option.some.inj H
        have p105 : 0 ≤ (x8_1 : Int) := of_decide_eq_true (by first | (with_reducible assumption) | assumption)
        have q105 : x8_1 < (t102.length : Int) := of_decide_eq_true (by first | (with_reducible assumption) | assumption)
        obtain ⟨ad105, A105_0, c105_0, e105, hx105_0, hl105_0, hi105_0⟩ := at_L5 (Kd.S_reads' HO_7.out).2.2 x8_1 p105 q105
        cases e105
        obtain ⟨ce105, hce105, hMe105, hcc105⟩ := Kd.S_get HO_7.out [] x8_1 p105 (by first | exact q105 | exact of_decide_eq_true (by first | (with_reducible assumption) | assumption) | (have e_ := (Kd.S_reads' HO_7.out).1; omega))
        obtain ⟨ve105_0, rfl, ge105_0⟩ := hMe105
        have hv105_0 := hcc105 0 _ rfl
        rw [Nat.add_zero, show ((Kd.slice 3 (Kd.int .i64))).sz = 1 from rfl, Nat.mul_one] at hv105_0
        replace hv105_0 := Option.some.inj (hv105_0.symm.trans hx105_0)
        rw [hv105_0] at ge105_0
        have HL105_0 := Aside0.mk (show Kd.R (Kd.int .i64) 3 _ _ _ _ (rd_L5 t102 x8_1) from ge105_0)
        clear hv105_0 ge105_0
        clear hcc105 hce105
        have HR105_0 := Aside0.mk hi105_0
        have HC105_0 := Aside0.mk hl105_0
        clear hi105_0 hl105_0
        replace p105 := eq_true p105
        replace q105 := eq_true q105
        have p106 : 0 ≤ (x8_1 : Int) := of_decide_eq_true (by first | (with_reducible assumption) | assumption)
        have q106 : x8_1 < (l2.length : Int) := of_decide_eq_true (by first | (with_reducible assumption) | assumption)
        obtain ⟨ad106, e106, hx106_0⟩ := Kd.at_int HR2.out x8_1 p106 q106
        cases e106
        replace hx106_0 := (HB.out.cell (World.block_lt_of_cell? w _ hx106_0)).trans hx106_0
        replace p106 := eq_true p106
        replace q106 := eq_true q106
        go_wp2_with (first | (go_at_call 100; (with_reducible refine (cupolaref01_In.calls k1 _ _ (rd_L5 t102 x8_1) (rd l2 x8_1) false _ ?side1 ?side2 A13.out).mono ?_); (case side1 => repeat (first | exact (by repeat (first | (with_reducible exact HR105_0.out) | (with_reducible refine Kd.C_alloc ?_ _) | (with_reducible refine Kd.C_drewN ?_ _) | (with_reducible refine Kd.C_drew ?_) | exact HR105_0.out)) | (with_reducible refine Kd.C_alloc ?_ _) | (with_reducible refine Kd.C_drewN ?_ _) | (with_reducible refine Kd.C_drew ?_))); (case side2 => exact HC105_0.out); rintro e w' ⟨rfl, ⟨nd, rfl⟩⟩; (try first | exact ⟨rfl, _, World.drewN_drewN _ _ _⟩ | exact ⟨rfl, _, Eq.trans (World.drewN_drewN _ _ _) (congrArg (World.drewN _) (Nat.add_assoc _ _ _))⟩)))
        repeat (go_quiet (first | (go_at_call 100; (with_reducible refine (cupolaref01_In.calls k1 _ _ (rd_L5 t102 x8_1) (rd l2 x8_1) false _ ?side1 ?side2 A13.out).mono ?_); (case side1 => repeat (first | exact (by repeat (first | (with_reducible exact HR105_0.out) | (with_reducible refine Kd.C_alloc ?_ _) | (with_reducible refine Kd.C_drewN ?_ _) | (with_reducible refine Kd.C_drew ?_) | exact HR105_0.out)) | (with_reducible refine Kd.C_alloc ?_ _) | (with_reducible refine Kd.C_drewN ?_ _) | (with_reducible refine Kd.C_drew ?_))); (case side2 => exact HC105_0.out); rintro e w' ⟨rfl, ⟨nd, rfl⟩⟩; (try first | exact ⟨rfl, _, World.drewN_drewN _ _ _⟩ | exact ⟨rfl, _, Eq.trans (World.drewN_drewN _ _ _) (congrArg (World.drewN _) (Nat.add_assoc _ _ _))⟩))); try go_wp2_with (first | (go_at_call 100; (with_reducible refine (cupolaref01_In.calls k1 _ _ (rd_L5 t102 x8_1) (rd l2 x8_1) false _ ?side1 ?side2 A13.out).mono ?_); (case side1 => repeat (first | exact (by repeat (first | (with_reducible exact HR105_0.out) | (with_reducible refine Kd.C_alloc ?_ _) | (with_reducible refine Kd.C_drewN ?_ _) | (with_reducible refine Kd.C_drew ?_) | exact HR105_0.out)) | (with_reducible refine Kd.C_alloc ?_ _) | (with_reducible refine Kd.C_drewN ?_ _) | (with_reducible refine Kd.C_drew ?_))); (case side2 => exact HC105_0.out); rintro e w' ⟨rfl, ⟨nd, rfl⟩⟩; (try first | exact ⟨rfl, _, World.drewN_drewN _ _ _⟩ | exact ⟨rfl, _, Eq.trans (World.drewN_drewN _ _ _) (congrArg (World.drewN _) (Nat.add_assoc _ _ _))⟩))))
        go_ret
        exact ⟨by first | rfl | (simp [errW_none, errW_some] <;> rfl) | (simp [*, errW_none, errW_some] <;> rfl), bp9 HB.out⟩
      ·rw [if_neg c12] at H
       exact absurd H (by simp)
     ·rw [if_neg c11] at H
      exact absurd H (by simp)
    ·rw [if_neg c10] at H
     have c10b0 : decide (x8_1 < (t102.length : Int)) = false := decide_eq_false c10
     clear c10
     obtain rfl := Option.some.inj H
     go_wp2
     repeat (go_quiet (fail); try go_wp2)
     go_ret
     exact ⟨by first | rfl | (simp [errW_none, errW_some] <;> rfl) | (simp [*, errW_none, errW_some] <;> rfl), bp9 HB.out⟩
 ·rw [if_neg c5] at H
  have c5b0 : ((l2.length : Int) == (t102.length : Int)) = false := beq_eq_false_iff_ne.mpr c5
  have c5b1 : ((l2.length : Int) != (t102.length : Int)) = true := bne_iff_ne.mpr c5
  have c5b2 : (l2.length == t102.length) = false := by first | simpa using c5 | (simp at c5 ⊢; omega)
  obtain rfl := Option.some.inj H
  go_enter Try.func68, Try.ntmps68
  go_wp2_with (first | ((with_reducible refine gate_dst (N := 3) rfl ?_); refine box_event ?hg (N := 3) ?hd (cs := #[.slice A0_0 l0_0.length c0_0, .slice A0_1 l0_1.length c0_1, .slice A0_2 l0_2.length c0_2, .slice A0_3 l0_3.length c0_3, .slice A0_4 l0_4.length c0_4, .slice A0_5 l0_5.length c0_5, .slice A0_6 l0_6.length c0_6]) (t := 76) ?hr ?_; (case hd => rfl); (case hg => rfl); (case hr => first | (go_simp; done) | (go_simp; rfl)); intro gb101 hg w15 hbox hb; have n0_ := Aside0.mk (below_step (bp9 HB.out) hb); have n1_ := Aside0.mk (hbox); have n2_ := Aside0.mk ((by rw [hg]; exact (below_size (bp9 HB.out)) : w.heap.size ≤ gb101)); have n3_ := n2_; clear HB; have HB := n0_; have BK101 := n1_; have GW101 := n2_; have GE101 := n3_; clear n0_ n1_ n2_ n3_; clear hb hbox hg; obtain ⟨hcz16_0, hcz16_1, hcz16_2, hcz16_3, hcz16_4, hcz16_5, hcz16_6, hfz16_0, hfz16_1, hfz16_2, hfz16_3, hfz16_4, hfz16_5, hfz16_6⟩ := cz7 BK101.out) | (go_at_call 125; (with_reducible refine (cupolaref11_Choices.calls k _ _ l0_0 _ _ l0_1 _ _ l0_2 _ _ l0_3 _ _ l0_4 _ _ l0_5 _ _ l0_6 _ _ l1 t102 _ ?side1 ?side2 ?side3 ?side4 ?side5 ?side6 ?side7 ?side8 ?side9 ?side10 ?side11 ?side12 ?side13 ?side14 ?side15 ?side16 A4.out).mono ?_); (case side1 => exact cp9 HR0_0.out HB.out); (case side2 => exact HC0_0.out); (case side3 => exact cp9 HR0_1.out HB.out); (case side4 => exact HC0_1.out); (case side5 => exact cp9 HR0_2.out HB.out); (case side6 => exact HC0_2.out); (case side7 => exact cp9 HR0_3.out HB.out); (case side8 => exact HC0_3.out); (case side9 => exact cp9 HR0_4.out HB.out); (case side10 => exact HC0_4.out); (case side11 => exact cp9 HR0_5.out HB.out); (case side12 => exact HC0_5.out); (case side13 => exact cp9 HR0_6.out HB.out); (case side14 => exact HC0_6.out); (case side15 => exact cp9 HR1.out HB.out); (case side16 => exact HC1.out); rintro e w17 ⟨v103, rfl, ho0, hb⟩; have n0_ := Aside0.mk (Kd.S_lower ho0 (below_size (bp9 HB.out))); have n1_ := Aside0.mk (blk_below (kp9 BK101.out) hb); have n2_ := Aside0.mk (below_step (bp9 HB.out) hb); clear BK101; clear HB; have HO104 := n0_; have BK101 := n1_; have HB := n2_; clear n0_ n1_ n2_; (try clear hb); (try clear hb2); (try clear hk); (try clear hi); (try clear ho0); obtain ⟨Ao18, co18, eo18⟩ := Kd.S_slice HO104.out; subst eo18))
  repeat (go_quiet (first | ((with_reducible refine gate_dst (N := 3) rfl ?_); refine box_event ?hg (N := 3) ?hd (cs := #[.slice A0_0 l0_0.length c0_0, .slice A0_1 l0_1.length c0_1, .slice A0_2 l0_2.length c0_2, .slice A0_3 l0_3.length c0_3, .slice A0_4 l0_4.length c0_4, .slice A0_5 l0_5.length c0_5, .slice A0_6 l0_6.length c0_6]) (t := 76) ?hr ?_; (case hd => rfl); (case hg => rfl); (case hr => first | (go_simp; done) | (go_simp; rfl)); intro gb101 hg w15 hbox hb; have n0_ := Aside0.mk (below_step (bp9 HB.out) hb); have n1_ := Aside0.mk (hbox); have n2_ := Aside0.mk ((by rw [hg]; exact (below_size (bp9 HB.out)) : w.heap.size ≤ gb101)); have n3_ := n2_; clear HB; have HB := n0_; have BK101 := n1_; have GW101 := n2_; have GE101 := n3_; clear n0_ n1_ n2_ n3_; clear hb hbox hg; obtain ⟨hcz16_0, hcz16_1, hcz16_2, hcz16_3, hcz16_4, hcz16_5, hcz16_6, hfz16_0, hfz16_1, hfz16_2, hfz16_3, hfz16_4, hfz16_5, hfz16_6⟩ := cz7 BK101.out) | (go_at_call 125; (with_reducible refine (cupolaref11_Choices.calls k _ _ l0_0 _ _ l0_1 _ _ l0_2 _ _ l0_3 _ _ l0_4 _ _ l0_5 _ _ l0_6 _ _ l1 t102 _ ?side1 ?side2 ?side3 ?side4 ?side5 ?side6 ?side7 ?side8 ?side9 ?side10 ?side11 ?side12 ?side13 ?side14 ?side15 ?side16 A4.out).mono ?_); (case side1 => exact cp9 HR0_0.out HB.out); (case side2 => exact HC0_0.out); (case side3 => exact cp9 HR0_1.out HB.out); (case side4 => exact HC0_1.out); (case side5 => exact cp9 HR0_2.out HB.out); (case side6 => exact HC0_2.out); (case side7 => exact cp9 HR0_3.out HB.out); (case side8 => exact HC0_3.out); (case side9 => exact cp9 HR0_4.out HB.out); (case side10 => exact HC0_4.out); (case side11 => exact cp9 HR0_5.out HB.out); (case side12 => exact HC0_5.out); (case side13 => exact cp9 HR0_6.out HB.out); (case side14 => exact HC0_6.out); (case side15 => exact cp9 HR1.out HB.out); (case side16 => exact HC1.out); rintro e w17 ⟨v103, rfl, ho0, hb⟩; have n0_ := Aside0.mk (Kd.S_lower ho0 (below_size (bp9 HB.out))); have n1_ := Aside0.mk (blk_below (kp9 BK101.out) hb); have n2_ := Aside0.mk (below_step (bp9 HB.out) hb); clear BK101; clear HB; have HO104 := n0_; have BK101 := n1_; have HB := n2_; clear n0_ n1_ n2_; (try clear hb); (try clear hb2); (try clear hk); (try clear hi); (try clear ho0); obtain ⟨Ao18, co18, eo18⟩ := Kd.S_slice HO104.out; subst eo18)); try go_wp2_with (first | ((with_reducible refine gate_dst (N := 3) rfl ?_); refine box_event ?hg (N := 3) ?hd (cs := #[.slice A0_0 l0_0.length c0_0, .slice A0_1 l0_1.length c0_1, .slice A0_2 l0_2.length c0_2, .slice A0_3 l0_3.length c0_3, .slice A0_4 l0_4.length c0_4, .slice A0_5 l0_5.length c0_5, .slice A0_6 l0_6.length c0_6]) (t := 76) ?hr ?_; (case hd => rfl); (case hg => rfl); (case hr => first | (go_simp; done) | (go_simp; rfl)); intro gb101 hg w15 hbox hb; have n0_ := Aside0.mk (below_step (bp9 HB.out) hb); have n1_ := Aside0.mk (hbox); have n2_ := Aside0.mk ((by rw [hg]; exact (below_size (bp9 HB.out)) : w.heap.size ≤ gb101)); have n3_ := n2_; clear HB; have HB := n0_; have BK101 := n1_; have GW101 := n2_; have GE101 := n3_; clear n0_ n1_ n2_ n3_; clear hb hbox hg; obtain ⟨hcz16_0, hcz16_1, hcz16_2, hcz16_3, hcz16_4, hcz16_5, hcz16_6, hfz16_0, hfz16_1, hfz16_2, hfz16_3, hfz16_4, hfz16_5, hfz16_6⟩ := cz7 BK101.out) | (go_at_call 125; (with_reducible refine (cupolaref11_Choices.calls k _ _ l0_0 _ _ l0_1 _ _ l0_2 _ _ l0_3 _ _ l0_4 _ _ l0_5 _ _ l0_6 _ _ l1 t102 _ ?side1 ?side2 ?side3 ?side4 ?side5 ?side6 ?side7 ?side8 ?side9 ?side10 ?side11 ?side12 ?side13 ?side14 ?side15 ?side16 A4.out).mono ?_); (case side1 => exact cp9 HR0_0.out HB.out); (case side2 => exact HC0_0.out); (case side3 => exact cp9 HR0_1.out HB.out); (case side4 => exact HC0_1.out); (case side5 => exact cp9 HR0_2.out HB.out); (case side6 => exact HC0_2.out); (case side7 => exact cp9 HR0_3.out HB.out); (case side8 => exact HC0_3.out); (case side9 => exact cp9 HR0_4.out HB.out); (case side10 => exact HC0_4.out); (case side11 => exact cp9 HR0_5.out HB.out); (case side12 => exact HC0_5.out); (case side13 => exact cp9 HR0_6.out HB.out); (case side14 => exact HC0_6.out); (case side15 => exact cp9 HR1.out HB.out); (case side16 => exact HC1.out); rintro e w17 ⟨v103, rfl, ho0, hb⟩; have n0_ := Aside0.mk (Kd.S_lower ho0 (below_size (bp9 HB.out))); have n1_ := Aside0.mk (blk_below (kp9 BK101.out) hb); have n2_ := Aside0.mk (below_step (bp9 HB.out) hb); clear BK101; clear HB; have HO104 := n0_; have BK101 := n1_; have HB := n2_; clear n0_ n1_ n2_; (try clear hb); (try clear hb2); (try clear hk); (try clear hi); (try clear ho0); obtain ⟨Ao18, co18, eo18⟩ := Kd.S_slice HO104.out; subst eo18)))
  go_ret
  exact ⟨by first | rfl | (simp [errW_none, errW_some] <;> rfl) | (simp [*, errW_none, errW_some] <;> rfl), bp9 HB.out⟩

end Go.Proofs.Ytbamkkdikeedoaa.G
