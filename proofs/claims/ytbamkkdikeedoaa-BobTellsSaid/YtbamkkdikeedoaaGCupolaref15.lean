-- Written by drive.py, a program of this seat's session, out of the translation.
import Derived.Test.YtbamkkdikeedoaaG0
import Derived.Test.YtbamkkdikeedoaaGCupolaref05
import Derived.Test.YtbamkkdikeedoaaGCupolaref14
import Derived.Test.YtbamkkdikeedoaaHandCz
namespace Go.Proofs.Ytbamkkdikeedoaa.G
open Go.RowKit Go.Proofs.YtbamkkdikeedoaaW.PrintWords Go.Proofs.YtbamkkdikeedoaaW.PrintLast Go.Proofs.YtbamkkdikeedoaaW.PrintMore
set_option maxHeartbeats 8000000
set_option maxRecDepth 100000
set_option linter.unusedVariables false
set_option linter.unusedSimpArgs false
def cupolaref15_releases.f (a0_0 : Int) (a0_1 : Int) (a0_2 : Int) (a0_3 : Int) (a0_4 : Bool) (a0_5 : Bool) (a0_6 : Bool) : Option (Bool) := if a0_1 = 2 then (some a0_5) else (some false)
theorem cupolaref15_releases.calls (a0_0 : Int) (a0_1 : Int) (a0_2 : Int) (a0_3 : Int) (a0_4 : Bool) (a0_5 : Bool) (a0_6 : Bool) (r : Bool) (w : World) (h : cupolaref15_releases.f a0_0 a0_1 a0_2 a0_3 a0_4 a0_5 a0_6 = some r) :
  Calls Try.prog 144 #[.agg #[.int .i64 a0_0, .int .i64 a0_1, .int .i64 a0_2, .int .i64 a0_3, .bool a0_4, .bool a0_5, .bool a0_6]] w fun e w' => e = .returned (.bool r) ∧ Below w.heap.size w w' := by
 have hu26 := Try.underlying26
 have HB := a9_ (Below.refl w.heap.size w)
 have H : (if a0_1 = 2 then (some a0_5) else (some false)) = some r := h
 clear h
 by_cases c2 : a0_1 = 2
 ·rw [if_pos c2] at H
  have c2b0 : (a0_1 == 2) = true := beq_iff_eq.mpr c2
  have c2b1 : (a0_1 != 2) = false := bne_eq_false_iff_eq.mpr c2
  clear c2
  obtain rfl := Option.some.inj H
  go_enter Try.func144, Try.ntmps144
  go_wp2_with (first | ((with_reducible refine gate_dst (N := 1) rfl ?_); refine box9 (N := 1) (cs := #[.int .i64 a0_0, .int .i64 a0_1, .int .i64 a0_2, .int .i64 a0_3, .bool a0_4, .bool a0_5, .bool a0_6]) (t := 26) ?_; intro gb101 hg w3 hbox hb; have n0_ := a9_ (below_step (bp9 HB.out) hb); have n1_ := a9_ (hbox); have n2_ := a9_ ((by rw [hg]; exact (below_size (bp9 HB.out)) : w.heap.size ≤ gb101)); have n3_ := n2_; clear HB; have HB := n0_; have BK101 := n1_; have GW101 := n2_; have GE101 := n3_; clear n0_ n1_ n2_ n3_; clear hb hbox hg; obtain ⟨hcz4_0, hcz4_1, hcz4_2, hcz4_3, hcz4_4, hcz4_5, hcz4_6, hfz4_0, hfz4_1, hfz4_2, hfz4_3, hfz4_4, hfz4_5, hfz4_6⟩ := cz7 BK101.out))
  go_ret
  exact ⟨by first | rfl | (simp [errW_none, errW_some] <;> rfl) | (simp [*, errW_none, errW_some] <;> rfl), bp9 HB.out⟩
 ·rw [if_neg c2] at H
  have c2b0 : (a0_1 == 2) = false := beq_eq_false_iff_ne.mpr c2
  have c2b1 : (a0_1 != 2) = true := bne_iff_ne.mpr c2
  obtain rfl := Option.some.inj H
  go_enter Try.func144, Try.ntmps144
  go_wp2_with (first | ((with_reducible refine gate_dst (N := 1) rfl ?_); refine box9 (N := 1) (cs := #[.int .i64 a0_0, .int .i64 a0_1, .int .i64 a0_2, .int .i64 a0_3, .bool a0_4, .bool a0_5, .bool a0_6]) (t := 26) ?_; intro gb101 hg w5 hbox hb; have n0_ := a9_ (below_step (bp9 HB.out) hb); have n1_ := a9_ (hbox); have n2_ := a9_ ((by rw [hg]; exact (below_size (bp9 HB.out)) : w.heap.size ≤ gb101)); have n3_ := n2_; clear HB; have HB := n0_; have BK101 := n1_; have GW101 := n2_; have GE101 := n3_; clear n0_ n1_ n2_ n3_; clear hb hbox hg; obtain ⟨hcz6_0, hcz6_1, hcz6_2, hcz6_3, hcz6_4, hcz6_5, hcz6_6, hfz6_0, hfz6_1, hfz6_2, hfz6_3, hfz6_4, hfz6_5, hfz6_6⟩ := cz7 BK101.out))
  go_ret
  exact ⟨by first | rfl | (simp [errW_none, errW_some] <;> rfl) | (simp [*, errW_none, errW_some] <;> rfl), bp9 HB.out⟩
def cupolaref15_acquires.f (a0_0 : Int) (a0_1 : Int) (a0_2 : Int) (a0_3 : Int) (a0_4 : Bool) (a0_5 : Bool) (a0_6 : Bool) : Option (Bool) := if a0_1 = 1 then (some a0_4) else (some false)
theorem cupolaref15_acquires.calls (a0_0 : Int) (a0_1 : Int) (a0_2 : Int) (a0_3 : Int) (a0_4 : Bool) (a0_5 : Bool) (a0_6 : Bool) (r : Bool) (w : World) (h : cupolaref15_acquires.f a0_0 a0_1 a0_2 a0_3 a0_4 a0_5 a0_6 = some r) :
  Calls Try.prog 145 #[.agg #[.int .i64 a0_0, .int .i64 a0_1, .int .i64 a0_2, .int .i64 a0_3, .bool a0_4, .bool a0_5, .bool a0_6]] w fun e w' => e = .returned (.bool r) ∧ Below w.heap.size w w' := by
 have hu26 := Try.underlying26
 have HB := a9_ (Below.refl w.heap.size w)
 have H : (if a0_1 = 1 then (some a0_4) else (some false)) = some r := h
 clear h
 by_cases c2 : a0_1 = 1
 ·rw [if_pos c2] at H
  have c2b0 : (a0_1 == 1) = true := beq_iff_eq.mpr c2
  have c2b1 : (a0_1 != 1) = false := bne_eq_false_iff_eq.mpr c2
  clear c2
  obtain rfl := Option.some.inj H
  go_enter Try.func145, Try.ntmps145
  go_wp2_with (first | ((with_reducible refine gate_dst (N := 1) rfl ?_); refine box9 (N := 1) (cs := #[.int .i64 a0_0, .int .i64 a0_1, .int .i64 a0_2, .int .i64 a0_3, .bool a0_4, .bool a0_5, .bool a0_6]) (t := 26) ?_; intro gb101 hg w3 hbox hb; have n0_ := a9_ (below_step (bp9 HB.out) hb); have n1_ := a9_ (hbox); have n2_ := a9_ ((by rw [hg]; exact (below_size (bp9 HB.out)) : w.heap.size ≤ gb101)); have n3_ := n2_; clear HB; have HB := n0_; have BK101 := n1_; have GW101 := n2_; have GE101 := n3_; clear n0_ n1_ n2_ n3_; clear hb hbox hg; obtain ⟨hcz4_0, hcz4_1, hcz4_2, hcz4_3, hcz4_4, hcz4_5, hcz4_6, hfz4_0, hfz4_1, hfz4_2, hfz4_3, hfz4_4, hfz4_5, hfz4_6⟩ := cz7 BK101.out))
  go_ret
  exact ⟨by first | rfl | (simp [errW_none, errW_some] <;> rfl) | (simp [*, errW_none, errW_some] <;> rfl), bp9 HB.out⟩
 ·rw [if_neg c2] at H
  have c2b0 : (a0_1 == 1) = false := beq_eq_false_iff_ne.mpr c2
  have c2b1 : (a0_1 != 1) = true := bne_iff_ne.mpr c2
  obtain rfl := Option.some.inj H
  go_enter Try.func145, Try.ntmps145
  go_wp2_with (first | ((with_reducible refine gate_dst (N := 1) rfl ?_); refine box9 (N := 1) (cs := #[.int .i64 a0_0, .int .i64 a0_1, .int .i64 a0_2, .int .i64 a0_3, .bool a0_4, .bool a0_5, .bool a0_6]) (t := 26) ?_; intro gb101 hg w5 hbox hb; have n0_ := a9_ (below_step (bp9 HB.out) hb); have n1_ := a9_ (hbox); have n2_ := a9_ ((by rw [hg]; exact (below_size (bp9 HB.out)) : w.heap.size ≤ gb101)); have n3_ := n2_; clear HB; have HB := n0_; have BK101 := n1_; have GW101 := n2_; have GE101 := n3_; clear n0_ n1_ n2_ n3_; clear hb hbox hg; obtain ⟨hcz6_0, hcz6_1, hcz6_2, hcz6_3, hcz6_4, hcz6_5, hcz6_6, hfz6_0, hfz6_1, hfz6_2, hfz6_3, hfz6_4, hfz6_5, hfz6_6⟩ := cz7 BK101.out))
  go_ret
  exact ⟨by first | rfl | (simp [errW_none, errW_some] <;> rfl) | (simp [*, errW_none, errW_some] <;> rfl), bp9 HB.out⟩
mutual
def cupolaref15_over.l0 : Nat → Int → Int → Int → Int → Int → List (S26) → List Int → List Int → List Int → List Int → List Int → List (List Int) → Option (Bool)
 | 0, _, _, _, _, _, _, _, _, _, _, _, _ => none
 | k + 1, x1, x2, x7, x8, x9, x102000, x102001, x102002, x102003, x102004, x102005, x102006 => if x9 < (x102000.length : Int) then ((cupolaref05_Has.f k x102001 x1 x9).bind fun t104 => (if t104 = true then ((cupolaref05_Has.f k x102001 x9 x2).bind fun t105 => (cupolaref15_over.j1 k x1 x2 x7 x8 x9 (!t105) x102000 x102001 x102002 x102003 x102004 x102005 x102006)) else (cupolaref15_over.j1 k x1 x2 x7 x8 x9 true x102000 x102001 x102002 x102003 x102004 x102005 x102006))) else (some false)
def cupolaref15_over.j1 : Nat → Int → Int → Int → Int → Int → Bool → List (S26) → List Int → List Int → List Int → List Int → List Int → List (List Int) → Option (Bool)
 | 0, _, _, _, _, _, _, _, _, _, _, _, _, _ => none
 | k + 1, x1, x2, x7, x8, x9, x43, x102000, x102001, x102002, x102003, x102004, x102005, x102006 => if x43 = true then (cupolaref15_over.l0 k x1 x2 x7 x8 (wrap64 (x9 + 1)) x102000 x102001 x102002 x102003 x102004 x102005 x102006) else (if 0 ≤ x9 then (if x9 < (x102000.length : Int) then (if ((rd_T26 x102000 x9).f1) = 3 then (some true) else (if ((rd_T26 x102000 x9).f1) = 4 then (if x7 = 1 then (some true) else (if ((rd_T26 x102000 x9).f1) = 5 then (if x7 = 2 then (if x8 = 2 then (some true) else (cupolaref15_over.l0 k x1 x2 x7 x8 (wrap64 (x9 + 1)) x102000 x102001 x102002 x102003 x102004 x102005 x102006)) else (cupolaref15_over.l0 k x1 x2 x7 x8 (wrap64 (x9 + 1)) x102000 x102001 x102002 x102003 x102004 x102005 x102006)) else (cupolaref15_over.l0 k x1 x2 x7 x8 (wrap64 (x9 + 1)) x102000 x102001 x102002 x102003 x102004 x102005 x102006))) else (if ((rd_T26 x102000 x9).f1) = 5 then (if x7 = 2 then (if x8 = 2 then (some true) else (cupolaref15_over.l0 k x1 x2 x7 x8 (wrap64 (x9 + 1)) x102000 x102001 x102002 x102003 x102004 x102005 x102006)) else (cupolaref15_over.l0 k x1 x2 x7 x8 (wrap64 (x9 + 1)) x102000 x102001 x102002 x102003 x102004 x102005 x102006)) else (cupolaref15_over.l0 k x1 x2 x7 x8 (wrap64 (x9 + 1)) x102000 x102001 x102002 x102003 x102004 x102005 x102006)))) else (none)) else (none))
end
def cupolaref15_over.f (k : Nat) (l0_0 : List (S26)) (l0_1 : List Int) (l0_2 : List Int) (l0_3 : List Int) (l0_4 : List Int) (l0_5 : List Int) (l0_6 : List (List Int)) (a1 : Int) (a2 : Int) : Option (Bool) := if 0 ≤ a1 then (if a1 < (l0_0.length : Int) then (if 0 ≤ a2 then (if a2 < (l0_0.length : Int) then (cupolaref15_over.l0 k a1 a2 ((rd_T26 l0_0 a1).f1) ((rd_T26 l0_0 a2).f1) 0 l0_0 l0_1 l0_2 l0_3 l0_4 l0_5 l0_6) else (none)) else (none)) else (none)) else (none)
theorem cupolaref15_over.calls (k : Nat) (A0_0 : Option Addr) (c0_0 : Nat) (l0_0 : List (S26)) (A0_1 : Option Addr) (c0_1 : Nat) (l0_1 : List Int) (A0_2 : Option Addr) (c0_2 : Nat) (l0_2 : List Int) (A0_3 : Option Addr) (c0_3 : Nat) (l0_3 : List Int) (A0_4 : Option Addr) (c0_4 : Nat) (l0_4 : List Int) (A0_5 : Option Addr) (c0_5 : Nat) (l0_5 : List Int) (A0_6 : Option Addr) (c0_6 : Nat) (l0_6 : List (List Int)) (a1 : Int) (a2 : Int) (r : Bool) (w : World) (hr0_0 : Kd.C k26 w A0_0 l0_0.length l0_0) (hc0_0 : l0_0.length ≤ c0_0) (hr0_1 : Kd.C (Kd.int .u32) w A0_1 l0_1.length l0_1) (hc0_1 : l0_1.length ≤ c0_1) (hr0_2 : Kd.C (Kd.int .u32) w A0_2 l0_2.length l0_2) (hc0_2 : l0_2.length ≤ c0_2) (hr0_3 : Kd.C (Kd.int .u32) w A0_3 l0_3.length l0_3) (hc0_3 : l0_3.length ≤ c0_3) (hr0_4 : Kd.C (Kd.int .u32) w A0_4 l0_4.length l0_4) (hc0_4 : l0_4.length ≤ c0_4) (hr0_5 : Kd.C (Kd.int .u32) w A0_5 l0_5.length l0_5) (hc0_5 : l0_5.length ≤ c0_5) (hr0_6 : Kd.C (Kd.slice 2 (Kd.int .i64)) w A0_6 l0_6.length l0_6) (hc0_6 : l0_6.length ≤ c0_6) (h : cupolaref15_over.f k l0_0 l0_1 l0_2 l0_3 l0_4 l0_5 l0_6 a1 a2 = some r) :
  Calls Try.prog 156 #[.agg #[.slice A0_0 l0_0.length c0_0, .slice A0_1 l0_1.length c0_1, .slice A0_2 l0_2.length c0_2, .slice A0_3 l0_3.length c0_3, .slice A0_4 l0_4.length c0_4, .slice A0_5 l0_5.length c0_5, .slice A0_6 l0_6.length c0_6], .int .i64 a1, .int .i64 a2] w fun e w' => e = .returned (.bool r) ∧ Below w.heap.size w w' := by
 have hu76 := Try.underlying76
 have HR0_0 := a9_ hr0_0
 have HC0_0 := a9_ hc0_0
 clear hr0_0 hc0_0
 have HR0_1 := a9_ hr0_1
 have HC0_1 := a9_ hc0_1
 clear hr0_1 hc0_1
 have HR0_2 := a9_ hr0_2
 have HC0_2 := a9_ hc0_2
 clear hr0_2 hc0_2
 have HR0_3 := a9_ hr0_3
 have HC0_3 := a9_ hc0_3
 clear hr0_3 hc0_3
 have HR0_4 := a9_ hr0_4
 have HC0_4 := a9_ hc0_4
 clear hr0_4 hc0_4
 have HR0_5 := a9_ hr0_5
 have HC0_5 := a9_ hc0_5
 clear hr0_5 hc0_5
 have HR0_6 := a9_ hr0_6
 have HC0_6 := a9_ hc0_6
 clear hr0_6 hc0_6
 have HB := a9_ (Below.refl w.heap.size w)
 have H : (if 0 ≤ a1 then (if a1 < (l0_0.length : Int) then (if 0 ≤ a2 then (if a2 < (l0_0.length : Int) then (cupolaref15_over.l0 k a1 a2 ((rd_T26 l0_0 a1).f1) ((rd_T26 l0_0 a2).f1) 0 l0_0 l0_1 l0_2 l0_3 l0_4 l0_5 l0_6) else (none)) else (none)) else (none)) else (none)) = some r := h
 clear h
 by_cases c4 : 0 ≤ a1
 ·rw [if_pos c4] at H
  have c4b0 : decide (0 ≤ a1) = true := decide_eq_true c4
  clear c4
  by_cases c5 : a1 < (l0_0.length : Int)
  ·rw [if_pos c5] at H
   have c5b0 : decide (a1 < (l0_0.length : Int)) = true := decide_eq_true c5
   clear c5
   by_cases c6 : 0 ≤ a2
   ·rw [if_pos c6] at H
    have c6b0 : decide (0 ≤ a2) = true := decide_eq_true c6
    clear c6
    by_cases c7 : a2 < (l0_0.length : Int)
    ·rw [if_pos c7] at H
     have c7b0 : decide (a2 < (l0_0.length : Int)) = true := decide_eq_true c7
     clear c7
     have H' := a9_ H
     clear H
     go_enter Try.func156, Try.ntmps156
     go_wp2_with (first | ((with_reducible refine gate_dst (N := 3) rfl ?_); refine box9 (N := 3) (cs := #[.slice A0_0 l0_0.length c0_0, .slice A0_1 l0_1.length c0_1, .slice A0_2 l0_2.length c0_2, .slice A0_3 l0_3.length c0_3, .slice A0_4 l0_4.length c0_4, .slice A0_5 l0_5.length c0_5, .slice A0_6 l0_6.length c0_6]) (t := 76) ?_; intro gb101 hg w8 hbox hb; have n0_ := a9_ (below_step (bp9 HB.out) hb); have n1_ := a9_ (hbox); have n2_ := a9_ ((by rw [hg]; exact (below_size (bp9 HB.out)) : w.heap.size ≤ gb101)); have n3_ := n2_; clear HB; have HB := n0_; have BK101 := n1_; have GW101 := n2_; have GE101 := n3_; clear n0_ n1_ n2_ n3_; clear hb hbox hg; obtain ⟨hcz9_0, hcz9_1, hcz9_2, hcz9_3, hcz9_4, hcz9_5, hcz9_6, hfz9_0, hfz9_1, hfz9_2, hfz9_3, hfz9_4, hfz9_5, hfz9_6⟩ := cz7 BK101.out; have p102 : 0 ≤ (a1 : Int) := of_decide_eq_true (by first | (with_reducible assumption) | assumption); have q102 : a1 < (l0_0.length : Int) := of_decide_eq_true (by first | (with_reducible assumption) | assumption); obtain ⟨ad102, e102, hx102_0, hx102_1, hx102_2, hx102_3, hx102_4, hx102_5, hx102_6⟩ := at_T26 HR0_0.out a1 p102 q102; cases e102; replace hx102_0 := hb9 HB.out hx102_0; replace hx102_1 := hb9 HB.out hx102_1; replace hx102_2 := hb9 HB.out hx102_2; replace hx102_3 := hb9 HB.out hx102_3; replace hx102_4 := hb9 HB.out hx102_4; replace hx102_5 := hb9 HB.out hx102_5; replace hx102_6 := hb9 HB.out hx102_6; replace p102 := eq_true p102; replace q102 := eq_true q102; have p103 : 0 ≤ (a2 : Int) := of_decide_eq_true (by first | (with_reducible assumption) | assumption); have q103 : a2 < (l0_0.length : Int) := of_decide_eq_true (by first | (with_reducible assumption) | assumption); obtain ⟨ad103, e103, hx103_0, hx103_1, hx103_2, hx103_3, hx103_4, hx103_5, hx103_6⟩ := at_T26 HR0_0.out a2 p103 q103; obtain rfl : ad102 = ad103 := (by injection e103); replace hx103_0 := hb9 HB.out hx103_0; replace hx103_1 := hb9 HB.out hx103_1; replace hx103_2 := hb9 HB.out hx103_2; replace hx103_3 := hb9 HB.out hx103_3; replace hx103_4 := hb9 HB.out hx103_4; replace hx103_5 := hb9 HB.out hx103_5; replace hx103_6 := hb9 HB.out hx103_6; replace p103 := eq_true p103; replace q103 := eq_true q103))
     go_loopg [9] k (fun kq v9 w' => ∃ (x9_1 : Int), v9 = .int .i64 x9_1 ∧ Aside0 (cupolaref15_over.l0 kq a1 a2 ((rd_T26 l0_0 a1).f1) ((rd_T26 l0_0 a2).f1) x9_1 l0_0 l0_1 l0_2 l0_3 l0_4 l0_5 l0_6 = some r) ∧ Aside0 (kq ≤ k) ∧ Aside0 (w'.heap[gb101]? = some (.cells #[(.slice (some ad102) l0_0.length c0_0), (.slice A0_1 l0_1.length c0_1), (.slice A0_2 l0_2.length c0_2), (.slice A0_3 l0_3.length c0_3), (.slice A0_4 l0_4.length c0_4), (.slice A0_5 l0_5.length c0_5), (.slice A0_6 l0_6.length c0_6)] 76 (0, 0))) ∧ Aside0 (Below w.heap.size w w'))
     case atStart => exact ⟨(0), rs9, H', ⟨Nat.le_refl _⟩, ⟨kp9 BK101.out⟩, ⟨bp9 HB.out⟩⟩
     case round =>
      clear H'
      try clear c1
      try clear p1
      try clear q1
      try clear hx1
      try clear p2
      try clear c4
      try clear c4b0
      try clear c5
      try clear c5b0
      try clear c6
      try clear c6b0
      try clear c7
      try clear c7b0
      try clear hcz9_0 hcz9_1 hcz9_2 hcz9_3 hcz9_4 hcz9_5 hcz9_6
      try clear hfz9_0 hfz9_1 hfz9_2 hfz9_3 hfz9_4 hfz9_5 hfz9_6
      try clear hx102_0
      try clear hx102_1
      try clear hx102_2
      try clear hx102_3
      try clear hx102_4
      try clear hx102_5
      try clear hx102_6
      try clear hx103_0
      try clear hx103_1
      try clear hx103_2
      try clear hx103_3
      try clear hx103_4
      try clear hx103_5
      try clear hx103_6
      try clear p102
      try clear p103
      try clear q102
      try clear q103
      obtain ⟨x9_1, rfl, HA, HK1, BK101, HB⟩ := hrel
      cases gk with
      | zero => exact absurd HA.out (by simp [cupolaref15_over.l0])
      | succ k1 =>
       have H := HA.out
       clear HA
       simp only [cupolaref15_over.l0] at H
       by_cases c10 : x9_1 < (l0_0.length : Int)
       ·rw [if_pos c10] at H
        have c10b0 : decide (x9_1 < (l0_0.length : Int)) = true := decide_eq_true c10
        clear c10
        have HC11 := a9_ H
        clear H
        obtain ⟨hcz12_0, hcz12_1, hcz12_2, hcz12_3, hcz12_4, hcz12_5, hcz12_6, hfz12_0, hfz12_1, hfz12_2, hfz12_3, hfz12_4, hfz12_5, hfz12_6⟩ := cz7 BK101.out
        go_upto_region 6 with (fail)
        go_cut [43] (fun v43 wc => ∃ (kq : Nat) (x43_10 : Bool), v43 = .bool x43_10 ∧ Aside0 (cupolaref15_over.j1 kq a1 a2 ((rd_T26 l0_0 a1).f1) ((rd_T26 l0_0 a2).f1) x9_1 x43_10 l0_0 l0_1 l0_2 l0_3 l0_4 l0_5 l0_6 = some r) ∧ Aside0 (kq ≤ k1) ∧ Aside0 (wc.heap[gb101]? = some (.cells #[(.slice (some ad102) l0_0.length c0_0), (.slice A0_1 l0_1.length c0_1), (.slice A0_2 l0_2.length c0_2), (.slice A0_3 l0_3.length c0_3), (.slice A0_4 l0_4.length c0_4), (.slice A0_5 l0_5.length c0_5), (.slice A0_6 l0_6.length c0_6)] 76 (0, 0))) ∧ Aside0 (Below w.heap.size w wc))
        case first =>
         have H := HC11.out
         clear HC11
         replace H := Option.bind_eq_some_iff.mp H
         obtain ⟨t104, A130, H⟩ := H
         have A13 := a9_ A130
         clear A130
         by_cases c14 : t104 = true
         ·subst c14
          rw [if_pos rfl] at H
          replace H := Option.bind_eq_some_iff.mp H
          obtain ⟨t105, A150, H⟩ := H
          have A15 := a9_ A150
          clear A150
          have H' := a9_ H
          clear H
          obtain ⟨hcz16_0, hcz16_1, hcz16_2, hcz16_3, hcz16_4, hcz16_5, hcz16_6, hfz16_0, hfz16_1, hfz16_2, hfz16_3, hfz16_4, hfz16_5, hfz16_6⟩ := cz7 BK101.out
          go_wp2_with (first | ((with_reducible refine gate_callee (f := 43) rfl ?_); refine goesL9 (some 34) rfl rfl Try.func43 (by kernel_rfl) rfl #[.slice A0_1 l0_1.length c0_1, .int .i64 a1, .int .i64 x9_1] rfl ?_; (with_reducible refine (cupolaref05_Has.calls k1 _ _ l0_1 a1 x9_1 true _ ?side1 ?side2 A13.out).mono ?_); (case side1 => exact cp9 HR0_1.out HB.out); (case side2 => exact HC0_1.out); rintro e w' ⟨rfl, ⟨nd, rfl⟩⟩; refine ⟨_, rfl, ?_⟩) | (go_at_call 43; (with_reducible refine (cupolaref05_Has.calls k1 _ _ l0_1 x9_1 a2 t105 _ ?side1 ?side2 A15.out).mono ?_); (case side1 => repeat (first | exact (Kd.C_below HR0_1.out (bp9 HB.out)) | (with_reducible refine Kd.C_alloc ?_ _) | (with_reducible refine Kd.C_drewN ?_ _) | (with_reducible refine Kd.C_drew ?_))); (case side2 => exact HC0_1.out); rintro e w' ⟨rfl, ⟨nd, rfl⟩⟩))
          go_meet
          case rel => exact ⟨_, (!t105), rs9, H', ⟨by have := HK1.out; first | omega | exact Nat.le_refl _⟩, ⟨kp9 BK101.out⟩, ⟨bp9 HB.out⟩⟩
         ·replace c14 := Bool.eq_false_iff.mpr c14
          subst c14
          rw [if_neg (show ¬ (false = true) by decide)] at H
          have H' := a9_ H
          clear H
          obtain ⟨hcz17_0, hcz17_1, hcz17_2, hcz17_3, hcz17_4, hcz17_5, hcz17_6, hfz17_0, hfz17_1, hfz17_2, hfz17_3, hfz17_4, hfz17_5, hfz17_6⟩ := cz7 BK101.out
          go_wp2_with (first | ((with_reducible refine gate_callee (f := 43) rfl ?_); refine goesL9 (some 34) rfl rfl Try.func43 (by kernel_rfl) rfl #[.slice A0_1 l0_1.length c0_1, .int .i64 a1, .int .i64 x9_1] rfl ?_; (with_reducible refine (cupolaref05_Has.calls k1 _ _ l0_1 a1 x9_1 false _ ?side1 ?side2 A13.out).mono ?_); (case side1 => exact cp9 HR0_1.out HB.out); (case side2 => exact HC0_1.out); rintro e w' ⟨rfl, ⟨nd, rfl⟩⟩; refine ⟨_, rfl, ?_⟩))
          go_meet
          case rel => exact ⟨_, (true), rs9, H', ⟨by have := HK1.out; first | omega | exact Nat.le_refl _⟩, ⟨kp9 BK101.out⟩, ⟨bp9 HB.out⟩⟩
        case rest =>
         clear HC11
         try clear c1
         try clear p1
         try clear q1
         try clear hx1
         try clear p2
         try clear c4
         try clear c4b0
         try clear c5
         try clear c5b0
         try clear c6
         try clear c6b0
         try clear c7
         try clear c7b0
         try clear c10
         try clear c10b0
         try clear p10
         try clear q10
         try clear hx10
         try clear c14
         try clear c15
         try clear hcz12_0 hcz12_1 hcz12_2 hcz12_3 hcz12_4 hcz12_5 hcz12_6
         try clear hcz16_0 hcz16_1 hcz16_2 hcz16_3 hcz16_4 hcz16_5 hcz16_6
         try clear hcz17_0 hcz17_1 hcz17_2 hcz17_3 hcz17_4 hcz17_5 hcz17_6
         try clear hcz9_0 hcz9_1 hcz9_2 hcz9_3 hcz9_4 hcz9_5 hcz9_6
         try clear hfz12_0 hfz12_1 hfz12_2 hfz12_3 hfz12_4 hfz12_5 hfz12_6
         try clear hfz16_0 hfz16_1 hfz16_2 hfz16_3 hfz16_4 hfz16_5 hfz16_6
         try clear hfz17_0 hfz17_1 hfz17_2 hfz17_3 hfz17_4 hfz17_5 hfz17_6
         try clear hfz9_0 hfz9_1 hfz9_2 hfz9_3 hfz9_4 hfz9_5 hfz9_6
         try clear hx102_0
         try clear hx102_1
         try clear hx102_2
         try clear hx102_3
         try clear hx102_4
         try clear hx102_5
         try clear hx102_6
         try clear hx103_0
         try clear hx103_1
         try clear hx103_2
         try clear hx103_3
         try clear hx103_4
         try clear hx103_5
         try clear hx103_6
         try clear p1
         try clear p102
         try clear p103
         try clear p2
         try clear q1
         try clear q102
         try clear q103
         obtain ⟨kq, x43_10, rfl, HA, HJ10, BK101, HB⟩ := hcut
         cases kq with
         | zero => exact absurd HA.out (by simp [cupolaref15_over.j1])
         | succ kj10 =>
          have H := HA.out
          clear HA
          simp only [cupolaref15_over.j1] at H
          by_cases c18 : x43_10 = true
          ·subst c18
           rw [if_pos rfl] at H
           have H' := a9_ H
           clear H
           go_wp2
           go_roundg kj10
           case measure => have := HK1.out; have := HJ10.out; omega
           case rel => exact ⟨(wrap64 (x9_1 + 1)), rs9, H', ⟨by have := HK1.out; have := HJ10.out; omega⟩, ⟨kp9 BK101.out⟩, ⟨bp9 HB.out⟩⟩
          ·replace c18 := Bool.eq_false_iff.mpr c18
           subst c18
           rw [if_neg (show ¬ (false = true) by decide)] at H
           by_cases c19 : 0 ≤ x9_1
           ·rw [if_pos c19] at H
            have c19b0 : decide (0 ≤ x9_1) = true := decide_eq_true c19
            clear c19
            by_cases c20 : x9_1 < (l0_0.length : Int)
            ·rw [if_pos c20] at H
             have c20b0 : decide (x9_1 < (l0_0.length : Int)) = true := decide_eq_true c20
             clear c20
             by_cases c21 : ((rd_T26 l0_0 x9_1).f1) = 3
             ·rw [if_pos c21] at H
              have c21b0 : (((rd_T26 l0_0 x9_1).f1) == 3) = true := beq_iff_eq.mpr c21
              have c21b1 : (((rd_T26 l0_0 x9_1).f1) != 3) = false := bne_eq_false_iff_eq.mpr c21
              clear c21
              obtain rfl := Option.some.inj H
              obtain ⟨hcz22_0, hcz22_1, hcz22_2, hcz22_3, hcz22_4, hcz22_5, hcz22_6, hfz22_0, hfz22_1, hfz22_2, hfz22_3, hfz22_4, hfz22_5, hfz22_6⟩ := cz7 BK101.out
              have p106 : 0 ≤ (x9_1 : Int) := of_decide_eq_true (by first | (with_reducible assumption) | assumption)
              have q106 : x9_1 < (l0_0.length : Int) := of_decide_eq_true (by first | (with_reducible assumption) | assumption)
              obtain ⟨ad106, e106, hx106_0, hx106_1, hx106_2, hx106_3, hx106_4, hx106_5, hx106_6⟩ := at_T26 HR0_0.out x9_1 p106 q106
              obtain rfl : ad102 = ad106 := (by injection e106)
              replace hx106_0 := hb9 HB.out hx106_0
              replace hx106_1 := hb9 HB.out hx106_1
              replace hx106_2 := hb9 HB.out hx106_2
              replace hx106_3 := hb9 HB.out hx106_3
              replace hx106_4 := hb9 HB.out hx106_4
              replace hx106_5 := hb9 HB.out hx106_5
              replace hx106_6 := hb9 HB.out hx106_6
              replace p106 := eq_true p106
              replace q106 := eq_true q106
              go_wp2
              go_ret
              exact ⟨by first | rfl | (simp [errW_none, errW_some] <;> rfl) | (simp [*, errW_none, errW_some] <;> rfl), bp9 HB.out⟩
             ·rw [if_neg c21] at H
              have c21b0 : (((rd_T26 l0_0 x9_1).f1) == 3) = false := beq_eq_false_iff_ne.mpr c21
              have c21b1 : (((rd_T26 l0_0 x9_1).f1) != 3) = true := bne_iff_ne.mpr c21
              by_cases c23 : ((rd_T26 l0_0 x9_1).f1) = 4
              ·rw [if_pos c23] at H
               have c23b0 : (((rd_T26 l0_0 x9_1).f1) == 4) = true := beq_iff_eq.mpr c23
               have c23b1 : (((rd_T26 l0_0 x9_1).f1) != 4) = false := bne_eq_false_iff_eq.mpr c23
               clear c23
               by_cases c24 : ((rd_T26 l0_0 a1).f1) = 1
               ·rw [if_pos c24] at H
                have c24b0 : (((rd_T26 l0_0 a1).f1) == 1) = true := beq_iff_eq.mpr c24
                have c24b1 : (((rd_T26 l0_0 a1).f1) != 1) = false := bne_eq_false_iff_eq.mpr c24
                clear c24
                obtain rfl := Option.some.inj H
                obtain ⟨hcz25_0, hcz25_1, hcz25_2, hcz25_3, hcz25_4, hcz25_5, hcz25_6, hfz25_0, hfz25_1, hfz25_2, hfz25_3, hfz25_4, hfz25_5, hfz25_6⟩ := cz7 BK101.out
                have p106 : 0 ≤ (x9_1 : Int) := of_decide_eq_true (by first | (with_reducible assumption) | assumption)
                have q106 : x9_1 < (l0_0.length : Int) := of_decide_eq_true (by first | (with_reducible assumption) | assumption)
                obtain ⟨ad106, e106, hx106_0, hx106_1, hx106_2, hx106_3, hx106_4, hx106_5, hx106_6⟩ := at_T26 HR0_0.out x9_1 p106 q106
                obtain rfl : ad102 = ad106 := (by injection e106)
                replace hx106_0 := hb9 HB.out hx106_0
                replace hx106_1 := hb9 HB.out hx106_1
                replace hx106_2 := hb9 HB.out hx106_2
                replace hx106_3 := hb9 HB.out hx106_3
                replace hx106_4 := hb9 HB.out hx106_4
                replace hx106_5 := hb9 HB.out hx106_5
                replace hx106_6 := hb9 HB.out hx106_6
                replace p106 := eq_true p106
                replace q106 := eq_true q106
                go_wp2
                go_ret
                exact ⟨by first | rfl | (simp [errW_none, errW_some] <;> rfl) | (simp [*, errW_none, errW_some] <;> rfl), bp9 HB.out⟩
               ·rw [if_neg c24] at H
                have c24b0 : (((rd_T26 l0_0 a1).f1) == 1) = false := beq_eq_false_iff_ne.mpr c24
                have c24b1 : (((rd_T26 l0_0 a1).f1) != 1) = true := bne_iff_ne.mpr c24
                by_cases c26 : ((rd_T26 l0_0 x9_1).f1) = 5
                ·rw [if_pos c26] at H
                 have c26b0 : (((rd_T26 l0_0 x9_1).f1) == 5) = true := beq_iff_eq.mpr c26
                 have c26b1 : (((rd_T26 l0_0 x9_1).f1) != 5) = false := bne_eq_false_iff_eq.mpr c26
                 clear c26
                 by_cases c27 : ((rd_T26 l0_0 a1).f1) = 2
                 ·rw [if_pos c27] at H
                  have c27b0 : (((rd_T26 l0_0 a1).f1) == 2) = true := beq_iff_eq.mpr c27
                  have c27b1 : (((rd_T26 l0_0 a1).f1) != 2) = false := bne_eq_false_iff_eq.mpr c27
                  clear c27
                  by_cases c28 : ((rd_T26 l0_0 a2).f1) = 2
                  ·rw [if_pos c28] at H
                   have c28b0 : (((rd_T26 l0_0 a2).f1) == 2) = true := beq_iff_eq.mpr c28
                   have c28b1 : (((rd_T26 l0_0 a2).f1) != 2) = false := bne_eq_false_iff_eq.mpr c28
                   clear c28
                   obtain rfl := Option.some.inj H
                   obtain ⟨hcz29_0, hcz29_1, hcz29_2, hcz29_3, hcz29_4, hcz29_5, hcz29_6, hfz29_0, hfz29_1, hfz29_2, hfz29_3, hfz29_4, hfz29_5, hfz29_6⟩ := cz7 BK101.out
                   have p106 : 0 ≤ (x9_1 : Int) := of_decide_eq_true (by first | (with_reducible assumption) | assumption)
                   have q106 : x9_1 < (l0_0.length : Int) := of_decide_eq_true (by first | (with_reducible assumption) | assumption)
                   obtain ⟨ad106, e106, hx106_0, hx106_1, hx106_2, hx106_3, hx106_4, hx106_5, hx106_6⟩ := at_T26 HR0_0.out x9_1 p106 q106
                   obtain rfl : ad102 = ad106 := (by injection e106)
                   replace hx106_0 := hb9 HB.out hx106_0
                   replace hx106_1 := hb9 HB.out hx106_1
                   replace hx106_2 := hb9 HB.out hx106_2
                   replace hx106_3 := hb9 HB.out hx106_3
                   replace hx106_4 := hb9 HB.out hx106_4
                   replace hx106_5 := hb9 HB.out hx106_5
                   replace hx106_6 := hb9 HB.out hx106_6
                   replace p106 := eq_true p106
                   replace q106 := eq_true q106
                   go_wp2
                   go_ret
                   exact ⟨by first | rfl | (simp [errW_none, errW_some] <;> rfl) | (simp [*, errW_none, errW_some] <;> rfl), bp9 HB.out⟩
                  ·rw [if_neg c28] at H
                   have c28b0 : (((rd_T26 l0_0 a2).f1) == 2) = false := beq_eq_false_iff_ne.mpr c28
                   have c28b1 : (((rd_T26 l0_0 a2).f1) != 2) = true := bne_iff_ne.mpr c28
                   have H' := a9_ H
                   clear H
                   obtain ⟨hcz30_0, hcz30_1, hcz30_2, hcz30_3, hcz30_4, hcz30_5, hcz30_6, hfz30_0, hfz30_1, hfz30_2, hfz30_3, hfz30_4, hfz30_5, hfz30_6⟩ := cz7 BK101.out
                   have p106 : 0 ≤ (x9_1 : Int) := of_decide_eq_true (by first | (with_reducible assumption) | assumption)
                   have q106 : x9_1 < (l0_0.length : Int) := of_decide_eq_true (by first | (with_reducible assumption) | assumption)
                   obtain ⟨ad106, e106, hx106_0, hx106_1, hx106_2, hx106_3, hx106_4, hx106_5, hx106_6⟩ := at_T26 HR0_0.out x9_1 p106 q106
                   obtain rfl : ad102 = ad106 := (by injection e106)
                   replace hx106_0 := hb9 HB.out hx106_0
                   replace hx106_1 := hb9 HB.out hx106_1
                   replace hx106_2 := hb9 HB.out hx106_2
                   replace hx106_3 := hb9 HB.out hx106_3
                   replace hx106_4 := hb9 HB.out hx106_4
                   replace hx106_5 := hb9 HB.out hx106_5
                   replace hx106_6 := hb9 HB.out hx106_6
                   replace p106 := eq_true p106
                   replace q106 := eq_true q106
                   go_wp2
                   go_roundg kj10
                   case measure => have := HK1.out; have := HJ10.out; omega
                   case rel => exact ⟨(wrap64 (x9_1 + 1)), rs9, H', ⟨by have := HK1.out; have := HJ10.out; omega⟩, ⟨kp9 BK101.out⟩, ⟨bp9 HB.out⟩⟩
                 ·rw [if_neg c27] at H
                  have c27b0 : (((rd_T26 l0_0 a1).f1) == 2) = false := beq_eq_false_iff_ne.mpr c27
                  have c27b1 : (((rd_T26 l0_0 a1).f1) != 2) = true := bne_iff_ne.mpr c27
                  have H' := a9_ H
                  clear H
                  obtain ⟨hcz31_0, hcz31_1, hcz31_2, hcz31_3, hcz31_4, hcz31_5, hcz31_6, hfz31_0, hfz31_1, hfz31_2, hfz31_3, hfz31_4, hfz31_5, hfz31_6⟩ := cz7 BK101.out
                  have p106 : 0 ≤ (x9_1 : Int) := of_decide_eq_true (by first | (with_reducible assumption) | assumption)
                  have q106 : x9_1 < (l0_0.length : Int) := of_decide_eq_true (by first | (with_reducible assumption) | assumption)
                  obtain ⟨ad106, e106, hx106_0, hx106_1, hx106_2, hx106_3, hx106_4, hx106_5, hx106_6⟩ := at_T26 HR0_0.out x9_1 p106 q106
                  obtain rfl : ad102 = ad106 := (by injection e106)
                  replace hx106_0 := hb9 HB.out hx106_0
                  replace hx106_1 := hb9 HB.out hx106_1
                  replace hx106_2 := hb9 HB.out hx106_2
                  replace hx106_3 := hb9 HB.out hx106_3
                  replace hx106_4 := hb9 HB.out hx106_4
                  replace hx106_5 := hb9 HB.out hx106_5
                  replace hx106_6 := hb9 HB.out hx106_6
                  replace p106 := eq_true p106
                  replace q106 := eq_true q106
                  go_wp2
                  go_roundg kj10
                  case measure => have := HK1.out; have := HJ10.out; omega
                  case rel => exact ⟨(wrap64 (x9_1 + 1)), rs9, H', ⟨by have := HK1.out; have := HJ10.out; omega⟩, ⟨kp9 BK101.out⟩, ⟨bp9 HB.out⟩⟩
                ·rw [if_neg c26] at H
                 have c26b0 : (((rd_T26 l0_0 x9_1).f1) == 5) = false := beq_eq_false_iff_ne.mpr c26
                 have c26b1 : (((rd_T26 l0_0 x9_1).f1) != 5) = true := bne_iff_ne.mpr c26
                 have H' := a9_ H
                 clear H
                 obtain ⟨hcz32_0, hcz32_1, hcz32_2, hcz32_3, hcz32_4, hcz32_5, hcz32_6, hfz32_0, hfz32_1, hfz32_2, hfz32_3, hfz32_4, hfz32_5, hfz32_6⟩ := cz7 BK101.out
                 have p106 : 0 ≤ (x9_1 : Int) := of_decide_eq_true (by first | (with_reducible assumption) | assumption)
                 have q106 : x9_1 < (l0_0.length : Int) := of_decide_eq_true (by first | (with_reducible assumption) | assumption)
                 obtain ⟨ad106, e106, hx106_0, hx106_1, hx106_2, hx106_3, hx106_4, hx106_5, hx106_6⟩ := at_T26 HR0_0.out x9_1 p106 q106
                 obtain rfl : ad102 = ad106 := (by injection e106)
                 replace hx106_0 := hb9 HB.out hx106_0
                 replace hx106_1 := hb9 HB.out hx106_1
                 replace hx106_2 := hb9 HB.out hx106_2
                 replace hx106_3 := hb9 HB.out hx106_3
                 replace hx106_4 := hb9 HB.out hx106_4
                 replace hx106_5 := hb9 HB.out hx106_5
                 replace hx106_6 := hb9 HB.out hx106_6
                 replace p106 := eq_true p106
                 replace q106 := eq_true q106
                 go_wp2
                 go_roundg kj10
                 case measure => have := HK1.out; have := HJ10.out; omega
                 case rel => exact ⟨(wrap64 (x9_1 + 1)), rs9, H', ⟨by have := HK1.out; have := HJ10.out; omega⟩, ⟨kp9 BK101.out⟩, ⟨bp9 HB.out⟩⟩
              ·rw [if_neg c23] at H
               have c23b0 : (((rd_T26 l0_0 x9_1).f1) == 4) = false := beq_eq_false_iff_ne.mpr c23
               have c23b1 : (((rd_T26 l0_0 x9_1).f1) != 4) = true := bne_iff_ne.mpr c23
               by_cases c33 : ((rd_T26 l0_0 x9_1).f1) = 5
               ·rw [if_pos c33] at H
                have c33b0 : (((rd_T26 l0_0 x9_1).f1) == 5) = true := beq_iff_eq.mpr c33
                have c33b1 : (((rd_T26 l0_0 x9_1).f1) != 5) = false := bne_eq_false_iff_eq.mpr c33
                clear c33
                by_cases c34 : ((rd_T26 l0_0 a1).f1) = 2
                ·rw [if_pos c34] at H
                 have c34b0 : (((rd_T26 l0_0 a1).f1) == 2) = true := beq_iff_eq.mpr c34
                 have c34b1 : (((rd_T26 l0_0 a1).f1) != 2) = false := bne_eq_false_iff_eq.mpr c34
                 clear c34
                 by_cases c35 : ((rd_T26 l0_0 a2).f1) = 2
                 ·rw [if_pos c35] at H
                  have c35b0 : (((rd_T26 l0_0 a2).f1) == 2) = true := beq_iff_eq.mpr c35
                  have c35b1 : (((rd_T26 l0_0 a2).f1) != 2) = false := bne_eq_false_iff_eq.mpr c35
                  clear c35
                  obtain rfl := Option.some.inj H
                  obtain ⟨hcz36_0, hcz36_1, hcz36_2, hcz36_3, hcz36_4, hcz36_5, hcz36_6, hfz36_0, hfz36_1, hfz36_2, hfz36_3, hfz36_4, hfz36_5, hfz36_6⟩ := cz7 BK101.out
                  have p106 : 0 ≤ (x9_1 : Int) := of_decide_eq_true (by first | (with_reducible assumption) | assumption)
                  have q106 : x9_1 < (l0_0.length : Int) := of_decide_eq_true (by first | (with_reducible assumption) | assumption)
                  obtain ⟨ad106, e106, hx106_0, hx106_1, hx106_2, hx106_3, hx106_4, hx106_5, hx106_6⟩ := at_T26 HR0_0.out x9_1 p106 q106
                  obtain rfl : ad102 = ad106 := (by injection e106)
                  replace hx106_0 := hb9 HB.out hx106_0
                  replace hx106_1 := hb9 HB.out hx106_1
                  replace hx106_2 := hb9 HB.out hx106_2
                  replace hx106_3 := hb9 HB.out hx106_3
                  replace hx106_4 := hb9 HB.out hx106_4
                  replace hx106_5 := hb9 HB.out hx106_5
                  replace hx106_6 := hb9 HB.out hx106_6
                  replace p106 := eq_true p106
                  replace q106 := eq_true q106
                  go_wp2
                  go_ret
                  exact ⟨by first | rfl | (simp [errW_none, errW_some] <;> rfl) | (simp [*, errW_none, errW_some] <;> rfl), bp9 HB.out⟩
                 ·rw [if_neg c35] at H
                  have c35b0 : (((rd_T26 l0_0 a2).f1) == 2) = false := beq_eq_false_iff_ne.mpr c35
                  have c35b1 : (((rd_T26 l0_0 a2).f1) != 2) = true := bne_iff_ne.mpr c35
                  have H' := a9_ H
                  clear H
                  obtain ⟨hcz37_0, hcz37_1, hcz37_2, hcz37_3, hcz37_4, hcz37_5, hcz37_6, hfz37_0, hfz37_1, hfz37_2, hfz37_3, hfz37_4, hfz37_5, hfz37_6⟩ := cz7 BK101.out
                  have p106 : 0 ≤ (x9_1 : Int) := of_decide_eq_true (by first | (with_reducible assumption) | assumption)
                  have q106 : x9_1 < (l0_0.length : Int) := of_decide_eq_true (by first | (with_reducible assumption) | assumption)
                  obtain ⟨ad106, e106, hx106_0, hx106_1, hx106_2, hx106_3, hx106_4, hx106_5, hx106_6⟩ := at_T26 HR0_0.out x9_1 p106 q106
                  obtain rfl : ad102 = ad106 := (by injection e106)
                  replace hx106_0 := hb9 HB.out hx106_0
                  replace hx106_1 := hb9 HB.out hx106_1
                  replace hx106_2 := hb9 HB.out hx106_2
                  replace hx106_3 := hb9 HB.out hx106_3
                  replace hx106_4 := hb9 HB.out hx106_4
                  replace hx106_5 := hb9 HB.out hx106_5
                  replace hx106_6 := hb9 HB.out hx106_6
                  replace p106 := eq_true p106
                  replace q106 := eq_true q106
                  go_wp2
                  go_roundg kj10
                  case measure => have := HK1.out; have := HJ10.out; omega
                  case rel => exact ⟨(wrap64 (x9_1 + 1)), rs9, H', ⟨by have := HK1.out; have := HJ10.out; omega⟩, ⟨kp9 BK101.out⟩, ⟨bp9 HB.out⟩⟩
                ·rw [if_neg c34] at H
                 have c34b0 : (((rd_T26 l0_0 a1).f1) == 2) = false := beq_eq_false_iff_ne.mpr c34
                 have c34b1 : (((rd_T26 l0_0 a1).f1) != 2) = true := bne_iff_ne.mpr c34
                 have H' := a9_ H
                 clear H
                 obtain ⟨hcz38_0, hcz38_1, hcz38_2, hcz38_3, hcz38_4, hcz38_5, hcz38_6, hfz38_0, hfz38_1, hfz38_2, hfz38_3, hfz38_4, hfz38_5, hfz38_6⟩ := cz7 BK101.out
                 have p106 : 0 ≤ (x9_1 : Int) := of_decide_eq_true (by first | (with_reducible assumption) | assumption)
                 have q106 : x9_1 < (l0_0.length : Int) := of_decide_eq_true (by first | (with_reducible assumption) | assumption)
                 obtain ⟨ad106, e106, hx106_0, hx106_1, hx106_2, hx106_3, hx106_4, hx106_5, hx106_6⟩ := at_T26 HR0_0.out x9_1 p106 q106
                 obtain rfl : ad102 = ad106 := (by injection e106)
                 replace hx106_0 := hb9 HB.out hx106_0
                 replace hx106_1 := hb9 HB.out hx106_1
                 replace hx106_2 := hb9 HB.out hx106_2
                 replace hx106_3 := hb9 HB.out hx106_3
                 replace hx106_4 := hb9 HB.out hx106_4
                 replace hx106_5 := hb9 HB.out hx106_5
                 replace hx106_6 := hb9 HB.out hx106_6
                 replace p106 := eq_true p106
                 replace q106 := eq_true q106
                 go_wp2
                 go_roundg kj10
                 case measure => have := HK1.out; have := HJ10.out; omega
                 case rel => exact ⟨(wrap64 (x9_1 + 1)), rs9, H', ⟨by have := HK1.out; have := HJ10.out; omega⟩, ⟨kp9 BK101.out⟩, ⟨bp9 HB.out⟩⟩
               ·rw [if_neg c33] at H
                have c33b0 : (((rd_T26 l0_0 x9_1).f1) == 5) = false := beq_eq_false_iff_ne.mpr c33
                have c33b1 : (((rd_T26 l0_0 x9_1).f1) != 5) = true := bne_iff_ne.mpr c33
                have H' := a9_ H
                clear H
                obtain ⟨hcz39_0, hcz39_1, hcz39_2, hcz39_3, hcz39_4, hcz39_5, hcz39_6, hfz39_0, hfz39_1, hfz39_2, hfz39_3, hfz39_4, hfz39_5, hfz39_6⟩ := cz7 BK101.out
                have p106 : 0 ≤ (x9_1 : Int) := of_decide_eq_true (by first | (with_reducible assumption) | assumption)
                have q106 : x9_1 < (l0_0.length : Int) := of_decide_eq_true (by first | (with_reducible assumption) | assumption)
                obtain ⟨ad106, e106, hx106_0, hx106_1, hx106_2, hx106_3, hx106_4, hx106_5, hx106_6⟩ := at_T26 HR0_0.out x9_1 p106 q106
                obtain rfl : ad102 = ad106 := (by injection e106)
                replace hx106_0 := hb9 HB.out hx106_0
                replace hx106_1 := hb9 HB.out hx106_1
                replace hx106_2 := hb9 HB.out hx106_2
                replace hx106_3 := hb9 HB.out hx106_3
                replace hx106_4 := hb9 HB.out hx106_4
                replace hx106_5 := hb9 HB.out hx106_5
                replace hx106_6 := hb9 HB.out hx106_6
                replace p106 := eq_true p106
                replace q106 := eq_true q106
                go_wp2
                go_roundg kj10
                case measure => have := HK1.out; have := HJ10.out; omega
                case rel => exact ⟨(wrap64 (x9_1 + 1)), rs9, H', ⟨by have := HK1.out; have := HJ10.out; omega⟩, ⟨kp9 BK101.out⟩, ⟨bp9 HB.out⟩⟩
            ·rw [if_neg c20] at H
             exact absurd H (by simp)
           ·rw [if_neg c19] at H
            exact absurd H (by simp)
       ·rw [if_neg c10] at H
        have c10b0 : decide (x9_1 < (l0_0.length : Int)) = false := decide_eq_false c10
        clear c10
        obtain rfl := Option.some.inj H
        obtain ⟨hcz40_0, hcz40_1, hcz40_2, hcz40_3, hcz40_4, hcz40_5, hcz40_6, hfz40_0, hfz40_1, hfz40_2, hfz40_3, hfz40_4, hfz40_5, hfz40_6⟩ := cz7 BK101.out
        go_wp2
        go_ret
        exact ⟨by first | rfl | (simp [errW_none, errW_some] <;> rfl) | (simp [*, errW_none, errW_some] <;> rfl), bp9 HB.out⟩
    ·rw [if_neg c7] at H
     exact absurd H (by simp)
   ·rw [if_neg c6] at H
    exact absurd H (by simp)
  ·rw [if_neg c5] at H
   exact absurd H (by simp)
 ·rw [if_neg c4] at H
  exact absurd H (by simp)
mutual
def cupolaref15_of.l0 : Nat → Int → List (S46) → Int → Int → List (S26) → List Int → List Int → List Int → List Int → List Int → List (List Int) → Option (List Int)
 | 0, _, _, _, _, _, _, _, _, _, _, _ => none
 | k + 1, x1, x5, x6, x7, x102000, x102001, x102002, x102003, x102004, x102005, x102006 => if x7 < x6 then (cupolaref15_of.l1 k x1 x5 x6 x7 0 x102000 x102001 x102002 x102003 x102004 x102005 x102006) else ((cupolaref05_Made.f k x6 x5).bind fun t102 => (some t102))
def cupolaref15_of.l1 : Nat → Int → List (S46) → Int → Int → Int → List (S26) → List Int → List Int → List Int → List Int → List Int → List (List Int) → Option (List Int)
 | 0, _, _, _, _, _, _, _, _, _, _, _, _ => none
 | k + 1, x1, x5, x6, x7, x8, x102000, x102001, x102002, x102003, x102004, x102005, x102006 => if x8 < x6 then ((cupolaref14_Mem.f x102000 x102001 x102002 x102003 x102004 x102005 x102006 x7).bind fun t105 => (if t105 = true then ((cupolaref14_Mem.f x102000 x102001 x102002 x102003 x102004 x102005 x102006 x8).bind fun t106 => (cupolaref15_of.j2 k x1 x5 x6 x7 x8 (!t106) x102000 x102001 x102002 x102003 x102004 x102005 x102006)) else (cupolaref15_of.j2 k x1 x5 x6 x7 x8 true x102000 x102001 x102002 x102003 x102004 x102005 x102006))) else (cupolaref15_of.l0 k x1 x5 x6 (wrap64 (x7 + 1)) x102000 x102001 x102002 x102003 x102004 x102005 x102006)
def cupolaref15_of.j2 : Nat → Int → List (S46) → Int → Int → Int → Bool → List (S26) → List Int → List Int → List Int → List Int → List Int → List (List Int) → Option (List Int)
 | 0, _, _, _, _, _, _, _, _, _, _, _, _, _ => none
 | k + 1, x1, x5, x6, x7, x8, x34, x102000, x102001, x102002, x102003, x102004, x102005, x102006 => if x34 = true then (cupolaref15_of.l1 k x1 x5 x6 x7 (wrap64 (x8 + 1)) x102000 x102001 x102002 x102003 x102004 x102005 x102006) else (if 0 ≤ x7 then (if x7 < (x102000.length : Int) then (if 0 ≤ x8 then (if x8 < (x102000.length : Int) then ((cupolaref15_acquires.f ((rd_T26 x102000 x7).f0) ((rd_T26 x102000 x7).f1) ((rd_T26 x102000 x7).f2) ((rd_T26 x102000 x7).f3) ((rd_T26 x102000 x7).f4) ((rd_T26 x102000 x7).f5) ((rd_T26 x102000 x7).f6)).bind fun t111 => (if t111 = true then (cupolaref15_of.j3 k x1 x5 x6 x7 x8 true x102000 x102001 x102002 x102003 x102004 x102005 x102006) else ((cupolaref15_releases.f ((rd_T26 x102000 x8).f0) ((rd_T26 x102000 x8).f1) ((rd_T26 x102000 x8).f2) ((rd_T26 x102000 x8).f3) ((rd_T26 x102000 x8).f4) ((rd_T26 x102000 x8).f5) ((rd_T26 x102000 x8).f6)).bind fun t112 => (if t112 = true then (cupolaref15_of.j3 k x1 x5 x6 x7 x8 true x102000 x102001 x102002 x102003 x102004 x102005 x102006) else ((cupolaref15_releases.f ((rd_T26 x102000 x7).f0) ((rd_T26 x102000 x7).f1) ((rd_T26 x102000 x7).f2) ((rd_T26 x102000 x7).f3) ((rd_T26 x102000 x7).f4) ((rd_T26 x102000 x7).f5) ((rd_T26 x102000 x7).f6)).bind fun t113 => (if t113 = true then ((cupolaref15_acquires.f ((rd_T26 x102000 x8).f0) ((rd_T26 x102000 x8).f1) ((rd_T26 x102000 x8).f2) ((rd_T26 x102000 x8).f3) ((rd_T26 x102000 x8).f4) ((rd_T26 x102000 x8).f5) ((rd_T26 x102000 x8).f6)).bind fun t114 => (cupolaref15_of.j3 k x1 x5 x6 x7 x8 t114 x102000 x102001 x102002 x102003 x102004 x102005 x102006)) else (cupolaref15_of.j3 k x1 x5 x6 x7 x8 false x102000 x102001 x102002 x102003 x102004 x102005 x102006))))))) else (none)) else (none)) else (none)) else (none))
def cupolaref15_of.j3 : Nat → Int → List (S46) → Int → Int → Int → Bool → List (S26) → List Int → List Int → List Int → List Int → List Int → List (List Int) → Option (List Int)
 | 0, _, _, _, _, _, _, _, _, _, _, _, _, _ => none
 | k + 1, x1, x5, x6, x7, x8, x11, x102000, x102001, x102002, x102003, x102004, x102005, x102006 => if x1 = 1 then ((cupolaref15_over.f k x102000 x102001 x102002 x102003 x102004 x102005 x102006 x7 x8).bind fun t115 => (if t115 = true then (if x5.length < 8796093022208 then (cupolaref15_of.l1 k x1 (x5 ++ [(⟨x7, x8⟩ : S46)]) x6 x7 (wrap64 (x8 + 1)) x102000 x102001 x102002 x102003 x102004 x102005 x102006) else (none)) else (if x1 = 2 then (if x11 = true then ((cupolaref05_Has.f k x102001 x7 x8).bind fun t119 => (if t119 = true then (if x5.length < 8796093022208 then (cupolaref15_of.l1 k x1 (x5 ++ [(⟨x7, x8⟩ : S46)]) x6 x7 (wrap64 (x8 + 1)) x102000 x102001 x102002 x102003 x102004 x102005 x102006) else (none)) else (cupolaref15_of.l1 k x1 x5 x6 x7 (wrap64 (x8 + 1)) x102000 x102001 x102002 x102003 x102004 x102005 x102006))) else (cupolaref15_of.l1 k x1 x5 x6 x7 (wrap64 (x8 + 1)) x102000 x102001 x102002 x102003 x102004 x102005 x102006)) else (cupolaref15_of.l1 k x1 x5 x6 x7 (wrap64 (x8 + 1)) x102000 x102001 x102002 x102003 x102004 x102005 x102006)))) else (if x1 = 2 then (if x11 = true then ((cupolaref05_Has.f k x102001 x7 x8).bind fun t123 => (if t123 = true then (if x5.length < 8796093022208 then (cupolaref15_of.l1 k x1 (x5 ++ [(⟨x7, x8⟩ : S46)]) x6 x7 (wrap64 (x8 + 1)) x102000 x102001 x102002 x102003 x102004 x102005 x102006) else (none)) else (cupolaref15_of.l1 k x1 x5 x6 x7 (wrap64 (x8 + 1)) x102000 x102001 x102002 x102003 x102004 x102005 x102006))) else (cupolaref15_of.l1 k x1 x5 x6 x7 (wrap64 (x8 + 1)) x102000 x102001 x102002 x102003 x102004 x102005 x102006)) else (cupolaref15_of.l1 k x1 x5 x6 x7 (wrap64 (x8 + 1)) x102000 x102001 x102002 x102003 x102004 x102005 x102006))
end
def cupolaref15_of.f (k : Nat) (l0_0 : List (S26)) (l0_1 : List Int) (l0_2 : List Int) (l0_3 : List Int) (l0_4 : List Int) (l0_5 : List Int) (l0_6 : List (List Int)) (a1 : Int) : Option (List Int) := cupolaref15_of.l0 k a1 ([] : List (S46)) (l0_0.length : Int) 0 l0_0 l0_1 l0_2 l0_3 l0_4 l0_5 l0_6
theorem cupolaref15_of.calls (k : Nat) (A0_0 : Option Addr) (c0_0 : Nat) (l0_0 : List (S26)) (A0_1 : Option Addr) (c0_1 : Nat) (l0_1 : List Int) (A0_2 : Option Addr) (c0_2 : Nat) (l0_2 : List Int) (A0_3 : Option Addr) (c0_3 : Nat) (l0_3 : List Int) (A0_4 : Option Addr) (c0_4 : Nat) (l0_4 : List Int) (A0_5 : Option Addr) (c0_5 : Nat) (l0_5 : List Int) (A0_6 : Option Addr) (c0_6 : Nat) (l0_6 : List (List Int)) (a1 : Int) (r : List Int) (w : World) (hr0_0 : Kd.C k26 w A0_0 l0_0.length l0_0) (hc0_0 : l0_0.length ≤ c0_0) (hr0_1 : Kd.C (Kd.int .u32) w A0_1 l0_1.length l0_1) (hc0_1 : l0_1.length ≤ c0_1) (hr0_2 : Kd.C (Kd.int .u32) w A0_2 l0_2.length l0_2) (hc0_2 : l0_2.length ≤ c0_2) (hr0_3 : Kd.C (Kd.int .u32) w A0_3 l0_3.length l0_3) (hc0_3 : l0_3.length ≤ c0_3) (hr0_4 : Kd.C (Kd.int .u32) w A0_4 l0_4.length l0_4) (hc0_4 : l0_4.length ≤ c0_4) (hr0_5 : Kd.C (Kd.int .u32) w A0_5 l0_5.length l0_5) (hc0_5 : l0_5.length ≤ c0_5) (hr0_6 : Kd.C (Kd.slice 2 (Kd.int .i64)) w A0_6 l0_6.length l0_6) (hc0_6 : l0_6.length ≤ c0_6) (h : cupolaref15_of.f k l0_0 l0_1 l0_2 l0_3 l0_4 l0_5 l0_6 a1 = some r) :
  Calls Try.prog 143 #[.agg #[.slice A0_0 l0_0.length c0_0, .slice A0_1 l0_1.length c0_1, .slice A0_2 l0_2.length c0_2, .slice A0_3 l0_3.length c0_3, .slice A0_4 l0_4.length c0_4, .slice A0_5 l0_5.length c0_5, .slice A0_6 l0_6.length c0_6], .int .i64 a1] w fun e w' => ∃ v0_ : Value, e = .returned (v0_) ∧ Kd.R (Kd.int .u32) 52 w' w.heap.size (fun _ => True) v0_ r ∧ Below w.heap.size w w' := by
 have hu76 := Try.underlying76
 have hu26 := Try.underlying26
 have hu46 := Try.underlying46
 have HR0_0 := a9_ hr0_0
 have HC0_0 := a9_ hc0_0
 clear hr0_0 hc0_0
 have HR0_1 := a9_ hr0_1
 have HC0_1 := a9_ hc0_1
 clear hr0_1 hc0_1
 have HR0_2 := a9_ hr0_2
 have HC0_2 := a9_ hc0_2
 clear hr0_2 hc0_2
 have HR0_3 := a9_ hr0_3
 have HC0_3 := a9_ hc0_3
 clear hr0_3 hc0_3
 have HR0_4 := a9_ hr0_4
 have HC0_4 := a9_ hc0_4
 clear hr0_4 hc0_4
 have HR0_5 := a9_ hr0_5
 have HC0_5 := a9_ hc0_5
 clear hr0_5 hc0_5
 have HR0_6 := a9_ hr0_6
 have HC0_6 := a9_ hc0_6
 clear hr0_6 hc0_6
 have HB := a9_ (Below.refl w.heap.size w)
 have H : (cupolaref15_of.l0 k a1 ([] : List (S46)) (l0_0.length : Int) 0 l0_0 l0_1 l0_2 l0_3 l0_4 l0_5 l0_6) = some r := h
 clear h
 have H' := a9_ H
 clear H
 go_enter Try.func143, Try.ntmps143
 go_wp2_with (first | ((with_reducible refine gate_dst (N := 2) rfl ?_); refine box9 (N := 2) (cs := #[.slice A0_0 l0_0.length c0_0, .slice A0_1 l0_1.length c0_1, .slice A0_2 l0_2.length c0_2, .slice A0_3 l0_3.length c0_3, .slice A0_4 l0_4.length c0_4, .slice A0_5 l0_5.length c0_5, .slice A0_6 l0_6.length c0_6]) (t := 76) ?_; intro gb101 hg w3 hbox hb; have n0_ := a9_ (below_step (bp9 HB.out) hb); have n1_ := a9_ (hbox); have n2_ := a9_ ((by rw [hg]; exact (below_size (bp9 HB.out)) : w.heap.size ≤ gb101)); have n3_ := n2_; clear HB; have HB := n0_; have BK101 := n1_; have GW101 := n2_; have GE101 := n3_; clear n0_ n1_ n2_ n3_; clear hb hbox hg; obtain ⟨hcz4_0, hcz4_1, hcz4_2, hcz4_3, hcz4_4, hcz4_5, hcz4_6, hfz4_0, hfz4_1, hfz4_2, hfz4_3, hfz4_4, hfz4_5, hfz4_6⟩ := cz7 BK101.out))
 go_loopg [5, 7] k (fun kq v5 v7 w' => ∃ (x5_1 : List (S46)) (x7_1 : Int), v7 = .int .i64 x7_1 ∧ Aside0 (cupolaref15_of.l0 kq a1 x5_1 (l0_0.length : Int) x7_1 l0_0 l0_1 l0_2 l0_3 l0_4 l0_5 l0_6 = some r) ∧ Aside0 (kq ≤ k) ∧ Aside0 (Kd.R k46 46 w' w.heap.size (fun _ => True) v5 x5_1) ∧ Aside0 (w'.heap[gb101]? = some (.cells #[(.slice A0_0 l0_0.length c0_0), (.slice A0_1 l0_1.length c0_1), (.slice A0_2 l0_2.length c0_2), (.slice A0_3 l0_3.length c0_3), (.slice A0_4 l0_4.length c0_4), (.slice A0_5 l0_5.length c0_5), (.slice A0_6 l0_6.length c0_6)] 76 (0, 0))) ∧ Aside0 (Below w.heap.size w w'))
 case atStart => exact ⟨(([] : List (S46))), (0), rs9, H', ⟨Nat.le_refl _⟩, ⟨by first | exact Kd.R_nil _ _ _ _ _ | exact Kd.N_nil _ _ _ _ _ | exact Kd.V_nil _ _ _ _ _ | exact Kd.Q_nil _ _ _ _ _ | exact Kd.S_nil _ _ _ _ _⟩, ⟨kp9 BK101.out⟩, ⟨bp9 HB.out⟩⟩
 case round =>
  clear H'
  try clear c1
  try clear p2
  try clear hcz4_0 hcz4_1 hcz4_2 hcz4_3 hcz4_4 hcz4_5 hcz4_6
  try clear hfz4_0 hfz4_1 hfz4_2 hfz4_3 hfz4_4 hfz4_5 hfz4_6
  obtain ⟨x5_1, x7_1, rfl, HA, HK1, HO_5, BK101, HB⟩ := hrel
  cases gk with
  | zero => exact absurd HA.out (by simp [cupolaref15_of.l0])
  | succ k1 =>
   have H := HA.out
   clear HA
   simp only [cupolaref15_of.l0] at H
   by_cases c5 : x7_1 < (l0_0.length : Int)
   ·rw [if_pos c5] at H
    have c5b0 : decide (x7_1 < (l0_0.length : Int)) = true := decide_eq_true c5
    clear c5
    have H' := a9_ H
    clear H
    go_wp2
    go_loopg [5, 8] k1 (fun kq v5 v8 w' => ∃ (x5_2 : List (S46)) (x8_2 : Int), v8 = .int .i64 x8_2 ∧ Aside0 (cupolaref15_of.l1 kq a1 x5_2 (l0_0.length : Int) x7_1 x8_2 l0_0 l0_1 l0_2 l0_3 l0_4 l0_5 l0_6 = some r) ∧ Aside0 (kq ≤ k1) ∧ Aside0 (Kd.R k46 46 w' w.heap.size (fun _ => True) v5 x5_2) ∧ Aside0 (w'.heap[gb101]? = some (.cells #[(.slice A0_0 l0_0.length c0_0), (.slice A0_1 l0_1.length c0_1), (.slice A0_2 l0_2.length c0_2), (.slice A0_3 l0_3.length c0_3), (.slice A0_4 l0_4.length c0_4), (.slice A0_5 l0_5.length c0_5), (.slice A0_6 l0_6.length c0_6)] 76 (0, 0))) ∧ Aside0 (Below w.heap.size w w'))
    case atStart => exact ⟨(x5_1), (0), rs9, H', ⟨Nat.le_refl _⟩, ⟨rp9 HO_5.out⟩, ⟨kp9 BK101.out⟩, ⟨bp9 HB.out⟩⟩
    case round =>
     clear H'
     try clear c1
     try clear p2
     try clear c5
     try clear c5b0
     try clear hcz4_0 hcz4_1 hcz4_2 hcz4_3 hcz4_4 hcz4_5 hcz4_6
     try clear hfz4_0 hfz4_1 hfz4_2 hfz4_3 hfz4_4 hfz4_5 hfz4_6
     try clear p2
     obtain ⟨x5_2, x8_2, rfl, HA, HK2, HO_5, BK101, HB⟩ := hrel
     cases gk with
     | zero => exact absurd HA.out (by simp [cupolaref15_of.l1])
     | succ k2 =>
      have H := HA.out
      clear HA
      simp only [cupolaref15_of.l1] at H
      by_cases c6 : x8_2 < (l0_0.length : Int)
      ·rw [if_pos c6] at H
       have c6b0 : decide (x8_2 < (l0_0.length : Int)) = true := decide_eq_true c6
       clear c6
       have HC7 := a9_ H
       clear H
       go_upto_region 9 with (fail)
       go_cut [34] (fun v34 wc => ∃ (kq : Nat) (x34_6 : Bool), v34 = .bool x34_6 ∧ Aside0 (cupolaref15_of.j2 kq a1 x5_2 (l0_0.length : Int) x7_1 x8_2 x34_6 l0_0 l0_1 l0_2 l0_3 l0_4 l0_5 l0_6 = some r) ∧ Aside0 (kq ≤ k2) ∧ Aside0 (Kd.R k46 46 wc w.heap.size (fun _ => True) u5 x5_2) ∧ Aside0 (wc.heap[gb101]? = some (.cells #[(.slice A0_0 l0_0.length c0_0), (.slice A0_1 l0_1.length c0_1), (.slice A0_2 l0_2.length c0_2), (.slice A0_3 l0_3.length c0_3), (.slice A0_4 l0_4.length c0_4), (.slice A0_5 l0_5.length c0_5), (.slice A0_6 l0_6.length c0_6)] 76 (0, 0))) ∧ Aside0 (Below w.heap.size w wc))
       case first =>
        have H := HC7.out
        clear HC7
        replace H := Option.bind_eq_some_iff.mp H
        obtain ⟨t105, A80, H⟩ := H
        have A8 := a9_ A80
        clear A80
        by_cases c9 : t105 = true
        ·subst c9
         rw [if_pos rfl] at H
         replace H := Option.bind_eq_some_iff.mp H
         obtain ⟨t106, A100, H⟩ := H
         have A10 := a9_ A100
         clear A100
         have H' := a9_ H
         clear H
         obtain ⟨hcz11_0, hcz11_1, hcz11_2, hcz11_3, hcz11_4, hcz11_5, hcz11_6, hfz11_0, hfz11_1, hfz11_2, hfz11_3, hfz11_4, hfz11_5, hfz11_6⟩ := cz7 BK101.out
         go_wp2_with (first | ((with_reducible refine gate_callee (f := 134) rfl ?_); refine goesL9 (some 27) rfl rfl Try.func134 (by kernel_rfl) rfl #[.agg #[.slice A0_0 l0_0.length c0_0, .slice A0_1 l0_1.length c0_1, .slice A0_2 l0_2.length c0_2, .slice A0_3 l0_3.length c0_3, .slice A0_4 l0_4.length c0_4, .slice A0_5 l0_5.length c0_5, .slice A0_6 l0_6.length c0_6], .int .i64 x7_1] rfl ?_; (with_reducible refine (cupolaref14_Mem.calls _ _ l0_0 _ _ l0_1 _ _ l0_2 _ _ l0_3 _ _ l0_4 _ _ l0_5 _ _ l0_6 x7_1 true _ ?side1 ?side2 ?side3 ?side4 ?side5 ?side6 ?side7 ?side8 ?side9 ?side10 ?side11 ?side12 ?side13 ?side14 A8.out).mono ?_); (case side1 => exact cp9 HR0_0.out HB.out); (case side2 => exact HC0_0.out); (case side3 => exact cp9 HR0_1.out HB.out); (case side4 => exact HC0_1.out); (case side5 => exact cp9 HR0_2.out HB.out); (case side6 => exact HC0_2.out); (case side7 => exact cp9 HR0_3.out HB.out); (case side8 => exact HC0_3.out); (case side9 => exact cp9 HR0_4.out HB.out); (case side10 => exact HC0_4.out); (case side11 => exact cp9 HR0_5.out HB.out); (case side12 => exact HC0_5.out); (case side13 => exact cp9 HR0_6.out HB.out); (case side14 => exact HC0_6.out); rintro e w12 ⟨rfl, hb⟩; refine ⟨_, rfl, ?_⟩; have n0_ := a9_ (Kd.R_below (rp9 HO_5.out) hb); have n1_ := a9_ (blk_below (kp9 BK101.out) hb); have n2_ := a9_ (below_step (bp9 HB.out) hb); clear HO_5; clear BK101; clear HB; have HO_5 := n0_; have BK101 := n1_; have HB := n2_; clear n0_ n1_ n2_; (try clear hb); obtain ⟨hcz13_0, hcz13_1, hcz13_2, hcz13_3, hcz13_4, hcz13_5, hcz13_6, hfz13_0, hfz13_1, hfz13_2, hfz13_3, hfz13_4, hfz13_5, hfz13_6⟩ := cz7 BK101.out) | (go_at_call 134; (with_reducible refine (cupolaref14_Mem.calls _ _ l0_0 _ _ l0_1 _ _ l0_2 _ _ l0_3 _ _ l0_4 _ _ l0_5 _ _ l0_6 x8_2 t106 _ ?side1 ?side2 ?side3 ?side4 ?side5 ?side6 ?side7 ?side8 ?side9 ?side10 ?side11 ?side12 ?side13 ?side14 A10.out).mono ?_); (case side1 => exact cp9 HR0_0.out HB.out); (case side2 => exact HC0_0.out); (case side3 => exact cp9 HR0_1.out HB.out); (case side4 => exact HC0_1.out); (case side5 => exact cp9 HR0_2.out HB.out); (case side6 => exact HC0_2.out); (case side7 => exact cp9 HR0_3.out HB.out); (case side8 => exact HC0_3.out); (case side9 => exact cp9 HR0_4.out HB.out); (case side10 => exact HC0_4.out); (case side11 => exact cp9 HR0_5.out HB.out); (case side12 => exact HC0_5.out); (case side13 => exact cp9 HR0_6.out HB.out); (case side14 => exact HC0_6.out); rintro e w14 ⟨rfl, hb⟩; have n0_ := a9_ (Kd.R_below (rp9 HO_5.out) hb); have n1_ := a9_ (blk_below (kp9 BK101.out) hb); have n2_ := a9_ (below_step (bp9 HB.out) hb); clear HO_5; clear BK101; clear HB; have HO_5 := n0_; have BK101 := n1_; have HB := n2_; clear n0_ n1_ n2_; (try clear hb); (try clear hi)))
         go_meet
         case rel => exact ⟨_, (!t106), rs9, H', ⟨by have := HK1.out; have := HK2.out; first | omega | exact Nat.le_refl _⟩, ⟨rp9 HO_5.out⟩, ⟨kp9 BK101.out⟩, ⟨bp9 HB.out⟩⟩
        ·replace c9 := Bool.eq_false_iff.mpr c9
         subst c9
         rw [if_neg (show ¬ (false = true) by decide)] at H
         have H' := a9_ H
         clear H
         obtain ⟨hcz15_0, hcz15_1, hcz15_2, hcz15_3, hcz15_4, hcz15_5, hcz15_6, hfz15_0, hfz15_1, hfz15_2, hfz15_3, hfz15_4, hfz15_5, hfz15_6⟩ := cz7 BK101.out
         go_wp2_with (first | ((with_reducible refine gate_callee (f := 134) rfl ?_); refine goesL9 (some 27) rfl rfl Try.func134 (by kernel_rfl) rfl #[.agg #[.slice A0_0 l0_0.length c0_0, .slice A0_1 l0_1.length c0_1, .slice A0_2 l0_2.length c0_2, .slice A0_3 l0_3.length c0_3, .slice A0_4 l0_4.length c0_4, .slice A0_5 l0_5.length c0_5, .slice A0_6 l0_6.length c0_6], .int .i64 x7_1] rfl ?_; (with_reducible refine (cupolaref14_Mem.calls _ _ l0_0 _ _ l0_1 _ _ l0_2 _ _ l0_3 _ _ l0_4 _ _ l0_5 _ _ l0_6 x7_1 false _ ?side1 ?side2 ?side3 ?side4 ?side5 ?side6 ?side7 ?side8 ?side9 ?side10 ?side11 ?side12 ?side13 ?side14 A8.out).mono ?_); (case side1 => exact cp9 HR0_0.out HB.out); (case side2 => exact HC0_0.out); (case side3 => exact cp9 HR0_1.out HB.out); (case side4 => exact HC0_1.out); (case side5 => exact cp9 HR0_2.out HB.out); (case side6 => exact HC0_2.out); (case side7 => exact cp9 HR0_3.out HB.out); (case side8 => exact HC0_3.out); (case side9 => exact cp9 HR0_4.out HB.out); (case side10 => exact HC0_4.out); (case side11 => exact cp9 HR0_5.out HB.out); (case side12 => exact HC0_5.out); (case side13 => exact cp9 HR0_6.out HB.out); (case side14 => exact HC0_6.out); rintro e w16 ⟨rfl, hb⟩; refine ⟨_, rfl, ?_⟩; have n0_ := a9_ (Kd.R_below (rp9 HO_5.out) hb); have n1_ := a9_ (blk_below (kp9 BK101.out) hb); have n2_ := a9_ (below_step (bp9 HB.out) hb); clear HO_5; clear BK101; clear HB; have HO_5 := n0_; have BK101 := n1_; have HB := n2_; clear n0_ n1_ n2_; (try clear hb); (try clear hi)))
         go_meet
         case rel => exact ⟨_, (true), rs9, H', ⟨by have := HK1.out; have := HK2.out; first | omega | exact Nat.le_refl _⟩, ⟨rp9 HO_5.out⟩, ⟨kp9 BK101.out⟩, ⟨bp9 HB.out⟩⟩
       case rest =>
        clear HC7
        try clear c1
        try clear p2
        try clear c5
        try clear c5b0
        try clear c6
        try clear c6b0
        try clear c9
        try clear c13
        try clear c14
        try clear hcz11_0 hcz11_1 hcz11_2 hcz11_3 hcz11_4 hcz11_5 hcz11_6
        try clear hcz13_0 hcz13_1 hcz13_2 hcz13_3 hcz13_4 hcz13_5 hcz13_6
        try clear hcz15_0 hcz15_1 hcz15_2 hcz15_3 hcz15_4 hcz15_5 hcz15_6
        try clear hcz4_0 hcz4_1 hcz4_2 hcz4_3 hcz4_4 hcz4_5 hcz4_6
        try clear hfz11_0 hfz11_1 hfz11_2 hfz11_3 hfz11_4 hfz11_5 hfz11_6
        try clear hfz13_0 hfz13_1 hfz13_2 hfz13_3 hfz13_4 hfz13_5 hfz13_6
        try clear hfz15_0 hfz15_1 hfz15_2 hfz15_3 hfz15_4 hfz15_5 hfz15_6
        try clear hfz4_0 hfz4_1 hfz4_2 hfz4_3 hfz4_4 hfz4_5 hfz4_6
        try clear p2
        obtain ⟨kq, x34_6, rfl, HA, HJ6, HO_5, BK101, HB⟩ := hcut
        cases kq with
        | zero => exact absurd HA.out (by simp [cupolaref15_of.j2])
        | succ kj6 =>
         have H := HA.out
         clear HA
         simp only [cupolaref15_of.j2] at H
         by_cases c17 : x34_6 = true
         ·subst c17
          rw [if_pos rfl] at H
          have H' := a9_ H
          clear H
          go_wp2
          go_roundg kj6
          case measure => have := HK1.out; have := HK2.out; have := HJ6.out; omega
          case rel => exact ⟨(x5_2), (wrap64 (x8_2 + 1)), rs9, H', ⟨by have := HK1.out; have := HK2.out; have := HJ6.out; omega⟩, ⟨rp9 HO_5.out⟩, ⟨kp9 BK101.out⟩, ⟨bp9 HB.out⟩⟩
         ·replace c17 := Bool.eq_false_iff.mpr c17
          subst c17
          rw [if_neg (show ¬ (false = true) by decide)] at H
          by_cases c18 : 0 ≤ x7_1
          ·rw [if_pos c18] at H
           have c18b0 : decide (0 ≤ x7_1) = true := decide_eq_true c18
           clear c18
           by_cases c19 : x7_1 < (l0_0.length : Int)
           ·rw [if_pos c19] at H
            have c19b0 : decide (x7_1 < (l0_0.length : Int)) = true := decide_eq_true c19
            clear c19
            by_cases c20 : 0 ≤ x8_2
            ·rw [if_pos c20] at H
             have c20b0 : decide (0 ≤ x8_2) = true := decide_eq_true c20
             clear c20
             by_cases c21 : x8_2 < (l0_0.length : Int)
             ·rw [if_pos c21] at H
              have c21b0 : decide (x8_2 < (l0_0.length : Int)) = true := decide_eq_true c21
              clear c21
              have HC22 := a9_ H
              clear H
              obtain ⟨hcz23_0, hcz23_1, hcz23_2, hcz23_3, hcz23_4, hcz23_5, hcz23_6, hfz23_0, hfz23_1, hfz23_2, hfz23_3, hfz23_4, hfz23_5, hfz23_6⟩ := cz7 BK101.out
              have p107 : 0 ≤ (x7_1 : Int) := of_decide_eq_true (by first | (with_reducible assumption) | assumption)
              have q107 : x7_1 < (l0_0.length : Int) := of_decide_eq_true (by first | (with_reducible assumption) | assumption)
              obtain ⟨ad107, e107, hx107_0, hx107_1, hx107_2, hx107_3, hx107_4, hx107_5, hx107_6⟩ := at_T26 HR0_0.out x7_1 p107 q107
              cases e107
              replace hx107_0 := hb9 HB.out hx107_0
              replace hx107_1 := hb9 HB.out hx107_1
              replace hx107_2 := hb9 HB.out hx107_2
              replace hx107_3 := hb9 HB.out hx107_3
              replace hx107_4 := hb9 HB.out hx107_4
              replace hx107_5 := hb9 HB.out hx107_5
              replace hx107_6 := hb9 HB.out hx107_6
              replace p107 := eq_true p107
              replace q107 := eq_true q107
              go_upto_region 12 with (first | ((with_reducible refine gate_dst (N := 9) rfl ?_); refine box9 (N := 9) (cs := #[.int .i64 0, .int .i64 0, .int .i64 0, .int .i64 0, .bool false, .bool false, .bool false]) (t := 26) ?_; intro gb108 hg w24 hbox hb; have n0_ := a9_ (Kd.R_below (rp9 HO_5.out) hb); have n1_ := a9_ (blk_below (kp9 BK101.out) hb); have n2_ := a9_ (below_step (bp9 HB.out) hb); have n3_ := a9_ (hbox); have n4_ := a9_ ((by rw [hg]; exact (below_size (bp9 HB.out)) : w.heap.size ≤ gb108)); have n5_ := n4_; have n6_ := a9_ ((by rw [hg]; exact Nat.ne_of_lt (blk_lt (g := gb101) (o := .cells #[.slice (some ad107) l0_0.length c0_0, .slice A0_1 l0_1.length c0_1, .slice A0_2 l0_2.length c0_2, .slice A0_3 l0_3.length c0_3, .slice A0_4 l0_4.length c0_4, .slice A0_5 l0_5.length c0_5, .slice A0_6 l0_6.length c0_6] 76 (0, 0)) (kp9 BK101.out)) : gb101 ≠ gb108)); have n7_ := a9_ ((by rw [hg]; exact Nat.ne_of_gt (blk_lt (g := gb101) (o := .cells #[.slice (some ad107) l0_0.length c0_0, .slice A0_1 l0_1.length c0_1, .slice A0_2 l0_2.length c0_2, .slice A0_3 l0_3.length c0_3, .slice A0_4 l0_4.length c0_4, .slice A0_5 l0_5.length c0_5, .slice A0_6 l0_6.length c0_6] 76 (0, 0)) (kp9 BK101.out)) : gb108 ≠ gb101)); clear HO_5; clear BK101; clear HB; have HO_5 := n0_; have BK101 := n1_; have HB := n2_; have BK108 := n3_; have GW108 := n4_; have GE108 := n5_; have NB101_108 := n6_; have NB108_101 := n7_; clear n0_ n1_ n2_ n3_ n4_ n5_ n6_ n7_; clear hb hbox hg; have hnb25 := NB108_101.out; have hnc25 := NB101_108.out; obtain ⟨hcz26_0, hcz26_1, hcz26_2, hcz26_3, hcz26_4, hcz26_5, hcz26_6, hfz26_0, hfz26_1, hfz26_2, hfz26_3, hfz26_4, hfz26_5, hfz26_6⟩ := cz7 BK108.out; obtain ⟨hcz27_0, hcz27_1, hcz27_2, hcz27_3, hcz27_4, hcz27_5, hcz27_6, hfz27_0, hfz27_1, hfz27_2, hfz27_3, hfz27_4, hfz27_5, hfz27_6⟩ := cz7 BK101.out; have p109 : 0 ≤ (x8_2 : Int) := of_decide_eq_true (by first | (with_reducible assumption) | assumption); have q109 : x8_2 < (l0_0.length : Int) := of_decide_eq_true (by first | (with_reducible assumption) | assumption); obtain ⟨ad109, e109, hx109_0, hx109_1, hx109_2, hx109_3, hx109_4, hx109_5, hx109_6⟩ := at_T26 HR0_0.out x8_2 p109 q109; obtain rfl : ad107 = ad109 := (by injection e109); have hn109_0 : ad107.block ≠ gb108 := Nat.ne_of_lt (Nat.lt_of_lt_of_le (by have := World.block_lt_of_cell? _ _ hx109_0; first | rwa [add_block] at this | exact this) GW108.out); have hn109_1 : ad107.block ≠ gb108 := Nat.ne_of_lt (Nat.lt_of_lt_of_le (by have := World.block_lt_of_cell? _ _ hx109_0; first | rwa [add_block] at this | exact this) GW108.out); have hn109_2 : ad107.block ≠ gb108 := Nat.ne_of_lt (Nat.lt_of_lt_of_le (by have := World.block_lt_of_cell? _ _ hx109_0; first | rwa [add_block] at this | exact this) GW108.out); have hn109_3 : ad107.block ≠ gb108 := Nat.ne_of_lt (Nat.lt_of_lt_of_le (by have := World.block_lt_of_cell? _ _ hx109_0; first | rwa [add_block] at this | exact this) GW108.out); have hn109_4 : ad107.block ≠ gb108 := Nat.ne_of_lt (Nat.lt_of_lt_of_le (by have := World.block_lt_of_cell? _ _ hx109_0; first | rwa [add_block] at this | exact this) GW108.out); have hn109_5 : ad107.block ≠ gb108 := Nat.ne_of_lt (Nat.lt_of_lt_of_le (by have := World.block_lt_of_cell? _ _ hx109_0; first | rwa [add_block] at this | exact this) GW108.out); have hn109_6 : ad107.block ≠ gb108 := Nat.ne_of_lt (Nat.lt_of_lt_of_le (by have := World.block_lt_of_cell? _ _ hx109_0; first | rwa [add_block] at this | exact this) GW108.out); replace hx109_0 := hb9 HB.out hx109_0; replace hx109_1 := hb9 HB.out hx109_1; replace hx109_2 := hb9 HB.out hx109_2; replace hx109_3 := hb9 HB.out hx109_3; replace hx109_4 := hb9 HB.out hx109_4; replace hx109_5 := hb9 HB.out hx109_5; replace hx109_6 := hb9 HB.out hx109_6; replace hx109_0 := (cell_far (p := ⟨gb108, 0, none⟩) (by first | (rw [add_block]; exact hn109_0) | (show (Addr.add _ _).block ≠ _; rw [add_block]; exact hn109_0) | exact hn109_0) (.int .i64 ((rd_T26 l0_0 x7_1).f0))).trans hx109_0; replace hx109_1 := (cell_far (p := ⟨gb108, 0, none⟩) (by first | (rw [add_block]; exact hn109_0) | (show (Addr.add _ _).block ≠ _; rw [add_block]; exact hn109_0) | exact hn109_0) (.int .i64 ((rd_T26 l0_0 x7_1).f0))).trans hx109_1; replace hx109_2 := (cell_far (p := ⟨gb108, 0, none⟩) (by first | (rw [add_block]; exact hn109_0) | (show (Addr.add _ _).block ≠ _; rw [add_block]; exact hn109_0) | exact hn109_0) (.int .i64 ((rd_T26 l0_0 x7_1).f0))).trans hx109_2; replace hx109_3 := (cell_far (p := ⟨gb108, 0, none⟩) (by first | (rw [add_block]; exact hn109_0) | (show (Addr.add _ _).block ≠ _; rw [add_block]; exact hn109_0) | exact hn109_0) (.int .i64 ((rd_T26 l0_0 x7_1).f0))).trans hx109_3; replace hx109_4 := (cell_far (p := ⟨gb108, 0, none⟩) (by first | (rw [add_block]; exact hn109_0) | (show (Addr.add _ _).block ≠ _; rw [add_block]; exact hn109_0) | exact hn109_0) (.int .i64 ((rd_T26 l0_0 x7_1).f0))).trans hx109_4; replace hx109_5 := (cell_far (p := ⟨gb108, 0, none⟩) (by first | (rw [add_block]; exact hn109_0) | (show (Addr.add _ _).block ≠ _; rw [add_block]; exact hn109_0) | exact hn109_0) (.int .i64 ((rd_T26 l0_0 x7_1).f0))).trans hx109_5; replace hx109_6 := (cell_far (p := ⟨gb108, 0, none⟩) (by first | (rw [add_block]; exact hn109_0) | (show (Addr.add _ _).block ≠ _; rw [add_block]; exact hn109_0) | exact hn109_0) (.int .i64 ((rd_T26 l0_0 x7_1).f0))).trans hx109_6; replace hx109_0 := (cell_far (p := ⟨gb108, 1, none⟩) (by first | (rw [add_block]; exact hn109_1) | (show (Addr.add _ _).block ≠ _; rw [add_block]; exact hn109_1) | exact hn109_1) (.int .i64 ((rd_T26 l0_0 x7_1).f1))).trans hx109_0; replace hx109_1 := (cell_far (p := ⟨gb108, 1, none⟩) (by first | (rw [add_block]; exact hn109_1) | (show (Addr.add _ _).block ≠ _; rw [add_block]; exact hn109_1) | exact hn109_1) (.int .i64 ((rd_T26 l0_0 x7_1).f1))).trans hx109_1; replace hx109_2 := (cell_far (p := ⟨gb108, 1, none⟩) (by first | (rw [add_block]; exact hn109_1) | (show (Addr.add _ _).block ≠ _; rw [add_block]; exact hn109_1) | exact hn109_1) (.int .i64 ((rd_T26 l0_0 x7_1).f1))).trans hx109_2; replace hx109_3 := (cell_far (p := ⟨gb108, 1, none⟩) (by first | (rw [add_block]; exact hn109_1) | (show (Addr.add _ _).block ≠ _; rw [add_block]; exact hn109_1) | exact hn109_1) (.int .i64 ((rd_T26 l0_0 x7_1).f1))).trans hx109_3; replace hx109_4 := (cell_far (p := ⟨gb108, 1, none⟩) (by first | (rw [add_block]; exact hn109_1) | (show (Addr.add _ _).block ≠ _; rw [add_block]; exact hn109_1) | exact hn109_1) (.int .i64 ((rd_T26 l0_0 x7_1).f1))).trans hx109_4; replace hx109_5 := (cell_far (p := ⟨gb108, 1, none⟩) (by first | (rw [add_block]; exact hn109_1) | (show (Addr.add _ _).block ≠ _; rw [add_block]; exact hn109_1) | exact hn109_1) (.int .i64 ((rd_T26 l0_0 x7_1).f1))).trans hx109_5; replace hx109_6 := (cell_far (p := ⟨gb108, 1, none⟩) (by first | (rw [add_block]; exact hn109_1) | (show (Addr.add _ _).block ≠ _; rw [add_block]; exact hn109_1) | exact hn109_1) (.int .i64 ((rd_T26 l0_0 x7_1).f1))).trans hx109_6; replace hx109_0 := (cell_far (p := ⟨gb108, 2, none⟩) (by first | (rw [add_block]; exact hn109_2) | (show (Addr.add _ _).block ≠ _; rw [add_block]; exact hn109_2) | exact hn109_2) (.int .i64 ((rd_T26 l0_0 x7_1).f2))).trans hx109_0; replace hx109_1 := (cell_far (p := ⟨gb108, 2, none⟩) (by first | (rw [add_block]; exact hn109_2) | (show (Addr.add _ _).block ≠ _; rw [add_block]; exact hn109_2) | exact hn109_2) (.int .i64 ((rd_T26 l0_0 x7_1).f2))).trans hx109_1; replace hx109_2 := (cell_far (p := ⟨gb108, 2, none⟩) (by first | (rw [add_block]; exact hn109_2) | (show (Addr.add _ _).block ≠ _; rw [add_block]; exact hn109_2) | exact hn109_2) (.int .i64 ((rd_T26 l0_0 x7_1).f2))).trans hx109_2; replace hx109_3 := (cell_far (p := ⟨gb108, 2, none⟩) (by first | (rw [add_block]; exact hn109_2) | (show (Addr.add _ _).block ≠ _; rw [add_block]; exact hn109_2) | exact hn109_2) (.int .i64 ((rd_T26 l0_0 x7_1).f2))).trans hx109_3; replace hx109_4 := (cell_far (p := ⟨gb108, 2, none⟩) (by first | (rw [add_block]; exact hn109_2) | (show (Addr.add _ _).block ≠ _; rw [add_block]; exact hn109_2) | exact hn109_2) (.int .i64 ((rd_T26 l0_0 x7_1).f2))).trans hx109_4; replace hx109_5 := (cell_far (p := ⟨gb108, 2, none⟩) (by first | (rw [add_block]; exact hn109_2) | (show (Addr.add _ _).block ≠ _; rw [add_block]; exact hn109_2) | exact hn109_2) (.int .i64 ((rd_T26 l0_0 x7_1).f2))).trans hx109_5; replace hx109_6 := (cell_far (p := ⟨gb108, 2, none⟩) (by first | (rw [add_block]; exact hn109_2) | (show (Addr.add _ _).block ≠ _; rw [add_block]; exact hn109_2) | exact hn109_2) (.int .i64 ((rd_T26 l0_0 x7_1).f2))).trans hx109_6; replace hx109_0 := (cell_far (p := ⟨gb108, 3, none⟩) (by first | (rw [add_block]; exact hn109_3) | (show (Addr.add _ _).block ≠ _; rw [add_block]; exact hn109_3) | exact hn109_3) (.int .i64 ((rd_T26 l0_0 x7_1).f3))).trans hx109_0; replace hx109_1 := (cell_far (p := ⟨gb108, 3, none⟩) (by first | (rw [add_block]; exact hn109_3) | (show (Addr.add _ _).block ≠ _; rw [add_block]; exact hn109_3) | exact hn109_3) (.int .i64 ((rd_T26 l0_0 x7_1).f3))).trans hx109_1; replace hx109_2 := (cell_far (p := ⟨gb108, 3, none⟩) (by first | (rw [add_block]; exact hn109_3) | (show (Addr.add _ _).block ≠ _; rw [add_block]; exact hn109_3) | exact hn109_3) (.int .i64 ((rd_T26 l0_0 x7_1).f3))).trans hx109_2; replace hx109_3 := (cell_far (p := ⟨gb108, 3, none⟩) (by first | (rw [add_block]; exact hn109_3) | (show (Addr.add _ _).block ≠ _; rw [add_block]; exact hn109_3) | exact hn109_3) (.int .i64 ((rd_T26 l0_0 x7_1).f3))).trans hx109_3; replace hx109_4 := (cell_far (p := ⟨gb108, 3, none⟩) (by first | (rw [add_block]; exact hn109_3) | (show (Addr.add _ _).block ≠ _; rw [add_block]; exact hn109_3) | exact hn109_3) (.int .i64 ((rd_T26 l0_0 x7_1).f3))).trans hx109_4; replace hx109_5 := (cell_far (p := ⟨gb108, 3, none⟩) (by first | (rw [add_block]; exact hn109_3) | (show (Addr.add _ _).block ≠ _; rw [add_block]; exact hn109_3) | exact hn109_3) (.int .i64 ((rd_T26 l0_0 x7_1).f3))).trans hx109_5; replace hx109_6 := (cell_far (p := ⟨gb108, 3, none⟩) (by first | (rw [add_block]; exact hn109_3) | (show (Addr.add _ _).block ≠ _; rw [add_block]; exact hn109_3) | exact hn109_3) (.int .i64 ((rd_T26 l0_0 x7_1).f3))).trans hx109_6; replace hx109_0 := (cell_far (p := ⟨gb108, 4, none⟩) (by first | (rw [add_block]; exact hn109_4) | (show (Addr.add _ _).block ≠ _; rw [add_block]; exact hn109_4) | exact hn109_4) (.bool ((rd_T26 l0_0 x7_1).f4))).trans hx109_0; replace hx109_1 := (cell_far (p := ⟨gb108, 4, none⟩) (by first | (rw [add_block]; exact hn109_4) | (show (Addr.add _ _).block ≠ _; rw [add_block]; exact hn109_4) | exact hn109_4) (.bool ((rd_T26 l0_0 x7_1).f4))).trans hx109_1; replace hx109_2 := (cell_far (p := ⟨gb108, 4, none⟩) (by first | (rw [add_block]; exact hn109_4) | (show (Addr.add _ _).block ≠ _; rw [add_block]; exact hn109_4) | exact hn109_4) (.bool ((rd_T26 l0_0 x7_1).f4))).trans hx109_2; replace hx109_3 := (cell_far (p := ⟨gb108, 4, none⟩) (by first | (rw [add_block]; exact hn109_4) | (show (Addr.add _ _).block ≠ _; rw [add_block]; exact hn109_4) | exact hn109_4) (.bool ((rd_T26 l0_0 x7_1).f4))).trans hx109_3; replace hx109_4 := (cell_far (p := ⟨gb108, 4, none⟩) (by first | (rw [add_block]; exact hn109_4) | (show (Addr.add _ _).block ≠ _; rw [add_block]; exact hn109_4) | exact hn109_4) (.bool ((rd_T26 l0_0 x7_1).f4))).trans hx109_4; replace hx109_5 := (cell_far (p := ⟨gb108, 4, none⟩) (by first | (rw [add_block]; exact hn109_4) | (show (Addr.add _ _).block ≠ _; rw [add_block]; exact hn109_4) | exact hn109_4) (.bool ((rd_T26 l0_0 x7_1).f4))).trans hx109_5; replace hx109_6 := (cell_far (p := ⟨gb108, 4, none⟩) (by first | (rw [add_block]; exact hn109_4) | (show (Addr.add _ _).block ≠ _; rw [add_block]; exact hn109_4) | exact hn109_4) (.bool ((rd_T26 l0_0 x7_1).f4))).trans hx109_6; replace hx109_0 := (cell_far (p := ⟨gb108, 5, none⟩) (by first | (rw [add_block]; exact hn109_5) | (show (Addr.add _ _).block ≠ _; rw [add_block]; exact hn109_5) | exact hn109_5) (.bool ((rd_T26 l0_0 x7_1).f5))).trans hx109_0; replace hx109_1 := (cell_far (p := ⟨gb108, 5, none⟩) (by first | (rw [add_block]; exact hn109_5) | (show (Addr.add _ _).block ≠ _; rw [add_block]; exact hn109_5) | exact hn109_5) (.bool ((rd_T26 l0_0 x7_1).f5))).trans hx109_1; replace hx109_2 := (cell_far (p := ⟨gb108, 5, none⟩) (by first | (rw [add_block]; exact hn109_5) | (show (Addr.add _ _).block ≠ _; rw [add_block]; exact hn109_5) | exact hn109_5) (.bool ((rd_T26 l0_0 x7_1).f5))).trans hx109_2; replace hx109_3 := (cell_far (p := ⟨gb108, 5, none⟩) (by first | (rw [add_block]; exact hn109_5) | (show (Addr.add _ _).block ≠ _; rw [add_block]; exact hn109_5) | exact hn109_5) (.bool ((rd_T26 l0_0 x7_1).f5))).trans hx109_3; replace hx109_4 := (cell_far (p := ⟨gb108, 5, none⟩) (by first | (rw [add_block]; exact hn109_5) | (show (Addr.add _ _).block ≠ _; rw [add_block]; exact hn109_5) | exact hn109_5) (.bool ((rd_T26 l0_0 x7_1).f5))).trans hx109_4; replace hx109_5 := (cell_far (p := ⟨gb108, 5, none⟩) (by first | (rw [add_block]; exact hn109_5) | (show (Addr.add _ _).block ≠ _; rw [add_block]; exact hn109_5) | exact hn109_5) (.bool ((rd_T26 l0_0 x7_1).f5))).trans hx109_5; replace hx109_6 := (cell_far (p := ⟨gb108, 5, none⟩) (by first | (rw [add_block]; exact hn109_5) | (show (Addr.add _ _).block ≠ _; rw [add_block]; exact hn109_5) | exact hn109_5) (.bool ((rd_T26 l0_0 x7_1).f5))).trans hx109_6; replace hx109_0 := (cell_far (p := ⟨gb108, 6, none⟩) (by first | (rw [add_block]; exact hn109_6) | (show (Addr.add _ _).block ≠ _; rw [add_block]; exact hn109_6) | exact hn109_6) (.bool ((rd_T26 l0_0 x7_1).f6))).trans hx109_0; replace hx109_1 := (cell_far (p := ⟨gb108, 6, none⟩) (by first | (rw [add_block]; exact hn109_6) | (show (Addr.add _ _).block ≠ _; rw [add_block]; exact hn109_6) | exact hn109_6) (.bool ((rd_T26 l0_0 x7_1).f6))).trans hx109_1; replace hx109_2 := (cell_far (p := ⟨gb108, 6, none⟩) (by first | (rw [add_block]; exact hn109_6) | (show (Addr.add _ _).block ≠ _; rw [add_block]; exact hn109_6) | exact hn109_6) (.bool ((rd_T26 l0_0 x7_1).f6))).trans hx109_2; replace hx109_3 := (cell_far (p := ⟨gb108, 6, none⟩) (by first | (rw [add_block]; exact hn109_6) | (show (Addr.add _ _).block ≠ _; rw [add_block]; exact hn109_6) | exact hn109_6) (.bool ((rd_T26 l0_0 x7_1).f6))).trans hx109_3; replace hx109_4 := (cell_far (p := ⟨gb108, 6, none⟩) (by first | (rw [add_block]; exact hn109_6) | (show (Addr.add _ _).block ≠ _; rw [add_block]; exact hn109_6) | exact hn109_6) (.bool ((rd_T26 l0_0 x7_1).f6))).trans hx109_4; replace hx109_5 := (cell_far (p := ⟨gb108, 6, none⟩) (by first | (rw [add_block]; exact hn109_6) | (show (Addr.add _ _).block ≠ _; rw [add_block]; exact hn109_6) | exact hn109_6) (.bool ((rd_T26 l0_0 x7_1).f6))).trans hx109_5; replace hx109_6 := (cell_far (p := ⟨gb108, 6, none⟩) (by first | (rw [add_block]; exact hn109_6) | (show (Addr.add _ _).block ≠ _; rw [add_block]; exact hn109_6) | exact hn109_6) (.bool ((rd_T26 l0_0 x7_1).f6))).trans hx109_6; clear hn109_0; clear hn109_1; clear hn109_2; clear hn109_3; clear hn109_4; clear hn109_5; clear hn109_6; replace p109 := eq_true p109; replace q109 := eq_true q109) | ((with_reducible refine gate_dst (N := 10) rfl ?_); refine box9 (N := 10) (cs := #[.int .i64 0, .int .i64 0, .int .i64 0, .int .i64 0, .bool false, .bool false, .bool false]) (t := 26) ?_; intro gb110 hg w28 hbox hb; have n0_ := a9_ (Kd.R_below (by (with_reducible repeat (first | apply Kd.R_alloc | apply Kd.R_drewN | apply Kd.R_drew)); exact (Kd.R_mono (Kd.R_far (p := ⟨gb108, 6, none⟩) (Kd.R_far (p := ⟨gb108, 5, none⟩) (Kd.R_far (p := ⟨gb108, 4, none⟩) (Kd.R_far (p := ⟨gb108, 3, none⟩) (Kd.R_far (p := ⟨gb108, 2, none⟩) (Kd.R_far (p := ⟨gb108, 1, none⟩) (Kd.R_far (p := ⟨gb108, 0, none⟩) (Kd.R_types HO_5.out BK108.out (by decide)) (fun _ hk => hk.2) (.int .i64 ((rd_T26 l0_0 x7_1).f0))) (fun _ hk => hk.2) (.int .i64 ((rd_T26 l0_0 x7_1).f1))) (fun _ hk => hk.2) (.int .i64 ((rd_T26 l0_0 x7_1).f2))) (fun _ hk => hk.2) (.int .i64 ((rd_T26 l0_0 x7_1).f3))) (fun _ hk => hk.2) (.bool ((rd_T26 l0_0 x7_1).f4))) (fun _ hk => hk.2) (.bool ((rd_T26 l0_0 x7_1).f5))) (fun _ hk => hk.2) (.bool ((rd_T26 l0_0 x7_1).f6))) (fun _ h_ => h_.1))) hb); have n1_ := a9_ (blk_below (g := gb101) (o := .cells #[.slice (some ad107) l0_0.length c0_0, .slice A0_1 l0_1.length c0_1, .slice A0_2 l0_2.length c0_2, .slice A0_3 l0_3.length c0_3, .slice A0_4 l0_4.length c0_4, .slice A0_5 l0_5.length c0_5, .slice A0_6 l0_6.length c0_6] 76 (0, 0)) (by (with_reducible repeat (first | refine blk_drewN ?_ _ | refine blk_drew ?_ | refine blk_alloc ?_ _)); refine blk_far ?_ NB101_108.out _; (with_reducible repeat (first | refine blk_drewN ?_ _ | refine blk_drew ?_ | refine blk_alloc ?_ _)); refine blk_far ?_ NB101_108.out _; (with_reducible repeat (first | refine blk_drewN ?_ _ | refine blk_drew ?_ | refine blk_alloc ?_ _)); refine blk_far ?_ NB101_108.out _; (with_reducible repeat (first | refine blk_drewN ?_ _ | refine blk_drew ?_ | refine blk_alloc ?_ _)); refine blk_far ?_ NB101_108.out _; (with_reducible repeat (first | refine blk_drewN ?_ _ | refine blk_drew ?_ | refine blk_alloc ?_ _)); refine blk_far ?_ NB101_108.out _; (with_reducible repeat (first | refine blk_drewN ?_ _ | refine blk_drew ?_ | refine blk_alloc ?_ _)); refine blk_far ?_ NB101_108.out _; (with_reducible repeat (first | refine blk_drewN ?_ _ | refine blk_drew ?_ | refine blk_alloc ?_ _)); refine blk_far ?_ NB101_108.out _; (with_reducible repeat (first | refine blk_drewN ?_ _ | refine blk_drew ?_ | refine blk_alloc ?_ _)); exact BK101.out) hb); have n2_ := a9_ (blk_below (g := gb108) (o := .cells #[.int .i64 ((rd_T26 l0_0 x7_1).f0), .int .i64 ((rd_T26 l0_0 x7_1).f1), .int .i64 ((rd_T26 l0_0 x7_1).f2), .int .i64 ((rd_T26 l0_0 x7_1).f3), .bool ((rd_T26 l0_0 x7_1).f4), .bool ((rd_T26 l0_0 x7_1).f5), .bool ((rd_T26 l0_0 x7_1).f6)] 26 (0, 0)) (by (with_reducible repeat (first | refine blk_drewN ?_ _ | refine blk_drew ?_ | refine blk_alloc ?_ _)); refine blk_put (cs := #[.int .i64 ((rd_T26 l0_0 x7_1).f0), .int .i64 ((rd_T26 l0_0 x7_1).f1), .int .i64 ((rd_T26 l0_0 x7_1).f2), .int .i64 ((rd_T26 l0_0 x7_1).f3), .bool ((rd_T26 l0_0 x7_1).f4), .bool ((rd_T26 l0_0 x7_1).f5), .bool false]) ?_ 6 _ rfl; (with_reducible repeat (first | refine blk_drewN ?_ _ | refine blk_drew ?_ | refine blk_alloc ?_ _)); refine blk_put (cs := #[.int .i64 ((rd_T26 l0_0 x7_1).f0), .int .i64 ((rd_T26 l0_0 x7_1).f1), .int .i64 ((rd_T26 l0_0 x7_1).f2), .int .i64 ((rd_T26 l0_0 x7_1).f3), .bool ((rd_T26 l0_0 x7_1).f4), .bool false, .bool false]) ?_ 5 _ rfl; (with_reducible repeat (first | refine blk_drewN ?_ _ | refine blk_drew ?_ | refine blk_alloc ?_ _)); refine blk_put (cs := #[.int .i64 ((rd_T26 l0_0 x7_1).f0), .int .i64 ((rd_T26 l0_0 x7_1).f1), .int .i64 ((rd_T26 l0_0 x7_1).f2), .int .i64 ((rd_T26 l0_0 x7_1).f3), .bool false, .bool false, .bool false]) ?_ 4 _ rfl; (with_reducible repeat (first | refine blk_drewN ?_ _ | refine blk_drew ?_ | refine blk_alloc ?_ _)); refine blk_put (cs := #[.int .i64 ((rd_T26 l0_0 x7_1).f0), .int .i64 ((rd_T26 l0_0 x7_1).f1), .int .i64 ((rd_T26 l0_0 x7_1).f2), .int .i64 0, .bool false, .bool false, .bool false]) ?_ 3 _ rfl; (with_reducible repeat (first | refine blk_drewN ?_ _ | refine blk_drew ?_ | refine blk_alloc ?_ _)); refine blk_put (cs := #[.int .i64 ((rd_T26 l0_0 x7_1).f0), .int .i64 ((rd_T26 l0_0 x7_1).f1), .int .i64 0, .int .i64 0, .bool false, .bool false, .bool false]) ?_ 2 _ rfl; (with_reducible repeat (first | refine blk_drewN ?_ _ | refine blk_drew ?_ | refine blk_alloc ?_ _)); refine blk_put (cs := #[.int .i64 ((rd_T26 l0_0 x7_1).f0), .int .i64 0, .int .i64 0, .int .i64 0, .bool false, .bool false, .bool false]) ?_ 1 _ rfl; (with_reducible repeat (first | refine blk_drewN ?_ _ | refine blk_drew ?_ | refine blk_alloc ?_ _)); refine blk_put (cs := #[.int .i64 0, .int .i64 0, .int .i64 0, .int .i64 0, .bool false, .bool false, .bool false]) ?_ 0 _ rfl; (with_reducible repeat (first | refine blk_drewN ?_ _ | refine blk_drew ?_ | refine blk_alloc ?_ _)); exact BK108.out) hb); have n3_ := a9_ (below_step (bp9 HB.out) hb); have n4_ := a9_ (hbox); have n5_ := a9_ ((by rw [hg]; exact (below_size (bp9 HB.out)) : w.heap.size ≤ gb110)); have n6_ := n5_; have n7_ := a9_ ((by rw [hg]; exact Nat.ne_of_lt (blk_lt (g := gb101) (o := .cells #[.slice (some ad107) l0_0.length c0_0, .slice A0_1 l0_1.length c0_1, .slice A0_2 l0_2.length c0_2, .slice A0_3 l0_3.length c0_3, .slice A0_4 l0_4.length c0_4, .slice A0_5 l0_5.length c0_5, .slice A0_6 l0_6.length c0_6] 76 (0, 0)) (by (with_reducible repeat (first | refine blk_drewN ?_ _ | refine blk_drew ?_ | refine blk_alloc ?_ _)); refine blk_far ?_ NB101_108.out _; (with_reducible repeat (first | refine blk_drewN ?_ _ | refine blk_drew ?_ | refine blk_alloc ?_ _)); refine blk_far ?_ NB101_108.out _; (with_reducible repeat (first | refine blk_drewN ?_ _ | refine blk_drew ?_ | refine blk_alloc ?_ _)); refine blk_far ?_ NB101_108.out _; (with_reducible repeat (first | refine blk_drewN ?_ _ | refine blk_drew ?_ | refine blk_alloc ?_ _)); refine blk_far ?_ NB101_108.out _; (with_reducible repeat (first | refine blk_drewN ?_ _ | refine blk_drew ?_ | refine blk_alloc ?_ _)); refine blk_far ?_ NB101_108.out _; (with_reducible repeat (first | refine blk_drewN ?_ _ | refine blk_drew ?_ | refine blk_alloc ?_ _)); refine blk_far ?_ NB101_108.out _; (with_reducible repeat (first | refine blk_drewN ?_ _ | refine blk_drew ?_ | refine blk_alloc ?_ _)); refine blk_far ?_ NB101_108.out _; (with_reducible repeat (first | refine blk_drewN ?_ _ | refine blk_drew ?_ | refine blk_alloc ?_ _)); exact BK101.out)) : gb101 ≠ gb110)); have n8_ := a9_ ((by rw [hg]; exact Nat.ne_of_gt (blk_lt (g := gb101) (o := .cells #[.slice (some ad107) l0_0.length c0_0, .slice A0_1 l0_1.length c0_1, .slice A0_2 l0_2.length c0_2, .slice A0_3 l0_3.length c0_3, .slice A0_4 l0_4.length c0_4, .slice A0_5 l0_5.length c0_5, .slice A0_6 l0_6.length c0_6] 76 (0, 0)) (by (with_reducible repeat (first | refine blk_drewN ?_ _ | refine blk_drew ?_ | refine blk_alloc ?_ _)); refine blk_far ?_ NB101_108.out _; (with_reducible repeat (first | refine blk_drewN ?_ _ | refine blk_drew ?_ | refine blk_alloc ?_ _)); refine blk_far ?_ NB101_108.out _; (with_reducible repeat (first | refine blk_drewN ?_ _ | refine blk_drew ?_ | refine blk_alloc ?_ _)); refine blk_far ?_ NB101_108.out _; (with_reducible repeat (first | refine blk_drewN ?_ _ | refine blk_drew ?_ | refine blk_alloc ?_ _)); refine blk_far ?_ NB101_108.out _; (with_reducible repeat (first | refine blk_drewN ?_ _ | refine blk_drew ?_ | refine blk_alloc ?_ _)); refine blk_far ?_ NB101_108.out _; (with_reducible repeat (first | refine blk_drewN ?_ _ | refine blk_drew ?_ | refine blk_alloc ?_ _)); refine blk_far ?_ NB101_108.out _; (with_reducible repeat (first | refine blk_drewN ?_ _ | refine blk_drew ?_ | refine blk_alloc ?_ _)); refine blk_far ?_ NB101_108.out _; (with_reducible repeat (first | refine blk_drewN ?_ _ | refine blk_drew ?_ | refine blk_alloc ?_ _)); exact BK101.out)) : gb110 ≠ gb101)); have n9_ := a9_ ((by rw [hg]; exact Nat.ne_of_lt (blk_lt (g := gb108) (o := .cells #[.int .i64 ((rd_T26 l0_0 x7_1).f0), .int .i64 ((rd_T26 l0_0 x7_1).f1), .int .i64 ((rd_T26 l0_0 x7_1).f2), .int .i64 ((rd_T26 l0_0 x7_1).f3), .bool ((rd_T26 l0_0 x7_1).f4), .bool ((rd_T26 l0_0 x7_1).f5), .bool ((rd_T26 l0_0 x7_1).f6)] 26 (0, 0)) (by (with_reducible repeat (first | refine blk_drewN ?_ _ | refine blk_drew ?_ | refine blk_alloc ?_ _)); refine blk_put (cs := #[.int .i64 ((rd_T26 l0_0 x7_1).f0), .int .i64 ((rd_T26 l0_0 x7_1).f1), .int .i64 ((rd_T26 l0_0 x7_1).f2), .int .i64 ((rd_T26 l0_0 x7_1).f3), .bool ((rd_T26 l0_0 x7_1).f4), .bool ((rd_T26 l0_0 x7_1).f5), .bool false]) ?_ 6 _ rfl; (with_reducible repeat (first | refine blk_drewN ?_ _ | refine blk_drew ?_ | refine blk_alloc ?_ _)); refine blk_put (cs := #[.int .i64 ((rd_T26 l0_0 x7_1).f0), .int .i64 ((rd_T26 l0_0 x7_1).f1), .int .i64 ((rd_T26 l0_0 x7_1).f2), .int .i64 ((rd_T26 l0_0 x7_1).f3), .bool ((rd_T26 l0_0 x7_1).f4), .bool false, .bool false]) ?_ 5 _ rfl; (with_reducible repeat (first | refine blk_drewN ?_ _ | refine blk_drew ?_ | refine blk_alloc ?_ _)); refine blk_put (cs := #[.int .i64 ((rd_T26 l0_0 x7_1).f0), .int .i64 ((rd_T26 l0_0 x7_1).f1), .int .i64 ((rd_T26 l0_0 x7_1).f2), .int .i64 ((rd_T26 l0_0 x7_1).f3), .bool false, .bool false, .bool false]) ?_ 4 _ rfl; (with_reducible repeat (first | refine blk_drewN ?_ _ | refine blk_drew ?_ | refine blk_alloc ?_ _)); refine blk_put (cs := #[.int .i64 ((rd_T26 l0_0 x7_1).f0), .int .i64 ((rd_T26 l0_0 x7_1).f1), .int .i64 ((rd_T26 l0_0 x7_1).f2), .int .i64 0, .bool false, .bool false, .bool false]) ?_ 3 _ rfl; (with_reducible repeat (first | refine blk_drewN ?_ _ | refine blk_drew ?_ | refine blk_alloc ?_ _)); refine blk_put (cs := #[.int .i64 ((rd_T26 l0_0 x7_1).f0), .int .i64 ((rd_T26 l0_0 x7_1).f1), .int .i64 0, .int .i64 0, .bool false, .bool false, .bool false]) ?_ 2 _ rfl; (with_reducible repeat (first | refine blk_drewN ?_ _ | refine blk_drew ?_ | refine blk_alloc ?_ _)); refine blk_put (cs := #[.int .i64 ((rd_T26 l0_0 x7_1).f0), .int .i64 0, .int .i64 0, .int .i64 0, .bool false, .bool false, .bool false]) ?_ 1 _ rfl; (with_reducible repeat (first | refine blk_drewN ?_ _ | refine blk_drew ?_ | refine blk_alloc ?_ _)); refine blk_put (cs := #[.int .i64 0, .int .i64 0, .int .i64 0, .int .i64 0, .bool false, .bool false, .bool false]) ?_ 0 _ rfl; (with_reducible repeat (first | refine blk_drewN ?_ _ | refine blk_drew ?_ | refine blk_alloc ?_ _)); exact BK108.out)) : gb108 ≠ gb110)); have n10_ := a9_ ((by rw [hg]; exact Nat.ne_of_gt (blk_lt (g := gb108) (o := .cells #[.int .i64 ((rd_T26 l0_0 x7_1).f0), .int .i64 ((rd_T26 l0_0 x7_1).f1), .int .i64 ((rd_T26 l0_0 x7_1).f2), .int .i64 ((rd_T26 l0_0 x7_1).f3), .bool ((rd_T26 l0_0 x7_1).f4), .bool ((rd_T26 l0_0 x7_1).f5), .bool ((rd_T26 l0_0 x7_1).f6)] 26 (0, 0)) (by (with_reducible repeat (first | refine blk_drewN ?_ _ | refine blk_drew ?_ | refine blk_alloc ?_ _)); refine blk_put (cs := #[.int .i64 ((rd_T26 l0_0 x7_1).f0), .int .i64 ((rd_T26 l0_0 x7_1).f1), .int .i64 ((rd_T26 l0_0 x7_1).f2), .int .i64 ((rd_T26 l0_0 x7_1).f3), .bool ((rd_T26 l0_0 x7_1).f4), .bool ((rd_T26 l0_0 x7_1).f5), .bool false]) ?_ 6 _ rfl; (with_reducible repeat (first | refine blk_drewN ?_ _ | refine blk_drew ?_ | refine blk_alloc ?_ _)); refine blk_put (cs := #[.int .i64 ((rd_T26 l0_0 x7_1).f0), .int .i64 ((rd_T26 l0_0 x7_1).f1), .int .i64 ((rd_T26 l0_0 x7_1).f2), .int .i64 ((rd_T26 l0_0 x7_1).f3), .bool ((rd_T26 l0_0 x7_1).f4), .bool false, .bool false]) ?_ 5 _ rfl; (with_reducible repeat (first | refine blk_drewN ?_ _ | refine blk_drew ?_ | refine blk_alloc ?_ _)); refine blk_put (cs := #[.int .i64 ((rd_T26 l0_0 x7_1).f0), .int .i64 ((rd_T26 l0_0 x7_1).f1), .int .i64 ((rd_T26 l0_0 x7_1).f2), .int .i64 ((rd_T26 l0_0 x7_1).f3), .bool false, .bool false, .bool false]) ?_ 4 _ rfl; (with_reducible repeat (first | refine blk_drewN ?_ _ | refine blk_drew ?_ | refine blk_alloc ?_ _)); refine blk_put (cs := #[.int .i64 ((rd_T26 l0_0 x7_1).f0), .int .i64 ((rd_T26 l0_0 x7_1).f1), .int .i64 ((rd_T26 l0_0 x7_1).f2), .int .i64 0, .bool false, .bool false, .bool false]) ?_ 3 _ rfl; (with_reducible repeat (first | refine blk_drewN ?_ _ | refine blk_drew ?_ | refine blk_alloc ?_ _)); refine blk_put (cs := #[.int .i64 ((rd_T26 l0_0 x7_1).f0), .int .i64 ((rd_T26 l0_0 x7_1).f1), .int .i64 0, .int .i64 0, .bool false, .bool false, .bool false]) ?_ 2 _ rfl; (with_reducible repeat (first | refine blk_drewN ?_ _ | refine blk_drew ?_ | refine blk_alloc ?_ _)); refine blk_put (cs := #[.int .i64 ((rd_T26 l0_0 x7_1).f0), .int .i64 0, .int .i64 0, .int .i64 0, .bool false, .bool false, .bool false]) ?_ 1 _ rfl; (with_reducible repeat (first | refine blk_drewN ?_ _ | refine blk_drew ?_ | refine blk_alloc ?_ _)); refine blk_put (cs := #[.int .i64 0, .int .i64 0, .int .i64 0, .int .i64 0, .bool false, .bool false, .bool false]) ?_ 0 _ rfl; (with_reducible repeat (first | refine blk_drewN ?_ _ | refine blk_drew ?_ | refine blk_alloc ?_ _)); exact BK108.out)) : gb110 ≠ gb108)); clear HO_5; clear BK101; clear BK108; clear HB; have HO_5 := n0_; have BK101 := n1_; have BK108 := n2_; have HB := n3_; have BK110 := n4_; have GW110 := n5_; have GE110 := n6_; have NB101_110 := n7_; have NB110_101 := n8_; have NB108_110 := n9_; have NB110_108 := n10_; clear n0_ n1_ n2_ n3_ n4_ n5_ n6_ n7_ n8_ n9_ n10_; clear hb hbox hg; have hnb29 := NB110_101.out; have hnc29 := NB101_110.out; have hnb30 := NB110_108.out; have hnc30 := NB108_110.out; obtain ⟨hcz31_0, hcz31_1, hcz31_2, hcz31_3, hcz31_4, hcz31_5, hcz31_6, hfz31_0, hfz31_1, hfz31_2, hfz31_3, hfz31_4, hfz31_5, hfz31_6⟩ := cz7 BK110.out))
              (try simp only [Act.put, List.setIfInBounds_toArray, List.set_cons_zero, List.set_cons_succ])
              go_cut [11] (fun v11 wc => ∃ (kq : Nat) (x11_21 : Bool), v11 = .bool x11_21 ∧ Aside0 (cupolaref15_of.j3 kq a1 x5_2 (l0_0.length : Int) x7_1 x8_2 x11_21 l0_0 l0_1 l0_2 l0_3 l0_4 l0_5 l0_6 = some r) ∧ Aside0 (kq ≤ kj6) ∧ Aside0 (Kd.R k46 46 wc w.heap.size (fun _ => True) u5 x5_2) ∧ Aside0 (wc.heap[gb101]? = some (.cells #[(.slice (some ad107) l0_0.length c0_0), (.slice A0_1 l0_1.length c0_1), (.slice A0_2 l0_2.length c0_2), (.slice A0_3 l0_3.length c0_3), (.slice A0_4 l0_4.length c0_4), (.slice A0_5 l0_5.length c0_5), (.slice A0_6 l0_6.length c0_6)] 76 (0, 0))) ∧ Aside0 (wc.heap[gb108]? = some (.cells #[.int .i64 ((rd_T26 l0_0 x7_1).f0), .int .i64 ((rd_T26 l0_0 x7_1).f1), .int .i64 ((rd_T26 l0_0 x7_1).f2), .int .i64 ((rd_T26 l0_0 x7_1).f3), .bool ((rd_T26 l0_0 x7_1).f4), .bool ((rd_T26 l0_0 x7_1).f5), .bool ((rd_T26 l0_0 x7_1).f6)] 26 (0, 0))) ∧ Aside0 (wc.heap[gb110]? = some (.cells #[.int .i64 ((rd_T26 l0_0 x8_2).f0), .int .i64 ((rd_T26 l0_0 x8_2).f1), .int .i64 ((rd_T26 l0_0 x8_2).f2), .int .i64 ((rd_T26 l0_0 x8_2).f3), .bool ((rd_T26 l0_0 x8_2).f4), .bool ((rd_T26 l0_0 x8_2).f5), .bool ((rd_T26 l0_0 x8_2).f6)] 26 (0, 0))) ∧ Aside0 (Below w.heap.size w wc))
              case first =>
               have H := HC22.out
               clear HC22
               replace H := Option.bind_eq_some_iff.mp H
               obtain ⟨t111, A320, H⟩ := H
               have A32 := a9_ A320
               clear A320
               by_cases c33 : t111 = true
               ·subst c33
                rw [if_pos rfl] at H
                have H' := a9_ H
                clear H
                have hnb34 := NB108_101.out
                have hnc34 := NB101_108.out
                have hnb35 := NB108_110.out
                have hnc35 := NB110_108.out
                obtain ⟨hcz36_0, hcz36_1, hcz36_2, hcz36_3, hcz36_4, hcz36_5, hcz36_6, hfz36_0, hfz36_1, hfz36_2, hfz36_3, hfz36_4, hfz36_5, hfz36_6⟩ := cz7 BK108.out
                go_wp2_with (first | ((with_reducible refine gate_callee (f := 145) rfl ?_); refine goesL9 (some 46) rfl rfl Try.func145 (by kernel_rfl) rfl #[.agg #[.int .i64 ((rd_T26 l0_0 x7_1).f0), .int .i64 ((rd_T26 l0_0 x7_1).f1), .int .i64 ((rd_T26 l0_0 x7_1).f2), .int .i64 ((rd_T26 l0_0 x7_1).f3), .bool ((rd_T26 l0_0 x7_1).f4), .bool ((rd_T26 l0_0 x7_1).f5), .bool ((rd_T26 l0_0 x7_1).f6)]] rfl ?_; (with_reducible refine (cupolaref15_acquires.calls ((rd_T26 l0_0 x7_1).f0) ((rd_T26 l0_0 x7_1).f1) ((rd_T26 l0_0 x7_1).f2) ((rd_T26 l0_0 x7_1).f3) ((rd_T26 l0_0 x7_1).f4) ((rd_T26 l0_0 x7_1).f5) ((rd_T26 l0_0 x7_1).f6) true _ A32.out).mono ?_); rintro e w37 ⟨rfl, hb⟩; refine ⟨_, rfl, ?_⟩; have n0_ := a9_ (Kd.R_below (by (with_reducible repeat (first | apply Kd.R_alloc | apply Kd.R_drewN | apply Kd.R_drew)); exact (Kd.R_mono (Kd.R_far (p := ⟨gb110, 6, none⟩) (Kd.R_far (p := ⟨gb110, 5, none⟩) (Kd.R_far (p := ⟨gb110, 4, none⟩) (Kd.R_far (p := ⟨gb110, 3, none⟩) (Kd.R_far (p := ⟨gb110, 2, none⟩) (Kd.R_far (p := ⟨gb110, 1, none⟩) (Kd.R_far (p := ⟨gb110, 0, none⟩) (Kd.R_types HO_5.out BK110.out (by decide)) (fun _ hk => hk.2) (.int .i64 ((rd_T26 l0_0 x8_2).f0))) (fun _ hk => hk.2) (.int .i64 ((rd_T26 l0_0 x8_2).f1))) (fun _ hk => hk.2) (.int .i64 ((rd_T26 l0_0 x8_2).f2))) (fun _ hk => hk.2) (.int .i64 ((rd_T26 l0_0 x8_2).f3))) (fun _ hk => hk.2) (.bool ((rd_T26 l0_0 x8_2).f4))) (fun _ hk => hk.2) (.bool ((rd_T26 l0_0 x8_2).f5))) (fun _ hk => hk.2) (.bool ((rd_T26 l0_0 x8_2).f6))) (fun _ h_ => h_.1))) hb); have n1_ := a9_ (blk_below (g := gb101) (o := .cells #[.slice (some ad107) l0_0.length c0_0, .slice A0_1 l0_1.length c0_1, .slice A0_2 l0_2.length c0_2, .slice A0_3 l0_3.length c0_3, .slice A0_4 l0_4.length c0_4, .slice A0_5 l0_5.length c0_5, .slice A0_6 l0_6.length c0_6] 76 (0, 0)) (by (with_reducible repeat (first | refine blk_drewN ?_ _ | refine blk_drew ?_ | refine blk_alloc ?_ _)); refine blk_far ?_ NB101_110.out _; (with_reducible repeat (first | refine blk_drewN ?_ _ | refine blk_drew ?_ | refine blk_alloc ?_ _)); refine blk_far ?_ NB101_110.out _; (with_reducible repeat (first | refine blk_drewN ?_ _ | refine blk_drew ?_ | refine blk_alloc ?_ _)); refine blk_far ?_ NB101_110.out _; (with_reducible repeat (first | refine blk_drewN ?_ _ | refine blk_drew ?_ | refine blk_alloc ?_ _)); refine blk_far ?_ NB101_110.out _; (with_reducible repeat (first | refine blk_drewN ?_ _ | refine blk_drew ?_ | refine blk_alloc ?_ _)); refine blk_far ?_ NB101_110.out _; (with_reducible repeat (first | refine blk_drewN ?_ _ | refine blk_drew ?_ | refine blk_alloc ?_ _)); refine blk_far ?_ NB101_110.out _; (with_reducible repeat (first | refine blk_drewN ?_ _ | refine blk_drew ?_ | refine blk_alloc ?_ _)); refine blk_far ?_ NB101_110.out _; (with_reducible repeat (first | refine blk_drewN ?_ _ | refine blk_drew ?_ | refine blk_alloc ?_ _)); exact BK101.out) hb); have n2_ := a9_ (blk_below (g := gb108) (o := .cells #[.int .i64 ((rd_T26 l0_0 x7_1).f0), .int .i64 ((rd_T26 l0_0 x7_1).f1), .int .i64 ((rd_T26 l0_0 x7_1).f2), .int .i64 ((rd_T26 l0_0 x7_1).f3), .bool ((rd_T26 l0_0 x7_1).f4), .bool ((rd_T26 l0_0 x7_1).f5), .bool ((rd_T26 l0_0 x7_1).f6)] 26 (0, 0)) (by (with_reducible repeat (first | refine blk_drewN ?_ _ | refine blk_drew ?_ | refine blk_alloc ?_ _)); refine blk_far ?_ NB108_110.out _; (with_reducible repeat (first | refine blk_drewN ?_ _ | refine blk_drew ?_ | refine blk_alloc ?_ _)); refine blk_far ?_ NB108_110.out _; (with_reducible repeat (first | refine blk_drewN ?_ _ | refine blk_drew ?_ | refine blk_alloc ?_ _)); refine blk_far ?_ NB108_110.out _; (with_reducible repeat (first | refine blk_drewN ?_ _ | refine blk_drew ?_ | refine blk_alloc ?_ _)); refine blk_far ?_ NB108_110.out _; (with_reducible repeat (first | refine blk_drewN ?_ _ | refine blk_drew ?_ | refine blk_alloc ?_ _)); refine blk_far ?_ NB108_110.out _; (with_reducible repeat (first | refine blk_drewN ?_ _ | refine blk_drew ?_ | refine blk_alloc ?_ _)); refine blk_far ?_ NB108_110.out _; (with_reducible repeat (first | refine blk_drewN ?_ _ | refine blk_drew ?_ | refine blk_alloc ?_ _)); refine blk_far ?_ NB108_110.out _; (with_reducible repeat (first | refine blk_drewN ?_ _ | refine blk_drew ?_ | refine blk_alloc ?_ _)); exact BK108.out) hb); have n3_ := a9_ (blk_below (g := gb110) (o := .cells #[.int .i64 ((rd_T26 l0_0 x8_2).f0), .int .i64 ((rd_T26 l0_0 x8_2).f1), .int .i64 ((rd_T26 l0_0 x8_2).f2), .int .i64 ((rd_T26 l0_0 x8_2).f3), .bool ((rd_T26 l0_0 x8_2).f4), .bool ((rd_T26 l0_0 x8_2).f5), .bool ((rd_T26 l0_0 x8_2).f6)] 26 (0, 0)) (by (with_reducible repeat (first | refine blk_drewN ?_ _ | refine blk_drew ?_ | refine blk_alloc ?_ _)); refine blk_put (cs := #[.int .i64 ((rd_T26 l0_0 x8_2).f0), .int .i64 ((rd_T26 l0_0 x8_2).f1), .int .i64 ((rd_T26 l0_0 x8_2).f2), .int .i64 ((rd_T26 l0_0 x8_2).f3), .bool ((rd_T26 l0_0 x8_2).f4), .bool ((rd_T26 l0_0 x8_2).f5), .bool false]) ?_ 6 _ rfl; (with_reducible repeat (first | refine blk_drewN ?_ _ | refine blk_drew ?_ | refine blk_alloc ?_ _)); refine blk_put (cs := #[.int .i64 ((rd_T26 l0_0 x8_2).f0), .int .i64 ((rd_T26 l0_0 x8_2).f1), .int .i64 ((rd_T26 l0_0 x8_2).f2), .int .i64 ((rd_T26 l0_0 x8_2).f3), .bool ((rd_T26 l0_0 x8_2).f4), .bool false, .bool false]) ?_ 5 _ rfl; (with_reducible repeat (first | refine blk_drewN ?_ _ | refine blk_drew ?_ | refine blk_alloc ?_ _)); refine blk_put (cs := #[.int .i64 ((rd_T26 l0_0 x8_2).f0), .int .i64 ((rd_T26 l0_0 x8_2).f1), .int .i64 ((rd_T26 l0_0 x8_2).f2), .int .i64 ((rd_T26 l0_0 x8_2).f3), .bool false, .bool false, .bool false]) ?_ 4 _ rfl; (with_reducible repeat (first | refine blk_drewN ?_ _ | refine blk_drew ?_ | refine blk_alloc ?_ _)); refine blk_put (cs := #[.int .i64 ((rd_T26 l0_0 x8_2).f0), .int .i64 ((rd_T26 l0_0 x8_2).f1), .int .i64 ((rd_T26 l0_0 x8_2).f2), .int .i64 0, .bool false, .bool false, .bool false]) ?_ 3 _ rfl; (with_reducible repeat (first | refine blk_drewN ?_ _ | refine blk_drew ?_ | refine blk_alloc ?_ _)); refine blk_put (cs := #[.int .i64 ((rd_T26 l0_0 x8_2).f0), .int .i64 ((rd_T26 l0_0 x8_2).f1), .int .i64 0, .int .i64 0, .bool false, .bool false, .bool false]) ?_ 2 _ rfl; (with_reducible repeat (first | refine blk_drewN ?_ _ | refine blk_drew ?_ | refine blk_alloc ?_ _)); refine blk_put (cs := #[.int .i64 ((rd_T26 l0_0 x8_2).f0), .int .i64 0, .int .i64 0, .int .i64 0, .bool false, .bool false, .bool false]) ?_ 1 _ rfl; (with_reducible repeat (first | refine blk_drewN ?_ _ | refine blk_drew ?_ | refine blk_alloc ?_ _)); refine blk_put (cs := #[.int .i64 0, .int .i64 0, .int .i64 0, .int .i64 0, .bool false, .bool false, .bool false]) ?_ 0 _ rfl; (with_reducible repeat (first | refine blk_drewN ?_ _ | refine blk_drew ?_ | refine blk_alloc ?_ _)); exact BK110.out) hb); have n4_ := a9_ (below_step (bp9 HB.out) hb); clear HO_5; clear BK101; clear BK108; clear BK110; clear HB; have HO_5 := n0_; have BK101 := n1_; have BK108 := n2_; have BK110 := n3_; have HB := n4_; clear n0_ n1_ n2_ n3_ n4_; (try clear hb); (try clear hi)))
                go_meet
                case rel => exact ⟨_, (true), rs9, H', ⟨by have := HK1.out; have := HK2.out; have := HJ6.out; first | omega | exact Nat.le_refl _⟩, ⟨rp9 HO_5.out⟩, ⟨kp9 BK101.out⟩, ⟨kp9 BK108.out⟩, ⟨kp9 BK110.out⟩, ⟨bp9 HB.out⟩⟩
               ·replace c33 := Bool.eq_false_iff.mpr c33
                subst c33
                rw [if_neg (show ¬ (false = true) by decide)] at H
                replace H := Option.bind_eq_some_iff.mp H
                obtain ⟨t112, A380, H⟩ := H
                have A38 := a9_ A380
                clear A380
                by_cases c39 : t112 = true
                ·subst c39
                 rw [if_pos rfl] at H
                 have H' := a9_ H
                 clear H
                 have hnb40 := NB108_101.out
                 have hnc40 := NB101_108.out
                 have hnb41 := NB108_110.out
                 have hnc41 := NB110_108.out
                 obtain ⟨hcz42_0, hcz42_1, hcz42_2, hcz42_3, hcz42_4, hcz42_5, hcz42_6, hfz42_0, hfz42_1, hfz42_2, hfz42_3, hfz42_4, hfz42_5, hfz42_6⟩ := cz7 BK108.out
                 go_wp2_with (first | ((with_reducible refine gate_callee (f := 145) rfl ?_); refine goesL9 (some 46) rfl rfl Try.func145 (by kernel_rfl) rfl #[.agg #[.int .i64 ((rd_T26 l0_0 x7_1).f0), .int .i64 ((rd_T26 l0_0 x7_1).f1), .int .i64 ((rd_T26 l0_0 x7_1).f2), .int .i64 ((rd_T26 l0_0 x7_1).f3), .bool ((rd_T26 l0_0 x7_1).f4), .bool ((rd_T26 l0_0 x7_1).f5), .bool ((rd_T26 l0_0 x7_1).f6)]] rfl ?_; (with_reducible refine (cupolaref15_acquires.calls ((rd_T26 l0_0 x7_1).f0) ((rd_T26 l0_0 x7_1).f1) ((rd_T26 l0_0 x7_1).f2) ((rd_T26 l0_0 x7_1).f3) ((rd_T26 l0_0 x7_1).f4) ((rd_T26 l0_0 x7_1).f5) ((rd_T26 l0_0 x7_1).f6) false _ A32.out).mono ?_); rintro e w43 ⟨rfl, hb⟩; refine ⟨_, rfl, ?_⟩; have n0_ := a9_ (Kd.R_below (by (with_reducible repeat (first | apply Kd.R_alloc | apply Kd.R_drewN | apply Kd.R_drew)); exact (Kd.R_mono (Kd.R_far (p := ⟨gb110, 6, none⟩) (Kd.R_far (p := ⟨gb110, 5, none⟩) (Kd.R_far (p := ⟨gb110, 4, none⟩) (Kd.R_far (p := ⟨gb110, 3, none⟩) (Kd.R_far (p := ⟨gb110, 2, none⟩) (Kd.R_far (p := ⟨gb110, 1, none⟩) (Kd.R_far (p := ⟨gb110, 0, none⟩) (Kd.R_types HO_5.out BK110.out (by decide)) (fun _ hk => hk.2) (.int .i64 ((rd_T26 l0_0 x8_2).f0))) (fun _ hk => hk.2) (.int .i64 ((rd_T26 l0_0 x8_2).f1))) (fun _ hk => hk.2) (.int .i64 ((rd_T26 l0_0 x8_2).f2))) (fun _ hk => hk.2) (.int .i64 ((rd_T26 l0_0 x8_2).f3))) (fun _ hk => hk.2) (.bool ((rd_T26 l0_0 x8_2).f4))) (fun _ hk => hk.2) (.bool ((rd_T26 l0_0 x8_2).f5))) (fun _ hk => hk.2) (.bool ((rd_T26 l0_0 x8_2).f6))) (fun _ h_ => h_.1))) hb); have n1_ := a9_ (blk_below (g := gb101) (o := .cells #[.slice (some ad107) l0_0.length c0_0, .slice A0_1 l0_1.length c0_1, .slice A0_2 l0_2.length c0_2, .slice A0_3 l0_3.length c0_3, .slice A0_4 l0_4.length c0_4, .slice A0_5 l0_5.length c0_5, .slice A0_6 l0_6.length c0_6] 76 (0, 0)) (by (with_reducible repeat (first | refine blk_drewN ?_ _ | refine blk_drew ?_ | refine blk_alloc ?_ _)); refine blk_far ?_ NB101_110.out _; (with_reducible repeat (first | refine blk_drewN ?_ _ | refine blk_drew ?_ | refine blk_alloc ?_ _)); refine blk_far ?_ NB101_110.out _; (with_reducible repeat (first | refine blk_drewN ?_ _ | refine blk_drew ?_ | refine blk_alloc ?_ _)); refine blk_far ?_ NB101_110.out _; (with_reducible repeat (first | refine blk_drewN ?_ _ | refine blk_drew ?_ | refine blk_alloc ?_ _)); refine blk_far ?_ NB101_110.out _; (with_reducible repeat (first | refine blk_drewN ?_ _ | refine blk_drew ?_ | refine blk_alloc ?_ _)); refine blk_far ?_ NB101_110.out _; (with_reducible repeat (first | refine blk_drewN ?_ _ | refine blk_drew ?_ | refine blk_alloc ?_ _)); refine blk_far ?_ NB101_110.out _; (with_reducible repeat (first | refine blk_drewN ?_ _ | refine blk_drew ?_ | refine blk_alloc ?_ _)); refine blk_far ?_ NB101_110.out _; (with_reducible repeat (first | refine blk_drewN ?_ _ | refine blk_drew ?_ | refine blk_alloc ?_ _)); exact BK101.out) hb); have n2_ := a9_ (blk_below (g := gb108) (o := .cells #[.int .i64 ((rd_T26 l0_0 x7_1).f0), .int .i64 ((rd_T26 l0_0 x7_1).f1), .int .i64 ((rd_T26 l0_0 x7_1).f2), .int .i64 ((rd_T26 l0_0 x7_1).f3), .bool ((rd_T26 l0_0 x7_1).f4), .bool ((rd_T26 l0_0 x7_1).f5), .bool ((rd_T26 l0_0 x7_1).f6)] 26 (0, 0)) (by (with_reducible repeat (first | refine blk_drewN ?_ _ | refine blk_drew ?_ | refine blk_alloc ?_ _)); refine blk_far ?_ NB108_110.out _; (with_reducible repeat (first | refine blk_drewN ?_ _ | refine blk_drew ?_ | refine blk_alloc ?_ _)); refine blk_far ?_ NB108_110.out _; (with_reducible repeat (first | refine blk_drewN ?_ _ | refine blk_drew ?_ | refine blk_alloc ?_ _)); refine blk_far ?_ NB108_110.out _; (with_reducible repeat (first | refine blk_drewN ?_ _ | refine blk_drew ?_ | refine blk_alloc ?_ _)); refine blk_far ?_ NB108_110.out _; (with_reducible repeat (first | refine blk_drewN ?_ _ | refine blk_drew ?_ | refine blk_alloc ?_ _)); refine blk_far ?_ NB108_110.out _; (with_reducible repeat (first | refine blk_drewN ?_ _ | refine blk_drew ?_ | refine blk_alloc ?_ _)); refine blk_far ?_ NB108_110.out _; (with_reducible repeat (first | refine blk_drewN ?_ _ | refine blk_drew ?_ | refine blk_alloc ?_ _)); refine blk_far ?_ NB108_110.out _; (with_reducible repeat (first | refine blk_drewN ?_ _ | refine blk_drew ?_ | refine blk_alloc ?_ _)); exact BK108.out) hb); have n3_ := a9_ (blk_below (g := gb110) (o := .cells #[.int .i64 ((rd_T26 l0_0 x8_2).f0), .int .i64 ((rd_T26 l0_0 x8_2).f1), .int .i64 ((rd_T26 l0_0 x8_2).f2), .int .i64 ((rd_T26 l0_0 x8_2).f3), .bool ((rd_T26 l0_0 x8_2).f4), .bool ((rd_T26 l0_0 x8_2).f5), .bool ((rd_T26 l0_0 x8_2).f6)] 26 (0, 0)) (by (with_reducible repeat (first | refine blk_drewN ?_ _ | refine blk_drew ?_ | refine blk_alloc ?_ _)); refine blk_put (cs := #[.int .i64 ((rd_T26 l0_0 x8_2).f0), .int .i64 ((rd_T26 l0_0 x8_2).f1), .int .i64 ((rd_T26 l0_0 x8_2).f2), .int .i64 ((rd_T26 l0_0 x8_2).f3), .bool ((rd_T26 l0_0 x8_2).f4), .bool ((rd_T26 l0_0 x8_2).f5), .bool false]) ?_ 6 _ rfl; (with_reducible repeat (first | refine blk_drewN ?_ _ | refine blk_drew ?_ | refine blk_alloc ?_ _)); refine blk_put (cs := #[.int .i64 ((rd_T26 l0_0 x8_2).f0), .int .i64 ((rd_T26 l0_0 x8_2).f1), .int .i64 ((rd_T26 l0_0 x8_2).f2), .int .i64 ((rd_T26 l0_0 x8_2).f3), .bool ((rd_T26 l0_0 x8_2).f4), .bool false, .bool false]) ?_ 5 _ rfl; (with_reducible repeat (first | refine blk_drewN ?_ _ | refine blk_drew ?_ | refine blk_alloc ?_ _)); refine blk_put (cs := #[.int .i64 ((rd_T26 l0_0 x8_2).f0), .int .i64 ((rd_T26 l0_0 x8_2).f1), .int .i64 ((rd_T26 l0_0 x8_2).f2), .int .i64 ((rd_T26 l0_0 x8_2).f3), .bool false, .bool false, .bool false]) ?_ 4 _ rfl; (with_reducible repeat (first | refine blk_drewN ?_ _ | refine blk_drew ?_ | refine blk_alloc ?_ _)); refine blk_put (cs := #[.int .i64 ((rd_T26 l0_0 x8_2).f0), .int .i64 ((rd_T26 l0_0 x8_2).f1), .int .i64 ((rd_T26 l0_0 x8_2).f2), .int .i64 0, .bool false, .bool false, .bool false]) ?_ 3 _ rfl; (with_reducible repeat (first | refine blk_drewN ?_ _ | refine blk_drew ?_ | refine blk_alloc ?_ _)); refine blk_put (cs := #[.int .i64 ((rd_T26 l0_0 x8_2).f0), .int .i64 ((rd_T26 l0_0 x8_2).f1), .int .i64 0, .int .i64 0, .bool false, .bool false, .bool false]) ?_ 2 _ rfl; (with_reducible repeat (first | refine blk_drewN ?_ _ | refine blk_drew ?_ | refine blk_alloc ?_ _)); refine blk_put (cs := #[.int .i64 ((rd_T26 l0_0 x8_2).f0), .int .i64 0, .int .i64 0, .int .i64 0, .bool false, .bool false, .bool false]) ?_ 1 _ rfl; (with_reducible repeat (first | refine blk_drewN ?_ _ | refine blk_drew ?_ | refine blk_alloc ?_ _)); refine blk_put (cs := #[.int .i64 0, .int .i64 0, .int .i64 0, .int .i64 0, .bool false, .bool false, .bool false]) ?_ 0 _ rfl; (with_reducible repeat (first | refine blk_drewN ?_ _ | refine blk_drew ?_ | refine blk_alloc ?_ _)); exact BK110.out) hb); have n4_ := a9_ (below_step (bp9 HB.out) hb); clear HO_5; clear BK101; clear BK108; clear BK110; clear HB; have HO_5 := n0_; have BK101 := n1_; have BK108 := n2_; have BK110 := n3_; have HB := n4_; clear n0_ n1_ n2_ n3_ n4_; (try clear hb); have hnb44 := NB110_101.out; have hnc44 := NB101_110.out; obtain ⟨hcz45_0, hcz45_1, hcz45_2, hcz45_3, hcz45_4, hcz45_5, hcz45_6, hfz45_0, hfz45_1, hfz45_2, hfz45_3, hfz45_4, hfz45_5, hfz45_6⟩ := cz7 BK110.out) | (go_at_call 144; (with_reducible refine (cupolaref15_releases.calls ((rd_T26 l0_0 x8_2).f0) ((rd_T26 l0_0 x8_2).f1) ((rd_T26 l0_0 x8_2).f2) ((rd_T26 l0_0 x8_2).f3) ((rd_T26 l0_0 x8_2).f4) ((rd_T26 l0_0 x8_2).f5) ((rd_T26 l0_0 x8_2).f6) true _ A38.out).mono ?_); rintro e w46 ⟨rfl, hb⟩; have n0_ := a9_ (Kd.R_below (rp9 HO_5.out) hb); have n1_ := a9_ (blk_below (kp9 BK101.out) hb); have n2_ := a9_ (blk_below (kp9 BK108.out) hb); have n3_ := a9_ (blk_below (kp9 BK110.out) hb); have n4_ := a9_ (below_step (bp9 HB.out) hb); clear HO_5; clear BK101; clear BK108; clear BK110; clear HB; have HO_5 := n0_; have BK101 := n1_; have BK108 := n2_; have BK110 := n3_; have HB := n4_; clear n0_ n1_ n2_ n3_ n4_; (try clear hb); (try clear hi)))
                 go_meet
                 case rel => exact ⟨_, (true), rs9, H', ⟨by have := HK1.out; have := HK2.out; have := HJ6.out; first | omega | exact Nat.le_refl _⟩, ⟨rp9 HO_5.out⟩, ⟨kp9 BK101.out⟩, ⟨kp9 BK108.out⟩, ⟨kp9 BK110.out⟩, ⟨bp9 HB.out⟩⟩
                ·replace c39 := Bool.eq_false_iff.mpr c39
                 subst c39
                 rw [if_neg (show ¬ (false = true) by decide)] at H
                 replace H := Option.bind_eq_some_iff.mp H
                 obtain ⟨t113, A470, H⟩ := H
                 have A47 := a9_ A470
                 clear A470
                 by_cases c48 : t113 = true
                 ·subst c48
                  rw [if_pos rfl] at H
                  replace H := Option.bind_eq_some_iff.mp H
                  obtain ⟨t114, A490, H⟩ := H
                  have A49 := a9_ A490
                  clear A490
                  have H' := a9_ H
                  clear H
                  have hnb50 := NB108_101.out
                  have hnc50 := NB101_108.out
                  have hnb51 := NB108_110.out
                  have hnc51 := NB110_108.out
                  obtain ⟨hcz52_0, hcz52_1, hcz52_2, hcz52_3, hcz52_4, hcz52_5, hcz52_6, hfz52_0, hfz52_1, hfz52_2, hfz52_3, hfz52_4, hfz52_5, hfz52_6⟩ := cz7 BK108.out
                  go_wp2_with (first | ((with_reducible refine gate_callee (f := 145) rfl ?_); refine goesL9 (some 46) rfl rfl Try.func145 (by kernel_rfl) rfl #[.agg #[.int .i64 ((rd_T26 l0_0 x7_1).f0), .int .i64 ((rd_T26 l0_0 x7_1).f1), .int .i64 ((rd_T26 l0_0 x7_1).f2), .int .i64 ((rd_T26 l0_0 x7_1).f3), .bool ((rd_T26 l0_0 x7_1).f4), .bool ((rd_T26 l0_0 x7_1).f5), .bool ((rd_T26 l0_0 x7_1).f6)]] rfl ?_; (with_reducible refine (cupolaref15_acquires.calls ((rd_T26 l0_0 x7_1).f0) ((rd_T26 l0_0 x7_1).f1) ((rd_T26 l0_0 x7_1).f2) ((rd_T26 l0_0 x7_1).f3) ((rd_T26 l0_0 x7_1).f4) ((rd_T26 l0_0 x7_1).f5) ((rd_T26 l0_0 x7_1).f6) false _ A32.out).mono ?_); rintro e w53 ⟨rfl, hb⟩; refine ⟨_, rfl, ?_⟩; have n0_ := a9_ (Kd.R_below (by (with_reducible repeat (first | apply Kd.R_alloc | apply Kd.R_drewN | apply Kd.R_drew)); exact (Kd.R_mono (Kd.R_far (p := ⟨gb110, 6, none⟩) (Kd.R_far (p := ⟨gb110, 5, none⟩) (Kd.R_far (p := ⟨gb110, 4, none⟩) (Kd.R_far (p := ⟨gb110, 3, none⟩) (Kd.R_far (p := ⟨gb110, 2, none⟩) (Kd.R_far (p := ⟨gb110, 1, none⟩) (Kd.R_far (p := ⟨gb110, 0, none⟩) (Kd.R_types HO_5.out BK110.out (by decide)) (fun _ hk => hk.2) (.int .i64 ((rd_T26 l0_0 x8_2).f0))) (fun _ hk => hk.2) (.int .i64 ((rd_T26 l0_0 x8_2).f1))) (fun _ hk => hk.2) (.int .i64 ((rd_T26 l0_0 x8_2).f2))) (fun _ hk => hk.2) (.int .i64 ((rd_T26 l0_0 x8_2).f3))) (fun _ hk => hk.2) (.bool ((rd_T26 l0_0 x8_2).f4))) (fun _ hk => hk.2) (.bool ((rd_T26 l0_0 x8_2).f5))) (fun _ hk => hk.2) (.bool ((rd_T26 l0_0 x8_2).f6))) (fun _ h_ => h_.1))) hb); have n1_ := a9_ (blk_below (g := gb101) (o := .cells #[.slice (some ad107) l0_0.length c0_0, .slice A0_1 l0_1.length c0_1, .slice A0_2 l0_2.length c0_2, .slice A0_3 l0_3.length c0_3, .slice A0_4 l0_4.length c0_4, .slice A0_5 l0_5.length c0_5, .slice A0_6 l0_6.length c0_6] 76 (0, 0)) (by (with_reducible repeat (first | refine blk_drewN ?_ _ | refine blk_drew ?_ | refine blk_alloc ?_ _)); refine blk_far ?_ NB101_110.out _; (with_reducible repeat (first | refine blk_drewN ?_ _ | refine blk_drew ?_ | refine blk_alloc ?_ _)); refine blk_far ?_ NB101_110.out _; (with_reducible repeat (first | refine blk_drewN ?_ _ | refine blk_drew ?_ | refine blk_alloc ?_ _)); refine blk_far ?_ NB101_110.out _; (with_reducible repeat (first | refine blk_drewN ?_ _ | refine blk_drew ?_ | refine blk_alloc ?_ _)); refine blk_far ?_ NB101_110.out _; (with_reducible repeat (first | refine blk_drewN ?_ _ | refine blk_drew ?_ | refine blk_alloc ?_ _)); refine blk_far ?_ NB101_110.out _; (with_reducible repeat (first | refine blk_drewN ?_ _ | refine blk_drew ?_ | refine blk_alloc ?_ _)); refine blk_far ?_ NB101_110.out _; (with_reducible repeat (first | refine blk_drewN ?_ _ | refine blk_drew ?_ | refine blk_alloc ?_ _)); refine blk_far ?_ NB101_110.out _; (with_reducible repeat (first | refine blk_drewN ?_ _ | refine blk_drew ?_ | refine blk_alloc ?_ _)); exact BK101.out) hb); have n2_ := a9_ (blk_below (g := gb108) (o := .cells #[.int .i64 ((rd_T26 l0_0 x7_1).f0), .int .i64 ((rd_T26 l0_0 x7_1).f1), .int .i64 ((rd_T26 l0_0 x7_1).f2), .int .i64 ((rd_T26 l0_0 x7_1).f3), .bool ((rd_T26 l0_0 x7_1).f4), .bool ((rd_T26 l0_0 x7_1).f5), .bool ((rd_T26 l0_0 x7_1).f6)] 26 (0, 0)) (by (with_reducible repeat (first | refine blk_drewN ?_ _ | refine blk_drew ?_ | refine blk_alloc ?_ _)); refine blk_far ?_ NB108_110.out _; (with_reducible repeat (first | refine blk_drewN ?_ _ | refine blk_drew ?_ | refine blk_alloc ?_ _)); refine blk_far ?_ NB108_110.out _; (with_reducible repeat (first | refine blk_drewN ?_ _ | refine blk_drew ?_ | refine blk_alloc ?_ _)); refine blk_far ?_ NB108_110.out _; (with_reducible repeat (first | refine blk_drewN ?_ _ | refine blk_drew ?_ | refine blk_alloc ?_ _)); refine blk_far ?_ NB108_110.out _; (with_reducible repeat (first | refine blk_drewN ?_ _ | refine blk_drew ?_ | refine blk_alloc ?_ _)); refine blk_far ?_ NB108_110.out _; (with_reducible repeat (first | refine blk_drewN ?_ _ | refine blk_drew ?_ | refine blk_alloc ?_ _)); refine blk_far ?_ NB108_110.out _; (with_reducible repeat (first | refine blk_drewN ?_ _ | refine blk_drew ?_ | refine blk_alloc ?_ _)); refine blk_far ?_ NB108_110.out _; (with_reducible repeat (first | refine blk_drewN ?_ _ | refine blk_drew ?_ | refine blk_alloc ?_ _)); exact BK108.out) hb); have n3_ := a9_ (blk_below (g := gb110) (o := .cells #[.int .i64 ((rd_T26 l0_0 x8_2).f0), .int .i64 ((rd_T26 l0_0 x8_2).f1), .int .i64 ((rd_T26 l0_0 x8_2).f2), .int .i64 ((rd_T26 l0_0 x8_2).f3), .bool ((rd_T26 l0_0 x8_2).f4), .bool ((rd_T26 l0_0 x8_2).f5), .bool ((rd_T26 l0_0 x8_2).f6)] 26 (0, 0)) (by (with_reducible repeat (first | refine blk_drewN ?_ _ | refine blk_drew ?_ | refine blk_alloc ?_ _)); refine blk_put (cs := #[.int .i64 ((rd_T26 l0_0 x8_2).f0), .int .i64 ((rd_T26 l0_0 x8_2).f1), .int .i64 ((rd_T26 l0_0 x8_2).f2), .int .i64 ((rd_T26 l0_0 x8_2).f3), .bool ((rd_T26 l0_0 x8_2).f4), .bool ((rd_T26 l0_0 x8_2).f5), .bool false]) ?_ 6 _ rfl; (with_reducible repeat (first | refine blk_drewN ?_ _ | refine blk_drew ?_ | refine blk_alloc ?_ _)); refine blk_put (cs := #[.int .i64 ((rd_T26 l0_0 x8_2).f0), .int .i64 ((rd_T26 l0_0 x8_2).f1), .int .i64 ((rd_T26 l0_0 x8_2).f2), .int .i64 ((rd_T26 l0_0 x8_2).f3), .bool ((rd_T26 l0_0 x8_2).f4), .bool false, .bool false]) ?_ 5 _ rfl; (with_reducible repeat (first | refine blk_drewN ?_ _ | refine blk_drew ?_ | refine blk_alloc ?_ _)); refine blk_put (cs := #[.int .i64 ((rd_T26 l0_0 x8_2).f0), .int .i64 ((rd_T26 l0_0 x8_2).f1), .int .i64 ((rd_T26 l0_0 x8_2).f2), .int .i64 ((rd_T26 l0_0 x8_2).f3), .bool false, .bool false, .bool false]) ?_ 4 _ rfl; (with_reducible repeat (first | refine blk_drewN ?_ _ | refine blk_drew ?_ | refine blk_alloc ?_ _)); refine blk_put (cs := #[.int .i64 ((rd_T26 l0_0 x8_2).f0), .int .i64 ((rd_T26 l0_0 x8_2).f1), .int .i64 ((rd_T26 l0_0 x8_2).f2), .int .i64 0, .bool false, .bool false, .bool false]) ?_ 3 _ rfl; (with_reducible repeat (first | refine blk_drewN ?_ _ | refine blk_drew ?_ | refine blk_alloc ?_ _)); refine blk_put (cs := #[.int .i64 ((rd_T26 l0_0 x8_2).f0), .int .i64 ((rd_T26 l0_0 x8_2).f1), .int .i64 0, .int .i64 0, .bool false, .bool false, .bool false]) ?_ 2 _ rfl; (with_reducible repeat (first | refine blk_drewN ?_ _ | refine blk_drew ?_ | refine blk_alloc ?_ _)); refine blk_put (cs := #[.int .i64 ((rd_T26 l0_0 x8_2).f0), .int .i64 0, .int .i64 0, .int .i64 0, .bool false, .bool false, .bool false]) ?_ 1 _ rfl; (with_reducible repeat (first | refine blk_drewN ?_ _ | refine blk_drew ?_ | refine blk_alloc ?_ _)); refine blk_put (cs := #[.int .i64 0, .int .i64 0, .int .i64 0, .int .i64 0, .bool false, .bool false, .bool false]) ?_ 0 _ rfl; (with_reducible repeat (first | refine blk_drewN ?_ _ | refine blk_drew ?_ | refine blk_alloc ?_ _)); exact BK110.out) hb); have n4_ := a9_ (below_step (bp9 HB.out) hb); clear HO_5; clear BK101; clear BK108; clear BK110; clear HB; have HO_5 := n0_; have BK101 := n1_; have BK108 := n2_; have BK110 := n3_; have HB := n4_; clear n0_ n1_ n2_ n3_ n4_; (try clear hb); have hnb54 := NB110_101.out; have hnc54 := NB101_110.out; obtain ⟨hcz55_0, hcz55_1, hcz55_2, hcz55_3, hcz55_4, hcz55_5, hcz55_6, hfz55_0, hfz55_1, hfz55_2, hfz55_3, hfz55_4, hfz55_5, hfz55_6⟩ := cz7 BK110.out) | (go_at_call 144; (with_reducible refine (cupolaref15_releases.calls ((rd_T26 l0_0 x8_2).f0) ((rd_T26 l0_0 x8_2).f1) ((rd_T26 l0_0 x8_2).f2) ((rd_T26 l0_0 x8_2).f3) ((rd_T26 l0_0 x8_2).f4) ((rd_T26 l0_0 x8_2).f5) ((rd_T26 l0_0 x8_2).f6) false _ A38.out).mono ?_); rintro e w56 ⟨rfl, hb⟩; have n0_ := a9_ (Kd.R_below (rp9 HO_5.out) hb); have n1_ := a9_ (blk_below (kp9 BK101.out) hb); have n2_ := a9_ (blk_below (kp9 BK108.out) hb); have n3_ := a9_ (blk_below (kp9 BK110.out) hb); have n4_ := a9_ (below_step (bp9 HB.out) hb); clear HO_5; clear BK101; clear BK108; clear BK110; clear HB; have HO_5 := n0_; have BK101 := n1_; have BK108 := n2_; have BK110 := n3_; have HB := n4_; clear n0_ n1_ n2_ n3_ n4_; (try clear hb); obtain ⟨hcz57_0, hcz57_1, hcz57_2, hcz57_3, hcz57_4, hcz57_5, hcz57_6, hfz57_0, hfz57_1, hfz57_2, hfz57_3, hfz57_4, hfz57_5, hfz57_6⟩ := cz7 BK108.out) | (go_at_call 144; (with_reducible refine (cupolaref15_releases.calls ((rd_T26 l0_0 x7_1).f0) ((rd_T26 l0_0 x7_1).f1) ((rd_T26 l0_0 x7_1).f2) ((rd_T26 l0_0 x7_1).f3) ((rd_T26 l0_0 x7_1).f4) ((rd_T26 l0_0 x7_1).f5) ((rd_T26 l0_0 x7_1).f6) true _ A47.out).mono ?_); rintro e w58 ⟨rfl, hb⟩; have n0_ := a9_ (Kd.R_below (rp9 HO_5.out) hb); have n1_ := a9_ (blk_below (kp9 BK101.out) hb); have n2_ := a9_ (blk_below (kp9 BK108.out) hb); have n3_ := a9_ (blk_below (kp9 BK110.out) hb); have n4_ := a9_ (below_step (bp9 HB.out) hb); clear HO_5; clear BK101; clear BK108; clear BK110; clear HB; have HO_5 := n0_; have BK101 := n1_; have BK108 := n2_; have BK110 := n3_; have HB := n4_; clear n0_ n1_ n2_ n3_ n4_; (try clear hb); obtain ⟨hcz59_0, hcz59_1, hcz59_2, hcz59_3, hcz59_4, hcz59_5, hcz59_6, hfz59_0, hfz59_1, hfz59_2, hfz59_3, hfz59_4, hfz59_5, hfz59_6⟩ := cz7 BK110.out) | (go_at_call 145; (with_reducible refine (cupolaref15_acquires.calls ((rd_T26 l0_0 x8_2).f0) ((rd_T26 l0_0 x8_2).f1) ((rd_T26 l0_0 x8_2).f2) ((rd_T26 l0_0 x8_2).f3) ((rd_T26 l0_0 x8_2).f4) ((rd_T26 l0_0 x8_2).f5) ((rd_T26 l0_0 x8_2).f6) t114 _ A49.out).mono ?_); rintro e w60 ⟨rfl, hb⟩; have n0_ := a9_ (Kd.R_below (rp9 HO_5.out) hb); have n1_ := a9_ (blk_below (kp9 BK101.out) hb); have n2_ := a9_ (blk_below (kp9 BK108.out) hb); have n3_ := a9_ (blk_below (kp9 BK110.out) hb); have n4_ := a9_ (below_step (bp9 HB.out) hb); clear HO_5; clear BK101; clear BK108; clear BK110; clear HB; have HO_5 := n0_; have BK101 := n1_; have BK108 := n2_; have BK110 := n3_; have HB := n4_; clear n0_ n1_ n2_ n3_ n4_; (try clear hb); (try clear hi)))
                  go_meet
                  case rel => exact ⟨_, (t114), rs9, H', ⟨by have := HK1.out; have := HK2.out; have := HJ6.out; first | omega | exact Nat.le_refl _⟩, ⟨rp9 HO_5.out⟩, ⟨kp9 BK101.out⟩, ⟨kp9 BK108.out⟩, ⟨kp9 BK110.out⟩, ⟨bp9 HB.out⟩⟩
                 ·replace c48 := Bool.eq_false_iff.mpr c48
                  subst c48
                  rw [if_neg (show ¬ (false = true) by decide)] at H
                  have H' := a9_ H
                  clear H
                  have hnb61 := NB108_101.out
                  have hnc61 := NB101_108.out
                  have hnb62 := NB108_110.out
                  have hnc62 := NB110_108.out
                  obtain ⟨hcz63_0, hcz63_1, hcz63_2, hcz63_3, hcz63_4, hcz63_5, hcz63_6, hfz63_0, hfz63_1, hfz63_2, hfz63_3, hfz63_4, hfz63_5, hfz63_6⟩ := cz7 BK108.out
                  go_wp2_with (first | ((with_reducible refine gate_callee (f := 145) rfl ?_); refine goesL9 (some 46) rfl rfl Try.func145 (by kernel_rfl) rfl #[.agg #[.int .i64 ((rd_T26 l0_0 x7_1).f0), .int .i64 ((rd_T26 l0_0 x7_1).f1), .int .i64 ((rd_T26 l0_0 x7_1).f2), .int .i64 ((rd_T26 l0_0 x7_1).f3), .bool ((rd_T26 l0_0 x7_1).f4), .bool ((rd_T26 l0_0 x7_1).f5), .bool ((rd_T26 l0_0 x7_1).f6)]] rfl ?_; (with_reducible refine (cupolaref15_acquires.calls ((rd_T26 l0_0 x7_1).f0) ((rd_T26 l0_0 x7_1).f1) ((rd_T26 l0_0 x7_1).f2) ((rd_T26 l0_0 x7_1).f3) ((rd_T26 l0_0 x7_1).f4) ((rd_T26 l0_0 x7_1).f5) ((rd_T26 l0_0 x7_1).f6) false _ A32.out).mono ?_); rintro e w64 ⟨rfl, hb⟩; refine ⟨_, rfl, ?_⟩; have n0_ := a9_ (Kd.R_below (by (with_reducible repeat (first | apply Kd.R_alloc | apply Kd.R_drewN | apply Kd.R_drew)); exact (Kd.R_mono (Kd.R_far (p := ⟨gb110, 6, none⟩) (Kd.R_far (p := ⟨gb110, 5, none⟩) (Kd.R_far (p := ⟨gb110, 4, none⟩) (Kd.R_far (p := ⟨gb110, 3, none⟩) (Kd.R_far (p := ⟨gb110, 2, none⟩) (Kd.R_far (p := ⟨gb110, 1, none⟩) (Kd.R_far (p := ⟨gb110, 0, none⟩) (Kd.R_types HO_5.out BK110.out (by decide)) (fun _ hk => hk.2) (.int .i64 ((rd_T26 l0_0 x8_2).f0))) (fun _ hk => hk.2) (.int .i64 ((rd_T26 l0_0 x8_2).f1))) (fun _ hk => hk.2) (.int .i64 ((rd_T26 l0_0 x8_2).f2))) (fun _ hk => hk.2) (.int .i64 ((rd_T26 l0_0 x8_2).f3))) (fun _ hk => hk.2) (.bool ((rd_T26 l0_0 x8_2).f4))) (fun _ hk => hk.2) (.bool ((rd_T26 l0_0 x8_2).f5))) (fun _ hk => hk.2) (.bool ((rd_T26 l0_0 x8_2).f6))) (fun _ h_ => h_.1))) hb); have n1_ := a9_ (blk_below (g := gb101) (o := .cells #[.slice (some ad107) l0_0.length c0_0, .slice A0_1 l0_1.length c0_1, .slice A0_2 l0_2.length c0_2, .slice A0_3 l0_3.length c0_3, .slice A0_4 l0_4.length c0_4, .slice A0_5 l0_5.length c0_5, .slice A0_6 l0_6.length c0_6] 76 (0, 0)) (by (with_reducible repeat (first | refine blk_drewN ?_ _ | refine blk_drew ?_ | refine blk_alloc ?_ _)); refine blk_far ?_ NB101_110.out _; (with_reducible repeat (first | refine blk_drewN ?_ _ | refine blk_drew ?_ | refine blk_alloc ?_ _)); refine blk_far ?_ NB101_110.out _; (with_reducible repeat (first | refine blk_drewN ?_ _ | refine blk_drew ?_ | refine blk_alloc ?_ _)); refine blk_far ?_ NB101_110.out _; (with_reducible repeat (first | refine blk_drewN ?_ _ | refine blk_drew ?_ | refine blk_alloc ?_ _)); refine blk_far ?_ NB101_110.out _; (with_reducible repeat (first | refine blk_drewN ?_ _ | refine blk_drew ?_ | refine blk_alloc ?_ _)); refine blk_far ?_ NB101_110.out _; (with_reducible repeat (first | refine blk_drewN ?_ _ | refine blk_drew ?_ | refine blk_alloc ?_ _)); refine blk_far ?_ NB101_110.out _; (with_reducible repeat (first | refine blk_drewN ?_ _ | refine blk_drew ?_ | refine blk_alloc ?_ _)); refine blk_far ?_ NB101_110.out _; (with_reducible repeat (first | refine blk_drewN ?_ _ | refine blk_drew ?_ | refine blk_alloc ?_ _)); exact BK101.out) hb); have n2_ := a9_ (blk_below (g := gb108) (o := .cells #[.int .i64 ((rd_T26 l0_0 x7_1).f0), .int .i64 ((rd_T26 l0_0 x7_1).f1), .int .i64 ((rd_T26 l0_0 x7_1).f2), .int .i64 ((rd_T26 l0_0 x7_1).f3), .bool ((rd_T26 l0_0 x7_1).f4), .bool ((rd_T26 l0_0 x7_1).f5), .bool ((rd_T26 l0_0 x7_1).f6)] 26 (0, 0)) (by (with_reducible repeat (first | refine blk_drewN ?_ _ | refine blk_drew ?_ | refine blk_alloc ?_ _)); refine blk_far ?_ NB108_110.out _; (with_reducible repeat (first | refine blk_drewN ?_ _ | refine blk_drew ?_ | refine blk_alloc ?_ _)); refine blk_far ?_ NB108_110.out _; (with_reducible repeat (first | refine blk_drewN ?_ _ | refine blk_drew ?_ | refine blk_alloc ?_ _)); refine blk_far ?_ NB108_110.out _; (with_reducible repeat (first | refine blk_drewN ?_ _ | refine blk_drew ?_ | refine blk_alloc ?_ _)); refine blk_far ?_ NB108_110.out _; (with_reducible repeat (first | refine blk_drewN ?_ _ | refine blk_drew ?_ | refine blk_alloc ?_ _)); refine blk_far ?_ NB108_110.out _; (with_reducible repeat (first | refine blk_drewN ?_ _ | refine blk_drew ?_ | refine blk_alloc ?_ _)); refine blk_far ?_ NB108_110.out _; (with_reducible repeat (first | refine blk_drewN ?_ _ | refine blk_drew ?_ | refine blk_alloc ?_ _)); refine blk_far ?_ NB108_110.out _; (with_reducible repeat (first | refine blk_drewN ?_ _ | refine blk_drew ?_ | refine blk_alloc ?_ _)); exact BK108.out) hb); have n3_ := a9_ (blk_below (g := gb110) (o := .cells #[.int .i64 ((rd_T26 l0_0 x8_2).f0), .int .i64 ((rd_T26 l0_0 x8_2).f1), .int .i64 ((rd_T26 l0_0 x8_2).f2), .int .i64 ((rd_T26 l0_0 x8_2).f3), .bool ((rd_T26 l0_0 x8_2).f4), .bool ((rd_T26 l0_0 x8_2).f5), .bool ((rd_T26 l0_0 x8_2).f6)] 26 (0, 0)) (by (with_reducible repeat (first | refine blk_drewN ?_ _ | refine blk_drew ?_ | refine blk_alloc ?_ _)); refine blk_put (cs := #[.int .i64 ((rd_T26 l0_0 x8_2).f0), .int .i64 ((rd_T26 l0_0 x8_2).f1), .int .i64 ((rd_T26 l0_0 x8_2).f2), .int .i64 ((rd_T26 l0_0 x8_2).f3), .bool ((rd_T26 l0_0 x8_2).f4), .bool ((rd_T26 l0_0 x8_2).f5), .bool false]) ?_ 6 _ rfl; (with_reducible repeat (first | refine blk_drewN ?_ _ | refine blk_drew ?_ | refine blk_alloc ?_ _)); refine blk_put (cs := #[.int .i64 ((rd_T26 l0_0 x8_2).f0), .int .i64 ((rd_T26 l0_0 x8_2).f1), .int .i64 ((rd_T26 l0_0 x8_2).f2), .int .i64 ((rd_T26 l0_0 x8_2).f3), .bool ((rd_T26 l0_0 x8_2).f4), .bool false, .bool false]) ?_ 5 _ rfl; (with_reducible repeat (first | refine blk_drewN ?_ _ | refine blk_drew ?_ | refine blk_alloc ?_ _)); refine blk_put (cs := #[.int .i64 ((rd_T26 l0_0 x8_2).f0), .int .i64 ((rd_T26 l0_0 x8_2).f1), .int .i64 ((rd_T26 l0_0 x8_2).f2), .int .i64 ((rd_T26 l0_0 x8_2).f3), .bool false, .bool false, .bool false]) ?_ 4 _ rfl; (with_reducible repeat (first | refine blk_drewN ?_ _ | refine blk_drew ?_ | refine blk_alloc ?_ _)); refine blk_put (cs := #[.int .i64 ((rd_T26 l0_0 x8_2).f0), .int .i64 ((rd_T26 l0_0 x8_2).f1), .int .i64 ((rd_T26 l0_0 x8_2).f2), .int .i64 0, .bool false, .bool false, .bool false]) ?_ 3 _ rfl; (with_reducible repeat (first | refine blk_drewN ?_ _ | refine blk_drew ?_ | refine blk_alloc ?_ _)); refine blk_put (cs := #[.int .i64 ((rd_T26 l0_0 x8_2).f0), .int .i64 ((rd_T26 l0_0 x8_2).f1), .int .i64 0, .int .i64 0, .bool false, .bool false, .bool false]) ?_ 2 _ rfl; (with_reducible repeat (first | refine blk_drewN ?_ _ | refine blk_drew ?_ | refine blk_alloc ?_ _)); refine blk_put (cs := #[.int .i64 ((rd_T26 l0_0 x8_2).f0), .int .i64 0, .int .i64 0, .int .i64 0, .bool false, .bool false, .bool false]) ?_ 1 _ rfl; (with_reducible repeat (first | refine blk_drewN ?_ _ | refine blk_drew ?_ | refine blk_alloc ?_ _)); refine blk_put (cs := #[.int .i64 0, .int .i64 0, .int .i64 0, .int .i64 0, .bool false, .bool false, .bool false]) ?_ 0 _ rfl; (with_reducible repeat (first | refine blk_drewN ?_ _ | refine blk_drew ?_ | refine blk_alloc ?_ _)); exact BK110.out) hb); have n4_ := a9_ (below_step (bp9 HB.out) hb); clear HO_5; clear BK101; clear BK108; clear BK110; clear HB; have HO_5 := n0_; have BK101 := n1_; have BK108 := n2_; have BK110 := n3_; have HB := n4_; clear n0_ n1_ n2_ n3_ n4_; (try clear hb); have hnb65 := NB110_101.out; have hnc65 := NB101_110.out; obtain ⟨hcz66_0, hcz66_1, hcz66_2, hcz66_3, hcz66_4, hcz66_5, hcz66_6, hfz66_0, hfz66_1, hfz66_2, hfz66_3, hfz66_4, hfz66_5, hfz66_6⟩ := cz7 BK110.out) | (go_at_call 144; (with_reducible refine (cupolaref15_releases.calls ((rd_T26 l0_0 x8_2).f0) ((rd_T26 l0_0 x8_2).f1) ((rd_T26 l0_0 x8_2).f2) ((rd_T26 l0_0 x8_2).f3) ((rd_T26 l0_0 x8_2).f4) ((rd_T26 l0_0 x8_2).f5) ((rd_T26 l0_0 x8_2).f6) false _ A38.out).mono ?_); rintro e w67 ⟨rfl, hb⟩; have n0_ := a9_ (Kd.R_below (rp9 HO_5.out) hb); have n1_ := a9_ (blk_below (kp9 BK101.out) hb); have n2_ := a9_ (blk_below (kp9 BK108.out) hb); have n3_ := a9_ (blk_below (kp9 BK110.out) hb); have n4_ := a9_ (below_step (bp9 HB.out) hb); clear HO_5; clear BK101; clear BK108; clear BK110; clear HB; have HO_5 := n0_; have BK101 := n1_; have BK108 := n2_; have BK110 := n3_; have HB := n4_; clear n0_ n1_ n2_ n3_ n4_; (try clear hb); obtain ⟨hcz68_0, hcz68_1, hcz68_2, hcz68_3, hcz68_4, hcz68_5, hcz68_6, hfz68_0, hfz68_1, hfz68_2, hfz68_3, hfz68_4, hfz68_5, hfz68_6⟩ := cz7 BK108.out) | (go_at_call 144; (with_reducible refine (cupolaref15_releases.calls ((rd_T26 l0_0 x7_1).f0) ((rd_T26 l0_0 x7_1).f1) ((rd_T26 l0_0 x7_1).f2) ((rd_T26 l0_0 x7_1).f3) ((rd_T26 l0_0 x7_1).f4) ((rd_T26 l0_0 x7_1).f5) ((rd_T26 l0_0 x7_1).f6) false _ A47.out).mono ?_); rintro e w69 ⟨rfl, hb⟩; have n0_ := a9_ (Kd.R_below (rp9 HO_5.out) hb); have n1_ := a9_ (blk_below (kp9 BK101.out) hb); have n2_ := a9_ (blk_below (kp9 BK108.out) hb); have n3_ := a9_ (blk_below (kp9 BK110.out) hb); have n4_ := a9_ (below_step (bp9 HB.out) hb); clear HO_5; clear BK101; clear BK108; clear BK110; clear HB; have HO_5 := n0_; have BK101 := n1_; have BK108 := n2_; have BK110 := n3_; have HB := n4_; clear n0_ n1_ n2_ n3_ n4_; (try clear hb); (try clear hi)))
                  go_meet
                  case rel => exact ⟨_, (false), rs9, H', ⟨by have := HK1.out; have := HK2.out; have := HJ6.out; first | omega | exact Nat.le_refl _⟩, ⟨rp9 HO_5.out⟩, ⟨kp9 BK101.out⟩, ⟨kp9 BK108.out⟩, ⟨kp9 BK110.out⟩, ⟨bp9 HB.out⟩⟩
              case rest =>
               clear HC22
               try clear c1
               try clear p1
               try clear q1
               try clear hx1
               try clear c2
               try clear p2
               try clear c3
               try clear c4
               try clear c5
               try clear c5b0
               try clear c6
               try clear c6b0
               try clear p6
               try clear c9
               try clear p10
               try clear q10
               try clear hx10
               try clear c13
               try clear c14
               try clear c17
               try clear c18
               try clear c18b0
               try clear c19
               try clear c19b0
               try clear c20
               try clear c20b0
               try clear c21
               try clear c21b0
               try clear c25
               try clear c29
               try clear c30
               try clear c33
               try clear c34
               try clear c35
               try clear c39
               try clear c40
               try clear c41
               try clear c44
               try clear c48
               try clear c50
               try clear c51
               try clear c54
               try clear c61
               try clear c62
               try clear p64
               try clear c65
               try clear hcz11_0 hcz11_1 hcz11_2 hcz11_3 hcz11_4 hcz11_5 hcz11_6
               try clear hcz13_0 hcz13_1 hcz13_2 hcz13_3 hcz13_4 hcz13_5 hcz13_6
               try clear hcz15_0 hcz15_1 hcz15_2 hcz15_3 hcz15_4 hcz15_5 hcz15_6
               try clear hcz23_0 hcz23_1 hcz23_2 hcz23_3 hcz23_4 hcz23_5 hcz23_6
               try clear hcz26_0 hcz26_1 hcz26_2 hcz26_3 hcz26_4 hcz26_5 hcz26_6
               try clear hcz27_0 hcz27_1 hcz27_2 hcz27_3 hcz27_4 hcz27_5 hcz27_6
               try clear hcz31_0 hcz31_1 hcz31_2 hcz31_3 hcz31_4 hcz31_5 hcz31_6
               try clear hcz36_0 hcz36_1 hcz36_2 hcz36_3 hcz36_4 hcz36_5 hcz36_6
               try clear hcz42_0 hcz42_1 hcz42_2 hcz42_3 hcz42_4 hcz42_5 hcz42_6
               try clear hcz45_0 hcz45_1 hcz45_2 hcz45_3 hcz45_4 hcz45_5 hcz45_6
               try clear hcz4_0 hcz4_1 hcz4_2 hcz4_3 hcz4_4 hcz4_5 hcz4_6
               try clear hcz52_0 hcz52_1 hcz52_2 hcz52_3 hcz52_4 hcz52_5 hcz52_6
               try clear hcz55_0 hcz55_1 hcz55_2 hcz55_3 hcz55_4 hcz55_5 hcz55_6
               try clear hcz57_0 hcz57_1 hcz57_2 hcz57_3 hcz57_4 hcz57_5 hcz57_6
               try clear hcz59_0 hcz59_1 hcz59_2 hcz59_3 hcz59_4 hcz59_5 hcz59_6
               try clear hcz63_0 hcz63_1 hcz63_2 hcz63_3 hcz63_4 hcz63_5 hcz63_6
               try clear hcz66_0 hcz66_1 hcz66_2 hcz66_3 hcz66_4 hcz66_5 hcz66_6
               try clear hcz68_0 hcz68_1 hcz68_2 hcz68_3 hcz68_4 hcz68_5 hcz68_6
               try clear hfz11_0 hfz11_1 hfz11_2 hfz11_3 hfz11_4 hfz11_5 hfz11_6
               try clear hfz13_0 hfz13_1 hfz13_2 hfz13_3 hfz13_4 hfz13_5 hfz13_6
               try clear hfz15_0 hfz15_1 hfz15_2 hfz15_3 hfz15_4 hfz15_5 hfz15_6
               try clear hfz23_0 hfz23_1 hfz23_2 hfz23_3 hfz23_4 hfz23_5 hfz23_6
               try clear hfz26_0 hfz26_1 hfz26_2 hfz26_3 hfz26_4 hfz26_5 hfz26_6
               try clear hfz27_0 hfz27_1 hfz27_2 hfz27_3 hfz27_4 hfz27_5 hfz27_6
               try clear hfz31_0 hfz31_1 hfz31_2 hfz31_3 hfz31_4 hfz31_5 hfz31_6
               try clear hfz36_0 hfz36_1 hfz36_2 hfz36_3 hfz36_4 hfz36_5 hfz36_6
               try clear hfz42_0 hfz42_1 hfz42_2 hfz42_3 hfz42_4 hfz42_5 hfz42_6
               try clear hfz45_0 hfz45_1 hfz45_2 hfz45_3 hfz45_4 hfz45_5 hfz45_6
               try clear hfz4_0 hfz4_1 hfz4_2 hfz4_3 hfz4_4 hfz4_5 hfz4_6
               try clear hfz52_0 hfz52_1 hfz52_2 hfz52_3 hfz52_4 hfz52_5 hfz52_6
               try clear hfz55_0 hfz55_1 hfz55_2 hfz55_3 hfz55_4 hfz55_5 hfz55_6
               try clear hfz57_0 hfz57_1 hfz57_2 hfz57_3 hfz57_4 hfz57_5 hfz57_6
               try clear hfz59_0 hfz59_1 hfz59_2 hfz59_3 hfz59_4 hfz59_5 hfz59_6
               try clear hfz63_0 hfz63_1 hfz63_2 hfz63_3 hfz63_4 hfz63_5 hfz63_6
               try clear hfz66_0 hfz66_1 hfz66_2 hfz66_3 hfz66_4 hfz66_5 hfz66_6
               try clear hfz68_0 hfz68_1 hfz68_2 hfz68_3 hfz68_4 hfz68_5 hfz68_6
               try clear hx107_0
               try clear hx107_1
               try clear hx107_2
               try clear hx107_3
               try clear hx107_4
               try clear hx107_5
               try clear hx107_6
               try clear hx109_0
               try clear hx109_1
               try clear hx109_2
               try clear hx109_3
               try clear hx109_4
               try clear hx109_5
               try clear hx109_6
               try clear p107
               try clear p109
               try clear p2
               try clear q107
               try clear q109
               obtain ⟨kq, x11_21, rfl, HA, HJ21, HO_5, BK101, BK108, BK110, HB⟩ := hcut
               cases kq with
               | zero => exact absurd HA.out (by simp [cupolaref15_of.j3])
               | succ kj21 =>
                have H := HA.out
                clear HA
                simp only [cupolaref15_of.j3] at H
                by_cases c70 : a1 = 1
                ·rw [if_pos c70] at H
                 have c70b0 : (a1 == 1) = true := beq_iff_eq.mpr c70
                 have c70b1 : (a1 != 1) = false := bne_eq_false_iff_eq.mpr c70
                 clear c70
                 replace H := Option.bind_eq_some_iff.mp H
                 obtain ⟨t115, A710, H⟩ := H
                 have A71 := a9_ A710
                 clear A710
                 by_cases c72 : t115 = true
                 ·subst c72
                  rw [if_pos rfl] at H
                  by_cases c73 : x5_2.length < 8796093022208
                  ·rw [if_pos c73] at H
                   have LMc73 := a9_ c73
                   clear c73
                   obtain ⟨y116, hy116⟩ : ∃ y_ : List (S46), y_ = (x5_2 ++ [(⟨x7_1, x8_2⟩ : S46)]) := ⟨_, rfl⟩
                   replace H : (cupolaref15_of.l1 kj21 a1 y116 (l0_0.length : Int) x7_1 (wrap64 (x8_2 + 1)) l0_0 l0_1 l0_2 l0_3 l0_4 l0_5 l0_6) = some r := by first | (rw [hy116]; with_reducible exact H) | (have H2_ := (Option.bind_some _ _).symm.trans H; rw [hy116]; with_reducible exact H2_) | (have H2_ := (Option.bind_some _ _).symm.trans H; with_reducible exact H2_) | with_reducible exact H | (rw [hy116]; exact H) | exact H
                   have Ny116 := a9_ hy116
                   clear hy116
                   have H' := a9_ H
                   clear H
                   have hnb74 := NB101_108.out
                   have hnc74 := NB108_101.out
                   have hnb75 := NB101_110.out
                   have hnc75 := NB110_101.out
                   obtain ⟨hcz76_0, hcz76_1, hcz76_2, hcz76_3, hcz76_4, hcz76_5, hcz76_6, hfz76_0, hfz76_1, hfz76_2, hfz76_3, hfz76_4, hfz76_5, hfz76_6⟩ := cz7 BK101.out
                   go_wp2_with (first | (go_at_call 156; (with_reducible refine (cupolaref15_over.calls kj21 _ _ l0_0 _ _ l0_1 _ _ l0_2 _ _ l0_3 _ _ l0_4 _ _ l0_5 _ _ l0_6 x7_1 x8_2 true _ ?side1 ?side2 ?side3 ?side4 ?side5 ?side6 ?side7 ?side8 ?side9 ?side10 ?side11 ?side12 ?side13 ?side14 A71.out).mono ?_); (case side1 => exact cp9 HR0_0.out HB.out); (case side2 => exact HC0_0.out); (case side3 => exact cp9 HR0_1.out HB.out); (case side4 => exact HC0_1.out); (case side5 => exact cp9 HR0_2.out HB.out); (case side6 => exact HC0_2.out); (case side7 => exact cp9 HR0_3.out HB.out); (case side8 => exact HC0_3.out); (case side9 => exact cp9 HR0_4.out HB.out); (case side10 => exact HC0_4.out); (case side11 => exact cp9 HR0_5.out HB.out); (case side12 => exact HC0_5.out); (case side13 => exact cp9 HR0_6.out HB.out); (case side14 => exact HC0_6.out); rintro e w77 ⟨rfl, hb⟩; have n0_ := a9_ (Kd.R_below (rp9 HO_5.out) hb); have n1_ := a9_ (blk_below (kp9 BK101.out) hb); have n2_ := a9_ (blk_below (kp9 BK108.out) hb); have n3_ := a9_ (blk_below (kp9 BK110.out) hb); have n4_ := a9_ (below_step (bp9 HB.out) hb); clear HO_5; clear BK101; clear BK108; clear BK110; clear HB; have HO_5 := n0_; have BK101 := n1_; have BK108 := n2_; have BK110 := n3_; have HB := n4_; clear n0_ n1_ n2_ n3_ n4_; (try clear hb); (try clear hi)) | ((with_reducible refine gate_builtin (b := .append) (xs := #[.tmp 81, .tmp 85]) rfl ?_); at_builtin; refine Kd.R_append k46 (w0 := w) w.heap.size rfl (.tmp 81) (.tmp 85) 43 46 (.agg #[(.int .i64 0), (.int .i64 0)]) 16 rfl Try.underlying43 info46 rfl (by decide) (by omega) u5 x5_2 (⟨x7_1, x8_2⟩ : S46) [.int .i64 x7_1, .int .i64 x8_2] (fun _ => True) (fun _ => False) rfl rfl ?aP (fun _ hk => hk.elim) ?aF ?aO ?aB ?aS ?aL ?_; (case aP => exact k46_mkM _ _ _ (⟨x7_1, x8_2⟩ : S46)); (case aB => exact (bp9 HB.out)); (case aF => exact (fun _ _ => trivial)); (case aO => exact (rp9 HO_5.out)); (case aS => exact (below_size (bp9 HB.out))); (case aL => have := LMc73.out; omega); intro v117 w78 ho hb hg hat; rw [← Ny116.out] at ho; have n0_ := a9_ (blk_grown (g := gb101) (o := .cells #[.slice (some ad107) l0_0.length c0_0, .slice A0_1 l0_1.length c0_1, .slice A0_2 l0_2.length c0_2, .slice A0_3 l0_3.length c0_3, .slice A0_4 l0_4.length c0_4, .slice A0_5 l0_5.length c0_5, .slice A0_6 l0_6.length c0_6] 76 (0, 0)) (kp9 BK101.out) hg (Kd.R_ne HO_5.out BK101.out (by decide))); have n1_ := a9_ (blk_grown (g := gb108) (o := .cells #[.int .i64 ((rd_T26 l0_0 x7_1).f0), .int .i64 ((rd_T26 l0_0 x7_1).f1), .int .i64 ((rd_T26 l0_0 x7_1).f2), .int .i64 ((rd_T26 l0_0 x7_1).f3), .bool ((rd_T26 l0_0 x7_1).f4), .bool ((rd_T26 l0_0 x7_1).f5), .bool ((rd_T26 l0_0 x7_1).f6)] 26 (0, 0)) (kp9 BK108.out) hg (Kd.R_ne HO_5.out BK108.out (by decide))); have n2_ := a9_ (blk_grown (g := gb110) (o := .cells #[.int .i64 ((rd_T26 l0_0 x8_2).f0), .int .i64 ((rd_T26 l0_0 x8_2).f1), .int .i64 ((rd_T26 l0_0 x8_2).f2), .int .i64 ((rd_T26 l0_0 x8_2).f3), .bool ((rd_T26 l0_0 x8_2).f4), .bool ((rd_T26 l0_0 x8_2).f5), .bool ((rd_T26 l0_0 x8_2).f6)] 26 (0, 0)) (kp9 BK110.out) hg (Kd.R_ne HO_5.out BK110.out (by decide))); have n3_ := a9_ (hb); have n4_ := a9_ (ho); clear BK101; clear BK108; clear BK110; clear HB; clear HO_5; have BK101 := n0_; have BK108 := n1_; have BK110 := n2_; have HB := n3_; have HO118 := n4_; clear n0_ n1_ n2_ n3_ n4_; clear ho hb hg hat))
                   go_roundg kj21
                   case measure => have := HK1.out; have := HK2.out; have := HJ6.out; have := HJ21.out; omega
                   case rel => exact ⟨(y116), (wrap64 (x8_2 + 1)), rs9, H', ⟨by have := HK1.out; have := HK2.out; have := HJ6.out; have := HJ21.out; omega⟩, ⟨rp9 HO118.out⟩, ⟨kp9 BK101.out⟩, ⟨bp9 HB.out⟩⟩
                  ·rw [if_neg c73] at H
                   exact absurd H (by simp)
                 ·replace c72 := Bool.eq_false_iff.mpr c72
                  subst c72
                  rw [if_neg (show ¬ (false = true) by decide)] at H
                  by_cases c79 : a1 = 2
                  ·rw [if_pos c79] at H
                   have c79b0 : (a1 == 2) = true := beq_iff_eq.mpr c79
                   have c79b1 : (a1 != 2) = false := bne_eq_false_iff_eq.mpr c79
                   clear c79
                   by_cases c80 : x11_21 = true
                   ·subst c80
                    rw [if_pos rfl] at H
                    replace H := Option.bind_eq_some_iff.mp H
                    obtain ⟨t119, A810, H⟩ := H
                    have A81 := a9_ A810
                    clear A810
                    by_cases c82 : t119 = true
                    ·subst c82
                     rw [if_pos rfl] at H
                     by_cases c83 : x5_2.length < 8796093022208
                     ·rw [if_pos c83] at H
                      have LMc83 := a9_ c83
                      clear c83
                      obtain ⟨y120, hy120⟩ : ∃ y_ : List (S46), y_ = (x5_2 ++ [(⟨x7_1, x8_2⟩ : S46)]) := ⟨_, rfl⟩
                      replace H : (cupolaref15_of.l1 kj21 a1 y120 (l0_0.length : Int) x7_1 (wrap64 (x8_2 + 1)) l0_0 l0_1 l0_2 l0_3 l0_4 l0_5 l0_6) = some r := by first | (rw [hy120]; with_reducible exact H) | (have H2_ := (Option.bind_some _ _).symm.trans H; rw [hy120]; with_reducible exact H2_) | (have H2_ := (Option.bind_some _ _).symm.trans H; with_reducible exact H2_) | with_reducible exact H | (rw [hy120]; exact H) | exact H
                      have Ny120 := a9_ hy120
                      clear hy120
                      have H' := a9_ H
                      clear H
                      have hnb84 := NB101_108.out
                      have hnc84 := NB108_101.out
                      have hnb85 := NB101_110.out
                      have hnc85 := NB110_101.out
                      obtain ⟨hcz86_0, hcz86_1, hcz86_2, hcz86_3, hcz86_4, hcz86_5, hcz86_6, hfz86_0, hfz86_1, hfz86_2, hfz86_3, hfz86_4, hfz86_5, hfz86_6⟩ := cz7 BK101.out
                      go_wp2_with (first | (go_at_call 156; (with_reducible refine (cupolaref15_over.calls kj21 _ _ l0_0 _ _ l0_1 _ _ l0_2 _ _ l0_3 _ _ l0_4 _ _ l0_5 _ _ l0_6 x7_1 x8_2 false _ ?side1 ?side2 ?side3 ?side4 ?side5 ?side6 ?side7 ?side8 ?side9 ?side10 ?side11 ?side12 ?side13 ?side14 A71.out).mono ?_); (case side1 => exact cp9 HR0_0.out HB.out); (case side2 => exact HC0_0.out); (case side3 => exact cp9 HR0_1.out HB.out); (case side4 => exact HC0_1.out); (case side5 => exact cp9 HR0_2.out HB.out); (case side6 => exact HC0_2.out); (case side7 => exact cp9 HR0_3.out HB.out); (case side8 => exact HC0_3.out); (case side9 => exact cp9 HR0_4.out HB.out); (case side10 => exact HC0_4.out); (case side11 => exact cp9 HR0_5.out HB.out); (case side12 => exact HC0_5.out); (case side13 => exact cp9 HR0_6.out HB.out); (case side14 => exact HC0_6.out); rintro e w87 ⟨rfl, hb⟩; have n0_ := a9_ (Kd.R_below (rp9 HO_5.out) hb); have n1_ := a9_ (blk_below (kp9 BK101.out) hb); have n2_ := a9_ (blk_below (kp9 BK108.out) hb); have n3_ := a9_ (blk_below (kp9 BK110.out) hb); have n4_ := a9_ (below_step (bp9 HB.out) hb); clear HO_5; clear BK101; clear BK108; clear BK110; clear HB; have HO_5 := n0_; have BK101 := n1_; have BK108 := n2_; have BK110 := n3_; have HB := n4_; clear n0_ n1_ n2_ n3_ n4_; (try clear hb); obtain ⟨hcz88_0, hcz88_1, hcz88_2, hcz88_3, hcz88_4, hcz88_5, hcz88_6, hfz88_0, hfz88_1, hfz88_2, hfz88_3, hfz88_4, hfz88_5, hfz88_6⟩ := cz7 BK101.out) | (go_at_call 43; (with_reducible refine (cupolaref05_Has.calls kj21 _ _ l0_1 x7_1 x8_2 true _ ?side1 ?side2 A81.out).mono ?_); (case side1 => exact cp9 HR0_1.out HB.out); (case side2 => exact HC0_1.out); rintro e w' ⟨rfl, ⟨nd, rfl⟩⟩) | ((with_reducible refine gate_builtin (b := .append) (xs := #[.tmp 81, .tmp 85]) rfl ?_); at_builtin; refine Kd.R_append k46 (w0 := w) w.heap.size rfl (.tmp 81) (.tmp 85) 43 46 (.agg #[(.int .i64 0), (.int .i64 0)]) 16 rfl Try.underlying43 info46 rfl (by decide) (by omega) u5 x5_2 (⟨x7_1, x8_2⟩ : S46) [.int .i64 x7_1, .int .i64 x8_2] (fun _ => True) (fun _ => False) rfl rfl ?aP (fun _ hk => hk.elim) ?aF ?aO ?aB ?aS ?aL ?_; (case aP => exact k46_mkM _ _ _ (⟨x7_1, x8_2⟩ : S46)); (case aB => exact (bp9 HB.out)); (case aF => exact (fun _ _ => trivial)); (case aO => exact (rp9 HO_5.out)); (case aS => exact (below_size (bp9 HB.out))); (case aL => have := LMc83.out; omega); intro v121 w89 ho hb hg hat; rw [← Ny120.out] at ho; have n0_ := a9_ (blk_grown (g := gb101) (o := .cells #[.slice (some ad107) l0_0.length c0_0, .slice A0_1 l0_1.length c0_1, .slice A0_2 l0_2.length c0_2, .slice A0_3 l0_3.length c0_3, .slice A0_4 l0_4.length c0_4, .slice A0_5 l0_5.length c0_5, .slice A0_6 l0_6.length c0_6] 76 (0, 0)) (kp9 BK101.out) hg (Kd.R_ne HO_5.out BK101.out (by decide))); have n1_ := a9_ (blk_grown (g := gb108) (o := .cells #[.int .i64 ((rd_T26 l0_0 x7_1).f0), .int .i64 ((rd_T26 l0_0 x7_1).f1), .int .i64 ((rd_T26 l0_0 x7_1).f2), .int .i64 ((rd_T26 l0_0 x7_1).f3), .bool ((rd_T26 l0_0 x7_1).f4), .bool ((rd_T26 l0_0 x7_1).f5), .bool ((rd_T26 l0_0 x7_1).f6)] 26 (0, 0)) (kp9 BK108.out) hg (Kd.R_ne HO_5.out BK108.out (by decide))); have n2_ := a9_ (blk_grown (g := gb110) (o := .cells #[.int .i64 ((rd_T26 l0_0 x8_2).f0), .int .i64 ((rd_T26 l0_0 x8_2).f1), .int .i64 ((rd_T26 l0_0 x8_2).f2), .int .i64 ((rd_T26 l0_0 x8_2).f3), .bool ((rd_T26 l0_0 x8_2).f4), .bool ((rd_T26 l0_0 x8_2).f5), .bool ((rd_T26 l0_0 x8_2).f6)] 26 (0, 0)) (kp9 BK110.out) hg (Kd.R_ne HO_5.out BK110.out (by decide))); have n3_ := a9_ (hb); have n4_ := a9_ (ho); clear BK101; clear BK108; clear BK110; clear HB; clear HO_5; have BK101 := n0_; have BK108 := n1_; have BK110 := n2_; have HB := n3_; have HO122 := n4_; clear n0_ n1_ n2_ n3_ n4_; clear ho hb hg hat))
                      go_roundg kj21
                      case measure => have := HK1.out; have := HK2.out; have := HJ6.out; have := HJ21.out; omega
                      case rel => exact ⟨(y120), (wrap64 (x8_2 + 1)), rs9, H', ⟨by have := HK1.out; have := HK2.out; have := HJ6.out; have := HJ21.out; omega⟩, ⟨rp9 HO122.out⟩, ⟨kp9 BK101.out⟩, ⟨bp9 HB.out⟩⟩
                     ·rw [if_neg c83] at H
                      exact absurd H (by simp)
                    ·replace c82 := Bool.eq_false_iff.mpr c82
                     subst c82
                     rw [if_neg (show ¬ (false = true) by decide)] at H
                     have H' := a9_ H
                     clear H
                     have hnb90 := NB101_108.out
                     have hnc90 := NB108_101.out
                     have hnb91 := NB101_110.out
                     have hnc91 := NB110_101.out
                     obtain ⟨hcz92_0, hcz92_1, hcz92_2, hcz92_3, hcz92_4, hcz92_5, hcz92_6, hfz92_0, hfz92_1, hfz92_2, hfz92_3, hfz92_4, hfz92_5, hfz92_6⟩ := cz7 BK101.out
                     go_wp2_with (first | (go_at_call 156; (with_reducible refine (cupolaref15_over.calls kj21 _ _ l0_0 _ _ l0_1 _ _ l0_2 _ _ l0_3 _ _ l0_4 _ _ l0_5 _ _ l0_6 x7_1 x8_2 false _ ?side1 ?side2 ?side3 ?side4 ?side5 ?side6 ?side7 ?side8 ?side9 ?side10 ?side11 ?side12 ?side13 ?side14 A71.out).mono ?_); (case side1 => exact cp9 HR0_0.out HB.out); (case side2 => exact HC0_0.out); (case side3 => exact cp9 HR0_1.out HB.out); (case side4 => exact HC0_1.out); (case side5 => exact cp9 HR0_2.out HB.out); (case side6 => exact HC0_2.out); (case side7 => exact cp9 HR0_3.out HB.out); (case side8 => exact HC0_3.out); (case side9 => exact cp9 HR0_4.out HB.out); (case side10 => exact HC0_4.out); (case side11 => exact cp9 HR0_5.out HB.out); (case side12 => exact HC0_5.out); (case side13 => exact cp9 HR0_6.out HB.out); (case side14 => exact HC0_6.out); rintro e w93 ⟨rfl, hb⟩; have n0_ := a9_ (Kd.R_below (rp9 HO_5.out) hb); have n1_ := a9_ (blk_below (kp9 BK101.out) hb); have n2_ := a9_ (blk_below (kp9 BK108.out) hb); have n3_ := a9_ (blk_below (kp9 BK110.out) hb); have n4_ := a9_ (below_step (bp9 HB.out) hb); clear HO_5; clear BK101; clear BK108; clear BK110; clear HB; have HO_5 := n0_; have BK101 := n1_; have BK108 := n2_; have BK110 := n3_; have HB := n4_; clear n0_ n1_ n2_ n3_ n4_; (try clear hb); obtain ⟨hcz94_0, hcz94_1, hcz94_2, hcz94_3, hcz94_4, hcz94_5, hcz94_6, hfz94_0, hfz94_1, hfz94_2, hfz94_3, hfz94_4, hfz94_5, hfz94_6⟩ := cz7 BK101.out) | (go_at_call 43; (with_reducible refine (cupolaref05_Has.calls kj21 _ _ l0_1 x7_1 x8_2 false _ ?side1 ?side2 A81.out).mono ?_); (case side1 => exact cp9 HR0_1.out HB.out); (case side2 => exact HC0_1.out); rintro e w' ⟨rfl, ⟨nd, rfl⟩⟩))
                     go_roundg kj21
                     case measure => have := HK1.out; have := HK2.out; have := HJ6.out; have := HJ21.out; omega
                     case rel => exact ⟨(x5_2), (wrap64 (x8_2 + 1)), rs9, H', ⟨by have := HK1.out; have := HK2.out; have := HJ6.out; have := HJ21.out; omega⟩, ⟨rp9 HO_5.out⟩, ⟨kp9 BK101.out⟩, ⟨bp9 HB.out⟩⟩
                   ·replace c80 := Bool.eq_false_iff.mpr c80
                    subst c80
                    rw [if_neg (show ¬ (false = true) by decide)] at H
                    have H' := a9_ H
                    clear H
                    have hnb95 := NB101_108.out
                    have hnc95 := NB108_101.out
                    have hnb96 := NB101_110.out
                    have hnc96 := NB110_101.out
                    obtain ⟨hcz97_0, hcz97_1, hcz97_2, hcz97_3, hcz97_4, hcz97_5, hcz97_6, hfz97_0, hfz97_1, hfz97_2, hfz97_3, hfz97_4, hfz97_5, hfz97_6⟩ := cz7 BK101.out
                    go_wp2_with (first | (go_at_call 156; (with_reducible refine (cupolaref15_over.calls kj21 _ _ l0_0 _ _ l0_1 _ _ l0_2 _ _ l0_3 _ _ l0_4 _ _ l0_5 _ _ l0_6 x7_1 x8_2 false _ ?side1 ?side2 ?side3 ?side4 ?side5 ?side6 ?side7 ?side8 ?side9 ?side10 ?side11 ?side12 ?side13 ?side14 A71.out).mono ?_); (case side1 => exact cp9 HR0_0.out HB.out); (case side2 => exact HC0_0.out); (case side3 => exact cp9 HR0_1.out HB.out); (case side4 => exact HC0_1.out); (case side5 => exact cp9 HR0_2.out HB.out); (case side6 => exact HC0_2.out); (case side7 => exact cp9 HR0_3.out HB.out); (case side8 => exact HC0_3.out); (case side9 => exact cp9 HR0_4.out HB.out); (case side10 => exact HC0_4.out); (case side11 => exact cp9 HR0_5.out HB.out); (case side12 => exact HC0_5.out); (case side13 => exact cp9 HR0_6.out HB.out); (case side14 => exact HC0_6.out); rintro e w98 ⟨rfl, hb⟩; have n0_ := a9_ (Kd.R_below (rp9 HO_5.out) hb); have n1_ := a9_ (blk_below (kp9 BK101.out) hb); have n2_ := a9_ (blk_below (kp9 BK108.out) hb); have n3_ := a9_ (blk_below (kp9 BK110.out) hb); have n4_ := a9_ (below_step (bp9 HB.out) hb); clear HO_5; clear BK101; clear BK108; clear BK110; clear HB; have HO_5 := n0_; have BK101 := n1_; have BK108 := n2_; have BK110 := n3_; have HB := n4_; clear n0_ n1_ n2_ n3_ n4_; (try clear hb); (try clear hi)))
                    go_roundg kj21
                    case measure => have := HK1.out; have := HK2.out; have := HJ6.out; have := HJ21.out; omega
                    case rel => exact ⟨(x5_2), (wrap64 (x8_2 + 1)), rs9, H', ⟨by have := HK1.out; have := HK2.out; have := HJ6.out; have := HJ21.out; omega⟩, ⟨rp9 HO_5.out⟩, ⟨kp9 BK101.out⟩, ⟨bp9 HB.out⟩⟩
                  ·rw [if_neg c79] at H
                   have c79b0 : (a1 == 2) = false := beq_eq_false_iff_ne.mpr c79
                   have c79b1 : (a1 != 2) = true := bne_iff_ne.mpr c79
                   have H' := a9_ H
                   clear H
                   have hnb99 := NB101_108.out
                   have hnc99 := NB108_101.out
                   have hnb100 := NB101_110.out
                   have hnc100 := NB110_101.out
                   obtain ⟨hcz101_0, hcz101_1, hcz101_2, hcz101_3, hcz101_4, hcz101_5, hcz101_6, hfz101_0, hfz101_1, hfz101_2, hfz101_3, hfz101_4, hfz101_5, hfz101_6⟩ := cz7 BK101.out
                   go_wp2_with (first | (go_at_call 156; (with_reducible refine (cupolaref15_over.calls kj21 _ _ l0_0 _ _ l0_1 _ _ l0_2 _ _ l0_3 _ _ l0_4 _ _ l0_5 _ _ l0_6 x7_1 x8_2 false _ ?side1 ?side2 ?side3 ?side4 ?side5 ?side6 ?side7 ?side8 ?side9 ?side10 ?side11 ?side12 ?side13 ?side14 A71.out).mono ?_); (case side1 => exact cp9 HR0_0.out HB.out); (case side2 => exact HC0_0.out); (case side3 => exact cp9 HR0_1.out HB.out); (case side4 => exact HC0_1.out); (case side5 => exact cp9 HR0_2.out HB.out); (case side6 => exact HC0_2.out); (case side7 => exact cp9 HR0_3.out HB.out); (case side8 => exact HC0_3.out); (case side9 => exact cp9 HR0_4.out HB.out); (case side10 => exact HC0_4.out); (case side11 => exact cp9 HR0_5.out HB.out); (case side12 => exact HC0_5.out); (case side13 => exact cp9 HR0_6.out HB.out); (case side14 => exact HC0_6.out); rintro e w102 ⟨rfl, hb⟩; have n0_ := a9_ (Kd.R_below (rp9 HO_5.out) hb); have n1_ := a9_ (blk_below (kp9 BK101.out) hb); have n2_ := a9_ (blk_below (kp9 BK108.out) hb); have n3_ := a9_ (blk_below (kp9 BK110.out) hb); have n4_ := a9_ (below_step (bp9 HB.out) hb); clear HO_5; clear BK101; clear BK108; clear BK110; clear HB; have HO_5 := n0_; have BK101 := n1_; have BK108 := n2_; have BK110 := n3_; have HB := n4_; clear n0_ n1_ n2_ n3_ n4_; (try clear hb); (try clear hi)))
                   go_roundg kj21
                   case measure => have := HK1.out; have := HK2.out; have := HJ6.out; have := HJ21.out; omega
                   case rel => exact ⟨(x5_2), (wrap64 (x8_2 + 1)), rs9, H', ⟨by have := HK1.out; have := HK2.out; have := HJ6.out; have := HJ21.out; omega⟩, ⟨rp9 HO_5.out⟩, ⟨kp9 BK101.out⟩, ⟨bp9 HB.out⟩⟩
                ·rw [if_neg c70] at H
                 have c70b0 : (a1 == 1) = false := beq_eq_false_iff_ne.mpr c70
                 have c70b1 : (a1 != 1) = true := bne_iff_ne.mpr c70
                 by_cases c103 : a1 = 2
                 ·rw [if_pos c103] at H
                  have c103b0 : (a1 == 2) = true := beq_iff_eq.mpr c103
                  have c103b1 : (a1 != 2) = false := bne_eq_false_iff_eq.mpr c103
                  clear c103
                  by_cases c104 : x11_21 = true
                  ·subst c104
                   rw [if_pos rfl] at H
                   replace H := Option.bind_eq_some_iff.mp H
                   obtain ⟨t123, A1050, H⟩ := H
                   have A105 := a9_ A1050
                   clear A1050
                   by_cases c106 : t123 = true
                   ·subst c106
                    rw [if_pos rfl] at H
                    by_cases c107 : x5_2.length < 8796093022208
                    ·rw [if_pos c107] at H
                     have LMc107 := a9_ c107
                     clear c107
                     obtain ⟨y124, hy124⟩ : ∃ y_ : List (S46), y_ = (x5_2 ++ [(⟨x7_1, x8_2⟩ : S46)]) := ⟨_, rfl⟩
                     replace H : (cupolaref15_of.l1 kj21 a1 y124 (l0_0.length : Int) x7_1 (wrap64 (x8_2 + 1)) l0_0 l0_1 l0_2 l0_3 l0_4 l0_5 l0_6) = some r := by first | (rw [hy124]; with_reducible exact H) | (have H2_ := (Option.bind_some _ _).symm.trans H; rw [hy124]; with_reducible exact H2_) | (have H2_ := (Option.bind_some _ _).symm.trans H; with_reducible exact H2_) | with_reducible exact H | (rw [hy124]; exact H) | exact H
                     have Ny124 := a9_ hy124
                     clear hy124
                     have H' := a9_ H
                     clear H
                     have hnb108 := NB101_108.out
                     have hnc108 := NB108_101.out
                     have hnb109 := NB101_110.out
                     have hnc109 := NB110_101.out
                     obtain ⟨hcz110_0, hcz110_1, hcz110_2, hcz110_3, hcz110_4, hcz110_5, hcz110_6, hfz110_0, hfz110_1, hfz110_2, hfz110_3, hfz110_4, hfz110_5, hfz110_6⟩ := cz7 BK101.out
                     go_wp2_with (first | (go_at_call 43; (with_reducible refine (cupolaref05_Has.calls kj21 _ _ l0_1 x7_1 x8_2 true _ ?side1 ?side2 A105.out).mono ?_); (case side1 => exact cp9 HR0_1.out HB.out); (case side2 => exact HC0_1.out); rintro e w' ⟨rfl, ⟨nd, rfl⟩⟩) | ((with_reducible refine gate_builtin (b := .append) (xs := #[.tmp 81, .tmp 85]) rfl ?_); at_builtin; refine Kd.R_append k46 (w0 := w) w.heap.size rfl (.tmp 81) (.tmp 85) 43 46 (.agg #[(.int .i64 0), (.int .i64 0)]) 16 rfl Try.underlying43 info46 rfl (by decide) (by omega) u5 x5_2 (⟨x7_1, x8_2⟩ : S46) [.int .i64 x7_1, .int .i64 x8_2] (fun _ => True) (fun _ => False) rfl rfl ?aP (fun _ hk => hk.elim) ?aF ?aO ?aB ?aS ?aL ?_; (case aP => exact k46_mkM _ _ _ (⟨x7_1, x8_2⟩ : S46)); (case aB => exact (bp9 HB.out)); (case aF => exact (fun _ _ => trivial)); (case aO => exact (rp9 HO_5.out)); (case aS => exact (below_size (bp9 HB.out))); (case aL => have := LMc107.out; omega); intro v125 w111 ho hb hg hat; rw [← Ny124.out] at ho; have n0_ := a9_ (blk_grown (g := gb101) (o := .cells #[.slice (some ad107) l0_0.length c0_0, .slice A0_1 l0_1.length c0_1, .slice A0_2 l0_2.length c0_2, .slice A0_3 l0_3.length c0_3, .slice A0_4 l0_4.length c0_4, .slice A0_5 l0_5.length c0_5, .slice A0_6 l0_6.length c0_6] 76 (0, 0)) (kp9 BK101.out) hg (Kd.R_ne HO_5.out BK101.out (by decide))); have n1_ := a9_ (blk_grown (g := gb108) (o := .cells #[.int .i64 ((rd_T26 l0_0 x7_1).f0), .int .i64 ((rd_T26 l0_0 x7_1).f1), .int .i64 ((rd_T26 l0_0 x7_1).f2), .int .i64 ((rd_T26 l0_0 x7_1).f3), .bool ((rd_T26 l0_0 x7_1).f4), .bool ((rd_T26 l0_0 x7_1).f5), .bool ((rd_T26 l0_0 x7_1).f6)] 26 (0, 0)) (kp9 BK108.out) hg (Kd.R_ne HO_5.out BK108.out (by decide))); have n2_ := a9_ (blk_grown (g := gb110) (o := .cells #[.int .i64 ((rd_T26 l0_0 x8_2).f0), .int .i64 ((rd_T26 l0_0 x8_2).f1), .int .i64 ((rd_T26 l0_0 x8_2).f2), .int .i64 ((rd_T26 l0_0 x8_2).f3), .bool ((rd_T26 l0_0 x8_2).f4), .bool ((rd_T26 l0_0 x8_2).f5), .bool ((rd_T26 l0_0 x8_2).f6)] 26 (0, 0)) (kp9 BK110.out) hg (Kd.R_ne HO_5.out BK110.out (by decide))); have n3_ := a9_ (hb); have n4_ := a9_ (ho); clear BK101; clear BK108; clear BK110; clear HB; clear HO_5; have BK101 := n0_; have BK108 := n1_; have BK110 := n2_; have HB := n3_; have HO126 := n4_; clear n0_ n1_ n2_ n3_ n4_; clear ho hb hg hat))
                     go_roundg kj21
                     case measure => have := HK1.out; have := HK2.out; have := HJ6.out; have := HJ21.out; omega
                     case rel => exact ⟨(y124), (wrap64 (x8_2 + 1)), rs9, H', ⟨by have := HK1.out; have := HK2.out; have := HJ6.out; have := HJ21.out; omega⟩, ⟨rp9 HO126.out⟩, ⟨kp9 BK101.out⟩, ⟨bp9 HB.out⟩⟩
                    ·rw [if_neg c107] at H
                     exact absurd H (by simp)
                   ·replace c106 := Bool.eq_false_iff.mpr c106
                    subst c106
                    rw [if_neg (show ¬ (false = true) by decide)] at H
                    have H' := a9_ H
                    clear H
                    have hnb112 := NB101_108.out
                    have hnc112 := NB108_101.out
                    have hnb113 := NB101_110.out
                    have hnc113 := NB110_101.out
                    obtain ⟨hcz114_0, hcz114_1, hcz114_2, hcz114_3, hcz114_4, hcz114_5, hcz114_6, hfz114_0, hfz114_1, hfz114_2, hfz114_3, hfz114_4, hfz114_5, hfz114_6⟩ := cz7 BK101.out
                    go_wp2_with (first | (go_at_call 43; (with_reducible refine (cupolaref05_Has.calls kj21 _ _ l0_1 x7_1 x8_2 false _ ?side1 ?side2 A105.out).mono ?_); (case side1 => exact cp9 HR0_1.out HB.out); (case side2 => exact HC0_1.out); rintro e w' ⟨rfl, ⟨nd, rfl⟩⟩))
                    go_roundg kj21
                    case measure => have := HK1.out; have := HK2.out; have := HJ6.out; have := HJ21.out; omega
                    case rel => exact ⟨(x5_2), (wrap64 (x8_2 + 1)), rs9, H', ⟨by have := HK1.out; have := HK2.out; have := HJ6.out; have := HJ21.out; omega⟩, ⟨rp9 HO_5.out⟩, ⟨kp9 BK101.out⟩, ⟨bp9 HB.out⟩⟩
                  ·replace c104 := Bool.eq_false_iff.mpr c104
                   subst c104
                   rw [if_neg (show ¬ (false = true) by decide)] at H
                   have H' := a9_ H
                   clear H
                   go_wp2
                   go_roundg kj21
                   case measure => have := HK1.out; have := HK2.out; have := HJ6.out; have := HJ21.out; omega
                   case rel => exact ⟨(x5_2), (wrap64 (x8_2 + 1)), rs9, H', ⟨by have := HK1.out; have := HK2.out; have := HJ6.out; have := HJ21.out; omega⟩, ⟨rp9 HO_5.out⟩, ⟨kp9 BK101.out⟩, ⟨bp9 HB.out⟩⟩
                 ·rw [if_neg c103] at H
                  have c103b0 : (a1 == 2) = false := beq_eq_false_iff_ne.mpr c103
                  have c103b1 : (a1 != 2) = true := bne_iff_ne.mpr c103
                  have H' := a9_ H
                  clear H
                  go_wp2
                  go_roundg kj21
                  case measure => have := HK1.out; have := HK2.out; have := HJ6.out; have := HJ21.out; omega
                  case rel => exact ⟨(x5_2), (wrap64 (x8_2 + 1)), rs9, H', ⟨by have := HK1.out; have := HK2.out; have := HJ6.out; have := HJ21.out; omega⟩, ⟨rp9 HO_5.out⟩, ⟨kp9 BK101.out⟩, ⟨bp9 HB.out⟩⟩
             ·rw [if_neg c21] at H
              exact absurd H (by simp)
            ·rw [if_neg c20] at H
             exact absurd H (by simp)
           ·rw [if_neg c19] at H
            exact absurd H (by simp)
          ·rw [if_neg c18] at H
           exact absurd H (by simp)
      ·rw [if_neg c6] at H
       have c6b0 : decide (x8_2 < (l0_0.length : Int)) = false := decide_eq_false c6
       clear c6
       have H' := a9_ H
       clear H
       go_wp2
       go_roundg k2
       case measure => have := HK1.out; have := HK2.out; omega
       case rel => exact ⟨(x5_2), (wrap64 (x7_1 + 1)), rs9, H', ⟨by have := HK1.out; have := HK2.out; omega⟩, ⟨rp9 HO_5.out⟩, ⟨kp9 BK101.out⟩, ⟨bp9 HB.out⟩⟩
   ·rw [if_neg c5] at H
    have c5b0 : decide (x7_1 < (l0_0.length : Int)) = false := decide_eq_false c5
    clear c5
    replace H := Option.bind_eq_some_iff.mp H
    obtain ⟨t102, A1150, H⟩ := H
    have A115 := a9_ A1150
    clear A1150
    obtain rfl := Option.some.inj H
    obtain ⟨Ao116, co116, eo116⟩ := Kd.R_slice HO_5.out
    subst eo116
    go_wp2_with (first | ((with_reducible refine gate_callee (f := 119) rfl ?_); refine goesL9 (some 89) rfl rfl Try.func119 (by kernel_rfl) rfl #[.int .i64 (l0_0.length : Int), .slice Ao116 x5_1.length co116] rfl ?_; (with_reducible refine (cupolaref05_Made.calls k1 (l0_0.length : Int) _ _ x5_1 t102 _ ?side1 ?side2 A115.out).mono ?_); (case side1 => exact lp9 (Kd.R_reads' HO_5.out).2.2); (case side2 => exact (Kd.R_reads' HO_5.out).2.1); rintro e w117 ⟨v103, rfl, ho0, hb⟩; refine ⟨_, rfl, ?_⟩; have n0_ := a9_ (Kd.R_below (rp9 HO_5.out) hb); have n1_ := a9_ (Kd.R_lower ho0 (below_size (bp9 HB.out))); have n2_ := a9_ (blk_below (kp9 BK101.out) hb); have n3_ := a9_ (below_step (bp9 HB.out) hb); clear HO_5; clear BK101; clear HB; have HO_5 := n0_; have HO104 := n1_; have BK101 := n2_; have HB := n3_; clear n0_ n1_ n2_ n3_; (try clear hb); (try clear ho0)))
    go_ret
    exact ⟨_, rt9, by (with_reducible repeat (first | apply Kd.R_alloc | apply Kd.R_drewN | apply Kd.R_drew)); exact HO104.out, bp9 HB.out⟩
def cupolaref15_Fences.f (k : Nat) (l0_0 : List (S26)) (l0_1 : List Int) (l0_2 : List Int) (l0_3 : List Int) (l0_4 : List Int) (l0_5 : List Int) (l0_6 : List (List Int)) : Option (List Int) := (cupolaref15_of.f k l0_0 l0_1 l0_2 l0_3 l0_4 l0_5 l0_6 1).bind fun t102 => (some t102)
theorem cupolaref15_Fences.calls (k : Nat) (A0_0 : Option Addr) (c0_0 : Nat) (l0_0 : List (S26)) (A0_1 : Option Addr) (c0_1 : Nat) (l0_1 : List Int) (A0_2 : Option Addr) (c0_2 : Nat) (l0_2 : List Int) (A0_3 : Option Addr) (c0_3 : Nat) (l0_3 : List Int) (A0_4 : Option Addr) (c0_4 : Nat) (l0_4 : List Int) (A0_5 : Option Addr) (c0_5 : Nat) (l0_5 : List Int) (A0_6 : Option Addr) (c0_6 : Nat) (l0_6 : List (List Int)) (r : List Int) (w : World) (hr0_0 : Kd.C k26 w A0_0 l0_0.length l0_0) (hc0_0 : l0_0.length ≤ c0_0) (hr0_1 : Kd.C (Kd.int .u32) w A0_1 l0_1.length l0_1) (hc0_1 : l0_1.length ≤ c0_1) (hr0_2 : Kd.C (Kd.int .u32) w A0_2 l0_2.length l0_2) (hc0_2 : l0_2.length ≤ c0_2) (hr0_3 : Kd.C (Kd.int .u32) w A0_3 l0_3.length l0_3) (hc0_3 : l0_3.length ≤ c0_3) (hr0_4 : Kd.C (Kd.int .u32) w A0_4 l0_4.length l0_4) (hc0_4 : l0_4.length ≤ c0_4) (hr0_5 : Kd.C (Kd.int .u32) w A0_5 l0_5.length l0_5) (hc0_5 : l0_5.length ≤ c0_5) (hr0_6 : Kd.C (Kd.slice 2 (Kd.int .i64)) w A0_6 l0_6.length l0_6) (hc0_6 : l0_6.length ≤ c0_6) (h : cupolaref15_Fences.f k l0_0 l0_1 l0_2 l0_3 l0_4 l0_5 l0_6 = some r) :
  Calls Try.prog 93 #[.agg #[.slice A0_0 l0_0.length c0_0, .slice A0_1 l0_1.length c0_1, .slice A0_2 l0_2.length c0_2, .slice A0_3 l0_3.length c0_3, .slice A0_4 l0_4.length c0_4, .slice A0_5 l0_5.length c0_5, .slice A0_6 l0_6.length c0_6]] w fun e w' => ∃ v0_ : Value, e = .returned (v0_) ∧ Kd.R (Kd.int .u32) 52 w' w.heap.size (fun _ => True) v0_ r ∧ Below w.heap.size w w' := by
 have hu76 := Try.underlying76
 have HR0_0 := a9_ hr0_0
 have HC0_0 := a9_ hc0_0
 clear hr0_0 hc0_0
 have HR0_1 := a9_ hr0_1
 have HC0_1 := a9_ hc0_1
 clear hr0_1 hc0_1
 have HR0_2 := a9_ hr0_2
 have HC0_2 := a9_ hc0_2
 clear hr0_2 hc0_2
 have HR0_3 := a9_ hr0_3
 have HC0_3 := a9_ hc0_3
 clear hr0_3 hc0_3
 have HR0_4 := a9_ hr0_4
 have HC0_4 := a9_ hc0_4
 clear hr0_4 hc0_4
 have HR0_5 := a9_ hr0_5
 have HC0_5 := a9_ hc0_5
 clear hr0_5 hc0_5
 have HR0_6 := a9_ hr0_6
 have HC0_6 := a9_ hc0_6
 clear hr0_6 hc0_6
 have HB := a9_ (Below.refl w.heap.size w)
 have H : ((cupolaref15_of.f k l0_0 l0_1 l0_2 l0_3 l0_4 l0_5 l0_6 1).bind fun t102 => (some t102)) = some r := h
 clear h
 replace H := Option.bind_eq_some_iff.mp H
 obtain ⟨t102, A20, H⟩ := H
 have A2 := a9_ A20
 clear A20
 obtain rfl := Option.some.inj H
 go_enter Try.func93, Try.ntmps93
 go_wp2_with (first | ((with_reducible refine gate_dst (N := 1) rfl ?_); refine box9 (N := 1) (cs := #[.slice A0_0 l0_0.length c0_0, .slice A0_1 l0_1.length c0_1, .slice A0_2 l0_2.length c0_2, .slice A0_3 l0_3.length c0_3, .slice A0_4 l0_4.length c0_4, .slice A0_5 l0_5.length c0_5, .slice A0_6 l0_6.length c0_6]) (t := 76) ?_; intro gb101 hg w3 hbox hb; have n0_ := a9_ (below_step (bp9 HB.out) hb); have n1_ := a9_ (hbox); have n2_ := a9_ ((by rw [hg]; exact (below_size (bp9 HB.out)) : w.heap.size ≤ gb101)); have n3_ := n2_; clear HB; have HB := n0_; have BK101 := n1_; have GW101 := n2_; have GE101 := n3_; clear n0_ n1_ n2_ n3_; clear hb hbox hg; obtain ⟨hcz4_0, hcz4_1, hcz4_2, hcz4_3, hcz4_4, hcz4_5, hcz4_6, hfz4_0, hfz4_1, hfz4_2, hfz4_3, hfz4_4, hfz4_5, hfz4_6⟩ := cz7 BK101.out) | ((with_reducible refine gate_callee (f := 143) rfl ?_); refine goesL9 (some 4) rfl rfl Try.func143 (by kernel_rfl) rfl #[.agg #[.slice A0_0 l0_0.length c0_0, .slice A0_1 l0_1.length c0_1, .slice A0_2 l0_2.length c0_2, .slice A0_3 l0_3.length c0_3, .slice A0_4 l0_4.length c0_4, .slice A0_5 l0_5.length c0_5, .slice A0_6 l0_6.length c0_6], .int .i64 1] rfl ?_; (with_reducible refine (cupolaref15_of.calls k _ _ l0_0 _ _ l0_1 _ _ l0_2 _ _ l0_3 _ _ l0_4 _ _ l0_5 _ _ l0_6 1 t102 _ ?side1 ?side2 ?side3 ?side4 ?side5 ?side6 ?side7 ?side8 ?side9 ?side10 ?side11 ?side12 ?side13 ?side14 A2.out).mono ?_); (case side1 => exact cp9 HR0_0.out HB.out); (case side2 => exact HC0_0.out); (case side3 => exact cp9 HR0_1.out HB.out); (case side4 => exact HC0_1.out); (case side5 => exact cp9 HR0_2.out HB.out); (case side6 => exact HC0_2.out); (case side7 => exact cp9 HR0_3.out HB.out); (case side8 => exact HC0_3.out); (case side9 => exact cp9 HR0_4.out HB.out); (case side10 => exact HC0_4.out); (case side11 => exact cp9 HR0_5.out HB.out); (case side12 => exact HC0_5.out); (case side13 => exact cp9 HR0_6.out HB.out); (case side14 => exact HC0_6.out); rintro e w5 ⟨v103, rfl, ho0, hb⟩; refine ⟨_, rfl, ?_⟩; have n0_ := a9_ (Kd.R_lower ho0 (below_size (bp9 HB.out))); have n1_ := a9_ (blk_below (kp9 BK101.out) hb); have n2_ := a9_ (below_step (bp9 HB.out) hb); clear BK101; clear HB; have HO104 := n0_; have BK101 := n1_; have HB := n2_; clear n0_ n1_ n2_; (try clear hb); (try clear ho0)))
 go_ret
 exact ⟨_, rt9, by (with_reducible repeat (first | apply Kd.R_alloc | apply Kd.R_drewN | apply Kd.R_drew)); exact HO104.out, bp9 HB.out⟩
def cupolaref15_Orders.f (k : Nat) (l0_0 : List (S26)) (l0_1 : List Int) (l0_2 : List Int) (l0_3 : List Int) (l0_4 : List Int) (l0_5 : List Int) (l0_6 : List (List Int)) : Option (List Int) := (cupolaref15_of.f k l0_0 l0_1 l0_2 l0_3 l0_4 l0_5 l0_6 2).bind fun t102 => (some t102)
theorem cupolaref15_Orders.calls (k : Nat) (A0_0 : Option Addr) (c0_0 : Nat) (l0_0 : List (S26)) (A0_1 : Option Addr) (c0_1 : Nat) (l0_1 : List Int) (A0_2 : Option Addr) (c0_2 : Nat) (l0_2 : List Int) (A0_3 : Option Addr) (c0_3 : Nat) (l0_3 : List Int) (A0_4 : Option Addr) (c0_4 : Nat) (l0_4 : List Int) (A0_5 : Option Addr) (c0_5 : Nat) (l0_5 : List Int) (A0_6 : Option Addr) (c0_6 : Nat) (l0_6 : List (List Int)) (r : List Int) (w : World) (hr0_0 : Kd.C k26 w A0_0 l0_0.length l0_0) (hc0_0 : l0_0.length ≤ c0_0) (hr0_1 : Kd.C (Kd.int .u32) w A0_1 l0_1.length l0_1) (hc0_1 : l0_1.length ≤ c0_1) (hr0_2 : Kd.C (Kd.int .u32) w A0_2 l0_2.length l0_2) (hc0_2 : l0_2.length ≤ c0_2) (hr0_3 : Kd.C (Kd.int .u32) w A0_3 l0_3.length l0_3) (hc0_3 : l0_3.length ≤ c0_3) (hr0_4 : Kd.C (Kd.int .u32) w A0_4 l0_4.length l0_4) (hc0_4 : l0_4.length ≤ c0_4) (hr0_5 : Kd.C (Kd.int .u32) w A0_5 l0_5.length l0_5) (hc0_5 : l0_5.length ≤ c0_5) (hr0_6 : Kd.C (Kd.slice 2 (Kd.int .i64)) w A0_6 l0_6.length l0_6) (hc0_6 : l0_6.length ≤ c0_6) (h : cupolaref15_Orders.f k l0_0 l0_1 l0_2 l0_3 l0_4 l0_5 l0_6 = some r) :
  Calls Try.prog 94 #[.agg #[.slice A0_0 l0_0.length c0_0, .slice A0_1 l0_1.length c0_1, .slice A0_2 l0_2.length c0_2, .slice A0_3 l0_3.length c0_3, .slice A0_4 l0_4.length c0_4, .slice A0_5 l0_5.length c0_5, .slice A0_6 l0_6.length c0_6]] w fun e w' => ∃ v0_ : Value, e = .returned (v0_) ∧ Kd.R (Kd.int .u32) 52 w' w.heap.size (fun _ => True) v0_ r ∧ Below w.heap.size w w' := by
 have hu76 := Try.underlying76
 have HR0_0 := a9_ hr0_0
 have HC0_0 := a9_ hc0_0
 clear hr0_0 hc0_0
 have HR0_1 := a9_ hr0_1
 have HC0_1 := a9_ hc0_1
 clear hr0_1 hc0_1
 have HR0_2 := a9_ hr0_2
 have HC0_2 := a9_ hc0_2
 clear hr0_2 hc0_2
 have HR0_3 := a9_ hr0_3
 have HC0_3 := a9_ hc0_3
 clear hr0_3 hc0_3
 have HR0_4 := a9_ hr0_4
 have HC0_4 := a9_ hc0_4
 clear hr0_4 hc0_4
 have HR0_5 := a9_ hr0_5
 have HC0_5 := a9_ hc0_5
 clear hr0_5 hc0_5
 have HR0_6 := a9_ hr0_6
 have HC0_6 := a9_ hc0_6
 clear hr0_6 hc0_6
 have HB := a9_ (Below.refl w.heap.size w)
 have H : ((cupolaref15_of.f k l0_0 l0_1 l0_2 l0_3 l0_4 l0_5 l0_6 2).bind fun t102 => (some t102)) = some r := h
 clear h
 replace H := Option.bind_eq_some_iff.mp H
 obtain ⟨t102, A20, H⟩ := H
 have A2 := a9_ A20
 clear A20
 obtain rfl := Option.some.inj H
 go_enter Try.func94, Try.ntmps94
 go_wp2_with (first | ((with_reducible refine gate_dst (N := 1) rfl ?_); refine box9 (N := 1) (cs := #[.slice A0_0 l0_0.length c0_0, .slice A0_1 l0_1.length c0_1, .slice A0_2 l0_2.length c0_2, .slice A0_3 l0_3.length c0_3, .slice A0_4 l0_4.length c0_4, .slice A0_5 l0_5.length c0_5, .slice A0_6 l0_6.length c0_6]) (t := 76) ?_; intro gb101 hg w3 hbox hb; have n0_ := a9_ (below_step (bp9 HB.out) hb); have n1_ := a9_ (hbox); have n2_ := a9_ ((by rw [hg]; exact (below_size (bp9 HB.out)) : w.heap.size ≤ gb101)); have n3_ := n2_; clear HB; have HB := n0_; have BK101 := n1_; have GW101 := n2_; have GE101 := n3_; clear n0_ n1_ n2_ n3_; clear hb hbox hg; obtain ⟨hcz4_0, hcz4_1, hcz4_2, hcz4_3, hcz4_4, hcz4_5, hcz4_6, hfz4_0, hfz4_1, hfz4_2, hfz4_3, hfz4_4, hfz4_5, hfz4_6⟩ := cz7 BK101.out) | ((with_reducible refine gate_callee (f := 143) rfl ?_); refine goesL9 (some 4) rfl rfl Try.func143 (by kernel_rfl) rfl #[.agg #[.slice A0_0 l0_0.length c0_0, .slice A0_1 l0_1.length c0_1, .slice A0_2 l0_2.length c0_2, .slice A0_3 l0_3.length c0_3, .slice A0_4 l0_4.length c0_4, .slice A0_5 l0_5.length c0_5, .slice A0_6 l0_6.length c0_6], .int .i64 2] rfl ?_; (with_reducible refine (cupolaref15_of.calls k _ _ l0_0 _ _ l0_1 _ _ l0_2 _ _ l0_3 _ _ l0_4 _ _ l0_5 _ _ l0_6 2 t102 _ ?side1 ?side2 ?side3 ?side4 ?side5 ?side6 ?side7 ?side8 ?side9 ?side10 ?side11 ?side12 ?side13 ?side14 A2.out).mono ?_); (case side1 => exact cp9 HR0_0.out HB.out); (case side2 => exact HC0_0.out); (case side3 => exact cp9 HR0_1.out HB.out); (case side4 => exact HC0_1.out); (case side5 => exact cp9 HR0_2.out HB.out); (case side6 => exact HC0_2.out); (case side7 => exact cp9 HR0_3.out HB.out); (case side8 => exact HC0_3.out); (case side9 => exact cp9 HR0_4.out HB.out); (case side10 => exact HC0_4.out); (case side11 => exact cp9 HR0_5.out HB.out); (case side12 => exact HC0_5.out); (case side13 => exact cp9 HR0_6.out HB.out); (case side14 => exact HC0_6.out); rintro e w5 ⟨v103, rfl, ho0, hb⟩; refine ⟨_, rfl, ?_⟩; have n0_ := a9_ (Kd.R_lower ho0 (below_size (bp9 HB.out))); have n1_ := a9_ (blk_below (kp9 BK101.out) hb); have n2_ := a9_ (below_step (bp9 HB.out) hb); clear BK101; clear HB; have HO104 := n0_; have BK101 := n1_; have HB := n2_; clear n0_ n1_ n2_; (try clear hb); (try clear ho0)))
 go_ret
 exact ⟨_, rt9, by (with_reducible repeat (first | apply Kd.R_alloc | apply Kd.R_drewN | apply Kd.R_drew)); exact HO104.out, bp9 HB.out⟩
mutual
def cupolaref15_Bob.l0 : Nat → List Int → List (S46) → Int → Int → List (S26) → List Int → List Int → List Int → List Int → List Int → List (List Int) → Option (List Int)
 | 0, _, _, _, _, _, _, _, _, _, _, _ => none
 | k + 1, x5, x6, x7, x8, x102000, x102001, x102002, x102003, x102004, x102005, x102006 => if x8 < x7 then (cupolaref15_Bob.l1 k x5 x6 x7 x8 0 x102000 x102001 x102002 x102003 x102004 x102005 x102006) else ((cupolaref15_Fences.f k x102000 x102001 x102002 x102003 x102004 x102005 x102006).bind fun t112 => ((cupolaref15_Orders.f k x102000 x102001 x102002 x102003 x102004 x102005 x102006).bind fun t115 => ((cupolaref05_Or.f k t112 t115).bind fun t118 => ((cupolaref05_Made.f k x7 x6).bind fun t121 => ((cupolaref14_Memory.f k x102000 x102001 x102002 x102003 x102004 x102005 x102006 t121).bind fun t124 => ((cupolaref05_Or.f k t118 t124).bind fun t127 => (some t127)))))))
def cupolaref15_Bob.l1 : Nat → List Int → List (S46) → Int → Int → Int → List (S26) → List Int → List Int → List Int → List Int → List Int → List (List Int) → Option (List Int)
 | 0, _, _, _, _, _, _, _, _, _, _, _, _ => none
 | k + 1, x5, x6, x7, x8, x9, x102000, x102001, x102002, x102003, x102004, x102005, x102006 => if x9 < x7 then (cupolaref15_Bob.l2 k x5 x6 x7 x8 x9 0 x102000 x102001 x102002 x102003 x102004 x102005 x102006) else (cupolaref15_Bob.l0 k x5 x6 x7 (wrap64 (x8 + 1)) x102000 x102001 x102002 x102003 x102004 x102005 x102006)
def cupolaref15_Bob.l2 : Nat → List Int → List (S46) → Int → Int → Int → Int → List (S26) → List Int → List Int → List Int → List Int → List Int → List (List Int) → Option (List Int)
 | 0, _, _, _, _, _, _, _, _, _, _, _, _, _ => none
 | k + 1, x5, x6, x7, x8, x9, x10, x102000, x102001, x102002, x102003, x102004, x102005, x102006 => if x10 < x7 then (if 0 ≤ x10 then (if x10 < (x102000.length : Int) then ((cupolaref15_releases.f ((rd_T26 x102000 x10).f0) ((rd_T26 x102000 x10).f1) ((rd_T26 x102000 x10).f2) ((rd_T26 x102000 x10).f3) ((rd_T26 x102000 x10).f4) ((rd_T26 x102000 x10).f5) ((rd_T26 x102000 x10).f6)).bind fun t106 => (if t106 = true then ((cupolaref05_Has.f k x102001 x8 x10).bind fun t107 => (if t107 = true then ((cupolaref05_Has.f k x5 x10 x9).bind fun t108 => (if t108 = true then (if x6.length < 8796093022208 then (cupolaref15_Bob.l2 k x5 (x6 ++ [(⟨x8, x9⟩ : S46)]) x7 x8 x9 (wrap64 (x10 + 1)) x102000 x102001 x102002 x102003 x102004 x102005 x102006) else (none)) else (cupolaref15_Bob.l2 k x5 x6 x7 x8 x9 (wrap64 (x10 + 1)) x102000 x102001 x102002 x102003 x102004 x102005 x102006))) else (cupolaref15_Bob.l2 k x5 x6 x7 x8 x9 (wrap64 (x10 + 1)) x102000 x102001 x102002 x102003 x102004 x102005 x102006))) else (cupolaref15_Bob.l2 k x5 x6 x7 x8 x9 (wrap64 (x10 + 1)) x102000 x102001 x102002 x102003 x102004 x102005 x102006))) else (none)) else (none)) else (cupolaref15_Bob.l1 k x5 x6 x7 x8 (wrap64 (x9 + 1)) x102000 x102001 x102002 x102003 x102004 x102005 x102006)
end
def cupolaref15_Bob.f (k : Nat) (l0_0 : List (S26)) (l0_1 : List Int) (l0_2 : List Int) (l0_3 : List Int) (l0_4 : List Int) (l0_5 : List Int) (l0_6 : List (List Int)) (l1 : List Int) : Option (List Int) := (cupolaref14_Coi.f k l0_0 l0_1 l0_2 l0_3 l0_4 l0_5 l0_6 l1).bind fun t102 => (cupolaref15_Bob.l0 k t102 ([] : List (S46)) (l0_0.length : Int) 0 l0_0 l0_1 l0_2 l0_3 l0_4 l0_5 l0_6)
def cupolaref15_Bob.T15 : Bool × List (List Nat × List Nat) := (true, [([], []), ([0], [0]), ([], []), ([2, 1], [2]), ([1, 3, 3], [1, 3]), ([], []), ([], []), ([], []), ([6, 7, 4], [6, 7]), ([5, 8, 8], [5, 8]), ([4, 9, 9], [4, 9]), ([10, 10, 0, 1, 2, 3, 4, 5, 6, 7, 8, 9, 10], [10])])
def cupolaref15_Bob.B15 : List Nat := [0, 1, 0, 7, 15, 0, 0, 0, 223, 511, 1023, 2047]
theorem cupolaref15_Bob.tab15 : rtab .any (opsOf Try.f96 15) = cupolaref15_Bob.T15 := by kernel_rfl
theorem cupolaref15_Bob.bits15 : waitsOk cupolaref15_Bob.T15.2 cupolaref15_Bob.B15 = true := by kernel_rfl
theorem cupolaref15_Bob.calls (k : Nat) (A0_0 : Option Addr) (c0_0 : Nat) (l0_0 : List (S26)) (A0_1 : Option Addr) (c0_1 : Nat) (l0_1 : List Int) (A0_2 : Option Addr) (c0_2 : Nat) (l0_2 : List Int) (A0_3 : Option Addr) (c0_3 : Nat) (l0_3 : List Int) (A0_4 : Option Addr) (c0_4 : Nat) (l0_4 : List Int) (A0_5 : Option Addr) (c0_5 : Nat) (l0_5 : List Int) (A0_6 : Option Addr) (c0_6 : Nat) (l0_6 : List (List Int)) (A1 : Option Addr) (c1 : Nat) (l1 : List Int) (r : List Int) (w : World) (hr0_0 : Kd.C k26 w A0_0 l0_0.length l0_0) (hc0_0 : l0_0.length ≤ c0_0) (hr0_1 : Kd.C (Kd.int .u32) w A0_1 l0_1.length l0_1) (hc0_1 : l0_1.length ≤ c0_1) (hr0_2 : Kd.C (Kd.int .u32) w A0_2 l0_2.length l0_2) (hc0_2 : l0_2.length ≤ c0_2) (hr0_3 : Kd.C (Kd.int .u32) w A0_3 l0_3.length l0_3) (hc0_3 : l0_3.length ≤ c0_3) (hr0_4 : Kd.C (Kd.int .u32) w A0_4 l0_4.length l0_4) (hc0_4 : l0_4.length ≤ c0_4) (hr0_5 : Kd.C (Kd.int .u32) w A0_5 l0_5.length l0_5) (hc0_5 : l0_5.length ≤ c0_5) (hr0_6 : Kd.C (Kd.slice 2 (Kd.int .i64)) w A0_6 l0_6.length l0_6) (hc0_6 : l0_6.length ≤ c0_6) (hr1 : Kd.C (Kd.int .u32) w A1 l1.length l1) (hc1 : l1.length ≤ c1) (h : cupolaref15_Bob.f k l0_0 l0_1 l0_2 l0_3 l0_4 l0_5 l0_6 l1 = some r) :
  Calls Try.prog 96 #[.agg #[.slice A0_0 l0_0.length c0_0, .slice A0_1 l0_1.length c0_1, .slice A0_2 l0_2.length c0_2, .slice A0_3 l0_3.length c0_3, .slice A0_4 l0_4.length c0_4, .slice A0_5 l0_5.length c0_5, .slice A0_6 l0_6.length c0_6], .slice A1 l1.length c1] w fun e w' => ∃ v0_ : Value, e = .returned (v0_) ∧ Kd.R (Kd.int .u32) 52 w' w.heap.size (fun _ => True) v0_ r ∧ Below w.heap.size w w' := by
 have hu76 := Try.underlying76
 have hu26 := Try.underlying26
 have hu46 := Try.underlying46
 have HR0_0 := a9_ hr0_0
 have HC0_0 := a9_ hc0_0
 clear hr0_0 hc0_0
 have HR0_1 := a9_ hr0_1
 have HC0_1 := a9_ hc0_1
 clear hr0_1 hc0_1
 have HR0_2 := a9_ hr0_2
 have HC0_2 := a9_ hc0_2
 clear hr0_2 hc0_2
 have HR0_3 := a9_ hr0_3
 have HC0_3 := a9_ hc0_3
 clear hr0_3 hc0_3
 have HR0_4 := a9_ hr0_4
 have HC0_4 := a9_ hc0_4
 clear hr0_4 hc0_4
 have HR0_5 := a9_ hr0_5
 have HC0_5 := a9_ hc0_5
 clear hr0_5 hc0_5
 have HR0_6 := a9_ hr0_6
 have HC0_6 := a9_ hc0_6
 clear hr0_6 hc0_6
 have HR1 := a9_ hr1
 have HC1 := a9_ hc1
 clear hr1 hc1
 have HB := a9_ (Below.refl w.heap.size w)
 have H : ((cupolaref14_Coi.f k l0_0 l0_1 l0_2 l0_3 l0_4 l0_5 l0_6 l1).bind fun t102 => (cupolaref15_Bob.l0 k t102 ([] : List (S46)) (l0_0.length : Int) 0 l0_0 l0_1 l0_2 l0_3 l0_4 l0_5 l0_6)) = some r := h
 clear h
 replace H := Option.bind_eq_some_iff.mp H
 obtain ⟨t102, A30, H⟩ := H
 have A3 := a9_ A30
 clear A30
 have H' := a9_ H
 clear H
 go_enter Try.func96, Try.ntmps96
 go_wp2_with (first | ((with_reducible refine gate_dst (N := 2) rfl ?_); refine box9 (N := 2) (cs := #[.slice A0_0 l0_0.length c0_0, .slice A0_1 l0_1.length c0_1, .slice A0_2 l0_2.length c0_2, .slice A0_3 l0_3.length c0_3, .slice A0_4 l0_4.length c0_4, .slice A0_5 l0_5.length c0_5, .slice A0_6 l0_6.length c0_6]) (t := 76) ?_; intro gb101 hg w4 hbox hb; have n0_ := a9_ (below_step (bp9 HB.out) hb); have n1_ := a9_ (hbox); have n2_ := a9_ ((by rw [hg]; exact (below_size (bp9 HB.out)) : w.heap.size ≤ gb101)); have n3_ := n2_; clear HB; have HB := n0_; have BK101 := n1_; have GW101 := n2_; have GE101 := n3_; clear n0_ n1_ n2_ n3_; clear hb hbox hg; obtain ⟨hcz5_0, hcz5_1, hcz5_2, hcz5_3, hcz5_4, hcz5_5, hcz5_6, hfz5_0, hfz5_1, hfz5_2, hfz5_3, hfz5_4, hfz5_5, hfz5_6⟩ := cz7 BK101.out) | ((with_reducible refine gate_callee (f := 87) rfl ?_); refine goesL9 (some 13) rfl rfl Try.func87 (by kernel_rfl) rfl #[.agg #[.slice A0_0 l0_0.length c0_0, .slice A0_1 l0_1.length c0_1, .slice A0_2 l0_2.length c0_2, .slice A0_3 l0_3.length c0_3, .slice A0_4 l0_4.length c0_4, .slice A0_5 l0_5.length c0_5, .slice A0_6 l0_6.length c0_6], .slice A1 l1.length c1] rfl ?_; (with_reducible refine (cupolaref14_Coi.calls k _ _ l0_0 _ _ l0_1 _ _ l0_2 _ _ l0_3 _ _ l0_4 _ _ l0_5 _ _ l0_6 _ _ l1 t102 _ ?side1 ?side2 ?side3 ?side4 ?side5 ?side6 ?side7 ?side8 ?side9 ?side10 ?side11 ?side12 ?side13 ?side14 ?side15 ?side16 A3.out).mono ?_); (case side1 => exact cp9 HR0_0.out HB.out); (case side2 => exact HC0_0.out); (case side3 => exact cp9 HR0_1.out HB.out); (case side4 => exact HC0_1.out); (case side5 => exact cp9 HR0_2.out HB.out); (case side6 => exact HC0_2.out); (case side7 => exact cp9 HR0_3.out HB.out); (case side8 => exact HC0_3.out); (case side9 => exact cp9 HR0_4.out HB.out); (case side10 => exact HC0_4.out); (case side11 => exact cp9 HR0_5.out HB.out); (case side12 => exact HC0_5.out); (case side13 => exact cp9 HR0_6.out HB.out); (case side14 => exact HC0_6.out); (case side15 => exact cp9 HR1.out HB.out); (case side16 => exact HC1.out); rintro e w6 ⟨v103, rfl, ho0, hb⟩; refine ⟨_, rfl, ?_⟩; have n0_ := a9_ (Kd.R_lower ho0 (below_size (bp9 HB.out))); have n1_ := a9_ (blk_below (kp9 BK101.out) hb); have n2_ := a9_ (below_step (bp9 HB.out) hb); clear BK101; clear HB; have HO104 := n0_; have BK101 := n1_; have HB := n2_; clear n0_ n1_ n2_; (try clear hb); (try clear ho0); obtain ⟨hcz7_0, hcz7_1, hcz7_2, hcz7_3, hcz7_4, hcz7_5, hcz7_6, hfz7_0, hfz7_1, hfz7_2, hfz7_3, hfz7_4, hfz7_5, hfz7_6⟩ := cz7 BK101.out))
 go_loopg [6, 8] k (fun kq v6 v8 w' => ∃ (x6_1 : List (S46)) (x8_1 : Int), v8 = .int .i64 x8_1 ∧ Aside0 (cupolaref15_Bob.l0 kq t102 x6_1 (l0_0.length : Int) x8_1 l0_0 l0_1 l0_2 l0_3 l0_4 l0_5 l0_6 = some r) ∧ Aside0 (kq ≤ k) ∧ Aside0 (Kd.R (Kd.int .u32) 52 w' w.heap.size (fun _ => True) v103 t102) ∧ Aside0 (Kd.R k46 46 w' w.heap.size (fun _ => True) v6 x6_1) ∧ Aside0 (w'.heap[gb101]? = some (.cells #[(.slice A0_0 l0_0.length c0_0), (.slice A0_1 l0_1.length c0_1), (.slice A0_2 l0_2.length c0_2), (.slice A0_3 l0_3.length c0_3), (.slice A0_4 l0_4.length c0_4), (.slice A0_5 l0_5.length c0_5), (.slice A0_6 l0_6.length c0_6)] 76 (0, 0))) ∧ Aside0 (Below w.heap.size w w'))
 case atStart => exact ⟨(([] : List (S46))), (0), rs9, H', ⟨Nat.le_refl _⟩, ⟨rp9 HO104.out⟩, ⟨by first | exact Kd.R_nil _ _ _ _ _ | exact Kd.N_nil _ _ _ _ _ | exact Kd.V_nil _ _ _ _ _ | exact Kd.Q_nil _ _ _ _ _ | exact Kd.S_nil _ _ _ _ _⟩, ⟨kp9 BK101.out⟩, ⟨bp9 HB.out⟩⟩
 case round =>
  clear H'
  try clear c1
  try clear p2
  try clear hcz5_0 hcz5_1 hcz5_2 hcz5_3 hcz5_4 hcz5_5 hcz5_6
  try clear hcz7_0 hcz7_1 hcz7_2 hcz7_3 hcz7_4 hcz7_5 hcz7_6
  try clear hfz5_0 hfz5_1 hfz5_2 hfz5_3 hfz5_4 hfz5_5 hfz5_6
  try clear hfz7_0 hfz7_1 hfz7_2 hfz7_3 hfz7_4 hfz7_5 hfz7_6
  obtain ⟨x6_1, x8_1, rfl, HA, HK1, HO_5, HO_6, BK101, HB⟩ := hrel
  cases gk with
  | zero => exact absurd HA.out (by simp [cupolaref15_Bob.l0])
  | succ k1 =>
   have H := HA.out
   clear HA
   simp only [cupolaref15_Bob.l0] at H
   by_cases c8 : x8_1 < (l0_0.length : Int)
   ·rw [if_pos c8] at H
    have c8b0 : decide (x8_1 < (l0_0.length : Int)) = true := decide_eq_true c8
    clear c8
    have H' := a9_ H
    clear H
    go_wp2
    go_loopg [6, 9] k1 (fun kq v6 v9 w' => ∃ (x6_2 : List (S46)) (x9_2 : Int), v9 = .int .i64 x9_2 ∧ Aside0 (cupolaref15_Bob.l1 kq t102 x6_2 (l0_0.length : Int) x8_1 x9_2 l0_0 l0_1 l0_2 l0_3 l0_4 l0_5 l0_6 = some r) ∧ Aside0 (kq ≤ k1) ∧ Aside0 (Kd.R (Kd.int .u32) 52 w' w.heap.size (fun _ => True) v103 t102) ∧ Aside0 (Kd.R k46 46 w' w.heap.size (fun _ => True) v6 x6_2) ∧ Aside0 (w'.heap[gb101]? = some (.cells #[(.slice A0_0 l0_0.length c0_0), (.slice A0_1 l0_1.length c0_1), (.slice A0_2 l0_2.length c0_2), (.slice A0_3 l0_3.length c0_3), (.slice A0_4 l0_4.length c0_4), (.slice A0_5 l0_5.length c0_5), (.slice A0_6 l0_6.length c0_6)] 76 (0, 0))) ∧ Aside0 (Below w.heap.size w w'))
    case atStart => exact ⟨(x6_1), (0), rs9, H', ⟨Nat.le_refl _⟩, ⟨rp9 HO_5.out⟩, ⟨rp9 HO_6.out⟩, ⟨kp9 BK101.out⟩, ⟨bp9 HB.out⟩⟩
    case round =>
     clear H'
     try clear c1
     try clear p2
     try clear c8
     try clear c8b0
     try clear hcz5_0 hcz5_1 hcz5_2 hcz5_3 hcz5_4 hcz5_5 hcz5_6
     try clear hcz7_0 hcz7_1 hcz7_2 hcz7_3 hcz7_4 hcz7_5 hcz7_6
     try clear hfz5_0 hfz5_1 hfz5_2 hfz5_3 hfz5_4 hfz5_5 hfz5_6
     try clear hfz7_0 hfz7_1 hfz7_2 hfz7_3 hfz7_4 hfz7_5 hfz7_6
     try clear p2
     obtain ⟨x6_2, x9_2, rfl, HA, HK2, HO_5, HO_6, BK101, HB⟩ := hrel
     cases gk with
     | zero => exact absurd HA.out (by simp [cupolaref15_Bob.l1])
     | succ k2 =>
      have H := HA.out
      clear HA
      simp only [cupolaref15_Bob.l1] at H
      by_cases c9 : x9_2 < (l0_0.length : Int)
      ·rw [if_pos c9] at H
       have c9b0 : decide (x9_2 < (l0_0.length : Int)) = true := decide_eq_true c9
       clear c9
       have H' := a9_ H
       clear H
       go_wp2
       go_loopg [6, 10] k2 (fun kq v6 v10 w' => ∃ (x6_3 : List (S46)) (x10_3 : Int), v10 = .int .i64 x10_3 ∧ Aside0 (cupolaref15_Bob.l2 kq t102 x6_3 (l0_0.length : Int) x8_1 x9_2 x10_3 l0_0 l0_1 l0_2 l0_3 l0_4 l0_5 l0_6 = some r) ∧ Aside0 (kq ≤ k2) ∧ Aside0 (Kd.R (Kd.int .u32) 52 w' w.heap.size (fun _ => True) v103 t102) ∧ Aside0 (Kd.R k46 46 w' w.heap.size (fun _ => True) v6 x6_3) ∧ Aside0 (w'.heap[gb101]? = some (.cells #[(.slice A0_0 l0_0.length c0_0), (.slice A0_1 l0_1.length c0_1), (.slice A0_2 l0_2.length c0_2), (.slice A0_3 l0_3.length c0_3), (.slice A0_4 l0_4.length c0_4), (.slice A0_5 l0_5.length c0_5), (.slice A0_6 l0_6.length c0_6)] 76 (0, 0))) ∧ Aside0 (Below w.heap.size w w'))
       case atStart => exact ⟨(x6_2), (0), rs9, H', ⟨Nat.le_refl _⟩, ⟨rp9 HO_5.out⟩, ⟨rp9 HO_6.out⟩, ⟨kp9 BK101.out⟩, ⟨bp9 HB.out⟩⟩
       case round =>
        clear H'
        try clear c1
        try clear p2
        try clear c8
        try clear c8b0
        try clear c9
        try clear c9b0
        try clear hcz5_0 hcz5_1 hcz5_2 hcz5_3 hcz5_4 hcz5_5 hcz5_6
        try clear hcz7_0 hcz7_1 hcz7_2 hcz7_3 hcz7_4 hcz7_5 hcz7_6
        try clear hfz5_0 hfz5_1 hfz5_2 hfz5_3 hfz5_4 hfz5_5 hfz5_6
        try clear hfz7_0 hfz7_1 hfz7_2 hfz7_3 hfz7_4 hfz7_5 hfz7_6
        try clear p2
        obtain ⟨x6_3, x10_3, rfl, HA, HK3, HO_5, HO_6, BK101, HB⟩ := hrel
        cases gk with
        | zero => exact absurd HA.out (by simp [cupolaref15_Bob.l2])
        | succ k3 =>
         have H := HA.out
         clear HA
         simp only [cupolaref15_Bob.l2] at H
         by_cases c10 : x10_3 < (l0_0.length : Int)
         ·rw [if_pos c10] at H
          have c10b0 : decide (x10_3 < (l0_0.length : Int)) = true := decide_eq_true c10
          clear c10
          by_cases c11 : 0 ≤ x10_3
          ·rw [if_pos c11] at H
           have c11b0 : decide (0 ≤ x10_3) = true := decide_eq_true c11
           clear c11
           by_cases c12 : x10_3 < (l0_0.length : Int)
           ·rw [if_pos c12] at H
            have c12b0 : decide (x10_3 < (l0_0.length : Int)) = true := decide_eq_true c12
            clear c12
            replace H := Option.bind_eq_some_iff.mp H
            obtain ⟨t106, A130, H⟩ := H
            have A13 := a9_ A130
            clear A130
            by_cases c14 : t106 = true
            ·subst c14
             rw [if_pos rfl] at H
             replace H := Option.bind_eq_some_iff.mp H
             obtain ⟨t107, A150, H⟩ := H
             have A15 := a9_ A150
             clear A150
             by_cases c16 : t107 = true
             ·subst c16
              rw [if_pos rfl] at H
              replace H := Option.bind_eq_some_iff.mp H
              obtain ⟨t108, A170, H⟩ := H
              have A17 := a9_ A170
              clear A170
              by_cases c18 : t108 = true
              ·subst c18
               rw [if_pos rfl] at H
               by_cases c19 : x6_3.length < 8796093022208
               ·rw [if_pos c19] at H
                have LMc19 := a9_ c19
                clear c19
                obtain ⟨y109, hy109⟩ : ∃ y_ : List (S46), y_ = (x6_3 ++ [(⟨x8_1, x9_2⟩ : S46)]) := ⟨_, rfl⟩
                replace H : (cupolaref15_Bob.l2 k3 t102 y109 (l0_0.length : Int) x8_1 x9_2 (wrap64 (x10_3 + 1)) l0_0 l0_1 l0_2 l0_3 l0_4 l0_5 l0_6) = some r := by first | (rw [hy109]; with_reducible exact H) | (have H2_ := (Option.bind_some _ _).symm.trans H; rw [hy109]; with_reducible exact H2_) | (have H2_ := (Option.bind_some _ _).symm.trans H; with_reducible exact H2_) | with_reducible exact H | (rw [hy109]; exact H) | exact H
                have Ny109 := a9_ hy109
                clear hy109
                have H' := a9_ H
                clear H
                obtain ⟨hcz20_0, hcz20_1, hcz20_2, hcz20_3, hcz20_4, hcz20_5, hcz20_6, hfz20_0, hfz20_1, hfz20_2, hfz20_3, hfz20_4, hfz20_5, hfz20_6⟩ := cz7 BK101.out
                have p105 : 0 ≤ (x10_3 : Int) := of_decide_eq_true (by first | (with_reducible assumption) | assumption)
                have q105 : x10_3 < (l0_0.length : Int) := of_decide_eq_true (by first | (with_reducible assumption) | assumption)
                obtain ⟨ad105, e105, hx105_0, hx105_1, hx105_2, hx105_3, hx105_4, hx105_5, hx105_6⟩ := at_T26 HR0_0.out x10_3 p105 q105
                cases e105
                replace hx105_0 := hb9 HB.out hx105_0
                replace hx105_1 := hb9 HB.out hx105_1
                replace hx105_2 := hb9 HB.out hx105_2
                replace hx105_3 := hb9 HB.out hx105_3
                replace hx105_4 := hb9 HB.out hx105_4
                replace hx105_5 := hb9 HB.out hx105_5
                replace hx105_6 := hb9 HB.out hx105_6
                replace p105 := eq_true p105
                replace q105 := eq_true q105
                go_wp2_with (first | ((with_reducible refine gate_callee (f := 144) rfl ?_); refine goesL9 (some 37) rfl rfl Try.func144 (by kernel_rfl) rfl #[.agg #[.int .i64 ((rd_T26 l0_0 x10_3).f0), .int .i64 ((rd_T26 l0_0 x10_3).f1), .int .i64 ((rd_T26 l0_0 x10_3).f2), .int .i64 ((rd_T26 l0_0 x10_3).f3), .bool ((rd_T26 l0_0 x10_3).f4), .bool ((rd_T26 l0_0 x10_3).f5), .bool ((rd_T26 l0_0 x10_3).f6)]] rfl ?_; (with_reducible refine (cupolaref15_releases.calls ((rd_T26 l0_0 x10_3).f0) ((rd_T26 l0_0 x10_3).f1) ((rd_T26 l0_0 x10_3).f2) ((rd_T26 l0_0 x10_3).f3) ((rd_T26 l0_0 x10_3).f4) ((rd_T26 l0_0 x10_3).f5) ((rd_T26 l0_0 x10_3).f6) true _ A13.out).mono ?_); rintro e w21 ⟨rfl, hb⟩; refine ⟨_, rfl, ?_⟩; have n0_ := a9_ (Kd.R_below (rp9 HO_5.out) hb); have n1_ := a9_ (Kd.R_below (rp9 HO_6.out) hb); have n2_ := a9_ (blk_below (kp9 BK101.out) hb); have n3_ := a9_ (below_step (bp9 HB.out) hb); clear HO_5; clear HO_6; clear BK101; clear HB; have HO_5 := n0_; have HO_6 := n1_; have BK101 := n2_; have HB := n3_; clear n0_ n1_ n2_ n3_; (try clear hb); obtain ⟨hcz22_0, hcz22_1, hcz22_2, hcz22_3, hcz22_4, hcz22_5, hcz22_6, hfz22_0, hfz22_1, hfz22_2, hfz22_3, hfz22_4, hfz22_5, hfz22_6⟩ := cz7 BK101.out) | (go_at_call 43; (with_reducible refine (cupolaref05_Has.calls k3 _ _ l0_1 x8_1 x10_3 true _ ?side1 ?side2 A15.out).mono ?_); (case side1 => exact cp9 HR0_1.out HB.out); (case side2 => exact HC0_1.out); rintro e w' ⟨rfl, ⟨nd, rfl⟩⟩; obtain ⟨Ao23, co23, eo23⟩ := Kd.R_slice HO_5.out; subst eo23) | (go_at_call 43; (with_reducible refine (cupolaref05_Has.calls k3 _ _ t102 x10_3 x9_2 true _ ?side1 ?side2 A17.out).mono ?_); (case side1 => exact lp9 (Kd.R_reads' HO_5.out).2.2); (case side2 => exact (Kd.R_reads' HO_5.out).2.1); rintro e w' ⟨rfl, ⟨nd, rfl⟩⟩) | ((with_reducible refine gate_builtin (b := .append) (xs := #[.tmp 51, .tmp 55]) rfl ?_); at_builtin; refine Kd.R_append k46 (w0 := w) w.heap.size rfl (.tmp 51) (.tmp 55) 43 46 (.agg #[(.int .i64 0), (.int .i64 0)]) 16 rfl Try.underlying43 info46 rfl (by decide) (by omega) u6 x6_3 (⟨x8_1, x9_2⟩ : S46) [.int .i64 x8_1, .int .i64 x9_2] (fun _ => True) (fun _ => False) rfl rfl ?aP (fun _ hk => hk.elim) ?aF ?aO ?aB ?aS ?aL ?_; (case aP => exact k46_mkM _ _ _ (⟨x8_1, x9_2⟩ : S46)); (case aB => exact (bp9 HB.out)); (case aF => exact (fun _ _ => trivial)); (case aO => exact (rp9 HO_6.out)); (case aS => exact (below_size (bp9 HB.out))); (case aL => have := LMc19.out; omega); intro v110 w24 ho hb hg hat; rw [← Ny109.out] at ho; have n0_ := a9_ (Kd.R_over' (rp9 HO_5.out) (Kd.R_typed (rp9 HO_6.out)) (by decide) hg); have n1_ := a9_ (blk_grown (g := gb101) (o := .cells #[.slice (some ad105) l0_0.length c0_0, .slice A0_1 l0_1.length c0_1, .slice A0_2 l0_2.length c0_2, .slice A0_3 l0_3.length c0_3, .slice A0_4 l0_4.length c0_4, .slice A0_5 l0_5.length c0_5, .slice A0_6 l0_6.length c0_6] 76 (0, 0)) (kp9 BK101.out) hg (Kd.R_ne HO_6.out BK101.out (by decide))); have n2_ := a9_ (hb); have n3_ := a9_ (ho); clear HO_5; clear BK101; clear HB; clear HO_6; have HO_5 := n0_; have BK101 := n1_; have HB := n2_; have HO111 := n3_; clear n0_ n1_ n2_ n3_; clear ho hb hg hat))
                go_roundg k3
                case measure => have := HK1.out; have := HK2.out; have := HK3.out; omega
                case rel => exact ⟨(y109), (wrap64 (x10_3 + 1)), rs9, H', ⟨by have := HK1.out; have := HK2.out; have := HK3.out; omega⟩, ⟨rp9 HO_5.out⟩, ⟨rp9 HO111.out⟩, ⟨kp9 BK101.out⟩, ⟨bp9 HB.out⟩⟩
               ·rw [if_neg c19] at H
                exact absurd H (by simp)
              ·replace c18 := Bool.eq_false_iff.mpr c18
               subst c18
               rw [if_neg (show ¬ (false = true) by decide)] at H
               have H' := a9_ H
               clear H
               obtain ⟨hcz25_0, hcz25_1, hcz25_2, hcz25_3, hcz25_4, hcz25_5, hcz25_6, hfz25_0, hfz25_1, hfz25_2, hfz25_3, hfz25_4, hfz25_5, hfz25_6⟩ := cz7 BK101.out
               have p105 : 0 ≤ (x10_3 : Int) := of_decide_eq_true (by first | (with_reducible assumption) | assumption)
               have q105 : x10_3 < (l0_0.length : Int) := of_decide_eq_true (by first | (with_reducible assumption) | assumption)
               obtain ⟨ad105, e105, hx105_0, hx105_1, hx105_2, hx105_3, hx105_4, hx105_5, hx105_6⟩ := at_T26 HR0_0.out x10_3 p105 q105
               cases e105
               replace hx105_0 := hb9 HB.out hx105_0
               replace hx105_1 := hb9 HB.out hx105_1
               replace hx105_2 := hb9 HB.out hx105_2
               replace hx105_3 := hb9 HB.out hx105_3
               replace hx105_4 := hb9 HB.out hx105_4
               replace hx105_5 := hb9 HB.out hx105_5
               replace hx105_6 := hb9 HB.out hx105_6
               replace p105 := eq_true p105
               replace q105 := eq_true q105
               go_wp2_with (first | ((with_reducible refine gate_callee (f := 144) rfl ?_); refine goesL9 (some 37) rfl rfl Try.func144 (by kernel_rfl) rfl #[.agg #[.int .i64 ((rd_T26 l0_0 x10_3).f0), .int .i64 ((rd_T26 l0_0 x10_3).f1), .int .i64 ((rd_T26 l0_0 x10_3).f2), .int .i64 ((rd_T26 l0_0 x10_3).f3), .bool ((rd_T26 l0_0 x10_3).f4), .bool ((rd_T26 l0_0 x10_3).f5), .bool ((rd_T26 l0_0 x10_3).f6)]] rfl ?_; (with_reducible refine (cupolaref15_releases.calls ((rd_T26 l0_0 x10_3).f0) ((rd_T26 l0_0 x10_3).f1) ((rd_T26 l0_0 x10_3).f2) ((rd_T26 l0_0 x10_3).f3) ((rd_T26 l0_0 x10_3).f4) ((rd_T26 l0_0 x10_3).f5) ((rd_T26 l0_0 x10_3).f6) true _ A13.out).mono ?_); rintro e w26 ⟨rfl, hb⟩; refine ⟨_, rfl, ?_⟩; have n0_ := a9_ (Kd.R_below (rp9 HO_5.out) hb); have n1_ := a9_ (Kd.R_below (rp9 HO_6.out) hb); have n2_ := a9_ (blk_below (kp9 BK101.out) hb); have n3_ := a9_ (below_step (bp9 HB.out) hb); clear HO_5; clear HO_6; clear BK101; clear HB; have HO_5 := n0_; have HO_6 := n1_; have BK101 := n2_; have HB := n3_; clear n0_ n1_ n2_ n3_; (try clear hb); obtain ⟨hcz27_0, hcz27_1, hcz27_2, hcz27_3, hcz27_4, hcz27_5, hcz27_6, hfz27_0, hfz27_1, hfz27_2, hfz27_3, hfz27_4, hfz27_5, hfz27_6⟩ := cz7 BK101.out) | (go_at_call 43; (with_reducible refine (cupolaref05_Has.calls k3 _ _ l0_1 x8_1 x10_3 true _ ?side1 ?side2 A15.out).mono ?_); (case side1 => exact cp9 HR0_1.out HB.out); (case side2 => exact HC0_1.out); rintro e w' ⟨rfl, ⟨nd, rfl⟩⟩; obtain ⟨Ao28, co28, eo28⟩ := Kd.R_slice HO_5.out; subst eo28) | (go_at_call 43; (with_reducible refine (cupolaref05_Has.calls k3 _ _ t102 x10_3 x9_2 false _ ?side1 ?side2 A17.out).mono ?_); (case side1 => exact lp9 (Kd.R_reads' HO_5.out).2.2); (case side2 => exact (Kd.R_reads' HO_5.out).2.1); rintro e w' ⟨rfl, ⟨nd, rfl⟩⟩))
               go_roundg k3
               case measure => have := HK1.out; have := HK2.out; have := HK3.out; omega
               case rel => exact ⟨(x6_3), (wrap64 (x10_3 + 1)), rs9, H', ⟨by have := HK1.out; have := HK2.out; have := HK3.out; omega⟩, ⟨rp9 HO_5.out⟩, ⟨rp9 HO_6.out⟩, ⟨kp9 BK101.out⟩, ⟨bp9 HB.out⟩⟩
             ·replace c16 := Bool.eq_false_iff.mpr c16
              subst c16
              rw [if_neg (show ¬ (false = true) by decide)] at H
              have H' := a9_ H
              clear H
              obtain ⟨hcz29_0, hcz29_1, hcz29_2, hcz29_3, hcz29_4, hcz29_5, hcz29_6, hfz29_0, hfz29_1, hfz29_2, hfz29_3, hfz29_4, hfz29_5, hfz29_6⟩ := cz7 BK101.out
              have p105 : 0 ≤ (x10_3 : Int) := of_decide_eq_true (by first | (with_reducible assumption) | assumption)
              have q105 : x10_3 < (l0_0.length : Int) := of_decide_eq_true (by first | (with_reducible assumption) | assumption)
              obtain ⟨ad105, e105, hx105_0, hx105_1, hx105_2, hx105_3, hx105_4, hx105_5, hx105_6⟩ := at_T26 HR0_0.out x10_3 p105 q105
              cases e105
              replace hx105_0 := hb9 HB.out hx105_0
              replace hx105_1 := hb9 HB.out hx105_1
              replace hx105_2 := hb9 HB.out hx105_2
              replace hx105_3 := hb9 HB.out hx105_3
              replace hx105_4 := hb9 HB.out hx105_4
              replace hx105_5 := hb9 HB.out hx105_5
              replace hx105_6 := hb9 HB.out hx105_6
              replace p105 := eq_true p105
              replace q105 := eq_true q105
              go_wp2_with (first | ((with_reducible refine gate_callee (f := 144) rfl ?_); refine goesL9 (some 37) rfl rfl Try.func144 (by kernel_rfl) rfl #[.agg #[.int .i64 ((rd_T26 l0_0 x10_3).f0), .int .i64 ((rd_T26 l0_0 x10_3).f1), .int .i64 ((rd_T26 l0_0 x10_3).f2), .int .i64 ((rd_T26 l0_0 x10_3).f3), .bool ((rd_T26 l0_0 x10_3).f4), .bool ((rd_T26 l0_0 x10_3).f5), .bool ((rd_T26 l0_0 x10_3).f6)]] rfl ?_; (with_reducible refine (cupolaref15_releases.calls ((rd_T26 l0_0 x10_3).f0) ((rd_T26 l0_0 x10_3).f1) ((rd_T26 l0_0 x10_3).f2) ((rd_T26 l0_0 x10_3).f3) ((rd_T26 l0_0 x10_3).f4) ((rd_T26 l0_0 x10_3).f5) ((rd_T26 l0_0 x10_3).f6) true _ A13.out).mono ?_); rintro e w30 ⟨rfl, hb⟩; refine ⟨_, rfl, ?_⟩; have n0_ := a9_ (Kd.R_below (rp9 HO_5.out) hb); have n1_ := a9_ (Kd.R_below (rp9 HO_6.out) hb); have n2_ := a9_ (blk_below (kp9 BK101.out) hb); have n3_ := a9_ (below_step (bp9 HB.out) hb); clear HO_5; clear HO_6; clear BK101; clear HB; have HO_5 := n0_; have HO_6 := n1_; have BK101 := n2_; have HB := n3_; clear n0_ n1_ n2_ n3_; (try clear hb); obtain ⟨hcz31_0, hcz31_1, hcz31_2, hcz31_3, hcz31_4, hcz31_5, hcz31_6, hfz31_0, hfz31_1, hfz31_2, hfz31_3, hfz31_4, hfz31_5, hfz31_6⟩ := cz7 BK101.out) | (go_at_call 43; (with_reducible refine (cupolaref05_Has.calls k3 _ _ l0_1 x8_1 x10_3 false _ ?side1 ?side2 A15.out).mono ?_); (case side1 => exact cp9 HR0_1.out HB.out); (case side2 => exact HC0_1.out); rintro e w' ⟨rfl, ⟨nd, rfl⟩⟩))
              go_roundg k3
              case measure => have := HK1.out; have := HK2.out; have := HK3.out; omega
              case rel => exact ⟨(x6_3), (wrap64 (x10_3 + 1)), rs9, H', ⟨by have := HK1.out; have := HK2.out; have := HK3.out; omega⟩, ⟨rp9 HO_5.out⟩, ⟨rp9 HO_6.out⟩, ⟨kp9 BK101.out⟩, ⟨bp9 HB.out⟩⟩
            ·replace c14 := Bool.eq_false_iff.mpr c14
             subst c14
             rw [if_neg (show ¬ (false = true) by decide)] at H
             have H' := a9_ H
             clear H
             obtain ⟨hcz32_0, hcz32_1, hcz32_2, hcz32_3, hcz32_4, hcz32_5, hcz32_6, hfz32_0, hfz32_1, hfz32_2, hfz32_3, hfz32_4, hfz32_5, hfz32_6⟩ := cz7 BK101.out
             have p105 : 0 ≤ (x10_3 : Int) := of_decide_eq_true (by first | (with_reducible assumption) | assumption)
             have q105 : x10_3 < (l0_0.length : Int) := of_decide_eq_true (by first | (with_reducible assumption) | assumption)
             obtain ⟨ad105, e105, hx105_0, hx105_1, hx105_2, hx105_3, hx105_4, hx105_5, hx105_6⟩ := at_T26 HR0_0.out x10_3 p105 q105
             cases e105
             replace hx105_0 := hb9 HB.out hx105_0
             replace hx105_1 := hb9 HB.out hx105_1
             replace hx105_2 := hb9 HB.out hx105_2
             replace hx105_3 := hb9 HB.out hx105_3
             replace hx105_4 := hb9 HB.out hx105_4
             replace hx105_5 := hb9 HB.out hx105_5
             replace hx105_6 := hb9 HB.out hx105_6
             replace p105 := eq_true p105
             replace q105 := eq_true q105
             go_wp2_with (first | ((with_reducible refine gate_callee (f := 144) rfl ?_); refine goesL9 (some 37) rfl rfl Try.func144 (by kernel_rfl) rfl #[.agg #[.int .i64 ((rd_T26 l0_0 x10_3).f0), .int .i64 ((rd_T26 l0_0 x10_3).f1), .int .i64 ((rd_T26 l0_0 x10_3).f2), .int .i64 ((rd_T26 l0_0 x10_3).f3), .bool ((rd_T26 l0_0 x10_3).f4), .bool ((rd_T26 l0_0 x10_3).f5), .bool ((rd_T26 l0_0 x10_3).f6)]] rfl ?_; (with_reducible refine (cupolaref15_releases.calls ((rd_T26 l0_0 x10_3).f0) ((rd_T26 l0_0 x10_3).f1) ((rd_T26 l0_0 x10_3).f2) ((rd_T26 l0_0 x10_3).f3) ((rd_T26 l0_0 x10_3).f4) ((rd_T26 l0_0 x10_3).f5) ((rd_T26 l0_0 x10_3).f6) false _ A13.out).mono ?_); rintro e w33 ⟨rfl, hb⟩; refine ⟨_, rfl, ?_⟩; have n0_ := a9_ (Kd.R_below (rp9 HO_5.out) hb); have n1_ := a9_ (Kd.R_below (rp9 HO_6.out) hb); have n2_ := a9_ (blk_below (kp9 BK101.out) hb); have n3_ := a9_ (below_step (bp9 HB.out) hb); clear HO_5; clear HO_6; clear BK101; clear HB; have HO_5 := n0_; have HO_6 := n1_; have BK101 := n2_; have HB := n3_; clear n0_ n1_ n2_ n3_; (try clear hb); (try clear hi)))
             go_roundg k3
             case measure => have := HK1.out; have := HK2.out; have := HK3.out; omega
             case rel => exact ⟨(x6_3), (wrap64 (x10_3 + 1)), rs9, H', ⟨by have := HK1.out; have := HK2.out; have := HK3.out; omega⟩, ⟨rp9 HO_5.out⟩, ⟨rp9 HO_6.out⟩, ⟨kp9 BK101.out⟩, ⟨bp9 HB.out⟩⟩
           ·rw [if_neg c12] at H
            exact absurd H (by simp)
          ·rw [if_neg c11] at H
           exact absurd H (by simp)
         ·rw [if_neg c10] at H
          have c10b0 : decide (x10_3 < (l0_0.length : Int)) = false := decide_eq_false c10
          clear c10
          have H' := a9_ H
          clear H
          go_wp2
          go_roundg k3
          case measure => have := HK1.out; have := HK2.out; have := HK3.out; omega
          case rel => exact ⟨(x6_3), (wrap64 (x9_2 + 1)), rs9, H', ⟨by have := HK1.out; have := HK2.out; have := HK3.out; omega⟩, ⟨rp9 HO_5.out⟩, ⟨rp9 HO_6.out⟩, ⟨kp9 BK101.out⟩, ⟨bp9 HB.out⟩⟩
      ·rw [if_neg c9] at H
       have c9b0 : decide (x9_2 < (l0_0.length : Int)) = false := decide_eq_false c9
       clear c9
       have H' := a9_ H
       clear H
       go_wp2
       go_roundg k2
       case measure => have := HK1.out; have := HK2.out; omega
       case rel => exact ⟨(x6_2), (wrap64 (x8_1 + 1)), rs9, H', ⟨by have := HK1.out; have := HK2.out; omega⟩, ⟨rp9 HO_5.out⟩, ⟨rp9 HO_6.out⟩, ⟨kp9 BK101.out⟩, ⟨bp9 HB.out⟩⟩
   ·rw [if_neg c8] at H
    have c8b0 : decide (x8_1 < (l0_0.length : Int)) = false := decide_eq_false c8
    clear c8
    replace H := Option.bind_eq_some_iff.mp H
    obtain ⟨t112, A340, H⟩ := H
    have A34 := a9_ A340
    clear A340
    replace H := Option.bind_eq_some_iff.mp H
    obtain ⟨t115, A350, H⟩ := H
    have A35 := a9_ A350
    clear A350
    replace H := Option.bind_eq_some_iff.mp H
    obtain ⟨t118, A360, H⟩ := H
    have A36 := a9_ A360
    clear A360
    replace H := Option.bind_eq_some_iff.mp H
    obtain ⟨t121, A370, H⟩ := H
    have A37 := a9_ A370
    clear A370
    replace H := Option.bind_eq_some_iff.mp H
    obtain ⟨t124, A380, H⟩ := H
    have A38 := a9_ A380
    clear A380
    replace H := Option.bind_eq_some_iff.mp H
    obtain ⟨t127, A390, H⟩ := H
    have A39 := a9_ A390
    clear A390
    obtain rfl := Option.some.inj H
    try go_wp2
    have n0_ := a9_ (Kd.R_drew HO_5.out)
    have n1_ := a9_ (Kd.R_drew HO_6.out)
    have n2_ := a9_ (blk_drew BK101.out)
    have n3_ := a9_ (below_drew1 HB.out)
    clear HO_5 HO_6 BK101 HB
    revert n0_ n1_ n2_ n3_; intro HO_5 HO_6 BK101 HB
    refine start_ (n := 12) (S := fun w' => w'.cell? ⟨gb101, 0, none⟩ = some (.slice A0_0 l0_0.length c0_0) ∧ w'.cell? ⟨gb101, 1, none⟩ = some (.slice A0_1 l0_1.length c0_1) ∧ w'.cell? ⟨gb101, 2, none⟩ = some (.slice A0_2 l0_2.length c0_2) ∧ w'.cell? ⟨gb101, 3, none⟩ = some (.slice A0_3 l0_3.length c0_3) ∧ w'.cell? ⟨gb101, 4, none⟩ = some (.slice A0_4 l0_4.length c0_4) ∧ w'.cell? ⟨gb101, 5, none⟩ = some (.slice A0_5 l0_5.length c0_5) ∧ w'.cell? ⟨gb101, 6, none⟩ = some (.slice A0_6 l0_6.length c0_6)) (ds := []) #[o9, o9, o9, o9, o9, o9, o9, o9, o9, o9, o9, o9] (by kernel_rfl) rfl rfl ⟨(blk_cell BK101.out 0).trans rfl, (blk_cell BK101.out 1).trans rfl, (blk_cell BK101.out 2).trans rfl, (blk_cell BK101.out 3).trans rfl, (blk_cell BK101.out 4).trans rfl, (blk_cell BK101.out 5).trans rfl, (blk_cell BK101.out 6).trans rfl⟩ (fun hHeld => ?_); refine with_tabW cupolaref15_Bob.tab15 cupolaref15_Bob.bits15 (fun HT_ HW_ => ?_)
    generalize wr.drew = w40 at HO_5 HO_6 BK101 HB hHeld ⊢
    refine pureA 6 (some 63) ?_ #[o9, o9, o9, o9, o9, o9, i9, o9, o9, o9, o9, o9] rfl rfl (any_of HT_.out (by kernel_rfl)) ?_ ?_ ?_ ?_
    rotate_left
    ·intro w'; go_simp; with_reducible rfl
    rotate_left
    ·exact put9
    refine pureA 7 (some 64) ?_ #[o9, o9, o9, o9, o9, o9, i9, i9, o9, o9, o9, o9] rfl rfl (any_of HT_.out (by kernel_rfl)) ?_ ?_ ?_ ?_
    rotate_left
    ·intro w'; go_simp; with_reducible rfl
    rotate_left
    ·exact put9
    refine take_ (i := 0) (N := some 57) (v := ?_) (a' := ?_) #[i9, o9, o9, o9, o9, o9, i9, i9, o9, o9, o9, o9] rfl rfl (take_ofW HT_.out HW_.out (by kernel_rfl)) (fun _ _ _ h => h) (Or.inl ⟨by rfl, ?_⟩) hHeld ?_ ?_
    rotate_left
    ·rintro w' ⟨s0, s1, s2, s3, s4, s5, s6⟩
     go_simp
     with_reducible rfl
    rotate_left
    ·exact put9
    refine take_ (i := 2) (N := some 59) (v := ?_) (a' := ?_) #[i9, o9, i9, o9, o9, o9, i9, i9, o9, o9, o9, o9] rfl rfl (take_ofW HT_.out HW_.out (by kernel_rfl)) (fun _ _ _ h => h) (Or.inl ⟨by rfl, ?_⟩) hHeld ?_ ?_
    rotate_left
    ·rintro w' ⟨s0, s1, s2, s3, s4, s5, s6⟩
     go_simp
     with_reducible rfl
    rotate_left
    ·exact put9
    refine take_ (i := 5) (N := some 62) (v := ?_) (a' := ?_) #[i9, o9, i9, o9, o9, i9, i9, i9, o9, o9, o9, o9] rfl rfl (take_ofW HT_.out HW_.out (by kernel_rfl)) (fun _ _ _ h => h) (Or.inl ⟨by rfl, ?_⟩) hHeld ?_ ?_
    rotate_left
    ·rintro w' ⟨s0, s1, s2, s3, s4, s5, s6⟩
     go_simp
     with_reducible rfl
    rotate_left
    ·exact put9
    refine one_ (i := 1) (N := some 58) #[i9, i9, i9, o9, o9, i9, i9, i9, o9, o9, o9, o9] rfl rfl (one_of HT_.out (by kernel_rfl)) (by decide) (fun K hK => ?_)
    refine goes9 Try.func93 (by kernel_rfl) rfl #[.agg #[.slice A0_0 l0_0.length c0_0, .slice A0_1 l0_1.length c0_1, .slice A0_2 l0_2.length c0_2, .slice A0_3 l0_3.length c0_3, .slice A0_4 l0_4.length c0_4, .slice A0_5 l0_5.length c0_5, .slice A0_6 l0_6.length c0_6]] (by rfl) rfl rfl ?_
    with_reducible refine (cupolaref15_Fences.calls k1 _ _ l0_0 _ _ l0_1 _ _ l0_2 _ _ l0_3 _ _ l0_4 _ _ l0_5 _ _ l0_6 t112 _ ?side1 ?side2 ?side3 ?side4 ?side5 ?side6 ?side7 ?side8 ?side9 ?side10 ?side11 ?side12 ?side13 ?side14 A34.out).mono ?_
    (case side1 => exact cp9 HR0_0.out HB.out)
    (case side2 => exact HC0_0.out)
    (case side3 => exact cp9 HR0_1.out HB.out)
    (case side4 => exact HC0_1.out)
    (case side5 => exact cp9 HR0_2.out HB.out)
    (case side6 => exact HC0_2.out)
    (case side7 => exact cp9 HR0_3.out HB.out)
    (case side8 => exact HC0_3.out)
    (case side9 => exact cp9 HR0_4.out HB.out)
    (case side10 => exact HC0_4.out)
    (case side11 => exact cp9 HR0_5.out HB.out)
    (case side12 => exact HC0_5.out)
    (case side13 => exact cp9 HR0_6.out HB.out)
    (case side14 => exact HC0_6.out)
    rintro e w41 ⟨v113, rfl, ho0, hb⟩
    refine ⟨_, rfl, ?_⟩
    have n0_ := a9_ (Kd.R_elder' (rp9 HO_5.out) (Kd.R_base ho0) hb)
    have n1_ := a9_ (Kd.R_below (rp9 HO_6.out) hb)
    have n2_ := a9_ (Kd.R_lower (Kd.R_new' ho0 (Kd.R_lt (rp9 HO_5.out))) (below_size (bp9 HB.out)))
    have n3_ := a9_ (blk_below (kp9 BK101.out) hb)
    have n4_ := a9_ (below_step (bp9 HB.out) hb)
    clear HO_5 HO_6 BK101 HB
    revert n0_ n1_ n2_ n3_ n4_; intro HO_5 HO_6 HO114 BK101 HB
    (try clear hb)
    (try clear ho0)
    refine hK.out _ _ ⟨(blk_cell BK101.out 0).trans rfl, (blk_cell BK101.out 1).trans rfl, (blk_cell BK101.out 2).trans rfl, (blk_cell BK101.out 3).trans rfl, (blk_cell BK101.out 4).trans rfl, (blk_cell BK101.out 5).trans rfl, (blk_cell BK101.out 6).trans rfl⟩ (fun hHeld => ?_)
    clear hK K
    refine norm_ (a' := ?_) ?_ ?_
    rotate_left
    ·show Act.put _ (some 58) _ = _
     exact put9
    refine one_ (i := 3) (N := some 60) #[i9, i9, i9, i9, o9, i9, i9, i9, o9, o9, o9, o9] rfl rfl (one_of HT_.out (by kernel_rfl)) (by decide) (fun K hK => ?_)
    refine goes9 Try.func94 (by kernel_rfl) rfl #[.agg #[.slice A0_0 l0_0.length c0_0, .slice A0_1 l0_1.length c0_1, .slice A0_2 l0_2.length c0_2, .slice A0_3 l0_3.length c0_3, .slice A0_4 l0_4.length c0_4, .slice A0_5 l0_5.length c0_5, .slice A0_6 l0_6.length c0_6]] (by rfl) rfl rfl ?_
    with_reducible refine (cupolaref15_Orders.calls k1 _ _ l0_0 _ _ l0_1 _ _ l0_2 _ _ l0_3 _ _ l0_4 _ _ l0_5 _ _ l0_6 t115 _ ?side1 ?side2 ?side3 ?side4 ?side5 ?side6 ?side7 ?side8 ?side9 ?side10 ?side11 ?side12 ?side13 ?side14 A35.out).mono ?_
    (case side1 => exact cp9 HR0_0.out HB.out)
    (case side2 => exact HC0_0.out)
    (case side3 => exact cp9 HR0_1.out HB.out)
    (case side4 => exact HC0_1.out)
    (case side5 => exact cp9 HR0_2.out HB.out)
    (case side6 => exact HC0_2.out)
    (case side7 => exact cp9 HR0_3.out HB.out)
    (case side8 => exact HC0_3.out)
    (case side9 => exact cp9 HR0_4.out HB.out)
    (case side10 => exact HC0_4.out)
    (case side11 => exact cp9 HR0_5.out HB.out)
    (case side12 => exact HC0_5.out)
    (case side13 => exact cp9 HR0_6.out HB.out)
    (case side14 => exact HC0_6.out)
    rintro e w42 ⟨v116, rfl, ho0, hb⟩
    refine ⟨_, rfl, ?_⟩
    have n0_ := a9_ (Kd.R_elder' (rp9 HO_5.out) (Kd.R_base ho0) hb)
    have n1_ := a9_ (Kd.R_below (rp9 HO_6.out) hb)
    have n2_ := a9_ (Kd.R_elder' (rp9 HO114.out) (Kd.R_base ho0) hb)
    have n3_ := a9_ (Kd.R_lower (Kd.R_new' (Kd.R_new' ho0 (Kd.R_lt (rp9 HO_5.out))) (Kd.R_lt (rp9 HO114.out))) (below_size (bp9 HB.out)))
    have n4_ := a9_ (blk_below (kp9 BK101.out) hb)
    have n5_ := a9_ (below_step (bp9 HB.out) hb)
    clear HO_5 HO_6 HO114 BK101 HB
    revert n0_ n1_ n2_ n3_ n4_ n5_; intro HO_5 HO_6 HO114 HO117 BK101 HB
    (try clear hb)
    (try clear ho0)
    obtain ⟨Ao43, co43, eo43⟩ := Kd.R_slice HO114.out
    (first | subst eo43 | (injection eo43 with f1_ f2_ f3_; have f4_ := f1_.symm; have f5_ := f3_.symm; clear f1_ f2_ f3_; subst f4_; subst f5_))
    obtain ⟨Ao44, co44, eo44⟩ := Kd.R_slice HO117.out
    (first | subst eo44 | (injection eo44 with f1_ f2_ f3_; have f4_ := f1_.symm; have f5_ := f3_.symm; clear f1_ f2_ f3_; subst f4_; subst f5_))
    refine hK.out _ _ ⟨(blk_cell BK101.out 0).trans rfl, (blk_cell BK101.out 1).trans rfl, (blk_cell BK101.out 2).trans rfl, (blk_cell BK101.out 3).trans rfl, (blk_cell BK101.out 4).trans rfl, (blk_cell BK101.out 5).trans rfl, (blk_cell BK101.out 6).trans rfl⟩ (fun hHeld => ?_)
    clear hK K
    refine norm_ (a' := ?_) ?_ ?_
    rotate_left
    ·show Act.put _ (some 60) _ = _
     exact put9
    refine one_ (i := 4) (N := some 61) #[i9, i9, i9, i9, i9, i9, i9, i9, o9, o9, o9, o9] rfl rfl (one_of HT_.out (by kernel_rfl)) (by decide) (fun K hK => ?_)
    refine goes9 Try.func59 (by kernel_rfl) rfl #[.slice Ao43 t112.length co43, .slice Ao44 t115.length co44] (by rfl) rfl rfl ?_
    with_reducible refine (cupolaref05_Or.calls k1 _ _ t112 _ _ t115 t118 _ ?side1 ?side2 ?side3 ?side4 A36.out).mono ?_
    (case side1 => exact lp9 (Kd.R_reads' HO114.out).2.2)
    (case side2 => exact (Kd.R_reads' HO114.out).2.1)
    (case side3 => exact lp9 (Kd.R_reads' HO117.out).2.2)
    (case side4 => exact (Kd.R_reads' HO117.out).2.1)
    rintro e w45 ⟨v119, rfl, ho0, hb⟩
    refine ⟨_, rfl, ?_⟩
    have n0_ := a9_ (Kd.R_elder' (rp9 HO_5.out) (Kd.R_base ho0) hb)
    have n1_ := a9_ (Kd.R_below (rp9 HO_6.out) hb)
    have n2_ := a9_ (Kd.R_elder' (rp9 HO114.out) (Kd.R_base ho0) hb)
    have n3_ := a9_ (Kd.R_elder' (rp9 HO117.out) (Kd.R_base ho0) hb)
    have n4_ := a9_ (Kd.R_lower (Kd.R_new' (Kd.R_new' (Kd.R_new' ho0 (Kd.R_lt (rp9 HO_5.out))) (Kd.R_lt (rp9 HO114.out))) (Kd.R_lt (rp9 HO117.out))) (below_size (bp9 HB.out)))
    have n5_ := a9_ (blk_below (kp9 BK101.out) hb)
    have n6_ := a9_ (below_step (bp9 HB.out) hb)
    clear HO_5 HO_6 HO114 HO117 BK101 HB
    revert n0_ n1_ n2_ n3_ n4_ n5_ n6_; intro HO_5 HO_6 HO114 HO117 HO120 BK101 HB
    (try clear hb)
    (try clear ho0)
    obtain ⟨Ao46, co46, eo46⟩ := Kd.R_slice HO_6.out
    (first | subst eo46 | (injection eo46 with f1_ f2_ f3_; have f4_ := f1_.symm; have f5_ := f3_.symm; clear f1_ f2_ f3_; subst f4_; subst f5_))
    refine hK.out _ _ ⟨(blk_cell BK101.out 0).trans rfl, (blk_cell BK101.out 1).trans rfl, (blk_cell BK101.out 2).trans rfl, (blk_cell BK101.out 3).trans rfl, (blk_cell BK101.out 4).trans rfl, (blk_cell BK101.out 5).trans rfl, (blk_cell BK101.out 6).trans rfl⟩ (fun hHeld => ?_)
    clear hK K
    refine norm_ (a' := ?_) ?_ ?_
    rotate_left
    ·show Act.put _ (some 61) _ = _
     exact put9
    refine one_ (i := 8) (N := some 65) #[i9, i9, i9, i9, i9, i9, i9, i9, i9, o9, o9, o9] rfl rfl (one_of HT_.out (by kernel_rfl)) (by decide) (fun K hK => ?_)
    refine goes9 Try.func119 (by kernel_rfl) rfl #[.int .i64 (l0_0.length : Int), .slice Ao46 x6_1.length co46] (by rfl) rfl rfl ?_
    with_reducible refine (cupolaref05_Made.calls k1 (l0_0.length : Int) _ _ x6_1 t121 _ ?side1 ?side2 A37.out).mono ?_
    (case side1 => exact lp9 (Kd.R_reads' HO_6.out).2.2)
    (case side2 => exact (Kd.R_reads' HO_6.out).2.1)
    rintro e w47 ⟨v122, rfl, ho0, hb⟩
    refine ⟨_, rfl, ?_⟩
    have n0_ := a9_ (Kd.R_elder' (rp9 HO_5.out) (Kd.R_base ho0) hb)
    have n1_ := a9_ (Kd.R_below (rp9 HO_6.out) hb)
    have n2_ := a9_ (Kd.R_elder' (rp9 HO114.out) (Kd.R_base ho0) hb)
    have n3_ := a9_ (Kd.R_elder' (rp9 HO117.out) (Kd.R_base ho0) hb)
    have n4_ := a9_ (Kd.R_elder' (rp9 HO120.out) (Kd.R_base ho0) hb)
    have n5_ := a9_ (Kd.R_lower (Kd.R_new' (Kd.R_new' (Kd.R_new' (Kd.R_new' ho0 (Kd.R_lt (rp9 HO_5.out))) (Kd.R_lt (rp9 HO114.out))) (Kd.R_lt (rp9 HO117.out))) (Kd.R_lt (rp9 HO120.out))) (below_size (bp9 HB.out)))
    have n6_ := a9_ (blk_below (kp9 BK101.out) hb)
    have n7_ := a9_ (below_step (bp9 HB.out) hb)
    clear HO_5 HO_6 HO114 HO117 HO120 BK101 HB
    revert n0_ n1_ n2_ n3_ n4_ n5_ n6_ n7_; intro HO_5 HO_6 HO114 HO117 HO120 HO123 BK101 HB
    (try clear hb)
    (try clear ho0)
    obtain ⟨Ao48, co48, eo48⟩ := Kd.R_slice HO123.out
    (first | subst eo48 | (injection eo48 with f1_ f2_ f3_; have f4_ := f1_.symm; have f5_ := f3_.symm; clear f1_ f2_ f3_; subst f4_; subst f5_))
    refine hK.out _ _ ⟨(blk_cell BK101.out 0).trans rfl, (blk_cell BK101.out 1).trans rfl, (blk_cell BK101.out 2).trans rfl, (blk_cell BK101.out 3).trans rfl, (blk_cell BK101.out 4).trans rfl, (blk_cell BK101.out 5).trans rfl, (blk_cell BK101.out 6).trans rfl⟩ (fun hHeld => ?_)
    clear hK K
    refine norm_ (a' := ?_) ?_ ?_
    rotate_left
    ·show Act.put _ (some 65) _ = _
     exact put9
    refine one_ (i := 9) (N := some 66) #[i9, i9, i9, i9, i9, i9, i9, i9, i9, i9, o9, o9] rfl rfl (one_of HT_.out (by kernel_rfl)) (by decide) (fun K hK => ?_)
    refine goes9 Try.func85 (by kernel_rfl) rfl #[.agg #[.slice A0_0 l0_0.length c0_0, .slice A0_1 l0_1.length c0_1, .slice A0_2 l0_2.length c0_2, .slice A0_3 l0_3.length c0_3, .slice A0_4 l0_4.length c0_4, .slice A0_5 l0_5.length c0_5, .slice A0_6 l0_6.length c0_6], .slice Ao48 t121.length co48] (by rfl) rfl rfl ?_
    with_reducible refine (cupolaref14_Memory.calls k1 _ _ l0_0 _ _ l0_1 _ _ l0_2 _ _ l0_3 _ _ l0_4 _ _ l0_5 _ _ l0_6 _ _ t121 t124 _ ?side1 ?side2 ?side3 ?side4 ?side5 ?side6 ?side7 ?side8 ?side9 ?side10 ?side11 ?side12 ?side13 ?side14 ?side15 ?side16 A38.out).mono ?_
    (case side1 => exact cp9 HR0_0.out HB.out)
    (case side2 => exact HC0_0.out)
    (case side3 => exact cp9 HR0_1.out HB.out)
    (case side4 => exact HC0_1.out)
    (case side5 => exact cp9 HR0_2.out HB.out)
    (case side6 => exact HC0_2.out)
    (case side7 => exact cp9 HR0_3.out HB.out)
    (case side8 => exact HC0_3.out)
    (case side9 => exact cp9 HR0_4.out HB.out)
    (case side10 => exact HC0_4.out)
    (case side11 => exact cp9 HR0_5.out HB.out)
    (case side12 => exact HC0_5.out)
    (case side13 => exact cp9 HR0_6.out HB.out)
    (case side14 => exact HC0_6.out)
    (case side15 => exact lp9 (Kd.R_reads' HO123.out).2.2)
    (case side16 => exact (Kd.R_reads' HO123.out).2.1)
    rintro e w49 ⟨v125, rfl, ho0, hb⟩
    refine ⟨_, rfl, ?_⟩
    have n0_ := a9_ (Kd.R_elder' (rp9 HO_5.out) (Kd.R_base ho0) hb)
    have n1_ := a9_ (Kd.R_below (rp9 HO_6.out) hb)
    have n2_ := a9_ (Kd.R_elder' (rp9 HO114.out) (Kd.R_base ho0) hb)
    have n3_ := a9_ (Kd.R_elder' (rp9 HO117.out) (Kd.R_base ho0) hb)
    have n4_ := a9_ (Kd.R_elder' (rp9 HO120.out) (Kd.R_base ho0) hb)
    have n5_ := a9_ (Kd.R_elder' (rp9 HO123.out) (Kd.R_base ho0) hb)
    have n6_ := a9_ (Kd.R_lower (Kd.R_new' (Kd.R_new' (Kd.R_new' (Kd.R_new' (Kd.R_new' ho0 (Kd.R_lt (rp9 HO_5.out))) (Kd.R_lt (rp9 HO114.out))) (Kd.R_lt (rp9 HO117.out))) (Kd.R_lt (rp9 HO120.out))) (Kd.R_lt (rp9 HO123.out))) (below_size (bp9 HB.out)))
    have n7_ := a9_ (blk_below (kp9 BK101.out) hb)
    have n8_ := a9_ (below_step (bp9 HB.out) hb)
    clear HO_5 HO_6 HO114 HO117 HO120 HO123 BK101 HB
    revert n0_ n1_ n2_ n3_ n4_ n5_ n6_ n7_ n8_; intro HO_5 HO_6 HO114 HO117 HO120 HO123 HO126 BK101 HB
    (try clear hb)
    (try clear ho0)
    obtain ⟨Ao50, co50, eo50⟩ := Kd.R_slice HO120.out
    (first | subst eo50 | (injection eo50 with f1_ f2_ f3_; have f4_ := f1_.symm; have f5_ := f3_.symm; clear f1_ f2_ f3_; subst f4_; subst f5_))
    obtain ⟨Ao51, co51, eo51⟩ := Kd.R_slice HO126.out
    (first | subst eo51 | (injection eo51 with f1_ f2_ f3_; have f4_ := f1_.symm; have f5_ := f3_.symm; clear f1_ f2_ f3_; subst f4_; subst f5_))
    refine hK.out _ _ ⟨(blk_cell BK101.out 0).trans rfl, (blk_cell BK101.out 1).trans rfl, (blk_cell BK101.out 2).trans rfl, (blk_cell BK101.out 3).trans rfl, (blk_cell BK101.out 4).trans rfl, (blk_cell BK101.out 5).trans rfl, (blk_cell BK101.out 6).trans rfl⟩ (fun hHeld => ?_)
    clear hK K
    refine norm_ (a' := ?_) ?_ ?_
    rotate_left
    ·show Act.put _ (some 66) _ = _
     exact put9
    refine one_ (i := 10) (N := some 67) #[i9, i9, i9, i9, i9, i9, i9, i9, i9, i9, i9, o9] rfl rfl (one_of HT_.out (by kernel_rfl)) (by decide) (fun K hK => ?_)
    refine goes9 Try.func59 (by kernel_rfl) rfl #[.slice Ao50 t118.length co50, .slice Ao51 t124.length co51] (by rfl) rfl rfl ?_
    with_reducible refine (cupolaref05_Or.calls k1 _ _ t118 _ _ t124 t127 _ ?side1 ?side2 ?side3 ?side4 A39.out).mono ?_
    (case side1 => exact lp9 (Kd.R_reads' HO120.out).2.2)
    (case side2 => exact (Kd.R_reads' HO120.out).2.1)
    (case side3 => exact lp9 (Kd.R_reads' HO126.out).2.2)
    (case side4 => exact (Kd.R_reads' HO126.out).2.1)
    rintro e w52 ⟨v128, rfl, ho0, hb⟩
    refine ⟨_, rfl, ?_⟩
    have n0_ := a9_ (Kd.R_elder' (rp9 HO_5.out) (Kd.R_base ho0) hb)
    have n1_ := a9_ (Kd.R_below (rp9 HO_6.out) hb)
    have n2_ := a9_ (Kd.R_elder' (rp9 HO114.out) (Kd.R_base ho0) hb)
    have n3_ := a9_ (Kd.R_elder' (rp9 HO117.out) (Kd.R_base ho0) hb)
    have n4_ := a9_ (Kd.R_elder' (rp9 HO120.out) (Kd.R_base ho0) hb)
    have n5_ := a9_ (Kd.R_elder' (rp9 HO123.out) (Kd.R_base ho0) hb)
    have n6_ := a9_ (Kd.R_elder' (rp9 HO126.out) (Kd.R_base ho0) hb)
    have n7_ := a9_ (Kd.R_lower (Kd.R_new' (Kd.R_new' (Kd.R_new' (Kd.R_new' (Kd.R_new' (Kd.R_new' ho0 (Kd.R_lt (rp9 HO_5.out))) (Kd.R_lt (rp9 HO114.out))) (Kd.R_lt (rp9 HO117.out))) (Kd.R_lt (rp9 HO120.out))) (Kd.R_lt (rp9 HO123.out))) (Kd.R_lt (rp9 HO126.out))) (below_size (bp9 HB.out)))
    have n8_ := a9_ (blk_below (kp9 BK101.out) hb)
    have n9_ := a9_ (below_step (bp9 HB.out) hb)
    clear HO_5 HO_6 HO114 HO117 HO120 HO123 HO126 BK101 HB
    revert n0_ n1_ n2_ n3_ n4_ n5_ n6_ n7_ n8_ n9_; intro HO_5 HO_6 HO114 HO117 HO120 HO123 HO126 HO129 BK101 HB
    (try clear hb)
    (try clear ho0)
    refine hK.out _ _ ⟨(blk_cell BK101.out 0).trans rfl, (blk_cell BK101.out 1).trans rfl, (blk_cell BK101.out 2).trans rfl, (blk_cell BK101.out 3).trans rfl, (blk_cell BK101.out 4).trans rfl, (blk_cell BK101.out 5).trans rfl, (blk_cell BK101.out 6).trans rfl⟩ (fun hHeld => ?_)
    clear hK K
    refine norm_ (a' := ?_) ?_ ?_
    rotate_left
    ·show Act.put _ (some 67) _ = _
     exact put9
    refine pureA 11 (some 4) ?_ #[i9, i9, i9, i9, i9, i9, i9, i9, i9, i9, i9, i9] rfl rfl (any_of HT_.out (by kernel_rfl)) ?_ ?_ ?_ ?_
    rotate_left
    ·intro w'; go_simp; with_reducible rfl
    rotate_left
    ·exact put9
    refine done_ (done_of HT_.out (by kernel_rfl)) ?_
    try go_wp2
    go_ret
    exact ⟨_, rt9, by (with_reducible repeat (first | apply Kd.R_alloc | apply Kd.R_drewN | apply Kd.R_drew)); exact Kd.R_mono HO129.out (fun _ hk => trivial), bp9 HB.out⟩
end Go.Proofs.Ytbamkkdikeedoaa.G
