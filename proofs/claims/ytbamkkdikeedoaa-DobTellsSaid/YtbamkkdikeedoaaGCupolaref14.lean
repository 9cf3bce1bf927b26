-- Written by drive.py, a program of this seat's session, out of the translation.
import Derived.Test.YtbamkkdikeedoaaG0
import Derived.Test.YtbamkkdikeedoaaGCupolaref05
import Derived.Test.YtbamkkdikeedoaaGCupolaref11r
import Derived.Test.YtbamkkdikeedoaaGCupolaref13
import Derived.Test.YtbamkkdikeedoaaHandCz
namespace Go.Proofs.Ytbamkkdikeedoaa.G
open Go.RowKit Go.Proofs.YtbamkkdikeedoaaW.PrintWords Go.Proofs.YtbamkkdikeedoaaW.PrintLast Go.Proofs.YtbamkkdikeedoaaW.PrintMore
attribute [local go_sem] max2_int min2_int max_two min_two max_three min_three max_four min_four   -- for this text's walks alone
set_option linter.unusedVariables false
set_option linter.unusedSimpArgs false

/-! ### cupolaref14_Sized: function 71 -/
def cupolaref14_Sized.f (l0_0 : List (S26)) (l0_1 : List Int) (l0_2 : List Int) (l0_3 : List Int) (l0_4 : List Int) (l0_5 : List Int) (l0_6 : List (List Int)) (l1 : List Int) : Option (Bool) := if (l0_0.length : Int) ≤ 24 then (if (l1.length : Int) = (l0_0.length : Int) then (if (l0_1.length : Int) = (l0_0.length : Int) then (if (l0_2.length : Int) = (l0_0.length : Int) then (if (l0_3.length : Int) = (l0_0.length : Int) then (if (l0_4.length : Int) = (l0_0.length : Int) then (some ((l0_5.length : Int) == (l0_0.length : Int))) else (some false)) else (some false)) else (some false)) else (some false)) else (some false)) else (some false)
set_option maxHeartbeats 8000000 in
set_option maxRecDepth 100000 in
theorem cupolaref14_Sized.calls (A0_0 : Option Addr) (c0_0 : Nat) (l0_0 : List (S26)) (A0_1 : Option Addr) (c0_1 : Nat) (l0_1 : List Int) (A0_2 : Option Addr) (c0_2 : Nat) (l0_2 : List Int) (A0_3 : Option Addr) (c0_3 : Nat) (l0_3 : List Int) (A0_4 : Option Addr) (c0_4 : Nat) (l0_4 : List Int) (A0_5 : Option Addr) (c0_5 : Nat) (l0_5 : List Int) (A0_6 : Option Addr) (c0_6 : Nat) (l0_6 : List (List Int)) (A1 : Option Addr) (c1 : Nat) (l1 : List Int) (r : Bool) (w : World) (hr0_0 : Kd.C k26 w A0_0 l0_0.length l0_0) (hc0_0 : l0_0.length ≤ c0_0) (hr0_1 : Kd.C (Kd.int .u32) w A0_1 l0_1.length l0_1) (hc0_1 : l0_1.length ≤ c0_1) (hr0_2 : Kd.C (Kd.int .u32) w A0_2 l0_2.length l0_2) (hc0_2 : l0_2.length ≤ c0_2) (hr0_3 : Kd.C (Kd.int .u32) w A0_3 l0_3.length l0_3) (hc0_3 : l0_3.length ≤ c0_3) (hr0_4 : Kd.C (Kd.int .u32) w A0_4 l0_4.length l0_4) (hc0_4 : l0_4.length ≤ c0_4) (hr0_5 : Kd.C (Kd.int .u32) w A0_5 l0_5.length l0_5) (hc0_5 : l0_5.length ≤ c0_5) (hr0_6 : Kd.C (Kd.slice 2 (Kd.int .i64)) w A0_6 l0_6.length l0_6) (hc0_6 : l0_6.length ≤ c0_6) (hr1 : Kd.C (Kd.int .u32) w A1 l1.length l1) (hc1 : l1.length ≤ c1) (h : cupolaref14_Sized.f l0_0 l0_1 l0_2 l0_3 l0_4 l0_5 l0_6 l1 = some r) :
  Calls Try.prog 71 #[.agg #[.slice A0_0 l0_0.length c0_0, .slice A0_1 l0_1.length c0_1, .slice A0_2 l0_2.length c0_2, .slice A0_3 l0_3.length c0_3, .slice A0_4 l0_4.length c0_4, .slice A0_5 l0_5.length c0_5, .slice A0_6 l0_6.length c0_6], .slice A1 l1.length c1] w fun e w' => e = .returned (.bool r) ∧ Below w.heap.size w w' := by
 have hu76 := Try.underlying76
 have HR0_0 := Aside0.mk hr0_0
 have HC0_0 := Aside0.mk hc0_0
 clear hr0_0 hc0_0
 have HR0_1 := Aside0.mk hr0_1
 have HC0_1 := Aside0.mk hc0_1
 clear hr0_1 hc0_1
 have HR0_2 := Aside0.mk hr0_2
 have HC0_2 := Aside0.mk hc0_2
 clear hr0_2 hc0_2
 have HR0_3 := Aside0.mk hr0_3
 have HC0_3 := Aside0.mk hc0_3
 clear hr0_3 hc0_3
 have HR0_4 := Aside0.mk hr0_4
 have HC0_4 := Aside0.mk hc0_4
 clear hr0_4 hc0_4
 have HR0_5 := Aside0.mk hr0_5
 have HC0_5 := Aside0.mk hc0_5
 clear hr0_5 hc0_5
 have HR0_6 := Aside0.mk hr0_6
 have HC0_6 := Aside0.mk hc0_6
 clear hr0_6 hc0_6
 have HR1 := Aside0.mk hr1
 have HC1 := Aside0.mk hc1
 clear hr1 hc1
 have HB := Aside0.mk (Below.refl w.heap.size w)
 have H : (if (l0_0.length : Int) ≤ 24 then (if (l1.length : Int) = (l0_0.length : Int) then (if (l0_1.length : Int) = (l0_0.length : Int) then (if (l0_2.length : Int) = (l0_0.length : Int) then (if (l0_3.length : Int) = (l0_0.length : Int) then (if (l0_4.length : Int) = (l0_0.length : Int) then (some ((l0_5.length : Int) == (l0_0.length : Int))) else (some false)) else (some false)) else (some false)) else (some false)) else (some false)) else (some false)) = some r := h
 clear h
 by_cases c3 : (l0_0.length : Int) ≤ 24
 ·rw [if_pos c3] at H
  have c3b0 : decide ((l0_0.length : Int) ≤ 24) = true := decide_eq_true c3
  have c3b1 : decide (l0_0.length ≤ 24) = true := decide_eq_true (by omega)
  clear c3
  by_cases c4 : (l1.length : Int) = (l0_0.length : Int)
  ·rw [if_pos c4] at H
   have c4b0 : ((l1.length : Int) == (l0_0.length : Int)) = true := beq_iff_eq.mpr c4
   have c4b1 : ((l1.length : Int) != (l0_0.length : Int)) = false := bne_eq_false_iff_eq.mpr c4
   have c4b2 : (l1.length == l0_0.length) = true := by first | simpa using c4 | (simp at c4 ⊢; omega)
   clear c4
   by_cases c5 : (l0_1.length : Int) = (l0_0.length : Int)
   ·rw [if_pos c5] at H
    have c5b0 : ((l0_1.length : Int) == (l0_0.length : Int)) = true := beq_iff_eq.mpr c5
    have c5b1 : ((l0_1.length : Int) != (l0_0.length : Int)) = false := bne_eq_false_iff_eq.mpr c5
    have c5b2 : (l0_1.length == l0_0.length) = true := by first | simpa using c5 | (simp at c5 ⊢; omega)
    clear c5
    by_cases c6 : (l0_2.length : Int) = (l0_0.length : Int)
    ·rw [if_pos c6] at H
     have c6b0 : ((l0_2.length : Int) == (l0_0.length : Int)) = true := beq_iff_eq.mpr c6
     have c6b1 : ((l0_2.length : Int) != (l0_0.length : Int)) = false := bne_eq_false_iff_eq.mpr c6
     have c6b2 : (l0_2.length == l0_0.length) = true := by first | simpa using c6 | (simp at c6 ⊢; omega)
     clear c6
     by_cases c7 : (l0_3.length : Int) = (l0_0.length : Int)
     ·rw [if_pos c7] at H
      have c7b0 : ((l0_3.length : Int) == (l0_0.length : Int)) = true := beq_iff_eq.mpr c7
      have c7b1 : ((l0_3.length : Int) != (l0_0.length : Int)) = false := bne_eq_false_iff_eq.mpr c7
      have c7b2 : (l0_3.length == l0_0.length) = true := by first | simpa using c7 | (simp at c7 ⊢; omega)
      clear c7
      by_cases c8 : (l0_4.length : Int) = (l0_0.length : Int)
      ·rw [if_pos c8] at H
       have c8b0 : ((l0_4.length : Int) == (l0_0.length : Int)) = true := beq_iff_eq.mpr c8
       have c8b1 : ((l0_4.length : Int) != (l0_0.length : Int)) = false := bne_eq_false_iff_eq.mpr c8
       have c8b2 : (l0_4.length == l0_0.length) = true := by first | simpa using c8 | (simp at c8 ⊢; omega)
       clear c8
       obtain rfl := Option.some.inj H
       go_enter Try.func71, Try.ntmps71
       go_wp2_with (first | ((with_reducible refine gate_dst (N := 2) rfl ?_); (try (refine gate_guard (by rfl) ?_; dsimp only)); refine box_event ?hg (N := 2) ?hd (cs := #[.slice A0_0 l0_0.length c0_0, .slice A0_1 l0_1.length c0_1, .slice A0_2 l0_2.length c0_2, .slice A0_3 l0_3.length c0_3, .slice A0_4 l0_4.length c0_4, .slice A0_5 l0_5.length c0_5, .slice A0_6 l0_6.length c0_6]) (t := 76) ?hr ?_; (case hd => rfl); (case hg => rfl); (case hr => first | (go_simp; done) | (go_simp; rfl)); intro gb101 hg w9 hbox hb; have n0_ := Aside0.mk (below_step (bp9 HB.out) hb); have n1_ := Aside0.mk (hbox); have n2_ := Aside0.mk ((by rw [hg]; exact (below_size (bp9 HB.out)) : w.heap.size ≤ gb101)); have n3_ := n2_; clear HB; have HB := n0_; have BK101 := n1_; have GW101 := n2_; have GE101 := n3_; clear n0_ n1_ n2_ n3_; clear hb hbox hg; obtain ⟨hcz10_0, hcz10_1, hcz10_2, hcz10_3, hcz10_4, hcz10_5, hcz10_6, hfz10_0, hfz10_1, hfz10_2, hfz10_3, hfz10_4, hfz10_5, hfz10_6⟩ := cz7 BK101.out))
       go_ret
       exact ⟨by first | rfl | (simp [errW_none, errW_some] <;> rfl) | (simp [*, errW_none, errW_some] <;> rfl), bp9 HB.out⟩
      ·rw [if_neg c8] at H
       have c8b0 : ((l0_4.length : Int) == (l0_0.length : Int)) = false := beq_eq_false_iff_ne.mpr c8
       have c8b1 : ((l0_4.length : Int) != (l0_0.length : Int)) = true := bne_iff_ne.mpr c8
       have c8b2 : (l0_4.length == l0_0.length) = false := by first | simpa using c8 | (simp at c8 ⊢; omega)
       obtain rfl := Option.some.inj H
       go_enter Try.func71, Try.ntmps71
       go_wp2_with (first | ((with_reducible refine gate_dst (N := 2) rfl ?_); (try (refine gate_guard (by rfl) ?_; dsimp only)); refine box_event ?hg (N := 2) ?hd (cs := #[.slice A0_0 l0_0.length c0_0, .slice A0_1 l0_1.length c0_1, .slice A0_2 l0_2.length c0_2, .slice A0_3 l0_3.length c0_3, .slice A0_4 l0_4.length c0_4, .slice A0_5 l0_5.length c0_5, .slice A0_6 l0_6.length c0_6]) (t := 76) ?hr ?_; (case hd => rfl); (case hg => rfl); (case hr => first | (go_simp; done) | (go_simp; rfl)); intro gb101 hg w11 hbox hb; have n0_ := Aside0.mk (below_step (bp9 HB.out) hb); have n1_ := Aside0.mk (hbox); have n2_ := Aside0.mk ((by rw [hg]; exact (below_size (bp9 HB.out)) : w.heap.size ≤ gb101)); have n3_ := n2_; clear HB; have HB := n0_; have BK101 := n1_; have GW101 := n2_; have GE101 := n3_; clear n0_ n1_ n2_ n3_; clear hb hbox hg; obtain ⟨hcz12_0, hcz12_1, hcz12_2, hcz12_3, hcz12_4, hcz12_5, hcz12_6, hfz12_0, hfz12_1, hfz12_2, hfz12_3, hfz12_4, hfz12_5, hfz12_6⟩ := cz7 BK101.out))
       go_ret
       exact ⟨by first | rfl | (simp [errW_none, errW_some] <;> rfl) | (simp [*, errW_none, errW_some] <;> rfl), bp9 HB.out⟩
     ·rw [if_neg c7] at H
      have c7b0 : ((l0_3.length : Int) == (l0_0.length : Int)) = false := beq_eq_false_iff_ne.mpr c7
      have c7b1 : ((l0_3.length : Int) != (l0_0.length : Int)) = true := bne_iff_ne.mpr c7
      have c7b2 : (l0_3.length == l0_0.length) = false := by first | simpa using c7 | (simp at c7 ⊢; omega)
      obtain rfl := Option.some.inj H
      go_enter Try.func71, Try.ntmps71
      go_wp2_with (first | ((with_reducible refine gate_dst (N := 2) rfl ?_); (try (refine gate_guard (by rfl) ?_; dsimp only)); refine box_event ?hg (N := 2) ?hd (cs := #[.slice A0_0 l0_0.length c0_0, .slice A0_1 l0_1.length c0_1, .slice A0_2 l0_2.length c0_2, .slice A0_3 l0_3.length c0_3, .slice A0_4 l0_4.length c0_4, .slice A0_5 l0_5.length c0_5, .slice A0_6 l0_6.length c0_6]) (t := 76) ?hr ?_; (case hd => rfl); (case hg => rfl); (case hr => first | (go_simp; done) | (go_simp; rfl)); intro gb101 hg w13 hbox hb; have n0_ := Aside0.mk (below_step (bp9 HB.out) hb); have n1_ := Aside0.mk (hbox); have n2_ := Aside0.mk ((by rw [hg]; exact (below_size (bp9 HB.out)) : w.heap.size ≤ gb101)); have n3_ := n2_; clear HB; have HB := n0_; have BK101 := n1_; have GW101 := n2_; have GE101 := n3_; clear n0_ n1_ n2_ n3_; clear hb hbox hg; obtain ⟨hcz14_0, hcz14_1, hcz14_2, hcz14_3, hcz14_4, hcz14_5, hcz14_6, hfz14_0, hfz14_1, hfz14_2, hfz14_3, hfz14_4, hfz14_5, hfz14_6⟩ := cz7 BK101.out))
      go_ret
      exact ⟨by first | rfl | (simp [errW_none, errW_some] <;> rfl) | (simp [*, errW_none, errW_some] <;> rfl), bp9 HB.out⟩
    ·rw [if_neg c6] at H
     have c6b0 : ((l0_2.length : Int) == (l0_0.length : Int)) = false := beq_eq_false_iff_ne.mpr c6
     have c6b1 : ((l0_2.length : Int) != (l0_0.length : Int)) = true := bne_iff_ne.mpr c6
     have c6b2 : (l0_2.length == l0_0.length) = false := by first | simpa using c6 | (simp at c6 ⊢; omega)
     obtain rfl := Option.some.inj H
     go_enter Try.func71, Try.ntmps71
     go_wp2_with (first | ((with_reducible refine gate_dst (N := 2) rfl ?_); (try (refine gate_guard (by rfl) ?_; dsimp only)); refine box_event ?hg (N := 2) ?hd (cs := #[.slice A0_0 l0_0.length c0_0, .slice A0_1 l0_1.length c0_1, .slice A0_2 l0_2.length c0_2, .slice A0_3 l0_3.length c0_3, .slice A0_4 l0_4.length c0_4, .slice A0_5 l0_5.length c0_5, .slice A0_6 l0_6.length c0_6]) (t := 76) ?hr ?_; (case hd => rfl); (case hg => rfl); (case hr => first | (go_simp; done) | (go_simp; rfl)); intro gb101 hg w15 hbox hb; have n0_ := Aside0.mk (below_step (bp9 HB.out) hb); have n1_ := Aside0.mk (hbox); have n2_ := Aside0.mk ((by rw [hg]; exact (below_size (bp9 HB.out)) : w.heap.size ≤ gb101)); have n3_ := n2_; clear HB; have HB := n0_; have BK101 := n1_; have GW101 := n2_; have GE101 := n3_; clear n0_ n1_ n2_ n3_; clear hb hbox hg; obtain ⟨hcz16_0, hcz16_1, hcz16_2, hcz16_3, hcz16_4, hcz16_5, hcz16_6, hfz16_0, hfz16_1, hfz16_2, hfz16_3, hfz16_4, hfz16_5, hfz16_6⟩ := cz7 BK101.out))
     go_ret
     exact ⟨by first | rfl | (simp [errW_none, errW_some] <;> rfl) | (simp [*, errW_none, errW_some] <;> rfl), bp9 HB.out⟩
   ·rw [if_neg c5] at H
    have c5b0 : ((l0_1.length : Int) == (l0_0.length : Int)) = false := beq_eq_false_iff_ne.mpr c5
    have c5b1 : ((l0_1.length : Int) != (l0_0.length : Int)) = true := bne_iff_ne.mpr c5
    have c5b2 : (l0_1.length == l0_0.length) = false := by first | simpa using c5 | (simp at c5 ⊢; omega)
    obtain rfl := Option.some.inj H
    go_enter Try.func71, Try.ntmps71
    go_wp2_with (first | ((with_reducible refine gate_dst (N := 2) rfl ?_); (try (refine gate_guard (by rfl) ?_; dsimp only)); refine box_event ?hg (N := 2) ?hd (cs := #[.slice A0_0 l0_0.length c0_0, .slice A0_1 l0_1.length c0_1, .slice A0_2 l0_2.length c0_2, .slice A0_3 l0_3.length c0_3, .slice A0_4 l0_4.length c0_4, .slice A0_5 l0_5.length c0_5, .slice A0_6 l0_6.length c0_6]) (t := 76) ?hr ?_; (case hd => rfl); (case hg => rfl); (case hr => first | (go_simp; done) | (go_simp; rfl)); intro gb101 hg w17 hbox hb; have n0_ := Aside0.mk (below_step (bp9 HB.out) hb); have n1_ := Aside0.mk (hbox); have n2_ := Aside0.mk ((by rw [hg]; exact (below_size (bp9 HB.out)) : w.heap.size ≤ gb101)); have n3_ := n2_; clear HB; have HB := n0_; have BK101 := n1_; have GW101 := n2_; have GE101 := n3_; clear n0_ n1_ n2_ n3_; clear hb hbox hg; obtain ⟨hcz18_0, hcz18_1, hcz18_2, hcz18_3, hcz18_4, hcz18_5, hcz18_6, hfz18_0, hfz18_1, hfz18_2, hfz18_3, hfz18_4, hfz18_5, hfz18_6⟩ := cz7 BK101.out))
    go_ret
    exact ⟨by first | rfl | (simp [errW_none, errW_some] <;> rfl) | (simp [*, errW_none, errW_some] <;> rfl), bp9 HB.out⟩
  ·rw [if_neg c4] at H
   have c4b0 : ((l1.length : Int) == (l0_0.length : Int)) = false := beq_eq_false_iff_ne.mpr c4
   have c4b1 : ((l1.length : Int) != (l0_0.length : Int)) = true := bne_iff_ne.mpr c4
   have c4b2 : (l1.length == l0_0.length) = false := by first | simpa using c4 | (simp at c4 ⊢; omega)
   obtain rfl := Option.some.inj H
   go_enter Try.func71, Try.ntmps71
   go_wp2_with (first | ((with_reducible refine gate_dst (N := 2) rfl ?_); (try (refine gate_guard (by rfl) ?_; dsimp only)); refine box_event ?hg (N := 2) ?hd (cs := #[.slice A0_0 l0_0.length c0_0, .slice A0_1 l0_1.length c0_1, .slice A0_2 l0_2.length c0_2, .slice A0_3 l0_3.length c0_3, .slice A0_4 l0_4.length c0_4, .slice A0_5 l0_5.length c0_5, .slice A0_6 l0_6.length c0_6]) (t := 76) ?hr ?_; (case hd => rfl); (case hg => rfl); (case hr => first | (go_simp; done) | (go_simp; rfl)); intro gb101 hg w19 hbox hb; have n0_ := Aside0.mk (below_step (bp9 HB.out) hb); have n1_ := Aside0.mk (hbox); have n2_ := Aside0.mk ((by rw [hg]; exact (below_size (bp9 HB.out)) : w.heap.size ≤ gb101)); have n3_ := n2_; clear HB; have HB := n0_; have BK101 := n1_; have GW101 := n2_; have GE101 := n3_; clear n0_ n1_ n2_ n3_; clear hb hbox hg; obtain ⟨hcz20_0, hcz20_1, hcz20_2, hcz20_3, hcz20_4, hcz20_5, hcz20_6, hfz20_0, hfz20_1, hfz20_2, hfz20_3, hfz20_4, hfz20_5, hfz20_6⟩ := cz7 BK101.out))
   go_ret
   exact ⟨by first | rfl | (simp [errW_none, errW_some] <;> rfl) | (simp [*, errW_none, errW_some] <;> rfl), bp9 HB.out⟩
 ·rw [if_neg c3] at H
  have c3b0 : decide ((l0_0.length : Int) ≤ 24) = false := decide_eq_false c3
  have c3b1 : decide (l0_0.length ≤ 24) = false := decide_eq_false (by omega)
  clear c3
  obtain rfl := Option.some.inj H
  go_enter Try.func71, Try.ntmps71
  go_wp2_with (first | ((with_reducible refine gate_dst (N := 2) rfl ?_); (try (refine gate_guard (by rfl) ?_; dsimp only)); refine box_event ?hg (N := 2) ?hd (cs := #[.slice A0_0 l0_0.length c0_0, .slice A0_1 l0_1.length c0_1, .slice A0_2 l0_2.length c0_2, .slice A0_3 l0_3.length c0_3, .slice A0_4 l0_4.length c0_4, .slice A0_5 l0_5.length c0_5, .slice A0_6 l0_6.length c0_6]) (t := 76) ?hr ?_; (case hd => rfl); (case hg => rfl); (case hr => first | (go_simp; done) | (go_simp; rfl)); intro gb101 hg w21 hbox hb; have n0_ := Aside0.mk (below_step (bp9 HB.out) hb); have n1_ := Aside0.mk (hbox); have n2_ := Aside0.mk ((by rw [hg]; exact (below_size (bp9 HB.out)) : w.heap.size ≤ gb101)); have n3_ := n2_; clear HB; have HB := n0_; have BK101 := n1_; have GW101 := n2_; have GE101 := n3_; clear n0_ n1_ n2_ n3_; clear hb hbox hg; obtain ⟨hcz22_0, hcz22_1, hcz22_2, hcz22_3, hcz22_4, hcz22_5, hcz22_6, hfz22_0, hfz22_1, hfz22_2, hfz22_3, hfz22_4, hfz22_5, hfz22_6⟩ := cz7 BK101.out))
  go_ret
  exact ⟨by first | rfl | (simp [errW_none, errW_some] <;> rfl) | (simp [*, errW_none, errW_some] <;> rfl), bp9 HB.out⟩

/-! ### cupolaref14_Mem: function 134 -/
def cupolaref14_Mem.f (l0_0 : List (S26)) (l0_1 : List Int) (l0_2 : List Int) (l0_3 : List Int) (l0_4 : List Int) (l0_5 : List Int) (l0_6 : List (List Int)) (a1 : Int) : Option (Bool) := if 0 ≤ a1 then (if a1 < (l0_0.length : Int) then (if ((rd_T26 l0_0 a1).f1) = 1 then (some true) else (some (((rd_T26 l0_0 a1).f1) == 2))) else (none)) else (none)
set_option maxHeartbeats 8000000 in
set_option maxRecDepth 100000 in
theorem cupolaref14_Mem.calls (A0_0 : Option Addr) (c0_0 : Nat) (l0_0 : List (S26)) (A0_1 : Option Addr) (c0_1 : Nat) (l0_1 : List Int) (A0_2 : Option Addr) (c0_2 : Nat) (l0_2 : List Int) (A0_3 : Option Addr) (c0_3 : Nat) (l0_3 : List Int) (A0_4 : Option Addr) (c0_4 : Nat) (l0_4 : List Int) (A0_5 : Option Addr) (c0_5 : Nat) (l0_5 : List Int) (A0_6 : Option Addr) (c0_6 : Nat) (l0_6 : List (List Int)) (a1 : Int) (r : Bool) (w : World) (hr0_0 : Kd.C k26 w A0_0 l0_0.length l0_0) (hc0_0 : l0_0.length ≤ c0_0) (hr0_1 : Kd.C (Kd.int .u32) w A0_1 l0_1.length l0_1) (hc0_1 : l0_1.length ≤ c0_1) (hr0_2 : Kd.C (Kd.int .u32) w A0_2 l0_2.length l0_2) (hc0_2 : l0_2.length ≤ c0_2) (hr0_3 : Kd.C (Kd.int .u32) w A0_3 l0_3.length l0_3) (hc0_3 : l0_3.length ≤ c0_3) (hr0_4 : Kd.C (Kd.int .u32) w A0_4 l0_4.length l0_4) (hc0_4 : l0_4.length ≤ c0_4) (hr0_5 : Kd.C (Kd.int .u32) w A0_5 l0_5.length l0_5) (hc0_5 : l0_5.length ≤ c0_5) (hr0_6 : Kd.C (Kd.slice 2 (Kd.int .i64)) w A0_6 l0_6.length l0_6) (hc0_6 : l0_6.length ≤ c0_6) (h : cupolaref14_Mem.f l0_0 l0_1 l0_2 l0_3 l0_4 l0_5 l0_6 a1 = some r) :
  Calls Try.prog 134 #[.agg #[.slice A0_0 l0_0.length c0_0, .slice A0_1 l0_1.length c0_1, .slice A0_2 l0_2.length c0_2, .slice A0_3 l0_3.length c0_3, .slice A0_4 l0_4.length c0_4, .slice A0_5 l0_5.length c0_5, .slice A0_6 l0_6.length c0_6], .int .i64 a1] w fun e w' => e = .returned (.bool r) ∧ Below w.heap.size w w' := by
 have hu76 := Try.underlying76
 have HR0_0 := Aside0.mk hr0_0
 have HC0_0 := Aside0.mk hc0_0
 clear hr0_0 hc0_0
 have HR0_1 := Aside0.mk hr0_1
 have HC0_1 := Aside0.mk hc0_1
 clear hr0_1 hc0_1
 have HR0_2 := Aside0.mk hr0_2
 have HC0_2 := Aside0.mk hc0_2
 clear hr0_2 hc0_2
 have HR0_3 := Aside0.mk hr0_3
 have HC0_3 := Aside0.mk hc0_3
 clear hr0_3 hc0_3
 have HR0_4 := Aside0.mk hr0_4
 have HC0_4 := Aside0.mk hc0_4
 clear hr0_4 hc0_4
 have HR0_5 := Aside0.mk hr0_5
 have HC0_5 := Aside0.mk hc0_5
 clear hr0_5 hc0_5
 have HR0_6 := Aside0.mk hr0_6
 have HC0_6 := Aside0.mk hc0_6
 clear hr0_6 hc0_6
 have HB := Aside0.mk (Below.refl w.heap.size w)
 have H : (if 0 ≤ a1 then (if a1 < (l0_0.length : Int) then (if ((rd_T26 l0_0 a1).f1) = 1 then (some true) else (some (((rd_T26 l0_0 a1).f1) == 2))) else (none)) else (none)) = some r := h
 clear h
 by_cases c3 : 0 ≤ a1
 ·rw [if_pos c3] at H
  have c3b0 : decide (0 ≤ a1) = true := decide_eq_true c3
  clear c3
  by_cases c4 : a1 < (l0_0.length : Int)
  ·rw [if_pos c4] at H
   have c4b0 : decide (a1 < (l0_0.length : Int)) = true := decide_eq_true c4
   clear c4
   by_cases c5 : ((rd_T26 l0_0 a1).f1) = 1
   ·rw [if_pos c5] at H
    have c5b0 : (((rd_T26 l0_0 a1).f1) == 1) = true := beq_iff_eq.mpr c5
    have c5b1 : (((rd_T26 l0_0 a1).f1) != 1) = false := bne_eq_false_iff_eq.mpr c5
    clear c5
    obtain rfl := Option.some.inj H
    go_enter Try.func134, Try.ntmps134
    go_wp2_with (first | ((with_reducible refine gate_dst (N := 2) rfl ?_); refine box_event ?hg (N := 2) ?hd (cs := #[.slice A0_0 l0_0.length c0_0, .slice A0_1 l0_1.length c0_1, .slice A0_2 l0_2.length c0_2, .slice A0_3 l0_3.length c0_3, .slice A0_4 l0_4.length c0_4, .slice A0_5 l0_5.length c0_5, .slice A0_6 l0_6.length c0_6]) (t := 76) ?hr ?_; (case hd => rfl); (case hg => rfl); (case hr => first | (go_simp; done) | (go_simp; rfl)); intro gb101 hg w6 hbox hb; have n0_ := Aside0.mk (below_step (bp9 HB.out) hb); have n1_ := Aside0.mk (hbox); have n2_ := Aside0.mk ((by rw [hg]; exact (below_size (bp9 HB.out)) : w.heap.size ≤ gb101)); have n3_ := n2_; clear HB; have HB := n0_; have BK101 := n1_; have GW101 := n2_; have GE101 := n3_; clear n0_ n1_ n2_ n3_; clear hb hbox hg; obtain ⟨hcz7_0, hcz7_1, hcz7_2, hcz7_3, hcz7_4, hcz7_5, hcz7_6, hfz7_0, hfz7_1, hfz7_2, hfz7_3, hfz7_4, hfz7_5, hfz7_6⟩ := cz7 BK101.out; have p102 : 0 ≤ (a1 : Int) := of_decide_eq_true (by first | (with_reducible assumption) | assumption); have q102 : a1 < (l0_0.length : Int) := of_decide_eq_true (by first | (with_reducible assumption) | assumption); obtain ⟨ad102, e102, hx102_0, hx102_1, hx102_2, hx102_3, hx102_4, hx102_5, hx102_6⟩ := at_T26 HR0_0.out a1 p102 q102; cases e102; replace hx102_0 := (HB.out.cell (World.block_lt_of_cell? w _ hx102_0)).trans hx102_0; replace hx102_1 := (HB.out.cell (World.block_lt_of_cell? w _ hx102_1)).trans hx102_1; replace hx102_2 := (HB.out.cell (World.block_lt_of_cell? w _ hx102_2)).trans hx102_2; replace hx102_3 := (HB.out.cell (World.block_lt_of_cell? w _ hx102_3)).trans hx102_3; replace hx102_4 := (HB.out.cell (World.block_lt_of_cell? w _ hx102_4)).trans hx102_4; replace hx102_5 := (HB.out.cell (World.block_lt_of_cell? w _ hx102_5)).trans hx102_5; replace hx102_6 := (HB.out.cell (World.block_lt_of_cell? w _ hx102_6)).trans hx102_6; replace p102 := eq_true p102; replace q102 := eq_true q102))
    go_ret
    exact ⟨by first | rfl | (simp [errW_none, errW_some] <;> rfl) | (simp [*, errW_none, errW_some] <;> rfl), bp9 HB.out⟩
   ·rw [if_neg c5] at H
    have c5b0 : (((rd_T26 l0_0 a1).f1) == 1) = false := beq_eq_false_iff_ne.mpr c5
    have c5b1 : (((rd_T26 l0_0 a1).f1) != 1) = true := bne_iff_ne.mpr c5
    obtain rfl := Option.some.inj H
    go_enter Try.func134, Try.ntmps134
    go_wp2_with (first | ((with_reducible refine gate_dst (N := 2) rfl ?_); refine box_event ?hg (N := 2) ?hd (cs := #[.slice A0_0 l0_0.length c0_0, .slice A0_1 l0_1.length c0_1, .slice A0_2 l0_2.length c0_2, .slice A0_3 l0_3.length c0_3, .slice A0_4 l0_4.length c0_4, .slice A0_5 l0_5.length c0_5, .slice A0_6 l0_6.length c0_6]) (t := 76) ?hr ?_; (case hd => rfl); (case hg => rfl); (case hr => first | (go_simp; done) | (go_simp; rfl)); intro gb101 hg w8 hbox hb; have n0_ := Aside0.mk (below_step (bp9 HB.out) hb); have n1_ := Aside0.mk (hbox); have n2_ := Aside0.mk ((by rw [hg]; exact (below_size (bp9 HB.out)) : w.heap.size ≤ gb101)); have n3_ := n2_; clear HB; have HB := n0_; have BK101 := n1_; have GW101 := n2_; have GE101 := n3_; clear n0_ n1_ n2_ n3_; clear hb hbox hg; obtain ⟨hcz9_0, hcz9_1, hcz9_2, hcz9_3, hcz9_4, hcz9_5, hcz9_6, hfz9_0, hfz9_1, hfz9_2, hfz9_3, hfz9_4, hfz9_5, hfz9_6⟩ := cz7 BK101.out; have p102 : 0 ≤ (a1 : Int) := of_decide_eq_true (by first | (with_reducible assumption) | assumption); have q102 : a1 < (l0_0.length : Int) := of_decide_eq_true (by first | (with_reducible assumption) | assumption); obtain ⟨ad102, e102, hx102_0, hx102_1, hx102_2, hx102_3, hx102_4, hx102_5, hx102_6⟩ := at_T26 HR0_0.out a1 p102 q102; cases e102; replace hx102_0 := (HB.out.cell (World.block_lt_of_cell? w _ hx102_0)).trans hx102_0; replace hx102_1 := (HB.out.cell (World.block_lt_of_cell? w _ hx102_1)).trans hx102_1; replace hx102_2 := (HB.out.cell (World.block_lt_of_cell? w _ hx102_2)).trans hx102_2; replace hx102_3 := (HB.out.cell (World.block_lt_of_cell? w _ hx102_3)).trans hx102_3; replace hx102_4 := (HB.out.cell (World.block_lt_of_cell? w _ hx102_4)).trans hx102_4; replace hx102_5 := (HB.out.cell (World.block_lt_of_cell? w _ hx102_5)).trans hx102_5; replace hx102_6 := (HB.out.cell (World.block_lt_of_cell? w _ hx102_6)).trans hx102_6; replace p102 := eq_true p102; replace q102 := eq_true q102; have p103 : 0 ≤ (a1 : Int) := of_decide_eq_true (by first | (with_reducible assumption) | assumption); have q103 : a1 < (l0_0.length : Int) := of_decide_eq_true (by first | (with_reducible assumption) | assumption); obtain ⟨ad103, e103, hx103_0, hx103_1, hx103_2, hx103_3, hx103_4, hx103_5, hx103_6⟩ := at_T26 HR0_0.out a1 p103 q103; obtain rfl : ad102 = ad103 := (by injection e103); replace hx103_0 := (HB.out.cell (World.block_lt_of_cell? w _ hx103_0)).trans hx103_0; replace hx103_1 := (HB.out.cell (World.block_lt_of_cell? w _ hx103_1)).trans hx103_1; replace hx103_2 := (HB.out.cell (World.block_lt_of_cell? w _ hx103_2)).trans hx103_2; replace hx103_3 := (HB.out.cell (World.block_lt_of_cell? w _ hx103_3)).trans hx103_3; replace hx103_4 := (HB.out.cell (World.block_lt_of_cell? w _ hx103_4)).trans hx103_4; replace hx103_5 := (HB.out.cell (World.block_lt_of_cell? w _ hx103_5)).trans hx103_5; replace hx103_6 := (HB.out.cell (World.block_lt_of_cell? w _ hx103_6)).trans hx103_6; replace p103 := eq_true p103; replace q103 := eq_true q103))
    go_ret
    exact ⟨by first | rfl | (simp [errW_none, errW_some] <;> rfl) | (simp [*, errW_none, errW_some] <;> rfl), bp9 HB.out⟩
  ·rw [if_neg c4] at H
   exact absurd H (by simp)
 ·rw [if_neg c3] at H
  exact absurd H (by simp)

/-! ### cupolaref14_static: function 135 -/
mutual
def cupolaref14_static.j0 : Nat → Int → Int → Bool → List (S26) → List Int → List Int → List Int → List Int → List Int → List (List Int) → Option (Bool)
 | 0, _, _, _, _, _, _, _, _, _, _ => none
 | k + 1, x1, x2, x38, x102000, x102001, x102002, x102003, x102004, x102005, x102006 => if x38 = true then (some true) else (cupolaref14_static.l0 k x1 x2 0 x102000 x102001 x102002 x102003 x102004 x102005 x102006)
def cupolaref14_static.l0 : Nat → Int → Int → Int → List (S26) → List Int → List Int → List Int → List Int → List Int → List (List Int) → Option (Bool)
 | 0, _, _, _, _, _, _, _, _, _, _ => none
 | k + 1, x1, x2, x7, x102000, x102001, x102002, x102003, x102004, x102005, x102006 => if x7 < (x102000.length : Int) then ((cupolaref05_Has.f k x102002 x1 x7).bind fun t106 => (if t106 = true then ((cupolaref05_Has.f k x102001 x7 x2).bind fun t107 => (cupolaref14_static.j2 k x1 x2 x7 t107 x102000 x102001 x102002 x102003 x102004 x102005 x102006)) else (cupolaref14_static.j2 k x1 x2 x7 false x102000 x102001 x102002 x102003 x102004 x102005 x102006))) else (some false)
def cupolaref14_static.j2 : Nat → Int → Int → Int → Bool → List (S26) → List Int → List Int → List Int → List Int → List Int → List (List Int) → Option (Bool)
 | 0, _, _, _, _, _, _, _, _, _, _, _ => none
 | k + 1, x1, x2, x7, x8, x102000, x102001, x102002, x102003, x102004, x102005, x102006 => if x8 = true then (if 0 ≤ x2 then (if x2 < (x102000.length : Int) then (cupolaref14_static.j3 k x1 x2 x7 (((rd_T26 x102000 x2).f1) == 2) x102000 x102001 x102002 x102003 x102004 x102005 x102006) else (none)) else (none)) else (cupolaref14_static.j3 k x1 x2 x7 false x102000 x102001 x102002 x102003 x102004 x102005 x102006)
def cupolaref14_static.j3 : Nat → Int → Int → Int → Bool → List (S26) → List Int → List Int → List Int → List Int → List Int → List (List Int) → Option (Bool)
 | 0, _, _, _, _, _, _, _, _, _, _, _ => none
 | k + 1, x1, x2, x7, x67, x102000, x102001, x102002, x102003, x102004, x102005, x102006 => if x67 = true then (some true) else (if 0 ≤ x7 then (if x7 < (x102000.length : Int) then (if ((rd_T26 x102000 x7).f1) = 6 then ((cupolaref05_Has.f k x102001 x7 x2).bind fun t110 => (if t110 = true then (if 0 ≤ x2 then (if x2 < (x102000.length : Int) then (cupolaref14_static.j4 k x1 x2 x7 (((rd_T26 x102000 x2).f1) == 1) x102000 x102001 x102002 x102003 x102004 x102005 x102006) else (none)) else (none)) else (cupolaref14_static.j4 k x1 x2 x7 false x102000 x102001 x102002 x102003 x102004 x102005 x102006))) else (cupolaref14_static.j4 k x1 x2 x7 false x102000 x102001 x102002 x102003 x102004 x102005 x102006)) else (none)) else (none))
def cupolaref14_static.j4 : Nat → Int → Int → Int → Bool → List (S26) → List Int → List Int → List Int → List Int → List Int → List (List Int) → Option (Bool)
 | 0, _, _, _, _, _, _, _, _, _, _, _ => none
 | k + 1, x1, x2, x7, x9, x102000, x102001, x102002, x102003, x102004, x102005, x102006 => if x9 = true then ((cupolaref05_Has.f k x102004 x1 x7).bind fun t112 => (cupolaref14_static.j5 k x1 x2 x7 x9 t112 x102000 x102001 x102002 x102003 x102004 x102005 x102006)) else (cupolaref14_static.j5 k x1 x2 x7 x9 false x102000 x102001 x102002 x102003 x102004 x102005 x102006)
def cupolaref14_static.j5 : Nat → Int → Int → Int → Bool → Bool → List (S26) → List Int → List Int → List Int → List Int → List Int → List (List Int) → Option (Bool)
 | 0, _, _, _, _, _, _, _, _, _, _, _, _ => none
 | k + 1, x1, x2, x7, x9, x98, x102000, x102001, x102002, x102003, x102004, x102005, x102006 => if x98 = true then (some true) else (cupolaref14_static.l1 k x1 x2 x7 x9 0 x102000 x102001 x102002 x102003 x102004 x102005 x102006)
def cupolaref14_static.l1 : Nat → Int → Int → Int → Bool → Int → List (S26) → List Int → List Int → List Int → List Int → List Int → List (List Int) → Option (Bool)
 | 0, _, _, _, _, _, _, _, _, _, _, _, _ => none
 | k + 1, x1, x2, x7, x9, x10, x102000, x102001, x102002, x102003, x102004, x102005, x102006 => if x10 < (x102000.length : Int) then (cupolaref14_static.j7 k x1 x2 x7 x9 x10 x9 x102000 x102001 x102002 x102003 x102004 x102005 x102006) else (cupolaref14_static.j7 k x1 x2 x7 x9 x10 false x102000 x102001 x102002 x102003 x102004 x102005 x102006)
def cupolaref14_static.j7 : Nat → Int → Int → Int → Bool → Int → Bool → List (S26) → List Int → List Int → List Int → List Int → List Int → List (List Int) → Option (Bool)
 | 0, _, _, _, _, _, _, _, _, _, _, _, _, _ => none
 | k + 1, x1, x2, x7, x9, x10, x106, x102000, x102001, x102002, x102003, x102004, x102005, x102006 => if x106 = true then ((cupolaref05_Has.f k x102002 x1 x10).bind fun t113 => (if t113 = true then ((cupolaref05_Has.f k x102001 x10 x7).bind fun t114 => (if t114 = true then (some true) else (cupolaref14_static.l1 k x1 x2 x7 x9 (wrap64 (x10 + 1)) x102000 x102001 x102002 x102003 x102004 x102005 x102006))) else (cupolaref14_static.l1 k x1 x2 x7 x9 (wrap64 (x10 + 1)) x102000 x102001 x102002 x102003 x102004 x102005 x102006))) else (cupolaref14_static.l0 k x1 x2 (wrap64 (x7 + 1)) x102000 x102001 x102002 x102003 x102004 x102005 x102006)
end
def cupolaref14_static.f (k : Nat) (l0_0 : List (S26)) (l0_1 : List Int) (l0_2 : List Int) (l0_3 : List Int) (l0_4 : List Int) (l0_5 : List Int) (l0_6 : List (List Int)) (a1 : Int) (a2 : Int) : Option (Bool) := (cupolaref05_Has.f k l0_2 a1 a2).bind fun t102 => (if t102 = true then (cupolaref14_static.j0 k a1 a2 true l0_0 l0_1 l0_2 l0_3 l0_4 l0_5 l0_6) else ((cupolaref05_Has.f k l0_3 a1 a2).bind fun t103 => (if t103 = true then (cupolaref14_static.j0 k a1 a2 true l0_0 l0_1 l0_2 l0_3 l0_4 l0_5 l0_6) else ((cupolaref05_Has.f k l0_4 a1 a2).bind fun t104 => (if t104 = true then (if 0 ≤ a2 then (if a2 < (l0_0.length : Int) then (cupolaref14_static.j0 k a1 a2 (((rd_T26 l0_0 a2).f1) == 2) l0_0 l0_1 l0_2 l0_3 l0_4 l0_5 l0_6) else (none)) else (none)) else (cupolaref14_static.j0 k a1 a2 false l0_0 l0_1 l0_2 l0_3 l0_4 l0_5 l0_6))))))
set_option maxHeartbeats 8000000 in
set_option maxRecDepth 100000 in
theorem cupolaref14_static.calls (k : Nat) (A0_0 : Option Addr) (c0_0 : Nat) (l0_0 : List (S26)) (A0_1 : Option Addr) (c0_1 : Nat) (l0_1 : List Int) (A0_2 : Option Addr) (c0_2 : Nat) (l0_2 : List Int) (A0_3 : Option Addr) (c0_3 : Nat) (l0_3 : List Int) (A0_4 : Option Addr) (c0_4 : Nat) (l0_4 : List Int) (A0_5 : Option Addr) (c0_5 : Nat) (l0_5 : List Int) (A0_6 : Option Addr) (c0_6 : Nat) (l0_6 : List (List Int)) (a1 : Int) (a2 : Int) (r : Bool) (w : World) (hr0_0 : Kd.C k26 w A0_0 l0_0.length l0_0) (hc0_0 : l0_0.length ≤ c0_0) (hr0_1 : Kd.C (Kd.int .u32) w A0_1 l0_1.length l0_1) (hc0_1 : l0_1.length ≤ c0_1) (hr0_2 : Kd.C (Kd.int .u32) w A0_2 l0_2.length l0_2) (hc0_2 : l0_2.length ≤ c0_2) (hr0_3 : Kd.C (Kd.int .u32) w A0_3 l0_3.length l0_3) (hc0_3 : l0_3.length ≤ c0_3) (hr0_4 : Kd.C (Kd.int .u32) w A0_4 l0_4.length l0_4) (hc0_4 : l0_4.length ≤ c0_4) (hr0_5 : Kd.C (Kd.int .u32) w A0_5 l0_5.length l0_5) (hc0_5 : l0_5.length ≤ c0_5) (hr0_6 : Kd.C (Kd.slice 2 (Kd.int .i64)) w A0_6 l0_6.length l0_6) (hc0_6 : l0_6.length ≤ c0_6) (h : cupolaref14_static.f k l0_0 l0_1 l0_2 l0_3 l0_4 l0_5 l0_6 a1 a2 = some r) :
  Calls Try.prog 135 #[.agg #[.slice A0_0 l0_0.length c0_0, .slice A0_1 l0_1.length c0_1, .slice A0_2 l0_2.length c0_2, .slice A0_3 l0_3.length c0_3, .slice A0_4 l0_4.length c0_4, .slice A0_5 l0_5.length c0_5, .slice A0_6 l0_6.length c0_6], .int .i64 a1, .int .i64 a2] w fun e w' => e = .returned (.bool r) ∧ Below w.heap.size w w' := by
 have hu76 := Try.underlying76
 have HR0_0 := Aside0.mk hr0_0
 have HC0_0 := Aside0.mk hc0_0
 clear hr0_0 hc0_0
 have HR0_1 := Aside0.mk hr0_1
 have HC0_1 := Aside0.mk hc0_1
 clear hr0_1 hc0_1
 have HR0_2 := Aside0.mk hr0_2
 have HC0_2 := Aside0.mk hc0_2
 clear hr0_2 hc0_2
 have HR0_3 := Aside0.mk hr0_3
 have HC0_3 := Aside0.mk hc0_3
 clear hr0_3 hc0_3
 have HR0_4 := Aside0.mk hr0_4
 have HC0_4 := Aside0.mk hc0_4
 clear hr0_4 hc0_4
 have HR0_5 := Aside0.mk hr0_5
 have HC0_5 := Aside0.mk hc0_5
 clear hr0_5 hc0_5
 have HR0_6 := Aside0.mk hr0_6
 have HC0_6 := Aside0.mk hc0_6
 clear hr0_6 hc0_6
 have HB := Aside0.mk (Below.refl w.heap.size w)
 have H : ((cupolaref05_Has.f k l0_2 a1 a2).bind fun t102 => (if t102 = true then (cupolaref14_static.j0 k a1 a2 true l0_0 l0_1 l0_2 l0_3 l0_4 l0_5 l0_6) else ((cupolaref05_Has.f k l0_3 a1 a2).bind fun t103 => (if t103 = true then (cupolaref14_static.j0 k a1 a2 true l0_0 l0_1 l0_2 l0_3 l0_4 l0_5 l0_6) else ((cupolaref05_Has.f k l0_4 a1 a2).bind fun t104 => (if t104 = true then (if 0 ≤ a2 then (if a2 < (l0_0.length : Int) then (cupolaref14_static.j0 k a1 a2 (((rd_T26 l0_0 a2).f1) == 2) l0_0 l0_1 l0_2 l0_3 l0_4 l0_5 l0_6) else (none)) else (none)) else (cupolaref14_static.j0 k a1 a2 false l0_0 l0_1 l0_2 l0_3 l0_4 l0_5 l0_6))))))) = some r := h
 clear h
 have HC4 := Aside0.mk H
 clear H
 go_enter Try.func135, Try.ntmps135
 go_upto_region 1 with (first | ((with_reducible refine gate_dst (N := 3) rfl ?_); refine box_event ?hg (N := 3) ?hd (cs := #[.slice A0_0 l0_0.length c0_0, .slice A0_1 l0_1.length c0_1, .slice A0_2 l0_2.length c0_2, .slice A0_3 l0_3.length c0_3, .slice A0_4 l0_4.length c0_4, .slice A0_5 l0_5.length c0_5, .slice A0_6 l0_6.length c0_6]) (t := 76) ?hr ?_; (case hd => rfl); (case hg => rfl); (case hr => first | (go_simp; done) | (go_simp; rfl)); intro gb101 hg w5 hbox hb; have n0_ := Aside0.mk (below_step (bp9 HB.out) hb); have n1_ := Aside0.mk (hbox); have n2_ := Aside0.mk ((by rw [hg]; exact (below_size (bp9 HB.out)) : w.heap.size ≤ gb101)); have n3_ := n2_; clear HB; have HB := n0_; have BK101 := n1_; have GW101 := n2_; have GE101 := n3_; clear n0_ n1_ n2_ n3_; clear hb hbox hg))
 (try simp only [Act.put, List.setIfInBounds_toArray, List.set_cons_zero, List.set_cons_succ])
 go_cut [38] (fun v38 wc => ∃ (kq : Nat) (x38_3 : Bool), v38 = .bool x38_3 ∧ Aside0 (cupolaref14_static.j0 kq a1 a2 x38_3 l0_0 l0_1 l0_2 l0_3 l0_4 l0_5 l0_6 = some r) ∧ Aside0 (kq ≤ k) ∧ Aside0 (wc.heap[gb101]? = some (.cells #[(.slice A0_0 l0_0.length c0_0), (.slice A0_1 l0_1.length c0_1), (.slice A0_2 l0_2.length c0_2), (.slice A0_3 l0_3.length c0_3), (.slice A0_4 l0_4.length c0_4), (.slice A0_5 l0_5.length c0_5), (.slice A0_6 l0_6.length c0_6)] 76 (0, 0))) ∧ Aside0 (Below w.heap.size w wc))
 case first =>
  have H := HC4.out
  clear HC4
  replace H := Option.bind_eq_some_iff.mp H
  obtain ⟨t102, A60, H⟩ := H
  have A6 := Aside0.mk A60
  clear A60
  by_cases c7 : t102 = true
  ·subst c7
   rw [if_pos rfl] at H
   have H' := Aside0.mk H
   clear H
   obtain ⟨hcz8_0, hcz8_1, hcz8_2, hcz8_3, hcz8_4, hcz8_5, hcz8_6, hfz8_0, hfz8_1, hfz8_2, hfz8_3, hfz8_4, hfz8_5, hfz8_6⟩ := cz7 BK101.out
   go_wp2_with (first | ((with_reducible refine gate_callee (f := 43) rfl ?_); refine goesL9 (some 15) rfl rfl Try.func43 (by kernel_rfl) rfl #[.slice A0_2 l0_2.length c0_2, .int .i64 a1, .int .i64 a2] rfl ?_; (with_reducible refine (cupolaref05_Has.calls k _ _ l0_2 a1 a2 true _ ?side1 ?side2 A6.out).mono ?_); (case side1 => exact cp9 HR0_2.out HB.out); (case side2 => exact HC0_2.out); rintro e w' ⟨rfl, ⟨nd, rfl⟩⟩; refine ⟨_, rfl, ?_⟩))
   go_meet
   case rel => exact ⟨_, (true), (by first | rfl | (simp; done) | (simp [*]; done)), H', ⟨by first | omega | exact Nat.le_refl _⟩, ⟨kp9 BK101.out⟩, ⟨bp9 HB.out⟩⟩
  ·replace c7 := Bool.eq_false_iff.mpr c7
   subst c7
   rw [if_neg (show ¬ (false = true) by decide)] at H
   replace H := Option.bind_eq_some_iff.mp H
   obtain ⟨t103, A90, H⟩ := H
   have A9 := Aside0.mk A90
   clear A90
   by_cases c10 : t103 = true
   ·subst c10
    rw [if_pos rfl] at H
    have H' := Aside0.mk H
    clear H
    obtain ⟨hcz11_0, hcz11_1, hcz11_2, hcz11_3, hcz11_4, hcz11_5, hcz11_6, hfz11_0, hfz11_1, hfz11_2, hfz11_3, hfz11_4, hfz11_5, hfz11_6⟩ := cz7 BK101.out
    go_wp2_with (first | ((with_reducible refine gate_callee (f := 43) rfl ?_); refine goesL9 (some 15) rfl rfl Try.func43 (by kernel_rfl) rfl #[.slice A0_2 l0_2.length c0_2, .int .i64 a1, .int .i64 a2] rfl ?_; (with_reducible refine (cupolaref05_Has.calls k _ _ l0_2 a1 a2 false _ ?side1 ?side2 A6.out).mono ?_); (case side1 => exact cp9 HR0_2.out HB.out); (case side2 => exact HC0_2.out); rintro e w' ⟨rfl, ⟨nd, rfl⟩⟩; refine ⟨_, rfl, ?_⟩) | (go_at_call 43; (with_reducible refine (cupolaref05_Has.calls k _ _ l0_3 a1 a2 true _ ?side1 ?side2 A9.out).mono ?_); (case side1 => repeat (first | exact (Kd.C_below HR0_3.out (bp9 HB.out)) | (with_reducible refine Kd.C_alloc ?_ _) | (with_reducible refine Kd.C_drewN ?_ _) | (with_reducible refine Kd.C_drew ?_))); (case side2 => exact HC0_3.out); rintro e w' ⟨rfl, ⟨nd, rfl⟩⟩))
    go_meet
    case rel => exact ⟨_, (true), (by first | rfl | (simp; done) | (simp [*]; done)), H', ⟨by first | omega | exact Nat.le_refl _⟩, ⟨kp9 BK101.out⟩, ⟨bp9 HB.out⟩⟩
   ·replace c10 := Bool.eq_false_iff.mpr c10
    subst c10
    rw [if_neg (show ¬ (false = true) by decide)] at H
    replace H := Option.bind_eq_some_iff.mp H
    obtain ⟨t104, A120, H⟩ := H
    have A12 := Aside0.mk A120
    clear A120
    by_cases c13 : t104 = true
    ·subst c13
     rw [if_pos rfl] at H
     by_cases c14 : 0 ≤ a2
     ·rw [if_pos c14] at H
      have c14b0 : decide (0 ≤ a2) = true := decide_eq_true c14
      clear c14
      (first | rw [c14b0] | (simp only [i64_w, i32_w]; rw [c14b0]) | skip)
      by_cases c15 : a2 < (l0_0.length : Int)
      ·rw [if_pos c15] at H
       have c15b0 : decide (a2 < (l0_0.length : Int)) = true := decide_eq_true c15
       clear c15
       have H' := Aside0.mk H
       clear H
       obtain ⟨hcz16_0, hcz16_1, hcz16_2, hcz16_3, hcz16_4, hcz16_5, hcz16_6, hfz16_0, hfz16_1, hfz16_2, hfz16_3, hfz16_4, hfz16_5, hfz16_6⟩ := cz7 BK101.out
       go_wp2_with (first | ((with_reducible refine gate_callee (f := 43) rfl ?_); refine goesL9 (some 15) rfl rfl Try.func43 (by kernel_rfl) rfl #[.slice A0_2 l0_2.length c0_2, .int .i64 a1, .int .i64 a2] rfl ?_; (with_reducible refine (cupolaref05_Has.calls k _ _ l0_2 a1 a2 false _ ?side1 ?side2 A6.out).mono ?_); (case side1 => exact cp9 HR0_2.out HB.out); (case side2 => exact HC0_2.out); rintro e w' ⟨rfl, ⟨nd, rfl⟩⟩; refine ⟨_, rfl, ?_⟩) | (go_at_call 43; (with_reducible refine (cupolaref05_Has.calls k _ _ l0_3 a1 a2 false _ ?side1 ?side2 A9.out).mono ?_); (case side1 => repeat (first | exact (Kd.C_below HR0_3.out (bp9 HB.out)) | (with_reducible refine Kd.C_alloc ?_ _) | (with_reducible refine Kd.C_drewN ?_ _) | (with_reducible refine Kd.C_drew ?_))); (case side2 => exact HC0_3.out); rintro e w' ⟨rfl, ⟨nd, rfl⟩⟩) | (go_at_call 43; (with_reducible refine (cupolaref05_Has.calls k _ _ l0_4 a1 a2 true _ ?side1 ?side2 A12.out).mono ?_); (case side1 => repeat (first | exact (Kd.C_below HR0_4.out (bp9 HB.out)) | (with_reducible refine Kd.C_alloc ?_ _) | (with_reducible refine Kd.C_drewN ?_ _) | (with_reducible refine Kd.C_drew ?_))); (case side2 => exact HC0_4.out); rintro e w' ⟨rfl, ⟨nd, rfl⟩⟩; have p105 : 0 ≤ (a2 : Int) := of_decide_eq_true (by first | (with_reducible assumption) | assumption); have q105 : a2 < (l0_0.length : Int) := of_decide_eq_true (by first | (with_reducible assumption) | assumption); obtain ⟨ad105, e105, hx105_0, hx105_1, hx105_2, hx105_3, hx105_4, hx105_5, hx105_6⟩ := at_T26 HR0_0.out a2 p105 q105; cases e105; replace hx105_0 := (HB.out.cell (World.block_lt_of_cell? w _ hx105_0)).trans hx105_0; replace hx105_1 := (HB.out.cell (World.block_lt_of_cell? w _ hx105_1)).trans hx105_1; replace hx105_2 := (HB.out.cell (World.block_lt_of_cell? w _ hx105_2)).trans hx105_2; replace hx105_3 := (HB.out.cell (World.block_lt_of_cell? w _ hx105_3)).trans hx105_3; replace hx105_4 := (HB.out.cell (World.block_lt_of_cell? w _ hx105_4)).trans hx105_4; replace hx105_5 := (HB.out.cell (World.block_lt_of_cell? w _ hx105_5)).trans hx105_5; replace hx105_6 := (HB.out.cell (World.block_lt_of_cell? w _ hx105_6)).trans hx105_6; replace p105 := eq_true p105; replace q105 := eq_true q105))
       go_meet
       case rel => exact ⟨_, ((((rd_T26 l0_0 a2).f1) == 2)), (by first | rfl | (simp; done) | (simp [*]; done)), H', ⟨by first | omega | exact Nat.le_refl _⟩, ⟨kp9 BK101.out⟩, ⟨bp9 HB.out⟩⟩
      ·rw [if_neg c15] at H
       exact absurd H (by simp)
     ·rw [if_neg c14] at H
      exact absurd H (by simp)
    ·replace c13 := Bool.eq_false_iff.mpr c13
     subst c13
     rw [if_neg (show ¬ (false = true) by decide)] at H
     have H' := Aside0.mk H
     clear H
     obtain ⟨hcz17_0, hcz17_1, hcz17_2, hcz17_3, hcz17_4, hcz17_5, hcz17_6, hfz17_0, hfz17_1, hfz17_2, hfz17_3, hfz17_4, hfz17_5, hfz17_6⟩ := cz7 BK101.out
     go_wp2_with (first | ((with_reducible refine gate_callee (f := 43) rfl ?_); refine goesL9 (some 15) rfl rfl Try.func43 (by kernel_rfl) rfl #[.slice A0_2 l0_2.length c0_2, .int .i64 a1, .int .i64 a2] rfl ?_; (with_reducible refine (cupolaref05_Has.calls k _ _ l0_2 a1 a2 false _ ?side1 ?side2 A6.out).mono ?_); (case side1 => exact cp9 HR0_2.out HB.out); (case side2 => exact HC0_2.out); rintro e w' ⟨rfl, ⟨nd, rfl⟩⟩; refine ⟨_, rfl, ?_⟩) | (go_at_call 43; (with_reducible refine (cupolaref05_Has.calls k _ _ l0_3 a1 a2 false _ ?side1 ?side2 A9.out).mono ?_); (case side1 => repeat (first | exact (Kd.C_below HR0_3.out (bp9 HB.out)) | (with_reducible refine Kd.C_alloc ?_ _) | (with_reducible refine Kd.C_drewN ?_ _) | (with_reducible refine Kd.C_drew ?_))); (case side2 => exact HC0_3.out); rintro e w' ⟨rfl, ⟨nd, rfl⟩⟩) | (go_at_call 43; (with_reducible refine (cupolaref05_Has.calls k _ _ l0_4 a1 a2 false _ ?side1 ?side2 A12.out).mono ?_); (case side1 => repeat (first | exact (Kd.C_below HR0_4.out (bp9 HB.out)) | (with_reducible refine Kd.C_alloc ?_ _) | (with_reducible refine Kd.C_drewN ?_ _) | (with_reducible refine Kd.C_drew ?_))); (case side2 => exact HC0_4.out); rintro e w' ⟨rfl, ⟨nd, rfl⟩⟩))
     go_meet
     case rel => exact ⟨_, (false), (by first | rfl | (simp; done) | (simp [*]; done)), H', ⟨by first | omega | exact Nat.le_refl _⟩, ⟨kp9 BK101.out⟩, ⟨bp9 HB.out⟩⟩
 case rest =>
  clear HC4
  try clear c1
  try clear p1
  try clear q1
  try clear hx1
  try clear p2
  try clear c4
  try clear c7
  try clear c10
  try clear p10
  try clear q10
  try clear hx10
  try clear c13
  try clear c14
  try clear c14b0
  try clear c15
  try clear c15b0
  try clear hcz11_0 hcz11_1 hcz11_2 hcz11_3 hcz11_4 hcz11_5 hcz11_6
  try clear hcz16_0 hcz16_1 hcz16_2 hcz16_3 hcz16_4 hcz16_5 hcz16_6
  try clear hcz17_0 hcz17_1 hcz17_2 hcz17_3 hcz17_4 hcz17_5 hcz17_6
  try clear hcz8_0 hcz8_1 hcz8_2 hcz8_3 hcz8_4 hcz8_5 hcz8_6
  try clear hfz11_0 hfz11_1 hfz11_2 hfz11_3 hfz11_4 hfz11_5 hfz11_6
  try clear hfz16_0 hfz16_1 hfz16_2 hfz16_3 hfz16_4 hfz16_5 hfz16_6
  try clear hfz17_0 hfz17_1 hfz17_2 hfz17_3 hfz17_4 hfz17_5 hfz17_6
  try clear hfz8_0 hfz8_1 hfz8_2 hfz8_3 hfz8_4 hfz8_5 hfz8_6
  try clear hx105_0
  try clear hx105_1
  try clear hx105_2
  try clear hx105_3
  try clear hx105_4
  try clear hx105_5
  try clear hx105_6
  try clear p105
  try clear q105
  obtain ⟨kq, x38_3, rfl, HA, HJ3, BK101, HB⟩ := hcut
  cases kq with
  | zero => exact absurd HA.out (by simp [cupolaref14_static.j0])
  | succ kj3 =>
   have H := HA.out
   clear HA
   simp only [cupolaref14_static.j0] at H
   by_cases c18 : x38_3 = true
   ·subst c18
    rw [if_pos rfl] at H
    obtain rfl := Option.some.inj H
    go_wp2
    go_ret
    exact ⟨by first | rfl | (simp [errW_none, errW_some] <;> rfl) | (simp [*, errW_none, errW_some] <;> rfl), bp9 HB.out⟩
   ·replace c18 := Bool.eq_false_iff.mpr c18
    subst c18
    rw [if_neg (show ¬ (false = true) by decide)] at H
    have H' := Aside0.mk H
    clear H
    go_wp2
    go_loopg [7] kj3 (fun kq v7 w' => ∃ (x7_2 : Int), v7 = .int .i64 x7_2 ∧ Aside0 (cupolaref14_static.l0 kq a1 a2 x7_2 l0_0 l0_1 l0_2 l0_3 l0_4 l0_5 l0_6 = some r) ∧ Aside0 (kq ≤ kj3) ∧ Aside0 (w'.heap[gb101]? = some (.cells #[(.slice A0_0 l0_0.length c0_0), (.slice A0_1 l0_1.length c0_1), (.slice A0_2 l0_2.length c0_2), (.slice A0_3 l0_3.length c0_3), (.slice A0_4 l0_4.length c0_4), (.slice A0_5 l0_5.length c0_5), (.slice A0_6 l0_6.length c0_6)] 76 (0, 0))) ∧ Aside0 (Below w.heap.size w w'))
    case atStart => exact ⟨(0), (by first | rfl | (simp; done) | (simp [*]; done)), H', ⟨Nat.le_refl _⟩, ⟨kp9 BK101.out⟩, ⟨bp9 HB.out⟩⟩
    case round =>
     clear H'
     try clear c1
     try clear p1
     try clear q1
     try clear hx1
     try clear p2
     try clear c4
     try clear c7
     try clear c10
     try clear p10
     try clear q10
     try clear hx10
     try clear c13
     try clear c14
     try clear c14b0
     try clear c15
     try clear c15b0
     try clear c18
     try clear hcz11_0 hcz11_1 hcz11_2 hcz11_3 hcz11_4 hcz11_5 hcz11_6
     try clear hcz16_0 hcz16_1 hcz16_2 hcz16_3 hcz16_4 hcz16_5 hcz16_6
     try clear hcz17_0 hcz17_1 hcz17_2 hcz17_3 hcz17_4 hcz17_5 hcz17_6
     try clear hcz8_0 hcz8_1 hcz8_2 hcz8_3 hcz8_4 hcz8_5 hcz8_6
     try clear hfz11_0 hfz11_1 hfz11_2 hfz11_3 hfz11_4 hfz11_5 hfz11_6
     try clear hfz16_0 hfz16_1 hfz16_2 hfz16_3 hfz16_4 hfz16_5 hfz16_6
     try clear hfz17_0 hfz17_1 hfz17_2 hfz17_3 hfz17_4 hfz17_5 hfz17_6
     try clear hfz8_0 hfz8_1 hfz8_2 hfz8_3 hfz8_4 hfz8_5 hfz8_6
     try clear hx105_0
     try clear hx105_1
     try clear hx105_2
     try clear hx105_3
     try clear hx105_4
     try clear hx105_5
     try clear hx105_6
     try clear p1
     try clear p10
     try clear p105
     try clear p2
     try clear q1
     try clear q10
     try clear q105
     obtain ⟨x7_2, rfl, HA, HK2, BK101, HB⟩ := hrel
     cases gk with
     | zero => exact absurd HA.out (by simp [cupolaref14_static.l0])
     | succ k2 =>
      have H := HA.out
      clear HA
      simp only [cupolaref14_static.l0] at H
      by_cases c19 : x7_2 < (l0_0.length : Int)
      ·rw [if_pos c19] at H
       have c19b0 : decide (x7_2 < (l0_0.length : Int)) = true := decide_eq_true c19
       clear c19
       have HC20 := Aside0.mk H
       clear H
       obtain ⟨hcz21_0, hcz21_1, hcz21_2, hcz21_3, hcz21_4, hcz21_5, hcz21_6, hfz21_0, hfz21_1, hfz21_2, hfz21_3, hfz21_4, hfz21_5, hfz21_6⟩ := cz7 BK101.out
       go_upto_region 6 with (fail)
       go_cut [8] (fun v8 wc => ∃ (kq : Nat) (x8_19 : Bool), v8 = .bool x8_19 ∧ Aside0 (cupolaref14_static.j2 kq a1 a2 x7_2 x8_19 l0_0 l0_1 l0_2 l0_3 l0_4 l0_5 l0_6 = some r) ∧ Aside0 (kq ≤ k2) ∧ Aside0 (wc.heap[gb101]? = some (.cells #[(.slice A0_0 l0_0.length c0_0), (.slice A0_1 l0_1.length c0_1), (.slice A0_2 l0_2.length c0_2), (.slice A0_3 l0_3.length c0_3), (.slice A0_4 l0_4.length c0_4), (.slice A0_5 l0_5.length c0_5), (.slice A0_6 l0_6.length c0_6)] 76 (0, 0))) ∧ Aside0 (Below w.heap.size w wc))
       case first =>
        have H := HC20.out
        clear HC20
        replace H := Option.bind_eq_some_iff.mp H
        obtain ⟨t106, A220, H⟩ := H
        have A22 := Aside0.mk A220
        clear A220
        by_cases c23 : t106 = true
        ·subst c23
         rw [if_pos rfl] at H
         replace H := Option.bind_eq_some_iff.mp H
         obtain ⟨t107, A240, H⟩ := H
         have A24 := Aside0.mk A240
         clear A240
         have H' := Aside0.mk H
         clear H
         obtain ⟨hcz25_0, hcz25_1, hcz25_2, hcz25_3, hcz25_4, hcz25_5, hcz25_6, hfz25_0, hfz25_1, hfz25_2, hfz25_3, hfz25_4, hfz25_5, hfz25_6⟩ := cz7 BK101.out
         go_wp2_with (first | ((with_reducible refine gate_callee (f := 43) rfl ?_); refine goesL9 (some 50) rfl rfl Try.func43 (by kernel_rfl) rfl #[.slice A0_2 l0_2.length c0_2, .int .i64 a1, .int .i64 x7_2] rfl ?_; (with_reducible refine (cupolaref05_Has.calls k2 _ _ l0_2 a1 x7_2 true _ ?side1 ?side2 A22.out).mono ?_); (case side1 => exact cp9 HR0_2.out HB.out); (case side2 => exact HC0_2.out); rintro e w' ⟨rfl, ⟨nd, rfl⟩⟩; refine ⟨_, rfl, ?_⟩) | (go_at_call 43; (with_reducible refine (cupolaref05_Has.calls k2 _ _ l0_1 x7_2 a2 t107 _ ?side1 ?side2 A24.out).mono ?_); (case side1 => repeat (first | exact (Kd.C_below HR0_1.out (bp9 HB.out)) | (with_reducible refine Kd.C_alloc ?_ _) | (with_reducible refine Kd.C_drewN ?_ _) | (with_reducible refine Kd.C_drew ?_))); (case side2 => exact HC0_1.out); rintro e w' ⟨rfl, ⟨nd, rfl⟩⟩))
         go_meet
         case rel => exact ⟨_, (t107), (by first | rfl | (simp; done) | (simp [*]; done)), H', ⟨by have := HJ3.out; have := HK2.out; first | omega | exact Nat.le_refl _⟩, ⟨kp9 BK101.out⟩, ⟨bp9 HB.out⟩⟩
        ·replace c23 := Bool.eq_false_iff.mpr c23
         subst c23
         rw [if_neg (show ¬ (false = true) by decide)] at H
         have H' := Aside0.mk H
         clear H
         obtain ⟨hcz26_0, hcz26_1, hcz26_2, hcz26_3, hcz26_4, hcz26_5, hcz26_6, hfz26_0, hfz26_1, hfz26_2, hfz26_3, hfz26_4, hfz26_5, hfz26_6⟩ := cz7 BK101.out
         go_wp2_with (first | ((with_reducible refine gate_callee (f := 43) rfl ?_); refine goesL9 (some 50) rfl rfl Try.func43 (by kernel_rfl) rfl #[.slice A0_2 l0_2.length c0_2, .int .i64 a1, .int .i64 x7_2] rfl ?_; (with_reducible refine (cupolaref05_Has.calls k2 _ _ l0_2 a1 x7_2 false _ ?side1 ?side2 A22.out).mono ?_); (case side1 => exact cp9 HR0_2.out HB.out); (case side2 => exact HC0_2.out); rintro e w' ⟨rfl, ⟨nd, rfl⟩⟩; refine ⟨_, rfl, ?_⟩))
         go_meet
         case rel => exact ⟨_, (false), (by first | rfl | (simp; done) | (simp [*]; done)), H', ⟨by have := HJ3.out; have := HK2.out; first | omega | exact Nat.le_refl _⟩, ⟨kp9 BK101.out⟩, ⟨bp9 HB.out⟩⟩
       case rest =>
        clear HC20
        try clear c1
        try clear p1
        try clear q1
        try clear hx1
        try clear c2
        try clear p2
        try clear c4
        try clear c7
        try clear c10
        try clear p10
        try clear q10
        try clear hx10
        try clear c13
        try clear c14
        try clear c14b0
        try clear c15
        try clear c15b0
        try clear c18
        try clear c19
        try clear c19b0
        try clear c23
        try clear hcz11_0 hcz11_1 hcz11_2 hcz11_3 hcz11_4 hcz11_5 hcz11_6
        try clear hcz16_0 hcz16_1 hcz16_2 hcz16_3 hcz16_4 hcz16_5 hcz16_6
        try clear hcz17_0 hcz17_1 hcz17_2 hcz17_3 hcz17_4 hcz17_5 hcz17_6
        try clear hcz21_0 hcz21_1 hcz21_2 hcz21_3 hcz21_4 hcz21_5 hcz21_6
        try clear hcz25_0 hcz25_1 hcz25_2 hcz25_3 hcz25_4 hcz25_5 hcz25_6
        try clear hcz26_0 hcz26_1 hcz26_2 hcz26_3 hcz26_4 hcz26_5 hcz26_6
        try clear hcz8_0 hcz8_1 hcz8_2 hcz8_3 hcz8_4 hcz8_5 hcz8_6
        try clear hfz11_0 hfz11_1 hfz11_2 hfz11_3 hfz11_4 hfz11_5 hfz11_6
        try clear hfz16_0 hfz16_1 hfz16_2 hfz16_3 hfz16_4 hfz16_5 hfz16_6
        try clear hfz17_0 hfz17_1 hfz17_2 hfz17_3 hfz17_4 hfz17_5 hfz17_6
        try clear hfz21_0 hfz21_1 hfz21_2 hfz21_3 hfz21_4 hfz21_5 hfz21_6
        try clear hfz25_0 hfz25_1 hfz25_2 hfz25_3 hfz25_4 hfz25_5 hfz25_6
        try clear hfz26_0 hfz26_1 hfz26_2 hfz26_3 hfz26_4 hfz26_5 hfz26_6
        try clear hfz8_0 hfz8_1 hfz8_2 hfz8_3 hfz8_4 hfz8_5 hfz8_6
        try clear hx105_0
        try clear hx105_1
        try clear hx105_2
        try clear hx105_3
        try clear hx105_4
        try clear hx105_5
        try clear hx105_6
        try clear p1
        try clear p10
        try clear p105
        try clear p2
        try clear q1
        try clear q10
        try clear q105
        obtain ⟨kq, x8_19, rfl, HA, HJ19, BK101, HB⟩ := hcut
        cases kq with
        | zero => exact absurd HA.out (by simp [cupolaref14_static.j2])
        | succ kj19 =>
         have H := HA.out
         clear HA
         simp only [cupolaref14_static.j2] at H
         have HC27 := Aside0.mk H
         clear H
         go_upto_region 7 with (fail)
         go_cut [67] (fun v67 wc => ∃ (kq : Nat) (x67_26 : Bool), v67 = .bool x67_26 ∧ Aside0 (cupolaref14_static.j3 kq a1 a2 x7_2 x67_26 l0_0 l0_1 l0_2 l0_3 l0_4 l0_5 l0_6 = some r) ∧ Aside0 (kq ≤ kj19) ∧ Aside0 (wc.heap[gb101]? = some (.cells #[(.slice A0_0 l0_0.length c0_0), (.slice A0_1 l0_1.length c0_1), (.slice A0_2 l0_2.length c0_2), (.slice A0_3 l0_3.length c0_3), (.slice A0_4 l0_4.length c0_4), (.slice A0_5 l0_5.length c0_5), (.slice A0_6 l0_6.length c0_6)] 76 (0, 0))) ∧ Aside0 (Below w.heap.size w wc))
         case first =>
          have H := HC27.out
          clear HC27
          by_cases c28 : x8_19 = true
          ·subst c28
           rw [if_pos rfl] at H
           by_cases c29 : 0 ≤ a2
           ·rw [if_pos c29] at H
            have c29b0 : decide (0 ≤ a2) = true := decide_eq_true c29
            clear c29
            (first | rw [c29b0] | (simp only [i64_w, i32_w]; rw [c29b0]) | skip)
            by_cases c30 : a2 < (l0_0.length : Int)
            ·rw [if_pos c30] at H
             have c30b0 : decide (a2 < (l0_0.length : Int)) = true := decide_eq_true c30
             clear c30
             have H' := Aside0.mk H
             clear H
             obtain ⟨hcz31_0, hcz31_1, hcz31_2, hcz31_3, hcz31_4, hcz31_5, hcz31_6, hfz31_0, hfz31_1, hfz31_2, hfz31_3, hfz31_4, hfz31_5, hfz31_6⟩ := cz7 BK101.out
             have p108 : 0 ≤ (a2 : Int) := of_decide_eq_true (by first | (with_reducible assumption) | assumption)
             have q108 : a2 < (l0_0.length : Int) := of_decide_eq_true (by first | (with_reducible assumption) | assumption)
             obtain ⟨ad108, e108, hx108_0, hx108_1, hx108_2, hx108_3, hx108_4, hx108_5, hx108_6⟩ := at_T26 HR0_0.out a2 p108 q108
             cases e108
             replace hx108_0 := (HB.out.cell (World.block_lt_of_cell? w _ hx108_0)).trans hx108_0
             replace hx108_1 := (HB.out.cell (World.block_lt_of_cell? w _ hx108_1)).trans hx108_1
             replace hx108_2 := (HB.out.cell (World.block_lt_of_cell? w _ hx108_2)).trans hx108_2
             replace hx108_3 := (HB.out.cell (World.block_lt_of_cell? w _ hx108_3)).trans hx108_3
             replace hx108_4 := (HB.out.cell (World.block_lt_of_cell? w _ hx108_4)).trans hx108_4
             replace hx108_5 := (HB.out.cell (World.block_lt_of_cell? w _ hx108_5)).trans hx108_5
             replace hx108_6 := (HB.out.cell (World.block_lt_of_cell? w _ hx108_6)).trans hx108_6
             replace p108 := eq_true p108
             replace q108 := eq_true q108
             go_wp2
             go_meet
             case rel => exact ⟨_, ((((rd_T26 l0_0 a2).f1) == 2)), (by first | rfl | (simp; done) | (simp [*]; done)), H', ⟨by have := HJ3.out; have := HK2.out; have := HJ19.out; first | omega | exact Nat.le_refl _⟩, ⟨kp9 BK101.out⟩, ⟨bp9 HB.out⟩⟩
            ·rw [if_neg c30] at H
             exact absurd H (by simp)
           ·rw [if_neg c29] at H
            exact absurd H (by simp)
          ·replace c28 := Bool.eq_false_iff.mpr c28
           subst c28
           rw [if_neg (show ¬ (false = true) by decide)] at H
           have H' := Aside0.mk H
           clear H
           go_wp2
           go_meet
           case rel => exact ⟨_, (false), (by first | rfl | (simp; done) | (simp [*]; done)), H', ⟨by have := HJ3.out; have := HK2.out; have := HJ19.out; first | omega | exact Nat.le_refl _⟩, ⟨kp9 BK101.out⟩, ⟨bp9 HB.out⟩⟩
         case rest =>
          clear HC27
          try clear c1
          try clear p1
          try clear q1
          try clear hx1
          try clear c2
          try clear p2
          try clear c3
          try clear c4
          try clear c7
          try clear c10
          try clear p10
          try clear q10
          try clear hx10
          try clear c13
          try clear c14
          try clear c14b0
          try clear c15
          try clear c15b0
          try clear c18
          try clear c19
          try clear c19b0
          try clear c23
          try clear c28
          try clear c29
          try clear c29b0
          try clear c30
          try clear c30b0
          try clear hcz11_0 hcz11_1 hcz11_2 hcz11_3 hcz11_4 hcz11_5 hcz11_6
          try clear hcz16_0 hcz16_1 hcz16_2 hcz16_3 hcz16_4 hcz16_5 hcz16_6
          try clear hcz17_0 hcz17_1 hcz17_2 hcz17_3 hcz17_4 hcz17_5 hcz17_6
          try clear hcz21_0 hcz21_1 hcz21_2 hcz21_3 hcz21_4 hcz21_5 hcz21_6
          try clear hcz25_0 hcz25_1 hcz25_2 hcz25_3 hcz25_4 hcz25_5 hcz25_6
          try clear hcz26_0 hcz26_1 hcz26_2 hcz26_3 hcz26_4 hcz26_5 hcz26_6
          try clear hcz31_0 hcz31_1 hcz31_2 hcz31_3 hcz31_4 hcz31_5 hcz31_6
          try clear hcz8_0 hcz8_1 hcz8_2 hcz8_3 hcz8_4 hcz8_5 hcz8_6
          try clear hfz11_0 hfz11_1 hfz11_2 hfz11_3 hfz11_4 hfz11_5 hfz11_6
          try clear hfz16_0 hfz16_1 hfz16_2 hfz16_3 hfz16_4 hfz16_5 hfz16_6
          try clear hfz17_0 hfz17_1 hfz17_2 hfz17_3 hfz17_4 hfz17_5 hfz17_6
          try clear hfz21_0 hfz21_1 hfz21_2 hfz21_3 hfz21_4 hfz21_5 hfz21_6
          try clear hfz25_0 hfz25_1 hfz25_2 hfz25_3 hfz25_4 hfz25_5 hfz25_6
          try clear hfz26_0 hfz26_1 hfz26_2 hfz26_3 hfz26_4 hfz26_5 hfz26_6
          try clear hfz31_0 hfz31_1 hfz31_2 hfz31_3 hfz31_4 hfz31_5 hfz31_6
          try clear hfz8_0 hfz8_1 hfz8_2 hfz8_3 hfz8_4 hfz8_5 hfz8_6
          try clear hx105_0
          try clear hx105_1
          try clear hx105_2
          try clear hx105_3
          try clear hx105_4
          try clear hx105_5
          try clear hx105_6
          try clear hx108_0
          try clear hx108_1
          try clear hx108_2
          try clear hx108_3
          try clear hx108_4
          try clear hx108_5
          try clear hx108_6
          try clear p1
          try clear p10
          try clear p105
          try clear p108
          try clear p2
          try clear q1
          try clear q10
          try clear q105
          try clear q108
          obtain ⟨kq, x67_26, rfl, HA, HJ26, BK101, HB⟩ := hcut
          cases kq with
          | zero => exact absurd HA.out (by simp [cupolaref14_static.j3])
          | succ kj26 =>
           have H := HA.out
           clear HA
           simp only [cupolaref14_static.j3] at H
           by_cases c32 : x67_26 = true
           ·subst c32
            rw [if_pos rfl] at H
            obtain rfl := Option.some.inj H
            go_wp2
            go_ret
            exact ⟨by first | rfl | (simp [errW_none, errW_some] <;> rfl) | (simp [*, errW_none, errW_some] <;> rfl), bp9 HB.out⟩
           ·replace c32 := Bool.eq_false_iff.mpr c32
            subst c32
            rw [if_neg (show ¬ (false = true) by decide)] at H
            have HC33 := Aside0.mk H
            clear H
            go_upto_region 9 with (fail)
            go_cut [9] (fun v9 wc => ∃ (kq : Nat) (x9_32 : Bool), v9 = .bool x9_32 ∧ Aside0 (cupolaref14_static.j4 kq a1 a2 x7_2 x9_32 l0_0 l0_1 l0_2 l0_3 l0_4 l0_5 l0_6 = some r) ∧ Aside0 (kq ≤ kj26) ∧ Aside0 (wc.heap[gb101]? = some (.cells #[(.slice A0_0 l0_0.length c0_0), (.slice A0_1 l0_1.length c0_1), (.slice A0_2 l0_2.length c0_2), (.slice A0_3 l0_3.length c0_3), (.slice A0_4 l0_4.length c0_4), (.slice A0_5 l0_5.length c0_5), (.slice A0_6 l0_6.length c0_6)] 76 (0, 0))) ∧ Aside0 (Below w.heap.size w wc))
            case first =>
             have H := HC33.out
             clear HC33
             by_cases c34 : 0 ≤ x7_2
             ·rw [if_pos c34] at H
              have c34b0 : decide (0 ≤ x7_2) = true := decide_eq_true c34
              clear c34
              (first | rw [c34b0] | (simp only [i64_w, i32_w]; rw [c34b0]) | skip)
              by_cases c35 : x7_2 < (l0_0.length : Int)
              ·rw [if_pos c35] at H
               have c35b0 : decide (x7_2 < (l0_0.length : Int)) = true := decide_eq_true c35
               clear c35
               by_cases c36 : ((rd_T26 l0_0 x7_2).f1) = 6
               ·rw [if_pos c36] at H
                have c36b0 : (((rd_T26 l0_0 x7_2).f1) == 6) = true := beq_iff_eq.mpr c36
                have c36b1 : (((rd_T26 l0_0 x7_2).f1) != 6) = false := bne_eq_false_iff_eq.mpr c36
                clear c36
                replace H := Option.bind_eq_some_iff.mp H
                obtain ⟨t110, A370, H⟩ := H
                have A37 := Aside0.mk A370
                clear A370
                by_cases c38 : t110 = true
                ·subst c38
                 rw [if_pos rfl] at H
                 by_cases c39 : 0 ≤ a2
                 ·rw [if_pos c39] at H
                  have c39b0 : decide (0 ≤ a2) = true := decide_eq_true c39
                  clear c39
                  by_cases c40 : a2 < (l0_0.length : Int)
                  ·rw [if_pos c40] at H
                   have c40b0 : decide (a2 < (l0_0.length : Int)) = true := decide_eq_true c40
                   clear c40
                   have H' := Aside0.mk H
                   clear H
                   obtain ⟨hcz41_0, hcz41_1, hcz41_2, hcz41_3, hcz41_4, hcz41_5, hcz41_6, hfz41_0, hfz41_1, hfz41_2, hfz41_3, hfz41_4, hfz41_5, hfz41_6⟩ := cz7 BK101.out
                   have p109 : 0 ≤ (x7_2 : Int) := of_decide_eq_true (by first | (with_reducible assumption) | assumption)
                   have q109 : x7_2 < (l0_0.length : Int) := of_decide_eq_true (by first | (with_reducible assumption) | assumption)
                   obtain ⟨ad109, e109, hx109_0, hx109_1, hx109_2, hx109_3, hx109_4, hx109_5, hx109_6⟩ := at_T26 HR0_0.out x7_2 p109 q109
                   cases e109
                   replace hx109_0 := (HB.out.cell (World.block_lt_of_cell? w _ hx109_0)).trans hx109_0
                   replace hx109_1 := (HB.out.cell (World.block_lt_of_cell? w _ hx109_1)).trans hx109_1
                   replace hx109_2 := (HB.out.cell (World.block_lt_of_cell? w _ hx109_2)).trans hx109_2
                   replace hx109_3 := (HB.out.cell (World.block_lt_of_cell? w _ hx109_3)).trans hx109_3
                   replace hx109_4 := (HB.out.cell (World.block_lt_of_cell? w _ hx109_4)).trans hx109_4
                   replace hx109_5 := (HB.out.cell (World.block_lt_of_cell? w _ hx109_5)).trans hx109_5
                   replace hx109_6 := (HB.out.cell (World.block_lt_of_cell? w _ hx109_6)).trans hx109_6
                   replace p109 := eq_true p109
                   replace q109 := eq_true q109
                   go_wp2_with (first | (go_at_call 43; (with_reducible refine (cupolaref05_Has.calls kj26 _ _ l0_1 x7_2 a2 true _ ?side1 ?side2 A37.out).mono ?_); (case side1 => exact cp9 HR0_1.out HB.out); (case side2 => exact HC0_1.out); rintro e w' ⟨rfl, ⟨nd, rfl⟩⟩; have p111 : 0 ≤ (a2 : Int) := of_decide_eq_true (by first | (with_reducible assumption) | assumption); have q111 : a2 < (l0_0.length : Int) := of_decide_eq_true (by first | (with_reducible assumption) | assumption); obtain ⟨ad111, e111, hx111_0, hx111_1, hx111_2, hx111_3, hx111_4, hx111_5, hx111_6⟩ := at_T26 HR0_0.out a2 p111 q111; obtain rfl : ad109 = ad111 := (by injection e111); replace hx111_0 := (HB.out.cell (World.block_lt_of_cell? w _ hx111_0)).trans hx111_0; replace hx111_1 := (HB.out.cell (World.block_lt_of_cell? w _ hx111_1)).trans hx111_1; replace hx111_2 := (HB.out.cell (World.block_lt_of_cell? w _ hx111_2)).trans hx111_2; replace hx111_3 := (HB.out.cell (World.block_lt_of_cell? w _ hx111_3)).trans hx111_3; replace hx111_4 := (HB.out.cell (World.block_lt_of_cell? w _ hx111_4)).trans hx111_4; replace hx111_5 := (HB.out.cell (World.block_lt_of_cell? w _ hx111_5)).trans hx111_5; replace hx111_6 := (HB.out.cell (World.block_lt_of_cell? w _ hx111_6)).trans hx111_6; replace p111 := eq_true p111; replace q111 := eq_true q111))
                   go_meet
                   case rel => exact ⟨_, ((((rd_T26 l0_0 a2).f1) == 1)), (by first | rfl | (simp; done) | (simp [*]; done)), H', ⟨by have := HJ3.out; have := HK2.out; have := HJ19.out; have := HJ26.out; first | omega | exact Nat.le_refl _⟩, ⟨kp9 BK101.out⟩, ⟨bp9 HB.out⟩⟩
                  ·rw [if_neg c40] at H
                   exact absurd H (by simp)
                 ·rw [if_neg c39] at H
                  exact absurd H (by simp)
                ·replace c38 := Bool.eq_false_iff.mpr c38
                 subst c38
                 rw [if_neg (show ¬ (false = true) by decide)] at H
                 have H' := Aside0.mk H
                 clear H
                 obtain ⟨hcz42_0, hcz42_1, hcz42_2, hcz42_3, hcz42_4, hcz42_5, hcz42_6, hfz42_0, hfz42_1, hfz42_2, hfz42_3, hfz42_4, hfz42_5, hfz42_6⟩ := cz7 BK101.out
                 have p109 : 0 ≤ (x7_2 : Int) := of_decide_eq_true (by first | (with_reducible assumption) | assumption)
                 have q109 : x7_2 < (l0_0.length : Int) := of_decide_eq_true (by first | (with_reducible assumption) | assumption)
                 obtain ⟨ad109, e109, hx109_0, hx109_1, hx109_2, hx109_3, hx109_4, hx109_5, hx109_6⟩ := at_T26 HR0_0.out x7_2 p109 q109
                 cases e109
                 replace hx109_0 := (HB.out.cell (World.block_lt_of_cell? w _ hx109_0)).trans hx109_0
                 replace hx109_1 := (HB.out.cell (World.block_lt_of_cell? w _ hx109_1)).trans hx109_1
                 replace hx109_2 := (HB.out.cell (World.block_lt_of_cell? w _ hx109_2)).trans hx109_2
                 replace hx109_3 := (HB.out.cell (World.block_lt_of_cell? w _ hx109_3)).trans hx109_3
                 replace hx109_4 := (HB.out.cell (World.block_lt_of_cell? w _ hx109_4)).trans hx109_4
                 replace hx109_5 := (HB.out.cell (World.block_lt_of_cell? w _ hx109_5)).trans hx109_5
                 replace hx109_6 := (HB.out.cell (World.block_lt_of_cell? w _ hx109_6)).trans hx109_6
                 replace p109 := eq_true p109
                 replace q109 := eq_true q109
                 go_wp2_with (first | (go_at_call 43; (with_reducible refine (cupolaref05_Has.calls kj26 _ _ l0_1 x7_2 a2 false _ ?side1 ?side2 A37.out).mono ?_); (case side1 => exact cp9 HR0_1.out HB.out); (case side2 => exact HC0_1.out); rintro e w' ⟨rfl, ⟨nd, rfl⟩⟩))
                 go_meet
                 case rel => exact ⟨_, (false), (by first | rfl | (simp; done) | (simp [*]; done)), H', ⟨by have := HJ3.out; have := HK2.out; have := HJ19.out; have := HJ26.out; first | omega | exact Nat.le_refl _⟩, ⟨kp9 BK101.out⟩, ⟨bp9 HB.out⟩⟩
               ·rw [if_neg c36] at H
                have c36b0 : (((rd_T26 l0_0 x7_2).f1) == 6) = false := beq_eq_false_iff_ne.mpr c36
                have c36b1 : (((rd_T26 l0_0 x7_2).f1) != 6) = true := bne_iff_ne.mpr c36
                have H' := Aside0.mk H
                clear H
                obtain ⟨hcz43_0, hcz43_1, hcz43_2, hcz43_3, hcz43_4, hcz43_5, hcz43_6, hfz43_0, hfz43_1, hfz43_2, hfz43_3, hfz43_4, hfz43_5, hfz43_6⟩ := cz7 BK101.out
                have p109 : 0 ≤ (x7_2 : Int) := of_decide_eq_true (by first | (with_reducible assumption) | assumption)
                have q109 : x7_2 < (l0_0.length : Int) := of_decide_eq_true (by first | (with_reducible assumption) | assumption)
                obtain ⟨ad109, e109, hx109_0, hx109_1, hx109_2, hx109_3, hx109_4, hx109_5, hx109_6⟩ := at_T26 HR0_0.out x7_2 p109 q109
                cases e109
                replace hx109_0 := (HB.out.cell (World.block_lt_of_cell? w _ hx109_0)).trans hx109_0
                replace hx109_1 := (HB.out.cell (World.block_lt_of_cell? w _ hx109_1)).trans hx109_1
                replace hx109_2 := (HB.out.cell (World.block_lt_of_cell? w _ hx109_2)).trans hx109_2
                replace hx109_3 := (HB.out.cell (World.block_lt_of_cell? w _ hx109_3)).trans hx109_3
                replace hx109_4 := (HB.out.cell (World.block_lt_of_cell? w _ hx109_4)).trans hx109_4
                replace hx109_5 := (HB.out.cell (World.block_lt_of_cell? w _ hx109_5)).trans hx109_5
                replace hx109_6 := (HB.out.cell (World.block_lt_of_cell? w _ hx109_6)).trans hx109_6
                replace p109 := eq_true p109
                replace q109 := eq_true q109
                go_wp2
                go_meet
                case rel => exact ⟨_, (false), (by first | rfl | (simp; done) | (simp [*]; done)), H', ⟨by have := HJ3.out; have := HK2.out; have := HJ19.out; have := HJ26.out; first | omega | exact Nat.le_refl _⟩, ⟨kp9 BK101.out⟩, ⟨bp9 HB.out⟩⟩
              ·rw [if_neg c35] at H
               exact absurd H (by simp)
             ·rw [if_neg c34] at H
              exact absurd H (by simp)
            case rest =>
             clear HC33
             try clear c1
             try clear p1
             try clear q1
             try clear hx1
             try clear c2
             try clear p2
             try clear c3
             try clear c4
             try clear c7
             try clear c10
             try clear p10
             try clear q10
             try clear hx10
             try clear p11
             try clear q11
             try clear hx11
             try clear c13
             try clear c14
             try clear c14b0
             try clear c15
             try clear c15b0
             try clear c18
             try clear c19
             try clear c19b0
             try clear c23
             try clear c28
             try clear c29
             try clear c29b0
             try clear c30
             try clear c30b0
             try clear c32
             try clear c34
             try clear c34b0
             try clear c35
             try clear c35b0
             try clear c36
             try clear c36b0
             try clear c36b1
             try clear c38
             try clear c39
             try clear c39b0
             try clear c40
             try clear c40b0
             try clear c43
             try clear hcz11_0 hcz11_1 hcz11_2 hcz11_3 hcz11_4 hcz11_5 hcz11_6
             try clear hcz16_0 hcz16_1 hcz16_2 hcz16_3 hcz16_4 hcz16_5 hcz16_6
             try clear hcz17_0 hcz17_1 hcz17_2 hcz17_3 hcz17_4 hcz17_5 hcz17_6
             try clear hcz21_0 hcz21_1 hcz21_2 hcz21_3 hcz21_4 hcz21_5 hcz21_6
             try clear hcz25_0 hcz25_1 hcz25_2 hcz25_3 hcz25_4 hcz25_5 hcz25_6
             try clear hcz26_0 hcz26_1 hcz26_2 hcz26_3 hcz26_4 hcz26_5 hcz26_6
             try clear hcz31_0 hcz31_1 hcz31_2 hcz31_3 hcz31_4 hcz31_5 hcz31_6
             try clear hcz41_0 hcz41_1 hcz41_2 hcz41_3 hcz41_4 hcz41_5 hcz41_6
             try clear hcz42_0 hcz42_1 hcz42_2 hcz42_3 hcz42_4 hcz42_5 hcz42_6
             try clear hcz43_0 hcz43_1 hcz43_2 hcz43_3 hcz43_4 hcz43_5 hcz43_6
             try clear hcz8_0 hcz8_1 hcz8_2 hcz8_3 hcz8_4 hcz8_5 hcz8_6
             try clear hfz11_0 hfz11_1 hfz11_2 hfz11_3 hfz11_4 hfz11_5 hfz11_6
             try clear hfz16_0 hfz16_1 hfz16_2 hfz16_3 hfz16_4 hfz16_5 hfz16_6
             try clear hfz17_0 hfz17_1 hfz17_2 hfz17_3 hfz17_4 hfz17_5 hfz17_6
             try clear hfz21_0 hfz21_1 hfz21_2 hfz21_3 hfz21_4 hfz21_5 hfz21_6
             try clear hfz25_0 hfz25_1 hfz25_2 hfz25_3 hfz25_4 hfz25_5 hfz25_6
             try clear hfz26_0 hfz26_1 hfz26_2 hfz26_3 hfz26_4 hfz26_5 hfz26_6
             try clear hfz31_0 hfz31_1 hfz31_2 hfz31_3 hfz31_4 hfz31_5 hfz31_6
             try clear hfz41_0 hfz41_1 hfz41_2 hfz41_3 hfz41_4 hfz41_5 hfz41_6
             try clear hfz42_0 hfz42_1 hfz42_2 hfz42_3 hfz42_4 hfz42_5 hfz42_6
             try clear hfz43_0 hfz43_1 hfz43_2 hfz43_3 hfz43_4 hfz43_5 hfz43_6
             try clear hfz8_0 hfz8_1 hfz8_2 hfz8_3 hfz8_4 hfz8_5 hfz8_6
             try clear hx105_0
             try clear hx105_1
             try clear hx105_2
             try clear hx105_3
             try clear hx105_4
             try clear hx105_5
             try clear hx105_6
             try clear hx108_0
             try clear hx108_1
             try clear hx108_2
             try clear hx108_3
             try clear hx108_4
             try clear hx108_5
             try clear hx108_6
             try clear hx109_0
             try clear hx109_1
             try clear hx109_2
             try clear hx109_3
             try clear hx109_4
             try clear hx109_5
             try clear hx109_6
             try clear hx111_0
             try clear hx111_1
             try clear hx111_2
             try clear hx111_3
             try clear hx111_4
             try clear hx111_5
             try clear hx111_6
             try clear p1
             try clear p10
             try clear p105
             try clear p108
             try clear p109
             try clear p111
             try clear p2
             try clear q1
             try clear q10
             try clear q105
             try clear q108
             try clear q109
             try clear q111
             obtain ⟨kq, x9_32, rfl, HA, HJ32, BK101, HB⟩ := hcut
             cases kq with
             | zero => exact absurd HA.out (by simp [cupolaref14_static.j4])
             | succ kj32 =>
              have H := HA.out
              clear HA
              simp only [cupolaref14_static.j4] at H
              have HC44 := Aside0.mk H
              clear H
              go_upto_region 10 with (fail)
              go_cut [98] (fun v98 wc => ∃ (kq : Nat) (x98_43 : Bool), v98 = .bool x98_43 ∧ Aside0 (cupolaref14_static.j5 kq a1 a2 x7_2 x9_32 x98_43 l0_0 l0_1 l0_2 l0_3 l0_4 l0_5 l0_6 = some r) ∧ Aside0 (kq ≤ kj32) ∧ Aside0 (wc.heap[gb101]? = some (.cells #[(.slice A0_0 l0_0.length c0_0), (.slice A0_1 l0_1.length c0_1), (.slice A0_2 l0_2.length c0_2), (.slice A0_3 l0_3.length c0_3), (.slice A0_4 l0_4.length c0_4), (.slice A0_5 l0_5.length c0_5), (.slice A0_6 l0_6.length c0_6)] 76 (0, 0))) ∧ Aside0 (Below w.heap.size w wc))
              case first =>
               have H := HC44.out
               clear HC44
               by_cases c45 : x9_32 = true
               ·subst c45
                rw [if_pos rfl] at H
                replace H := Option.bind_eq_some_iff.mp H
                obtain ⟨t112, A460, H⟩ := H
                have A46 := Aside0.mk A460
                clear A460
                have H' := Aside0.mk H
                clear H
                obtain ⟨hcz47_0, hcz47_1, hcz47_2, hcz47_3, hcz47_4, hcz47_5, hcz47_6, hfz47_0, hfz47_1, hfz47_2, hfz47_3, hfz47_4, hfz47_5, hfz47_6⟩ := cz7 BK101.out
                go_wp2_with (first | (go_at_call 43; (with_reducible refine (cupolaref05_Has.calls kj32 _ _ l0_4 a1 x7_2 t112 _ ?side1 ?side2 A46.out).mono ?_); (case side1 => exact cp9 HR0_4.out HB.out); (case side2 => exact HC0_4.out); rintro e w' ⟨rfl, ⟨nd, rfl⟩⟩))
                go_meet
                case rel => exact ⟨_, (t112), (by first | rfl | (simp; done) | (simp [*]; done)), H', ⟨by have := HJ3.out; have := HK2.out; have := HJ19.out; have := HJ26.out; have := HJ32.out; first | omega | exact Nat.le_refl _⟩, ⟨kp9 BK101.out⟩, ⟨bp9 HB.out⟩⟩
               ·replace c45 := Bool.eq_false_iff.mpr c45
                subst c45
                rw [if_neg (show ¬ (false = true) by decide)] at H
                have H' := Aside0.mk H
                clear H
                go_wp2
                go_meet
                case rel => exact ⟨_, (false), (by first | rfl | (simp; done) | (simp [*]; done)), H', ⟨by have := HJ3.out; have := HK2.out; have := HJ19.out; have := HJ26.out; have := HJ32.out; first | omega | exact Nat.le_refl _⟩, ⟨kp9 BK101.out⟩, ⟨bp9 HB.out⟩⟩
              case rest =>
               clear HC44
               try clear c1
               try clear p1
               try clear q1
               try clear hx1
               try clear c2
               try clear p2
               try clear c3
               try clear c4
               try clear c7
               try clear c10
               try clear p10
               try clear q10
               try clear hx10
               try clear p11
               try clear q11
               try clear hx11
               try clear c13
               try clear c14
               try clear c14b0
               try clear c15
               try clear c15b0
               try clear c18
               try clear c19
               try clear c19b0
               try clear c23
               try clear c28
               try clear c29
               try clear c29b0
               try clear c30
               try clear c30b0
               try clear c32
               try clear c34
               try clear c34b0
               try clear c35
               try clear c35b0
               try clear c36
               try clear c36b0
               try clear c36b1
               try clear c38
               try clear c39
               try clear c39b0
               try clear c40
               try clear c40b0
               try clear c43
               try clear c45
               try clear hcz11_0 hcz11_1 hcz11_2 hcz11_3 hcz11_4 hcz11_5 hcz11_6
               try clear hcz16_0 hcz16_1 hcz16_2 hcz16_3 hcz16_4 hcz16_5 hcz16_6
               try clear hcz17_0 hcz17_1 hcz17_2 hcz17_3 hcz17_4 hcz17_5 hcz17_6
               try clear hcz21_0 hcz21_1 hcz21_2 hcz21_3 hcz21_4 hcz21_5 hcz21_6
               try clear hcz25_0 hcz25_1 hcz25_2 hcz25_3 hcz25_4 hcz25_5 hcz25_6
               try clear hcz26_0 hcz26_1 hcz26_2 hcz26_3 hcz26_4 hcz26_5 hcz26_6
               try clear hcz31_0 hcz31_1 hcz31_2 hcz31_3 hcz31_4 hcz31_5 hcz31_6
               try clear hcz41_0 hcz41_1 hcz41_2 hcz41_3 hcz41_4 hcz41_5 hcz41_6
               try clear hcz42_0 hcz42_1 hcz42_2 hcz42_3 hcz42_4 hcz42_5 hcz42_6
               try clear hcz43_0 hcz43_1 hcz43_2 hcz43_3 hcz43_4 hcz43_5 hcz43_6
               try clear hcz47_0 hcz47_1 hcz47_2 hcz47_3 hcz47_4 hcz47_5 hcz47_6
               try clear hcz8_0 hcz8_1 hcz8_2 hcz8_3 hcz8_4 hcz8_5 hcz8_6
               try clear hfz11_0 hfz11_1 hfz11_2 hfz11_3 hfz11_4 hfz11_5 hfz11_6
               try clear hfz16_0 hfz16_1 hfz16_2 hfz16_3 hfz16_4 hfz16_5 hfz16_6
               try clear hfz17_0 hfz17_1 hfz17_2 hfz17_3 hfz17_4 hfz17_5 hfz17_6
               try clear hfz21_0 hfz21_1 hfz21_2 hfz21_3 hfz21_4 hfz21_5 hfz21_6
               try clear hfz25_0 hfz25_1 hfz25_2 hfz25_3 hfz25_4 hfz25_5 hfz25_6
               try clear hfz26_0 hfz26_1 hfz26_2 hfz26_3 hfz26_4 hfz26_5 hfz26_6
               try clear hfz31_0 hfz31_1 hfz31_2 hfz31_3 hfz31_4 hfz31_5 hfz31_6
               try clear hfz41_0 hfz41_1 hfz41_2 hfz41_3 hfz41_4 hfz41_5 hfz41_6
               try clear hfz42_0 hfz42_1 hfz42_2 hfz42_3 hfz42_4 hfz42_5 hfz42_6
               try clear hfz43_0 hfz43_1 hfz43_2 hfz43_3 hfz43_4 hfz43_5 hfz43_6
               try clear hfz47_0 hfz47_1 hfz47_2 hfz47_3 hfz47_4 hfz47_5 hfz47_6
               try clear hfz8_0 hfz8_1 hfz8_2 hfz8_3 hfz8_4 hfz8_5 hfz8_6
               try clear hx105_0
               try clear hx105_1
               try clear hx105_2
               try clear hx105_3
               try clear hx105_4
               try clear hx105_5
               try clear hx105_6
               try clear hx108_0
               try clear hx108_1
               try clear hx108_2
               try clear hx108_3
               try clear hx108_4
               try clear hx108_5
               try clear hx108_6
               try clear hx109_0
               try clear hx109_1
               try clear hx109_2
               try clear hx109_3
               try clear hx109_4
               try clear hx109_5
               try clear hx109_6
               try clear hx111_0
               try clear hx111_1
               try clear hx111_2
               try clear hx111_3
               try clear hx111_4
               try clear hx111_5
               try clear hx111_6
               try clear p1
               try clear p10
               try clear p105
               try clear p108
               try clear p109
               try clear p11
               try clear p111
               try clear p2
               try clear q1
               try clear q10
               try clear q105
               try clear q108
               try clear q109
               try clear q11
               try clear q111
               obtain ⟨kq, x98_43, rfl, HA, HJ43, BK101, HB⟩ := hcut
               cases kq with
               | zero => exact absurd HA.out (by simp [cupolaref14_static.j5])
               | succ kj43 =>
                have H := HA.out
                clear HA
                simp only [cupolaref14_static.j5] at H
                by_cases c48 : x98_43 = true
                ·subst c48
                 rw [if_pos rfl] at H
                 obtain rfl := Option.some.inj H
                 go_wp2
                 go_ret
                 exact ⟨by first | rfl | (simp [errW_none, errW_some] <;> rfl) | (simp [*, errW_none, errW_some] <;> rfl), bp9 HB.out⟩
                ·replace c48 := Bool.eq_false_iff.mpr c48
                 subst c48
                 rw [if_neg (show ¬ (false = true) by decide)] at H
                 have H' := Aside0.mk H
                 clear H
                 go_wp2
                 go_loopg [10] kj43 (fun kq v10 w' => ∃ (x10_7 : Int), v10 = .int .i64 x10_7 ∧ Aside0 (cupolaref14_static.l1 kq a1 a2 x7_2 x9_32 x10_7 l0_0 l0_1 l0_2 l0_3 l0_4 l0_5 l0_6 = some r) ∧ Aside0 (kq ≤ kj43) ∧ Aside0 (w'.heap[gb101]? = some (.cells #[(.slice A0_0 l0_0.length c0_0), (.slice A0_1 l0_1.length c0_1), (.slice A0_2 l0_2.length c0_2), (.slice A0_3 l0_3.length c0_3), (.slice A0_4 l0_4.length c0_4), (.slice A0_5 l0_5.length c0_5), (.slice A0_6 l0_6.length c0_6)] 76 (0, 0))) ∧ Aside0 (Below w.heap.size w w'))
                 case atStart => exact ⟨(0), (by first | rfl | (simp; done) | (simp [*]; done)), H', ⟨Nat.le_refl _⟩, ⟨kp9 BK101.out⟩, ⟨bp9 HB.out⟩⟩
                 case round =>
                  clear H'
                  try clear c1
                  try clear p1
                  try clear q1
                  try clear hx1
                  try clear c2
                  try clear p2
                  try clear c3
                  try clear c4
                  try clear c7
                  try clear c10
                  try clear p10
                  try clear q10
                  try clear hx10
                  try clear p11
                  try clear q11
                  try clear hx11
                  try clear c13
                  try clear c14
                  try clear c14b0
                  try clear c15
                  try clear c15b0
                  try clear c18
                  try clear c19
                  try clear c19b0
                  try clear c23
                  try clear c28
                  try clear c29
                  try clear c29b0
                  try clear c30
                  try clear c30b0
                  try clear c32
                  try clear c34
                  try clear c34b0
                  try clear c35
                  try clear c35b0
                  try clear c36
                  try clear c36b0
                  try clear c36b1
                  try clear c38
                  try clear c39
                  try clear c39b0
                  try clear c40
                  try clear c40b0
                  try clear c43
                  try clear c45
                  try clear c48
                  try clear hcz11_0 hcz11_1 hcz11_2 hcz11_3 hcz11_4 hcz11_5 hcz11_6
                  try clear hcz16_0 hcz16_1 hcz16_2 hcz16_3 hcz16_4 hcz16_5 hcz16_6
                  try clear hcz17_0 hcz17_1 hcz17_2 hcz17_3 hcz17_4 hcz17_5 hcz17_6
                  try clear hcz21_0 hcz21_1 hcz21_2 hcz21_3 hcz21_4 hcz21_5 hcz21_6
                  try clear hcz25_0 hcz25_1 hcz25_2 hcz25_3 hcz25_4 hcz25_5 hcz25_6
                  try clear hcz26_0 hcz26_1 hcz26_2 hcz26_3 hcz26_4 hcz26_5 hcz26_6
                  try clear hcz31_0 hcz31_1 hcz31_2 hcz31_3 hcz31_4 hcz31_5 hcz31_6
                  try clear hcz41_0 hcz41_1 hcz41_2 hcz41_3 hcz41_4 hcz41_5 hcz41_6
                  try clear hcz42_0 hcz42_1 hcz42_2 hcz42_3 hcz42_4 hcz42_5 hcz42_6
                  try clear hcz43_0 hcz43_1 hcz43_2 hcz43_3 hcz43_4 hcz43_5 hcz43_6
                  try clear hcz47_0 hcz47_1 hcz47_2 hcz47_3 hcz47_4 hcz47_5 hcz47_6
                  try clear hcz8_0 hcz8_1 hcz8_2 hcz8_3 hcz8_4 hcz8_5 hcz8_6
                  try clear hfz11_0 hfz11_1 hfz11_2 hfz11_3 hfz11_4 hfz11_5 hfz11_6
                  try clear hfz16_0 hfz16_1 hfz16_2 hfz16_3 hfz16_4 hfz16_5 hfz16_6
                  try clear hfz17_0 hfz17_1 hfz17_2 hfz17_3 hfz17_4 hfz17_5 hfz17_6
                  try clear hfz21_0 hfz21_1 hfz21_2 hfz21_3 hfz21_4 hfz21_5 hfz21_6
                  try clear hfz25_0 hfz25_1 hfz25_2 hfz25_3 hfz25_4 hfz25_5 hfz25_6
                  try clear hfz26_0 hfz26_1 hfz26_2 hfz26_3 hfz26_4 hfz26_5 hfz26_6
                  try clear hfz31_0 hfz31_1 hfz31_2 hfz31_3 hfz31_4 hfz31_5 hfz31_6
                  try clear hfz41_0 hfz41_1 hfz41_2 hfz41_3 hfz41_4 hfz41_5 hfz41_6
                  try clear hfz42_0 hfz42_1 hfz42_2 hfz42_3 hfz42_4 hfz42_5 hfz42_6
                  try clear hfz43_0 hfz43_1 hfz43_2 hfz43_3 hfz43_4 hfz43_5 hfz43_6
                  try clear hfz47_0 hfz47_1 hfz47_2 hfz47_3 hfz47_4 hfz47_5 hfz47_6
                  try clear hfz8_0 hfz8_1 hfz8_2 hfz8_3 hfz8_4 hfz8_5 hfz8_6
                  try clear hx105_0
                  try clear hx105_1
                  try clear hx105_2
                  try clear hx105_3
                  try clear hx105_4
                  try clear hx105_5
                  try clear hx105_6
                  try clear hx108_0
                  try clear hx108_1
                  try clear hx108_2
                  try clear hx108_3
                  try clear hx108_4
                  try clear hx108_5
                  try clear hx108_6
                  try clear hx109_0
                  try clear hx109_1
                  try clear hx109_2
                  try clear hx109_3
                  try clear hx109_4
                  try clear hx109_5
                  try clear hx109_6
                  try clear hx111_0
                  try clear hx111_1
                  try clear hx111_2
                  try clear hx111_3
                  try clear hx111_4
                  try clear hx111_5
                  try clear hx111_6
                  try clear p1
                  try clear p10
                  try clear p105
                  try clear p108
                  try clear p109
                  try clear p11
                  try clear p111
                  try clear p2
                  try clear q1
                  try clear q10
                  try clear q105
                  try clear q108
                  try clear q109
                  try clear q11
                  try clear q111
                  obtain ⟨x10_7, rfl, HA, HK7, BK101, HB⟩ := hrel
                  cases gk with
                  | zero => exact absurd HA.out (by simp [cupolaref14_static.l1])
                  | succ k7 =>
                   have H := HA.out
                   clear HA
                   simp only [cupolaref14_static.l1] at H
                   have HC49 := Aside0.mk H
                   clear H
                   go_upto_region 13 with (fail)
                   go_cut [106] (fun v106 wc => ∃ (kq : Nat) (x106_48 : Bool), v106 = .bool x106_48 ∧ Aside0 (cupolaref14_static.j7 kq a1 a2 x7_2 x9_32 x10_7 x106_48 l0_0 l0_1 l0_2 l0_3 l0_4 l0_5 l0_6 = some r) ∧ Aside0 (kq ≤ k7) ∧ Aside0 (wc.heap[gb101]? = some (.cells #[(.slice A0_0 l0_0.length c0_0), (.slice A0_1 l0_1.length c0_1), (.slice A0_2 l0_2.length c0_2), (.slice A0_3 l0_3.length c0_3), (.slice A0_4 l0_4.length c0_4), (.slice A0_5 l0_5.length c0_5), (.slice A0_6 l0_6.length c0_6)] 76 (0, 0))) ∧ Aside0 (Below w.heap.size w wc))
                   case first =>
                    have H := HC49.out
                    clear HC49
                    by_cases c50 : x10_7 < (l0_0.length : Int)
                    ·rw [if_pos c50] at H
                     have c50b0 : decide (x10_7 < (l0_0.length : Int)) = true := decide_eq_true c50
                     clear c50
                     (first | rw [c50b0] | (simp only [i64_w, i32_w]; rw [c50b0]) | skip)
                     have H' := Aside0.mk H
                     clear H
                     obtain ⟨hcz51_0, hcz51_1, hcz51_2, hcz51_3, hcz51_4, hcz51_5, hcz51_6, hfz51_0, hfz51_1, hfz51_2, hfz51_3, hfz51_4, hfz51_5, hfz51_6⟩ := cz7 BK101.out
                     go_wp2
                     go_meet
                     case rel => exact ⟨_, (x9_32), (by first | rfl | (simp; done) | (simp [*]; done)), H', ⟨by have := HJ3.out; have := HK2.out; have := HJ19.out; have := HJ26.out; have := HJ32.out; have := HJ43.out; have := HK7.out; first | omega | exact Nat.le_refl _⟩, ⟨kp9 BK101.out⟩, ⟨bp9 HB.out⟩⟩
                    ·rw [if_neg c50] at H
                     have c50b0 : decide (x10_7 < (l0_0.length : Int)) = false := decide_eq_false c50
                     clear c50
                     (first | rw [c50b0] | (simp only [i64_w, i32_w]; rw [c50b0]) | skip)
                     have H' := Aside0.mk H
                     clear H
                     obtain ⟨hcz52_0, hcz52_1, hcz52_2, hcz52_3, hcz52_4, hcz52_5, hcz52_6, hfz52_0, hfz52_1, hfz52_2, hfz52_3, hfz52_4, hfz52_5, hfz52_6⟩ := cz7 BK101.out
                     go_wp2
                     go_meet
                     case rel => exact ⟨_, (false), (by first | rfl | (simp; done) | (simp [*]; done)), H', ⟨by have := HJ3.out; have := HK2.out; have := HJ19.out; have := HJ26.out; have := HJ32.out; have := HJ43.out; have := HK7.out; first | omega | exact Nat.le_refl _⟩, ⟨kp9 BK101.out⟩, ⟨bp9 HB.out⟩⟩
                   case rest =>
                    clear HC49
                    try clear c1
                    try clear p1
                    try clear q1
                    try clear hx1
                    try clear c2
                    try clear p2
                    try clear c3
                    try clear c4
                    try clear c5
                    try clear c7
                    try clear c10
                    try clear p10
                    try clear q10
                    try clear hx10
                    try clear p11
                    try clear q11
                    try clear hx11
                    try clear c13
                    try clear c14
                    try clear c14b0
                    try clear c15
                    try clear c15b0
                    try clear c18
                    try clear c19
                    try clear c19b0
                    try clear c23
                    try clear c28
                    try clear c29
                    try clear c29b0
                    try clear c30
                    try clear c30b0
                    try clear c32
                    try clear c34
                    try clear c34b0
                    try clear c35
                    try clear c35b0
                    try clear c36
                    try clear c36b0
                    try clear c36b1
                    try clear c38
                    try clear c39
                    try clear c39b0
                    try clear c40
                    try clear c40b0
                    try clear c43
                    try clear c45
                    try clear c48
                    try clear c50
                    try clear c50b0
                    try clear hcz11_0 hcz11_1 hcz11_2 hcz11_3 hcz11_4 hcz11_5 hcz11_6
                    try clear hcz16_0 hcz16_1 hcz16_2 hcz16_3 hcz16_4 hcz16_5 hcz16_6
                    try clear hcz17_0 hcz17_1 hcz17_2 hcz17_3 hcz17_4 hcz17_5 hcz17_6
                    try clear hcz21_0 hcz21_1 hcz21_2 hcz21_3 hcz21_4 hcz21_5 hcz21_6
                    try clear hcz25_0 hcz25_1 hcz25_2 hcz25_3 hcz25_4 hcz25_5 hcz25_6
                    try clear hcz26_0 hcz26_1 hcz26_2 hcz26_3 hcz26_4 hcz26_5 hcz26_6
                    try clear hcz31_0 hcz31_1 hcz31_2 hcz31_3 hcz31_4 hcz31_5 hcz31_6
                    try clear hcz41_0 hcz41_1 hcz41_2 hcz41_3 hcz41_4 hcz41_5 hcz41_6
                    try clear hcz42_0 hcz42_1 hcz42_2 hcz42_3 hcz42_4 hcz42_5 hcz42_6
                    try clear hcz43_0 hcz43_1 hcz43_2 hcz43_3 hcz43_4 hcz43_5 hcz43_6
                    try clear hcz47_0 hcz47_1 hcz47_2 hcz47_3 hcz47_4 hcz47_5 hcz47_6
                    try clear hcz51_0 hcz51_1 hcz51_2 hcz51_3 hcz51_4 hcz51_5 hcz51_6
                    try clear hcz52_0 hcz52_1 hcz52_2 hcz52_3 hcz52_4 hcz52_5 hcz52_6
                    try clear hcz8_0 hcz8_1 hcz8_2 hcz8_3 hcz8_4 hcz8_5 hcz8_6
                    try clear hfz11_0 hfz11_1 hfz11_2 hfz11_3 hfz11_4 hfz11_5 hfz11_6
                    try clear hfz16_0 hfz16_1 hfz16_2 hfz16_3 hfz16_4 hfz16_5 hfz16_6
                    try clear hfz17_0 hfz17_1 hfz17_2 hfz17_3 hfz17_4 hfz17_5 hfz17_6
                    try clear hfz21_0 hfz21_1 hfz21_2 hfz21_3 hfz21_4 hfz21_5 hfz21_6
                    try clear hfz25_0 hfz25_1 hfz25_2 hfz25_3 hfz25_4 hfz25_5 hfz25_6
                    try clear hfz26_0 hfz26_1 hfz26_2 hfz26_3 hfz26_4 hfz26_5 hfz26_6
                    try clear hfz31_0 hfz31_1 hfz31_2 hfz31_3 hfz31_4 hfz31_5 hfz31_6
                    try clear hfz41_0 hfz41_1 hfz41_2 hfz41_3 hfz41_4 hfz41_5 hfz41_6
                    try clear hfz42_0 hfz42_1 hfz42_2 hfz42_3 hfz42_4 hfz42_5 hfz42_6
                    try clear hfz43_0 hfz43_1 hfz43_2 hfz43_3 hfz43_4 hfz43_5 hfz43_6
                    try clear hfz47_0 hfz47_1 hfz47_2 hfz47_3 hfz47_4 hfz47_5 hfz47_6
                    try clear hfz51_0 hfz51_1 hfz51_2 hfz51_3 hfz51_4 hfz51_5 hfz51_6
                    try clear hfz52_0 hfz52_1 hfz52_2 hfz52_3 hfz52_4 hfz52_5 hfz52_6
                    try clear hfz8_0 hfz8_1 hfz8_2 hfz8_3 hfz8_4 hfz8_5 hfz8_6
                    try clear hx105_0
                    try clear hx105_1
                    try clear hx105_2
                    try clear hx105_3
                    try clear hx105_4
                    try clear hx105_5
                    try clear hx105_6
                    try clear hx108_0
                    try clear hx108_1
                    try clear hx108_2
                    try clear hx108_3
                    try clear hx108_4
                    try clear hx108_5
                    try clear hx108_6
                    try clear hx109_0
                    try clear hx109_1
                    try clear hx109_2
                    try clear hx109_3
                    try clear hx109_4
                    try clear hx109_5
                    try clear hx109_6
                    try clear hx111_0
                    try clear hx111_1
                    try clear hx111_2
                    try clear hx111_3
                    try clear hx111_4
                    try clear hx111_5
                    try clear hx111_6
                    try clear p1
                    try clear p10
                    try clear p105
                    try clear p108
                    try clear p109
                    try clear p11
                    try clear p111
                    try clear p2
                    try clear q1
                    try clear q10
                    try clear q105
                    try clear q108
                    try clear q109
                    try clear q11
                    try clear q111
                    obtain ⟨kq, x106_48, rfl, HA, HJ48, BK101, HB⟩ := hcut
                    cases kq with
                    | zero => exact absurd HA.out (by simp [cupolaref14_static.j7])
                    | succ kj48 =>
                     have H := HA.out
                     clear HA
                     simp only [cupolaref14_static.j7] at H
                     by_cases c53 : x106_48 = true
                     ·subst c53
                      rw [if_pos rfl] at H
                      replace H := Option.bind_eq_some_iff.mp H
                      obtain ⟨t113, A540, H⟩ := H
                      have A54 := Aside0.mk A540
                      clear A540
                      by_cases c55 : t113 = true
                      ·subst c55
                       rw [if_pos rfl] at H
                       replace H := Option.bind_eq_some_iff.mp H
                       obtain ⟨t114, A560, H⟩ := H
                       have A56 := Aside0.mk A560
                       clear A560
                       by_cases c57 : t114 = true
                       ·subst c57
                        rw [if_pos rfl] at H
                        obtain rfl := Option.some.inj H
                        obtain ⟨hcz58_0, hcz58_1, hcz58_2, hcz58_3, hcz58_4, hcz58_5, hcz58_6, hfz58_0, hfz58_1, hfz58_2, hfz58_3, hfz58_4, hfz58_5, hfz58_6⟩ := cz7 BK101.out
                        go_wp2_with (first | ((with_reducible refine gate_callee (f := 43) rfl ?_); refine goesL9 (some 113) rfl rfl Try.func43 (by kernel_rfl) rfl #[.slice A0_2 l0_2.length c0_2, .int .i64 a1, .int .i64 x10_7] rfl ?_; (with_reducible refine (cupolaref05_Has.calls kj48 _ _ l0_2 a1 x10_7 true _ ?side1 ?side2 A54.out).mono ?_); (case side1 => exact cp9 HR0_2.out HB.out); (case side2 => exact HC0_2.out); rintro e w' ⟨rfl, ⟨nd, rfl⟩⟩; refine ⟨_, rfl, ?_⟩) | (go_at_call 43; (with_reducible refine (cupolaref05_Has.calls kj48 _ _ l0_1 x10_7 x7_2 true _ ?side1 ?side2 A56.out).mono ?_); (case side1 => repeat (first | exact (Kd.C_below HR0_1.out (bp9 HB.out)) | (with_reducible refine Kd.C_alloc ?_ _) | (with_reducible refine Kd.C_drewN ?_ _) | (with_reducible refine Kd.C_drew ?_))); (case side2 => exact HC0_1.out); rintro e w' ⟨rfl, ⟨nd, rfl⟩⟩))
                        go_ret
                        exact ⟨by first | rfl | (simp [errW_none, errW_some] <;> rfl) | (simp [*, errW_none, errW_some] <;> rfl), bp9 HB.out⟩
                       ·replace c57 := Bool.eq_false_iff.mpr c57
                        subst c57
                        rw [if_neg (show ¬ (false = true) by decide)] at H
                        have H' := Aside0.mk H
                        clear H
                        obtain ⟨hcz59_0, hcz59_1, hcz59_2, hcz59_3, hcz59_4, hcz59_5, hcz59_6, hfz59_0, hfz59_1, hfz59_2, hfz59_3, hfz59_4, hfz59_5, hfz59_6⟩ := cz7 BK101.out
                        go_wp2_with (first | ((with_reducible refine gate_callee (f := 43) rfl ?_); refine goesL9 (some 113) rfl rfl Try.func43 (by kernel_rfl) rfl #[.slice A0_2 l0_2.length c0_2, .int .i64 a1, .int .i64 x10_7] rfl ?_; (with_reducible refine (cupolaref05_Has.calls kj48 _ _ l0_2 a1 x10_7 true _ ?side1 ?side2 A54.out).mono ?_); (case side1 => exact cp9 HR0_2.out HB.out); (case side2 => exact HC0_2.out); rintro e w' ⟨rfl, ⟨nd, rfl⟩⟩; refine ⟨_, rfl, ?_⟩) | (go_at_call 43; (with_reducible refine (cupolaref05_Has.calls kj48 _ _ l0_1 x10_7 x7_2 false _ ?side1 ?side2 A56.out).mono ?_); (case side1 => repeat (first | exact (Kd.C_below HR0_1.out (bp9 HB.out)) | (with_reducible refine Kd.C_alloc ?_ _) | (with_reducible refine Kd.C_drewN ?_ _) | (with_reducible refine Kd.C_drew ?_))); (case side2 => exact HC0_1.out); rintro e w' ⟨rfl, ⟨nd, rfl⟩⟩))
                        go_roundg kj48
                        case measure => have := HJ3.out; have := HK2.out; have := HJ19.out; have := HJ26.out; have := HJ32.out; have := HJ43.out; have := HK7.out; have := HJ48.out; omega
                        case rel => exact ⟨(wrap64 (x10_7 + 1)), (by first | rfl | (simp; done) | (simp [*]; done)), H', ⟨by have := HJ3.out; have := HK2.out; have := HJ19.out; have := HJ26.out; have := HJ32.out; have := HJ43.out; have := HK7.out; have := HJ48.out; omega⟩, ⟨kp9 BK101.out⟩, ⟨bp9 HB.out⟩⟩
                      ·replace c55 := Bool.eq_false_iff.mpr c55
                       subst c55
                       rw [if_neg (show ¬ (false = true) by decide)] at H
                       have H' := Aside0.mk H
                       clear H
                       obtain ⟨hcz60_0, hcz60_1, hcz60_2, hcz60_3, hcz60_4, hcz60_5, hcz60_6, hfz60_0, hfz60_1, hfz60_2, hfz60_3, hfz60_4, hfz60_5, hfz60_6⟩ := cz7 BK101.out
                       go_wp2_with (first | ((with_reducible refine gate_callee (f := 43) rfl ?_); refine goesL9 (some 113) rfl rfl Try.func43 (by kernel_rfl) rfl #[.slice A0_2 l0_2.length c0_2, .int .i64 a1, .int .i64 x10_7] rfl ?_; (with_reducible refine (cupolaref05_Has.calls kj48 _ _ l0_2 a1 x10_7 false _ ?side1 ?side2 A54.out).mono ?_); (case side1 => exact cp9 HR0_2.out HB.out); (case side2 => exact HC0_2.out); rintro e w' ⟨rfl, ⟨nd, rfl⟩⟩; refine ⟨_, rfl, ?_⟩))
                       go_roundg kj48
                       case measure => have := HJ3.out; have := HK2.out; have := HJ19.out; have := HJ26.out; have := HJ32.out; have := HJ43.out; have := HK7.out; have := HJ48.out; omega
                       case rel => exact ⟨(wrap64 (x10_7 + 1)), (by first | rfl | (simp; done) | (simp [*]; done)), H', ⟨by have := HJ3.out; have := HK2.out; have := HJ19.out; have := HJ26.out; have := HJ32.out; have := HJ43.out; have := HK7.out; have := HJ48.out; omega⟩, ⟨kp9 BK101.out⟩, ⟨bp9 HB.out⟩⟩
                     ·replace c53 := Bool.eq_false_iff.mpr c53
                      subst c53
                      rw [if_neg (show ¬ (false = true) by decide)] at H
                      have H' := Aside0.mk H
                      clear H
                      go_wp2
                      go_roundg kj48
                      case measure => have := HJ3.out; have := HK2.out; have := HJ19.out; have := HJ26.out; have := HJ32.out; have := HJ43.out; have := HK7.out; have := HJ48.out; omega
                      case rel => exact ⟨(wrap64 (x7_2 + 1)), (by first | rfl | (simp; done) | (simp [*]; done)), H', ⟨by have := HJ3.out; have := HK2.out; have := HJ19.out; have := HJ26.out; have := HJ32.out; have := HJ43.out; have := HK7.out; have := HJ48.out; omega⟩, ⟨kp9 BK101.out⟩, ⟨bp9 HB.out⟩⟩
      ·rw [if_neg c19] at H
       have c19b0 : decide (x7_2 < (l0_0.length : Int)) = false := decide_eq_false c19
       clear c19
       obtain rfl := Option.some.inj H
       obtain ⟨hcz61_0, hcz61_1, hcz61_2, hcz61_3, hcz61_4, hcz61_5, hcz61_6, hfz61_0, hfz61_1, hfz61_2, hfz61_3, hfz61_4, hfz61_5, hfz61_6⟩ := cz7 BK101.out
       go_wp2
       go_ret
       exact ⟨by first | rfl | (simp [errW_none, errW_some] <;> rfl) | (simp [*, errW_none, errW_some] <;> rfl), bp9 HB.out⟩

/-! ### cupolaref14_Static: function 83 -/
mutual
def cupolaref14_Static.l0 : Nat → List (S46) → Int → Int → List (S26) → List Int → List Int → List Int → List Int → List Int → List (List Int) → Option (List Int)
 | 0, _, _, _, _, _, _, _, _, _, _ => none
 | k + 1, x3, x4, x5, x102000, x102001, x102002, x102003, x102004, x102005, x102006 => if x5 < x4 then (cupolaref14_Static.l1 k x3 x4 x5 0 x102000 x102001 x102002 x102003 x102004 x102005 x102006) else ((cupolaref05_Made.f k x4 x3).bind fun t102 => (some t102))
def cupolaref14_Static.l1 : Nat → List (S46) → Int → Int → Int → List (S26) → List Int → List Int → List Int → List Int → List Int → List (List Int) → Option (List Int)
 | 0, _, _, _, _, _, _, _, _, _, _, _ => none
 | k + 1, x3, x4, x5, x6, x102000, x102001, x102002, x102003, x102004, x102005, x102006 => if x6 < x4 then ((cupolaref14_Mem.f x102000 x102001 x102002 x102003 x102004 x102005 x102006 x5).bind fun t105 => (if t105 = true then ((cupolaref14_Mem.f x102000 x102001 x102002 x102003 x102004 x102005 x102006 x6).bind fun t106 => (if t106 = true then ((cupolaref14_static.f k x102000 x102001 x102002 x102003 x102004 x102005 x102006 x5 x6).bind fun t107 => (if t107 = true then (if x3.length < 8796093022208 then (cupolaref14_Static.l1 k (x3 ++ [(⟨x5, x6⟩ : S46)]) x4 x5 (wrap64 (x6 + 1)) x102000 x102001 x102002 x102003 x102004 x102005 x102006) else (none)) else (cupolaref14_Static.l1 k x3 x4 x5 (wrap64 (x6 + 1)) x102000 x102001 x102002 x102003 x102004 x102005 x102006))) else (cupolaref14_Static.l1 k x3 x4 x5 (wrap64 (x6 + 1)) x102000 x102001 x102002 x102003 x102004 x102005 x102006))) else (cupolaref14_Static.l1 k x3 x4 x5 (wrap64 (x6 + 1)) x102000 x102001 x102002 x102003 x102004 x102005 x102006))) else (cupolaref14_Static.l0 k x3 x4 (wrap64 (x5 + 1)) x102000 x102001 x102002 x102003 x102004 x102005 x102006)
end
def cupolaref14_Static.f (k : Nat) (l0_0 : List (S26)) (l0_1 : List Int) (l0_2 : List Int) (l0_3 : List Int) (l0_4 : List Int) (l0_5 : List Int) (l0_6 : List (List Int)) : Option (List Int) := cupolaref14_Static.l0 k ([] : List (S46)) (l0_0.length : Int) 0 l0_0 l0_1 l0_2 l0_3 l0_4 l0_5 l0_6
set_option maxHeartbeats 8000000 in
set_option maxRecDepth 100000 in
theorem cupolaref14_Static.calls (k : Nat) (A0_0 : Option Addr) (c0_0 : Nat) (l0_0 : List (S26)) (A0_1 : Option Addr) (c0_1 : Nat) (l0_1 : List Int) (A0_2 : Option Addr) (c0_2 : Nat) (l0_2 : List Int) (A0_3 : Option Addr) (c0_3 : Nat) (l0_3 : List Int) (A0_4 : Option Addr) (c0_4 : Nat) (l0_4 : List Int) (A0_5 : Option Addr) (c0_5 : Nat) (l0_5 : List Int) (A0_6 : Option Addr) (c0_6 : Nat) (l0_6 : List (List Int)) (r : List Int) (w : World) (hr0_0 : Kd.C k26 w A0_0 l0_0.length l0_0) (hc0_0 : l0_0.length ≤ c0_0) (hr0_1 : Kd.C (Kd.int .u32) w A0_1 l0_1.length l0_1) (hc0_1 : l0_1.length ≤ c0_1) (hr0_2 : Kd.C (Kd.int .u32) w A0_2 l0_2.length l0_2) (hc0_2 : l0_2.length ≤ c0_2) (hr0_3 : Kd.C (Kd.int .u32) w A0_3 l0_3.length l0_3) (hc0_3 : l0_3.length ≤ c0_3) (hr0_4 : Kd.C (Kd.int .u32) w A0_4 l0_4.length l0_4) (hc0_4 : l0_4.length ≤ c0_4) (hr0_5 : Kd.C (Kd.int .u32) w A0_5 l0_5.length l0_5) (hc0_5 : l0_5.length ≤ c0_5) (hr0_6 : Kd.C (Kd.slice 2 (Kd.int .i64)) w A0_6 l0_6.length l0_6) (hc0_6 : l0_6.length ≤ c0_6) (h : cupolaref14_Static.f k l0_0 l0_1 l0_2 l0_3 l0_4 l0_5 l0_6 = some r) :
  Calls Try.prog 83 #[.agg #[.slice A0_0 l0_0.length c0_0, .slice A0_1 l0_1.length c0_1, .slice A0_2 l0_2.length c0_2, .slice A0_3 l0_3.length c0_3, .slice A0_4 l0_4.length c0_4, .slice A0_5 l0_5.length c0_5, .slice A0_6 l0_6.length c0_6]] w fun e w' => ∃ v0_ : Value, e = .returned (v0_) ∧ Kd.R (Kd.int .u32) 52 w' w.heap.size (fun _ => True) v0_ r ∧ Below w.heap.size w w' := by
 have hu76 := Try.underlying76
 have hu46 := Try.underlying46
 have HR0_0 := Aside0.mk hr0_0
 have HC0_0 := Aside0.mk hc0_0
 clear hr0_0 hc0_0
 have HR0_1 := Aside0.mk hr0_1
 have HC0_1 := Aside0.mk hc0_1
 clear hr0_1 hc0_1
 have HR0_2 := Aside0.mk hr0_2
 have HC0_2 := Aside0.mk hc0_2
 clear hr0_2 hc0_2
 have HR0_3 := Aside0.mk hr0_3
 have HC0_3 := Aside0.mk hc0_3
 clear hr0_3 hc0_3
 have HR0_4 := Aside0.mk hr0_4
 have HC0_4 := Aside0.mk hc0_4
 clear hr0_4 hc0_4
 have HR0_5 := Aside0.mk hr0_5
 have HC0_5 := Aside0.mk hc0_5
 clear hr0_5 hc0_5
 have HR0_6 := Aside0.mk hr0_6
 have HC0_6 := Aside0.mk hc0_6
 clear hr0_6 hc0_6
 have HB := Aside0.mk (Below.refl w.heap.size w)
 have H : (cupolaref14_Static.l0 k ([] : List (S46)) (l0_0.length : Int) 0 l0_0 l0_1 l0_2 l0_3 l0_4 l0_5 l0_6) = some r := h
 clear h
 have H' := Aside0.mk H
 clear H
 go_enter Try.func83, Try.ntmps83
 go_wp2_with (first | ((with_reducible refine gate_dst (N := 1) rfl ?_); refine box_event ?hg (N := 1) ?hd (cs := #[.slice A0_0 l0_0.length c0_0, .slice A0_1 l0_1.length c0_1, .slice A0_2 l0_2.length c0_2, .slice A0_3 l0_3.length c0_3, .slice A0_4 l0_4.length c0_4, .slice A0_5 l0_5.length c0_5, .slice A0_6 l0_6.length c0_6]) (t := 76) ?hr ?_; (case hd => rfl); (case hg => rfl); (case hr => first | (go_simp; done) | (go_simp; rfl)); intro gb101 hg w2 hbox hb; have n0_ := Aside0.mk (below_step (bp9 HB.out) hb); have n1_ := Aside0.mk (hbox); have n2_ := Aside0.mk ((by rw [hg]; exact (below_size (bp9 HB.out)) : w.heap.size ≤ gb101)); have n3_ := n2_; clear HB; have HB := n0_; have BK101 := n1_; have GW101 := n2_; have GE101 := n3_; clear n0_ n1_ n2_ n3_; clear hb hbox hg; obtain ⟨hcz3_0, hcz3_1, hcz3_2, hcz3_3, hcz3_4, hcz3_5, hcz3_6, hfz3_0, hfz3_1, hfz3_2, hfz3_3, hfz3_4, hfz3_5, hfz3_6⟩ := cz7 BK101.out))
 go_loopg [3, 5] k (fun kq v3 v5 w' => ∃ (x3_1 : List (S46)) (x5_1 : Int), v5 = .int .i64 x5_1 ∧ Aside0 (cupolaref14_Static.l0 kq x3_1 (l0_0.length : Int) x5_1 l0_0 l0_1 l0_2 l0_3 l0_4 l0_5 l0_6 = some r) ∧ Aside0 (kq ≤ k) ∧ Aside0 (Kd.R k46 46 w' w.heap.size (fun _ => True) v3 x3_1) ∧ Aside0 (w'.heap[gb101]? = some (.cells #[(.slice A0_0 l0_0.length c0_0), (.slice A0_1 l0_1.length c0_1), (.slice A0_2 l0_2.length c0_2), (.slice A0_3 l0_3.length c0_3), (.slice A0_4 l0_4.length c0_4), (.slice A0_5 l0_5.length c0_5), (.slice A0_6 l0_6.length c0_6)] 76 (0, 0))) ∧ Aside0 (Below w.heap.size w w'))
 case atStart => exact ⟨(([] : List (S46))), (0), (by first | rfl | (simp; done) | (simp [*]; done)), H', ⟨Nat.le_refl _⟩, ⟨by first | exact Kd.R_nil _ _ _ _ _ | exact Kd.N_nil _ _ _ _ _ | exact Kd.V_nil _ _ _ _ _ | exact Kd.Q_nil _ _ _ _ _ | exact Kd.S_nil _ _ _ _ _⟩, ⟨kp9 BK101.out⟩, ⟨bp9 HB.out⟩⟩
 case round =>
  clear H'
  try clear p2
  try clear hcz3_0 hcz3_1 hcz3_2 hcz3_3 hcz3_4 hcz3_5 hcz3_6
  try clear hfz3_0 hfz3_1 hfz3_2 hfz3_3 hfz3_4 hfz3_5 hfz3_6
  obtain ⟨x3_1, x5_1, rfl, HA, HK1, HO_3, BK101, HB⟩ := hrel
  cases gk with
  | zero => exact absurd HA.out (by simp [cupolaref14_Static.l0])
  | succ k1 =>
   have H := HA.out
   clear HA
   simp only [cupolaref14_Static.l0] at H
   by_cases c4 : x5_1 < (l0_0.length : Int)
   ·rw [if_pos c4] at H
    have c4b0 : decide (x5_1 < (l0_0.length : Int)) = true := decide_eq_true c4
    clear c4
    have H' := Aside0.mk H
    clear H
    go_wp2
    go_loopg [3, 6] k1 (fun kq v3 v6 w' => ∃ (x3_2 : List (S46)) (x6_2 : Int), v6 = .int .i64 x6_2 ∧ Aside0 (cupolaref14_Static.l1 kq x3_2 (l0_0.length : Int) x5_1 x6_2 l0_0 l0_1 l0_2 l0_3 l0_4 l0_5 l0_6 = some r) ∧ Aside0 (kq ≤ k1) ∧ Aside0 (Kd.R k46 46 w' w.heap.size (fun _ => True) v3 x3_2) ∧ Aside0 (w'.heap[gb101]? = some (.cells #[(.slice A0_0 l0_0.length c0_0), (.slice A0_1 l0_1.length c0_1), (.slice A0_2 l0_2.length c0_2), (.slice A0_3 l0_3.length c0_3), (.slice A0_4 l0_4.length c0_4), (.slice A0_5 l0_5.length c0_5), (.slice A0_6 l0_6.length c0_6)] 76 (0, 0))) ∧ Aside0 (Below w.heap.size w w'))
    case atStart => exact ⟨(x3_1), (0), (by first | rfl | (simp; done) | (simp [*]; done)), H', ⟨Nat.le_refl _⟩, ⟨rp9 HO_3.out⟩, ⟨kp9 BK101.out⟩, ⟨bp9 HB.out⟩⟩
    case round =>
     clear H'
     try clear p2
     try clear c4
     try clear c4b0
     try clear hcz3_0 hcz3_1 hcz3_2 hcz3_3 hcz3_4 hcz3_5 hcz3_6
     try clear hfz3_0 hfz3_1 hfz3_2 hfz3_3 hfz3_4 hfz3_5 hfz3_6
     try clear p2
     obtain ⟨x3_2, x6_2, rfl, HA, HK2, HO_3, BK101, HB⟩ := hrel
     cases gk with
     | zero => exact absurd HA.out (by simp [cupolaref14_Static.l1])
     | succ k2 =>
      have H := HA.out
      clear HA
      simp only [cupolaref14_Static.l1] at H
      by_cases c5 : x6_2 < (l0_0.length : Int)
      ·rw [if_pos c5] at H
       have c5b0 : decide (x6_2 < (l0_0.length : Int)) = true := decide_eq_true c5
       clear c5
       replace H := Option.bind_eq_some_iff.mp H
       obtain ⟨t105, A60, H⟩ := H
       have A6 := Aside0.mk A60
       clear A60
       by_cases c7 : t105 = true
       ·subst c7
        rw [if_pos rfl] at H
        replace H := Option.bind_eq_some_iff.mp H
        obtain ⟨t106, A80, H⟩ := H
        have A8 := Aside0.mk A80
        clear A80
        by_cases c9 : t106 = true
        ·subst c9
         rw [if_pos rfl] at H
         replace H := Option.bind_eq_some_iff.mp H
         obtain ⟨t107, A100, H⟩ := H
         have A10 := Aside0.mk A100
         clear A100
         by_cases c11 : t107 = true
         ·subst c11
          rw [if_pos rfl] at H
          by_cases c12 : x3_2.length < 8796093022208
          ·rw [if_pos c12] at H
           have LMc12 := Aside0.mk c12
           clear c12
           obtain ⟨y108, hy108⟩ : ∃ y_ : List (S46), y_ = (x3_2 ++ [(⟨x5_1, x6_2⟩ : S46)]) := ⟨_, rfl⟩
           replace H : (cupolaref14_Static.l1 k2 y108 (l0_0.length : Int) x5_1 (wrap64 (x6_2 + 1)) l0_0 l0_1 l0_2 l0_3 l0_4 l0_5 l0_6) = some r := by first | (rw [hy108]; with_reducible exact H) | (have H2_ := (Option.bind_some _ _).symm.trans H; rw [hy108]; with_reducible exact H2_) | (have H2_ := (Option.bind_some _ _).symm.trans H; with_reducible exact H2_) | with_reducible exact H | (rw [hy108]; exact H) | exact H
           have Ny108 := Aside0.mk hy108
           clear hy108
           have H' := Aside0.mk H
           clear H
           obtain ⟨hcz13_0, hcz13_1, hcz13_2, hcz13_3, hcz13_4, hcz13_5, hcz13_6, hfz13_0, hfz13_1, hfz13_2, hfz13_3, hfz13_4, hfz13_5, hfz13_6⟩ := cz7 BK101.out
           go_wp2_with (first | ((with_reducible refine gate_callee (f := 134) rfl ?_); refine goesL9 (some 22) rfl rfl Try.func134 (by kernel_rfl) rfl #[.agg #[.slice A0_0 l0_0.length c0_0, .slice A0_1 l0_1.length c0_1, .slice A0_2 l0_2.length c0_2, .slice A0_3 l0_3.length c0_3, .slice A0_4 l0_4.length c0_4, .slice A0_5 l0_5.length c0_5, .slice A0_6 l0_6.length c0_6], .int .i64 x5_1] rfl ?_; (with_reducible refine (cupolaref14_Mem.calls _ _ l0_0 _ _ l0_1 _ _ l0_2 _ _ l0_3 _ _ l0_4 _ _ l0_5 _ _ l0_6 x5_1 true _ ?side1 ?side2 ?side3 ?side4 ?side5 ?side6 ?side7 ?side8 ?side9 ?side10 ?side11 ?side12 ?side13 ?side14 A6.out).mono ?_); (case side1 => exact cp9 HR0_0.out HB.out); (case side2 => exact HC0_0.out); (case side3 => exact cp9 HR0_1.out HB.out); (case side4 => exact HC0_1.out); (case side5 => exact cp9 HR0_2.out HB.out); (case side6 => exact HC0_2.out); (case side7 => exact cp9 HR0_3.out HB.out); (case side8 => exact HC0_3.out); (case side9 => exact cp9 HR0_4.out HB.out); (case side10 => exact HC0_4.out); (case side11 => exact cp9 HR0_5.out HB.out); (case side12 => exact HC0_5.out); (case side13 => exact cp9 HR0_6.out HB.out); (case side14 => exact HC0_6.out); rintro e w14 ⟨rfl, hb⟩; refine ⟨_, rfl, ?_⟩; have n0_ := Aside0.mk (Kd.R_below (rp9 HO_3.out) hb); have n1_ := Aside0.mk (blk_below (kp9 BK101.out) hb); have n2_ := Aside0.mk (below_step (bp9 HB.out) hb); clear HO_3; clear BK101; clear HB; have HO_3 := n0_; have BK101 := n1_; have HB := n2_; clear n0_ n1_ n2_; (try clear hb); (try clear hb2); (try clear hk); (try clear hi); obtain ⟨hcz15_0, hcz15_1, hcz15_2, hcz15_3, hcz15_4, hcz15_5, hcz15_6, hfz15_0, hfz15_1, hfz15_2, hfz15_3, hfz15_4, hfz15_5, hfz15_6⟩ := cz7 BK101.out) | (go_at_call 134; (with_reducible refine (cupolaref14_Mem.calls _ _ l0_0 _ _ l0_1 _ _ l0_2 _ _ l0_3 _ _ l0_4 _ _ l0_5 _ _ l0_6 x6_2 true _ ?side1 ?side2 ?side3 ?side4 ?side5 ?side6 ?side7 ?side8 ?side9 ?side10 ?side11 ?side12 ?side13 ?side14 A8.out).mono ?_); (case side1 => exact cp9 HR0_0.out HB.out); (case side2 => exact HC0_0.out); (case side3 => exact cp9 HR0_1.out HB.out); (case side4 => exact HC0_1.out); (case side5 => exact cp9 HR0_2.out HB.out); (case side6 => exact HC0_2.out); (case side7 => exact cp9 HR0_3.out HB.out); (case side8 => exact HC0_3.out); (case side9 => exact cp9 HR0_4.out HB.out); (case side10 => exact HC0_4.out); (case side11 => exact cp9 HR0_5.out HB.out); (case side12 => exact HC0_5.out); (case side13 => exact cp9 HR0_6.out HB.out); (case side14 => exact HC0_6.out); rintro e w16 ⟨rfl, hb⟩; have n0_ := Aside0.mk (Kd.R_below (rp9 HO_3.out) hb); have n1_ := Aside0.mk (blk_below (kp9 BK101.out) hb); have n2_ := Aside0.mk (below_step (bp9 HB.out) hb); clear HO_3; clear BK101; clear HB; have HO_3 := n0_; have BK101 := n1_; have HB := n2_; clear n0_ n1_ n2_; (try clear hb); (try clear hb2); (try clear hk); (try clear hi); obtain ⟨hcz17_0, hcz17_1, hcz17_2, hcz17_3, hcz17_4, hcz17_5, hcz17_6, hfz17_0, hfz17_1, hfz17_2, hfz17_3, hfz17_4, hfz17_5, hfz17_6⟩ := cz7 BK101.out) | (go_at_call 135; (with_reducible refine (cupolaref14_static.calls k2 _ _ l0_0 _ _ l0_1 _ _ l0_2 _ _ l0_3 _ _ l0_4 _ _ l0_5 _ _ l0_6 x5_1 x6_2 true _ ?side1 ?side2 ?side3 ?side4 ?side5 ?side6 ?side7 ?side8 ?side9 ?side10 ?side11 ?side12 ?side13 ?side14 A10.out).mono ?_); (case side1 => exact cp9 HR0_0.out HB.out); (case side2 => exact HC0_0.out); (case side3 => exact cp9 HR0_1.out HB.out); (case side4 => exact HC0_1.out); (case side5 => exact cp9 HR0_2.out HB.out); (case side6 => exact HC0_2.out); (case side7 => exact cp9 HR0_3.out HB.out); (case side8 => exact HC0_3.out); (case side9 => exact cp9 HR0_4.out HB.out); (case side10 => exact HC0_4.out); (case side11 => exact cp9 HR0_5.out HB.out); (case side12 => exact HC0_5.out); (case side13 => exact cp9 HR0_6.out HB.out); (case side14 => exact HC0_6.out); rintro e w18 ⟨rfl, hb⟩; have n0_ := Aside0.mk (Kd.R_below (rp9 HO_3.out) hb); have n1_ := Aside0.mk (blk_below (kp9 BK101.out) hb); have n2_ := Aside0.mk (below_step (bp9 HB.out) hb); clear HO_3; clear BK101; clear HB; have HO_3 := n0_; have BK101 := n1_; have HB := n2_; clear n0_ n1_ n2_; (try clear hb); (try clear hb2); (try clear hk); (try clear hi)) | ((with_reducible refine gate_builtin (b := .append) (xs := #[.tmp 34, .tmp 38]) rfl ?_); at_builtin; refine Kd.R_append k46 (w0 := w) w.heap.size rfl (.tmp 34) (.tmp 38) 43 46 (.agg #[(.int .i64 0), (.int .i64 0)]) 16 rfl Try.underlying43 info46 rfl (by decide) (by omega) u3 x3_2 (⟨x5_1, x6_2⟩ : S46) [.int .i64 x5_1, .int .i64 x6_2] (fun _ => True) (fun _ => False) rfl rfl ?aP (fun _ hk => hk.elim) ?aF ?aO ?aB ?aS ?aL ?_; (case aP => exact k46_mkM _ _ _ (⟨x5_1, x6_2⟩ : S46)); (case aB => exact (bp9 HB.out)); (case aF => exact (fun _ _ => trivial)); (case aO => exact (rp9 HO_3.out)); (case aS => exact (below_size (bp9 HB.out))); (case aL => have := LMc12.out; omega); intro v109 w19 ho hb hg hat; rw [← Ny108.out] at ho; have n0_ := Aside0.mk (blk_grown (g := gb101) (o := .cells #[.slice A0_0 l0_0.length c0_0, .slice A0_1 l0_1.length c0_1, .slice A0_2 l0_2.length c0_2, .slice A0_3 l0_3.length c0_3, .slice A0_4 l0_4.length c0_4, .slice A0_5 l0_5.length c0_5, .slice A0_6 l0_6.length c0_6] 76 (0, 0)) (kp9 BK101.out) hg (Kd.R_ne HO_3.out BK101.out (by decide))); have n1_ := Aside0.mk (hb); have n2_ := Aside0.mk (ho); clear BK101; clear HB; clear HO_3; have BK101 := n0_; have HB := n1_; have HO110 := n2_; clear n0_ n1_ n2_; clear ho hb hg hat))
           go_roundg k2
           case measure => have := HK1.out; have := HK2.out; omega
           case rel => exact ⟨(y108), (wrap64 (x6_2 + 1)), (by first | rfl | (simp; done) | (simp [*]; done)), H', ⟨by have := HK1.out; have := HK2.out; omega⟩, ⟨rp9 HO110.out⟩, ⟨kp9 BK101.out⟩, ⟨bp9 HB.out⟩⟩
          ·rw [if_neg c12] at H
           exact absurd H (by simp)
         ·replace c11 := Bool.eq_false_iff.mpr c11
          subst c11
          rw [if_neg (show ¬ (false = true) by decide)] at H
          have H' := Aside0.mk H
          clear H
          obtain ⟨hcz20_0, hcz20_1, hcz20_2, hcz20_3, hcz20_4, hcz20_5, hcz20_6, hfz20_0, hfz20_1, hfz20_2, hfz20_3, hfz20_4, hfz20_5, hfz20_6⟩ := cz7 BK101.out
          go_wp2_with (first | ((with_reducible refine gate_callee (f := 134) rfl ?_); refine goesL9 (some 22) rfl rfl Try.func134 (by kernel_rfl) rfl #[.agg #[.slice A0_0 l0_0.length c0_0, .slice A0_1 l0_1.length c0_1, .slice A0_2 l0_2.length c0_2, .slice A0_3 l0_3.length c0_3, .slice A0_4 l0_4.length c0_4, .slice A0_5 l0_5.length c0_5, .slice A0_6 l0_6.length c0_6], .int .i64 x5_1] rfl ?_; (with_reducible refine (cupolaref14_Mem.calls _ _ l0_0 _ _ l0_1 _ _ l0_2 _ _ l0_3 _ _ l0_4 _ _ l0_5 _ _ l0_6 x5_1 true _ ?side1 ?side2 ?side3 ?side4 ?side5 ?side6 ?side7 ?side8 ?side9 ?side10 ?side11 ?side12 ?side13 ?side14 A6.out).mono ?_); (case side1 => exact cp9 HR0_0.out HB.out); (case side2 => exact HC0_0.out); (case side3 => exact cp9 HR0_1.out HB.out); (case side4 => exact HC0_1.out); (case side5 => exact cp9 HR0_2.out HB.out); (case side6 => exact HC0_2.out); (case side7 => exact cp9 HR0_3.out HB.out); (case side8 => exact HC0_3.out); (case side9 => exact cp9 HR0_4.out HB.out); (case side10 => exact HC0_4.out); (case side11 => exact cp9 HR0_5.out HB.out); (case side12 => exact HC0_5.out); (case side13 => exact cp9 HR0_6.out HB.out); (case side14 => exact HC0_6.out); rintro e w21 ⟨rfl, hb⟩; refine ⟨_, rfl, ?_⟩; have n0_ := Aside0.mk (Kd.R_below (rp9 HO_3.out) hb); have n1_ := Aside0.mk (blk_below (kp9 BK101.out) hb); have n2_ := Aside0.mk (below_step (bp9 HB.out) hb); clear HO_3; clear BK101; clear HB; have HO_3 := n0_; have BK101 := n1_; have HB := n2_; clear n0_ n1_ n2_; (try clear hb); (try clear hb2); (try clear hk); (try clear hi); obtain ⟨hcz22_0, hcz22_1, hcz22_2, hcz22_3, hcz22_4, hcz22_5, hcz22_6, hfz22_0, hfz22_1, hfz22_2, hfz22_3, hfz22_4, hfz22_5, hfz22_6⟩ := cz7 BK101.out) | (go_at_call 134; (with_reducible refine (cupolaref14_Mem.calls _ _ l0_0 _ _ l0_1 _ _ l0_2 _ _ l0_3 _ _ l0_4 _ _ l0_5 _ _ l0_6 x6_2 true _ ?side1 ?side2 ?side3 ?side4 ?side5 ?side6 ?side7 ?side8 ?side9 ?side10 ?side11 ?side12 ?side13 ?side14 A8.out).mono ?_); (case side1 => exact cp9 HR0_0.out HB.out); (case side2 => exact HC0_0.out); (case side3 => exact cp9 HR0_1.out HB.out); (case side4 => exact HC0_1.out); (case side5 => exact cp9 HR0_2.out HB.out); (case side6 => exact HC0_2.out); (case side7 => exact cp9 HR0_3.out HB.out); (case side8 => exact HC0_3.out); (case side9 => exact cp9 HR0_4.out HB.out); (case side10 => exact HC0_4.out); (case side11 => exact cp9 HR0_5.out HB.out); (case side12 => exact HC0_5.out); (case side13 => exact cp9 HR0_6.out HB.out); (case side14 => exact HC0_6.out); rintro e w23 ⟨rfl, hb⟩; have n0_ := Aside0.mk (Kd.R_below (rp9 HO_3.out) hb); have n1_ := Aside0.mk (blk_below (kp9 BK101.out) hb); have n2_ := Aside0.mk (below_step (bp9 HB.out) hb); clear HO_3; clear BK101; clear HB; have HO_3 := n0_; have BK101 := n1_; have HB := n2_; clear n0_ n1_ n2_; (try clear hb); (try clear hb2); (try clear hk); (try clear hi); obtain ⟨hcz24_0, hcz24_1, hcz24_2, hcz24_3, hcz24_4, hcz24_5, hcz24_6, hfz24_0, hfz24_1, hfz24_2, hfz24_3, hfz24_4, hfz24_5, hfz24_6⟩ := cz7 BK101.out) | (go_at_call 135; (with_reducible refine (cupolaref14_static.calls k2 _ _ l0_0 _ _ l0_1 _ _ l0_2 _ _ l0_3 _ _ l0_4 _ _ l0_5 _ _ l0_6 x5_1 x6_2 false _ ?side1 ?side2 ?side3 ?side4 ?side5 ?side6 ?side7 ?side8 ?side9 ?side10 ?side11 ?side12 ?side13 ?side14 A10.out).mono ?_); (case side1 => exact cp9 HR0_0.out HB.out); (case side2 => exact HC0_0.out); (case side3 => exact cp9 HR0_1.out HB.out); (case side4 => exact HC0_1.out); (case side5 => exact cp9 HR0_2.out HB.out); (case side6 => exact HC0_2.out); (case side7 => exact cp9 HR0_3.out HB.out); (case side8 => exact HC0_3.out); (case side9 => exact cp9 HR0_4.out HB.out); (case side10 => exact HC0_4.out); (case side11 => exact cp9 HR0_5.out HB.out); (case side12 => exact HC0_5.out); (case side13 => exact cp9 HR0_6.out HB.out); (case side14 => exact HC0_6.out); rintro e w25 ⟨rfl, hb⟩; have n0_ := Aside0.mk (Kd.R_below (rp9 HO_3.out) hb); have n1_ := Aside0.mk (blk_below (kp9 BK101.out) hb); have n2_ := Aside0.mk (below_step (bp9 HB.out) hb); clear HO_3; clear BK101; clear HB; have HO_3 := n0_; have BK101 := n1_; have HB := n2_; clear n0_ n1_ n2_; (try clear hb); (try clear hb2); (try clear hk); (try clear hi)))
          go_roundg k2
          case measure => have := HK1.out; have := HK2.out; omega
          case rel => exact ⟨(x3_2), (wrap64 (x6_2 + 1)), (by first | rfl | (simp; done) | (simp [*]; done)), H', ⟨by have := HK1.out; have := HK2.out; omega⟩, ⟨rp9 HO_3.out⟩, ⟨kp9 BK101.out⟩, ⟨bp9 HB.out⟩⟩
        ·replace c9 := Bool.eq_false_iff.mpr c9
         subst c9
         rw [if_neg (show ¬ (false = true) by decide)] at H
         have H' := Aside0.mk H
         clear H
         obtain ⟨hcz26_0, hcz26_1, hcz26_2, hcz26_3, hcz26_4, hcz26_5, hcz26_6, hfz26_0, hfz26_1, hfz26_2, hfz26_3, hfz26_4, hfz26_5, hfz26_6⟩ := cz7 BK101.out
         go_wp2_with (first | ((with_reducible refine gate_callee (f := 134) rfl ?_); refine goesL9 (some 22) rfl rfl Try.func134 (by kernel_rfl) rfl #[.agg #[.slice A0_0 l0_0.length c0_0, .slice A0_1 l0_1.length c0_1, .slice A0_2 l0_2.length c0_2, .slice A0_3 l0_3.length c0_3, .slice A0_4 l0_4.length c0_4, .slice A0_5 l0_5.length c0_5, .slice A0_6 l0_6.length c0_6], .int .i64 x5_1] rfl ?_; (with_reducible refine (cupolaref14_Mem.calls _ _ l0_0 _ _ l0_1 _ _ l0_2 _ _ l0_3 _ _ l0_4 _ _ l0_5 _ _ l0_6 x5_1 true _ ?side1 ?side2 ?side3 ?side4 ?side5 ?side6 ?side7 ?side8 ?side9 ?side10 ?side11 ?side12 ?side13 ?side14 A6.out).mono ?_); (case side1 => exact cp9 HR0_0.out HB.out); (case side2 => exact HC0_0.out); (case side3 => exact cp9 HR0_1.out HB.out); (case side4 => exact HC0_1.out); (case side5 => exact cp9 HR0_2.out HB.out); (case side6 => exact HC0_2.out); (case side7 => exact cp9 HR0_3.out HB.out); (case side8 => exact HC0_3.out); (case side9 => exact cp9 HR0_4.out HB.out); (case side10 => exact HC0_4.out); (case side11 => exact cp9 HR0_5.out HB.out); (case side12 => exact HC0_5.out); (case side13 => exact cp9 HR0_6.out HB.out); (case side14 => exact HC0_6.out); rintro e w27 ⟨rfl, hb⟩; refine ⟨_, rfl, ?_⟩; have n0_ := Aside0.mk (Kd.R_below (rp9 HO_3.out) hb); have n1_ := Aside0.mk (blk_below (kp9 BK101.out) hb); have n2_ := Aside0.mk (below_step (bp9 HB.out) hb); clear HO_3; clear BK101; clear HB; have HO_3 := n0_; have BK101 := n1_; have HB := n2_; clear n0_ n1_ n2_; (try clear hb); (try clear hb2); (try clear hk); (try clear hi); obtain ⟨hcz28_0, hcz28_1, hcz28_2, hcz28_3, hcz28_4, hcz28_5, hcz28_6, hfz28_0, hfz28_1, hfz28_2, hfz28_3, hfz28_4, hfz28_5, hfz28_6⟩ := cz7 BK101.out) | (go_at_call 134; (with_reducible refine (cupolaref14_Mem.calls _ _ l0_0 _ _ l0_1 _ _ l0_2 _ _ l0_3 _ _ l0_4 _ _ l0_5 _ _ l0_6 x6_2 false _ ?side1 ?side2 ?side3 ?side4 ?side5 ?side6 ?side7 ?side8 ?side9 ?side10 ?side11 ?side12 ?side13 ?side14 A8.out).mono ?_); (case side1 => exact cp9 HR0_0.out HB.out); (case side2 => exact HC0_0.out); (case side3 => exact cp9 HR0_1.out HB.out); (case side4 => exact HC0_1.out); (case side5 => exact cp9 HR0_2.out HB.out); (case side6 => exact HC0_2.out); (case side7 => exact cp9 HR0_3.out HB.out); (case side8 => exact HC0_3.out); (case side9 => exact cp9 HR0_4.out HB.out); (case side10 => exact HC0_4.out); (case side11 => exact cp9 HR0_5.out HB.out); (case side12 => exact HC0_5.out); (case side13 => exact cp9 HR0_6.out HB.out); (case side14 => exact HC0_6.out); rintro e w29 ⟨rfl, hb⟩; have n0_ := Aside0.mk (Kd.R_below (rp9 HO_3.out) hb); have n1_ := Aside0.mk (blk_below (kp9 BK101.out) hb); have n2_ := Aside0.mk (below_step (bp9 HB.out) hb); clear HO_3; clear BK101; clear HB; have HO_3 := n0_; have BK101 := n1_; have HB := n2_; clear n0_ n1_ n2_; (try clear hb); (try clear hb2); (try clear hk); (try clear hi)))
         go_roundg k2
         case measure => have := HK1.out; have := HK2.out; omega
         case rel => exact ⟨(x3_2), (wrap64 (x6_2 + 1)), (by first | rfl | (simp; done) | (simp [*]; done)), H', ⟨by have := HK1.out; have := HK2.out; omega⟩, ⟨rp9 HO_3.out⟩, ⟨kp9 BK101.out⟩, ⟨bp9 HB.out⟩⟩
       ·replace c7 := Bool.eq_false_iff.mpr c7
        subst c7
        rw [if_neg (show ¬ (false = true) by decide)] at H
        have H' := Aside0.mk H
        clear H
        obtain ⟨hcz30_0, hcz30_1, hcz30_2, hcz30_3, hcz30_4, hcz30_5, hcz30_6, hfz30_0, hfz30_1, hfz30_2, hfz30_3, hfz30_4, hfz30_5, hfz30_6⟩ := cz7 BK101.out
        go_wp2_with (first | ((with_reducible refine gate_callee (f := 134) rfl ?_); refine goesL9 (some 22) rfl rfl Try.func134 (by kernel_rfl) rfl #[.agg #[.slice A0_0 l0_0.length c0_0, .slice A0_1 l0_1.length c0_1, .slice A0_2 l0_2.length c0_2, .slice A0_3 l0_3.length c0_3, .slice A0_4 l0_4.length c0_4, .slice A0_5 l0_5.length c0_5, .slice A0_6 l0_6.length c0_6], .int .i64 x5_1] rfl ?_; (with_reducible refine (cupolaref14_Mem.calls _ _ l0_0 _ _ l0_1 _ _ l0_2 _ _ l0_3 _ _ l0_4 _ _ l0_5 _ _ l0_6 x5_1 false _ ?side1 ?side2 ?side3 ?side4 ?side5 ?side6 ?side7 ?side8 ?side9 ?side10 ?side11 ?side12 ?side13 ?side14 A6.out).mono ?_); (case side1 => exact cp9 HR0_0.out HB.out); (case side2 => exact HC0_0.out); (case side3 => exact cp9 HR0_1.out HB.out); (case side4 => exact HC0_1.out); (case side5 => exact cp9 HR0_2.out HB.out); (case side6 => exact HC0_2.out); (case side7 => exact cp9 HR0_3.out HB.out); (case side8 => exact HC0_3.out); (case side9 => exact cp9 HR0_4.out HB.out); (case side10 => exact HC0_4.out); (case side11 => exact cp9 HR0_5.out HB.out); (case side12 => exact HC0_5.out); (case side13 => exact cp9 HR0_6.out HB.out); (case side14 => exact HC0_6.out); rintro e w31 ⟨rfl, hb⟩; refine ⟨_, rfl, ?_⟩; have n0_ := Aside0.mk (Kd.R_below (rp9 HO_3.out) hb); have n1_ := Aside0.mk (blk_below (kp9 BK101.out) hb); have n2_ := Aside0.mk (below_step (bp9 HB.out) hb); clear HO_3; clear BK101; clear HB; have HO_3 := n0_; have BK101 := n1_; have HB := n2_; clear n0_ n1_ n2_; (try clear hb); (try clear hb2); (try clear hk); (try clear hi)))
        go_roundg k2
        case measure => have := HK1.out; have := HK2.out; omega
        case rel => exact ⟨(x3_2), (wrap64 (x6_2 + 1)), (by first | rfl | (simp; done) | (simp [*]; done)), H', ⟨by have := HK1.out; have := HK2.out; omega⟩, ⟨rp9 HO_3.out⟩, ⟨kp9 BK101.out⟩, ⟨bp9 HB.out⟩⟩
      ·rw [if_neg c5] at H
       have c5b0 : decide (x6_2 < (l0_0.length : Int)) = false := decide_eq_false c5
       clear c5
       have H' := Aside0.mk H
       clear H
       go_wp2
       go_roundg k2
       case measure => have := HK1.out; have := HK2.out; omega
       case rel => exact ⟨(x3_2), (wrap64 (x5_1 + 1)), (by first | rfl | (simp; done) | (simp [*]; done)), H', ⟨by have := HK1.out; have := HK2.out; omega⟩, ⟨rp9 HO_3.out⟩, ⟨kp9 BK101.out⟩, ⟨bp9 HB.out⟩⟩
   ·rw [if_neg c4] at H
    have c4b0 : decide (x5_1 < (l0_0.length : Int)) = false := decide_eq_false c4
    clear c4
    replace H := Option.bind_eq_some_iff.mp H
    obtain ⟨t102, A320, H⟩ := H
    have A32 := Aside0.mk A320
    clear A320
    obtain rfl := Option.some.inj H
    obtain ⟨Ao33, co33, eo33⟩ := Kd.R_slice HO_3.out
    subst eo33
    go_wp2_with (first | ((with_reducible refine gate_callee (f := 119) rfl ?_); refine goesL9 (some 42) rfl rfl Try.func119 (by kernel_rfl) rfl #[.int .i64 (l0_0.length : Int), .slice Ao33 x3_1.length co33] rfl ?_; (with_reducible refine (cupolaref05_Made.calls k1 (l0_0.length : Int) _ _ x3_1 t102 _ ?side1 ?side2 A32.out).mono ?_); (case side1 => exact lp9 (Kd.R_reads' HO_3.out).2.2); (case side2 => exact (Kd.R_reads' HO_3.out).2.1); rintro e w34 ⟨v103, rfl, ho0, hb⟩; refine ⟨_, rfl, ?_⟩; have n0_ := Aside0.mk (Kd.R_below (rp9 HO_3.out) hb); have n1_ := Aside0.mk (Kd.R_lower ho0 (below_size (bp9 HB.out))); have n2_ := Aside0.mk (blk_below (kp9 BK101.out) hb); have n3_ := Aside0.mk (below_step (bp9 HB.out) hb); clear HO_3; clear BK101; clear HB; have HO_3 := n0_; have HO104 := n1_; have BK101 := n2_; have HB := n3_; clear n0_ n1_ n2_ n3_; (try clear hb); (try clear hb2); (try clear hk); (try clear hi); (try clear ho0)))
    go_ret
    exact ⟨_, by first | rfl | (simp [errW_none, errW_some] <;> rfl) | (simp [*, errW_none, errW_some] <;> rfl), by (with_reducible repeat (first | apply Kd.R_alloc | apply Kd.R_drewN | apply Kd.R_drew)); exact HO104.out, bp9 HB.out⟩

/-! ### cupolaref14_Memory: function 85 -/
def cupolaref14_Memory.l0 : Nat → Int → List (S46) → List (S46) → Int → List (S26) → List Int → List Int → List Int → List Int → List Int → List (List Int) → Option (List Int)
 | 0, _, _, _, _, _, _, _, _, _, _, _ => none
 | k + 1, x5, x6, x7, x8, x102000, x102001, x102002, x102003, x102004, x102005, x102006 => if x8 < (x7.length : Int) then (if 0 ≤ x8 then ((cupolaref14_Mem.f x102000 x102001 x102002 x102003 x102004 x102005 x102006 ((rd_T46 x7 x8).f0)).bind fun t110 => (if t110 = true then ((cupolaref14_Mem.f x102000 x102001 x102002 x102003 x102004 x102005 x102006 ((rd_T46 x7 x8).f1)).bind fun t112 => (if t112 = true then (if x6.length < 8796093022208 then (cupolaref14_Memory.l0 k x5 (x6 ++ [(⟨(rd_T46 x7 x8).f0, (rd_T46 x7 x8).f1⟩ : S46)]) x7 (wrap64 (x8 + 1)) x102000 x102001 x102002 x102003 x102004 x102005 x102006) else (none)) else (cupolaref14_Memory.l0 k x5 x6 x7 (wrap64 (x8 + 1)) x102000 x102001 x102002 x102003 x102004 x102005 x102006))) else (cupolaref14_Memory.l0 k x5 x6 x7 (wrap64 (x8 + 1)) x102000 x102001 x102002 x102003 x102004 x102005 x102006))) else (none)) else ((cupolaref05_Made.f k x5 x6).bind fun t106 => (some t106))
def cupolaref14_Memory.f (k : Nat) (l0_0 : List (S26)) (l0_1 : List Int) (l0_2 : List Int) (l0_3 : List Int) (l0_4 : List Int) (l0_5 : List Int) (l0_6 : List (List Int)) (l1 : List Int) : Option (List Int) := (cupolaref05_Size.f l1).bind fun t102 => (if t102 = (l0_0.length : Int) then ((cupolaref05_Pairs.f k l1).bind fun t103 => (cupolaref14_Memory.l0 k (l0_0.length : Int) ([] : List (S46)) t103 0 l0_0 l0_1 l0_2 l0_3 l0_4 l0_5 l0_6)) else (some ([] : List Int)))
def cupolaref14_Memory.T9 : Bool × List (List Nat × List Nat) := (true, [([], []), ([], []), ([], []), ([1, 2], [1, 2]), ([3], [3]), ([4], [4]), ([0, 5], [0, 5]), ([6, 6], [6]), ([7], [7]), ([7], [7]), ([7], [7]), ([9, 10, 7], [7, 9, 10]), ([11, 7], [7, 11]), ([12, 7], [7, 12]), ([8, 13, 7, 7], [7, 8, 13]), ([7, 14], [7, 14])])
def cupolaref14_Memory.B9 : List Nat := [0, 0, 0, 6, 14, 30, 63, 127, 255, 255, 255, 1791, 3839, 7935, 16383, 32767]
theorem cupolaref14_Memory.tab9 : rtab .any (opsOf Try.f85 9) = cupolaref14_Memory.T9 := by kernel_rfl
theorem cupolaref14_Memory.bits9 : waitsOk cupolaref14_Memory.T9.2 cupolaref14_Memory.B9 = true := by kernel_rfl
set_option maxHeartbeats 8000000 in
set_option maxRecDepth 100000 in
theorem cupolaref14_Memory.calls (k : Nat) (A0_0 : Option Addr) (c0_0 : Nat) (l0_0 : List (S26)) (A0_1 : Option Addr) (c0_1 : Nat) (l0_1 : List Int) (A0_2 : Option Addr) (c0_2 : Nat) (l0_2 : List Int) (A0_3 : Option Addr) (c0_3 : Nat) (l0_3 : List Int) (A0_4 : Option Addr) (c0_4 : Nat) (l0_4 : List Int) (A0_5 : Option Addr) (c0_5 : Nat) (l0_5 : List Int) (A0_6 : Option Addr) (c0_6 : Nat) (l0_6 : List (List Int)) (A1 : Option Addr) (c1 : Nat) (l1 : List Int) (r : List Int) (w : World) (hr0_0 : Kd.C k26 w A0_0 l0_0.length l0_0) (hc0_0 : l0_0.length ≤ c0_0) (hr0_1 : Kd.C (Kd.int .u32) w A0_1 l0_1.length l0_1) (hc0_1 : l0_1.length ≤ c0_1) (hr0_2 : Kd.C (Kd.int .u32) w A0_2 l0_2.length l0_2) (hc0_2 : l0_2.length ≤ c0_2) (hr0_3 : Kd.C (Kd.int .u32) w A0_3 l0_3.length l0_3) (hc0_3 : l0_3.length ≤ c0_3) (hr0_4 : Kd.C (Kd.int .u32) w A0_4 l0_4.length l0_4) (hc0_4 : l0_4.length ≤ c0_4) (hr0_5 : Kd.C (Kd.int .u32) w A0_5 l0_5.length l0_5) (hc0_5 : l0_5.length ≤ c0_5) (hr0_6 : Kd.C (Kd.slice 2 (Kd.int .i64)) w A0_6 l0_6.length l0_6) (hc0_6 : l0_6.length ≤ c0_6) (hr1 : Kd.C (Kd.int .u32) w A1 l1.length l1) (hc1 : l1.length ≤ c1) (h : cupolaref14_Memory.f k l0_0 l0_1 l0_2 l0_3 l0_4 l0_5 l0_6 l1 = some r) :
  Calls Try.prog 85 #[.agg #[.slice A0_0 l0_0.length c0_0, .slice A0_1 l0_1.length c0_1, .slice A0_2 l0_2.length c0_2, .slice A0_3 l0_3.length c0_3, .slice A0_4 l0_4.length c0_4, .slice A0_5 l0_5.length c0_5, .slice A0_6 l0_6.length c0_6], .slice A1 l1.length c1] w fun e w' => ∃ v0_ : Value, e = .returned (v0_) ∧ Kd.R (Kd.int .u32) 52 w' w.heap.size (fun _ => True) v0_ r ∧ Below w.heap.size w w' := by
 have hu76 := Try.underlying76
 have hu46 := Try.underlying46
 have HR0_0 := Aside0.mk hr0_0
 have HC0_0 := Aside0.mk hc0_0
 clear hr0_0 hc0_0
 have HR0_1 := Aside0.mk hr0_1
 have HC0_1 := Aside0.mk hc0_1
 clear hr0_1 hc0_1
 have HR0_2 := Aside0.mk hr0_2
 have HC0_2 := Aside0.mk hc0_2
 clear hr0_2 hc0_2
 have HR0_3 := Aside0.mk hr0_3
 have HC0_3 := Aside0.mk hc0_3
 clear hr0_3 hc0_3
 have HR0_4 := Aside0.mk hr0_4
 have HC0_4 := Aside0.mk hc0_4
 clear hr0_4 hc0_4
 have HR0_5 := Aside0.mk hr0_5
 have HC0_5 := Aside0.mk hc0_5
 clear hr0_5 hc0_5
 have HR0_6 := Aside0.mk hr0_6
 have HC0_6 := Aside0.mk hc0_6
 clear hr0_6 hc0_6
 have HR1 := Aside0.mk hr1
 have HC1 := Aside0.mk hc1
 clear hr1 hc1
 have HB := Aside0.mk (Below.refl w.heap.size w)
 have H : ((cupolaref05_Size.f l1).bind fun t102 => (if t102 = (l0_0.length : Int) then ((cupolaref05_Pairs.f k l1).bind fun t103 => (cupolaref14_Memory.l0 k (l0_0.length : Int) ([] : List (S46)) t103 0 l0_0 l0_1 l0_2 l0_3 l0_4 l0_5 l0_6)) else (some ([] : List Int)))) = some r := h
 clear h
 replace H := Option.bind_eq_some_iff.mp H
 obtain ⟨t102, A30, H⟩ := H
 have A3 := Aside0.mk A30
 clear A30
 by_cases c4 : t102 = (l0_0.length : Int)
 ·rw [if_pos c4] at H
  have c4b0 : (t102 == (l0_0.length : Int)) = true := beq_iff_eq.mpr c4
  have c4b1 : (t102 != (l0_0.length : Int)) = false := bne_eq_false_iff_eq.mpr c4
  clear c4
  replace H := Option.bind_eq_some_iff.mp H
  obtain ⟨t103, A50, H⟩ := H
  have A5 := Aside0.mk A50
  clear A50
  have H' := Aside0.mk H
  clear H
  go_enter Try.func85, Try.ntmps85
  go_wp2_with (first | ((with_reducible refine gate_dst (N := 2) rfl ?_); refine box_event ?hg (N := 2) ?hd (cs := #[.slice A0_0 l0_0.length c0_0, .slice A0_1 l0_1.length c0_1, .slice A0_2 l0_2.length c0_2, .slice A0_3 l0_3.length c0_3, .slice A0_4 l0_4.length c0_4, .slice A0_5 l0_5.length c0_5, .slice A0_6 l0_6.length c0_6]) (t := 76) ?hr ?_; (case hd => rfl); (case hg => rfl); (case hr => first | (go_simp; done) | (go_simp; rfl)); intro gb101 hg w6 hbox hb; have n0_ := Aside0.mk (below_step (bp9 HB.out) hb); have n1_ := Aside0.mk (hbox); have n2_ := Aside0.mk ((by rw [hg]; exact (below_size (bp9 HB.out)) : w.heap.size ≤ gb101)); have n3_ := n2_; clear HB; have HB := n0_; have BK101 := n1_; have GW101 := n2_; have GE101 := n3_; clear n0_ n1_ n2_ n3_; clear hb hbox hg; obtain ⟨hcz7_0, hcz7_1, hcz7_2, hcz7_3, hcz7_4, hcz7_5, hcz7_6, hfz7_0, hfz7_1, hfz7_2, hfz7_3, hfz7_4, hfz7_5, hfz7_6⟩ := cz7 BK101.out) | ((with_reducible refine gate_callee (f := 116) rfl ?_); refine goesL9 (some 13) rfl rfl Try.func116 (by kernel_rfl) rfl #[.slice A1 l1.length c1] rfl ?_; (with_reducible refine (cupolaref05_Size.calls _ _ l1 t102 _ ?side1 ?side2 A3.out).mono ?_); (case side1 => exact cp9 HR1.out HB.out); (case side2 => exact HC1.out); rintro e w' ⟨rfl, ⟨nd, rfl⟩⟩; refine ⟨_, rfl, ?_⟩) | ((with_reducible refine gate_callee (f := 47) rfl ?_); refine goesL9 (some 17) rfl rfl Try.func47 (by kernel_rfl) rfl #[.slice A1 l1.length c1] rfl ?_; (with_reducible refine (cupolaref05_Pairs.calls k _ _ l1 t103 _ ?side1 ?side2 A5.out).mono ?_); (case side1 => repeat (first | exact (Kd.C_below HR1.out (bp9 HB.out)) | (with_reducible refine Kd.C_alloc ?_ _) | (with_reducible refine Kd.C_drewN ?_ _) | (with_reducible refine Kd.C_drew ?_))); (case side2 => exact HC1.out); rintro e w8 ⟨v104, rfl, ho0, hb⟩; refine ⟨_, rfl, ?_⟩; have n0_ := Aside0.mk (Kd.R_lower ho0 (below_size (bp9 HB.out))); have n1_ := Aside0.mk (blk_below (kp9 BK101.out) hb); have n2_ := Aside0.mk (below_step (bp9 HB.out) hb); clear BK101; clear HB; have HO105 := n0_; have BK101 := n1_; have HB := n2_; clear n0_ n1_ n2_; (try clear hb); (try clear hb2); (try clear hk); (try clear hi); (try clear ho0)))
  go_loopg [6, 8] k (fun kq v6 v8 w' => ∃ (x6_1 : List (S46)) (x8_1 : Int), v8 = .int .i64 x8_1 ∧ Aside0 (cupolaref14_Memory.l0 kq (l0_0.length : Int) x6_1 t103 x8_1 l0_0 l0_1 l0_2 l0_3 l0_4 l0_5 l0_6 = some r) ∧ Aside0 (kq ≤ k) ∧ Aside0 (Kd.R k46 46 w' w.heap.size (fun k_ => some k_ ≠ (v104 : Value).ownBlock) v6 x6_1) ∧ Aside0 (Kd.R k46 46 w' w.heap.size (fun k_ => some k_ ≠ (v6 : Value).ownBlock) v104 t103) ∧ Aside0 (w'.heap[gb101]? = some (.cells #[(.slice A0_0 l0_0.length c0_0), (.slice A0_1 l0_1.length c0_1), (.slice A0_2 l0_2.length c0_2), (.slice A0_3 l0_3.length c0_3), (.slice A0_4 l0_4.length c0_4), (.slice A0_5 l0_5.length c0_5), (.slice A0_6 l0_6.length c0_6)] 76 (0, 0))) ∧ Aside0 (Below w.heap.size w w'))
  case atStart => exact ⟨(([] : List (S46))), (0), (by first | rfl | (simp; done) | (simp [*]; done)), H', ⟨Nat.le_refl _⟩, ⟨by first | exact Kd.R_nil _ _ _ _ _ | exact Kd.N_nil _ _ _ _ _ | exact Kd.V_nil _ _ _ _ _ | exact Kd.Q_nil _ _ _ _ _ | exact Kd.S_nil _ _ _ _ _⟩, ⟨by (with_reducible repeat (first | apply Kd.R_alloc | apply Kd.R_drewN | apply Kd.R_drew)); exact Kd.R_mono HO105.out (fun _ hk => (by simp [Value.ownBlock]))⟩, ⟨kp9 BK101.out⟩, ⟨bp9 HB.out⟩⟩
  case round =>
   clear H'
   try clear c1
   try clear p2
   try clear c4
   try clear c4b0
   try clear c4b1
   try clear c8
   try clear hcz7_0 hcz7_1 hcz7_2 hcz7_3 hcz7_4 hcz7_5 hcz7_6
   try clear hfz7_0 hfz7_1 hfz7_2 hfz7_3 hfz7_4 hfz7_5 hfz7_6
   obtain ⟨x6_1, x8_1, rfl, HA, HK1, HO_6, HO_7, BK101, HB⟩ := hrel
   cases gk with
   | zero => exact absurd HA.out (by simp [cupolaref14_Memory.l0])
   | succ k1 =>
    have H := HA.out
    clear HA
    simp only [cupolaref14_Memory.l0] at H
    by_cases c9 : x8_1 < (t103.length : Int)
    ·rw [if_pos c9] at H
     have c9b0 : decide (x8_1 < (t103.length : Int)) = true := decide_eq_true c9
     clear c9
     by_cases c10 : 0 ≤ x8_1
     ·rw [if_pos c10] at H
      have c10b0 : decide (0 ≤ x8_1) = true := decide_eq_true c10
      clear c10
      replace H := Option.bind_eq_some_iff.mp H
      obtain ⟨t110, A110, H⟩ := H
      have A11 := Aside0.mk A110
      clear A110
      by_cases c12 : t110 = true
      ·subst c12
       rw [if_pos rfl] at H
       replace H := Option.bind_eq_some_iff.mp H
       obtain ⟨t112, A130, H⟩ := H
       have A13 := Aside0.mk A130
       clear A130
       by_cases c14 : t112 = true
       ·subst c14
        rw [if_pos rfl] at H
        by_cases c15 : x6_1.length < 8796093022208
        ·rw [if_pos c15] at H
         have LMc15 := Aside0.mk c15
         clear c15
         obtain ⟨y114, hy114⟩ : ∃ y_ : List (S46), y_ = (x6_1 ++ [(⟨(rd_T46 t103 x8_1).f0, (rd_T46 t103 x8_1).f1⟩ : S46)]) := ⟨_, rfl⟩
         replace H : (cupolaref14_Memory.l0 k1 (l0_0.length : Int) y114 t103 (wrap64 (x8_1 + 1)) l0_0 l0_1 l0_2 l0_3 l0_4 l0_5 l0_6) = some r := by first | (rw [hy114]; with_reducible exact H) | (have H2_ := (Option.bind_some _ _).symm.trans H; rw [hy114]; with_reducible exact H2_) | (have H2_ := (Option.bind_some _ _).symm.trans H; with_reducible exact H2_) | with_reducible exact H | (rw [hy114]; exact H) | exact H
         have Ny114 := Aside0.mk hy114
         clear hy114
         have H' := Aside0.mk H
         clear H
         obtain ⟨Ao16, co16, eo16⟩ := Kd.R_slice HO_7.out
         subst eo16
         try go_wp2
         have n0_ := Aside0.mk (Kd.R_drew HO_6.out)
         have n1_ := Aside0.mk (Kd.R_drew HO_7.out)
         have n2_ := Aside0.mk (blk_drew BK101.out)
         have n3_ := Aside0.mk (below_drew1 HB.out)
         clear HO_6 HO_7 BK101 HB
         revert n0_ n1_ n2_ n3_; intro HO_6 HO_7 BK101 HB
         have p109 : 0 ≤ (x8_1 : Int) := of_decide_eq_true (by first | (with_reducible assumption) | assumption)
         have q109 : x8_1 < (t103.length : Int) := of_decide_eq_true (by first | (with_reducible assumption) | assumption)
         obtain ⟨ad109, e109, hx109_0, hx109_1⟩ := at_T46 (Kd.R_reads' HO_7.out).2.2 x8_1 p109 q109
         cases e109
         replace p109 := eq_true p109
         replace q109 := eq_true q109
         have p111 : 0 ≤ (x8_1 : Int) := of_decide_eq_true (by first | (with_reducible assumption) | assumption)
         have q111 : x8_1 < (t103.length : Int) := of_decide_eq_true (by first | (with_reducible assumption) | assumption)
         obtain ⟨ad111, e111, hx111_0, hx111_1⟩ := at_T46 (Kd.R_reads' HO_7.out).2.2 x8_1 p111 q111
         obtain rfl : ad109 = ad111 := (by injection e111)
         replace p111 := eq_true p111
         replace q111 := eq_true q111
         refine start_ (n := 16) (S := fun w' => w'.cell? ⟨gb101, 0, none⟩ = some (.slice A0_0 l0_0.length c0_0) ∧ w'.cell? ⟨gb101, 1, none⟩ = some (.slice A0_1 l0_1.length c0_1) ∧ w'.cell? ⟨gb101, 2, none⟩ = some (.slice A0_2 l0_2.length c0_2) ∧ w'.cell? ⟨gb101, 3, none⟩ = some (.slice A0_3 l0_3.length c0_3) ∧ w'.cell? ⟨gb101, 4, none⟩ = some (.slice A0_4 l0_4.length c0_4) ∧ w'.cell? ⟨gb101, 5, none⟩ = some (.slice A0_5 l0_5.length c0_5) ∧ w'.cell? ⟨gb101, 6, none⟩ = some (.slice A0_6 l0_6.length c0_6) ∧ w'.cell? (ad109.add ((x8_1).toNat * 2)) = some (.int .i64 ((rd_T46 t103 x8_1).f0)) ∧ w'.cell? ⟨(ad109.add ((x8_1).toNat * 2)).block, (ad109.add ((x8_1).toNat * 2)).off + 1, none⟩ = some (.int .i64 ((rd_T46 t103 x8_1).f1)) ∧ w'.cell? (ad109.add ((x8_1).toNat * 2)) = some (.int .i64 ((rd_T46 t103 x8_1).f0)) ∧ w'.cell? ⟨(ad109.add ((x8_1).toNat * 2)).block, (ad109.add ((x8_1).toNat * 2)).off + 1, none⟩ = some (.int .i64 ((rd_T46 t103 x8_1).f1))) (ds := []) #[o9, o9, o9, o9, o9, o9, o9, o9, o9, o9, o9, o9, o9, o9, o9, o9] (by kernel_rfl) rfl rfl ⟨(blk_cell BK101.out 0).trans rfl, (blk_cell BK101.out 1).trans rfl, (blk_cell BK101.out 2).trans rfl, (blk_cell BK101.out 3).trans rfl, (blk_cell BK101.out 4).trans rfl, (blk_cell BK101.out 5).trans rfl, (blk_cell BK101.out 6).trans rfl, hx109_0, hx109_1, hx111_0, hx111_1⟩ (fun hHeld => ?_); refine with_tabW cupolaref14_Memory.tab9 cupolaref14_Memory.bits9 (fun HT_ HW_ => ?_)
         generalize wr.drew = w17 at HO_6 HO_7 BK101 HB hx109_0 hx109_1 hx111_0 hx111_1 hHeld ⊢
         refine pure_ (i := 1) (N := some 25) (v := ?_) (a' := ?_) #[o9, i9, o9, o9, o9, o9, o9, o9, o9, o9, o9, o9, o9, o9, o9, o9] rfl rfl (any_of HT_.out (by kernel_rfl)) (fun _ _ _ h => h) (Or.inl ⟨by rfl, ?_⟩) ?_ ?_
         rotate_left
         ·intro w'
          go_simp
          with_reducible rfl
         rotate_left
         ·simp only [Act.put, List.setIfInBounds_toArray, List.set_cons_zero, List.set_cons_succ, i64_w, i32_w]
          rfl
         refine pure_ (i := 2) (N := some 26) (v := ?_) (a' := ?_) #[o9, i9, i9, o9, o9, o9, o9, o9, o9, o9, o9, o9, o9, o9, o9, o9] rfl rfl (any_of HT_.out (by kernel_rfl)) (fun _ _ _ h => h) (Or.inl ⟨by rfl, ?_⟩) ?_ ?_
         rotate_left
         ·intro w'
          go_simp
          with_reducible rfl
         rotate_left
         ·simp only [Act.put, List.setIfInBounds_toArray, List.set_cons_zero, List.set_cons_succ, i64_w, i32_w]
          rfl
         refine pure_ (i := 3) (N := some 27) (v := ?_) (a' := ?_) #[o9, i9, i9, i9, o9, o9, o9, o9, o9, o9, o9, o9, o9, o9, o9, o9] rfl rfl (any_of HT_.out (by kernel_rfl)) (fun _ _ _ h => h) (Or.inl ⟨by rfl, ?_⟩) ?_ ?_
         rotate_left
         ·intro w'
          go_simp
          with_reducible rfl
         rotate_left
         ·simp only [Act.put, List.setIfInBounds_toArray, List.set_cons_zero, List.set_cons_succ, i64_w, i32_w]
          rfl
         refine pure_ (i := 4) (N := some 28) (v := ?_) (a' := ?_) #[o9, i9, i9, i9, i9, o9, o9, o9, o9, o9, o9, o9, o9, o9, o9, o9] rfl rfl (any_of HT_.out (by kernel_rfl)) (fun _ _ _ h => h) (Or.inl ⟨by rfl, ?_⟩) ?_ ?_
         rotate_left
         ·intro w'
          go_simp
          with_reducible rfl
         rotate_left
         ·simp only [Act.put, List.setIfInBounds_toArray, List.set_cons_zero, List.set_cons_succ, i64_w, i32_w]
          rfl
         refine take_ (i := 0) (N := some 24) (v := ?_) (a' := ?_) #[i9, i9, i9, i9, i9, o9, o9, o9, o9, o9, o9, o9, o9, o9, o9, o9] rfl rfl (take_ofW HT_.out HW_.out (by kernel_rfl)) (fun _ _ _ h => h) (Or.inl ⟨by rfl, ?_⟩) hHeld ?_ ?_
         rotate_left
         ·rintro w' ⟨s0, s1, s2, s3, s4, s5, s6, s7, s8, s9, s10⟩
          go_simp
          with_reducible rfl
         rotate_left
         ·simp only [Act.put, List.setIfInBounds_toArray, List.set_cons_zero, List.set_cons_succ, i64_w, i32_w]
          rfl
         refine take_ (i := 5) (N := some 29) (v := ?_) (a' := ?_) #[i9, i9, i9, i9, i9, i9, o9, o9, o9, o9, o9, o9, o9, o9, o9, o9] rfl rfl (take_ofW HT_.out HW_.out (by kernel_rfl)) (fun _ _ _ h => h) (Or.inl ⟨by rfl, ?_⟩) hHeld ?_ ?_
         rotate_left
         ·rintro w' ⟨s0, s1, s2, s3, s4, s5, s6, s7, s8, s9, s10⟩
          go_simp
          with_reducible rfl
         rotate_left
         ·simp only [Act.put, List.setIfInBounds_toArray, List.set_cons_zero, List.set_cons_succ, i64_w, i32_w]
          rfl
         refine one_ (i := 6) (N := some 30) #[i9, i9, i9, i9, i9, i9, i9, o9, o9, o9, o9, o9, o9, o9, o9, o9] rfl rfl (one_of HT_.out (by kernel_rfl)) (by decide) (fun K hK => ?_)
         refine goes9 Try.func134 (by kernel_rfl) rfl #[.agg #[.slice A0_0 l0_0.length c0_0, .slice A0_1 l0_1.length c0_1, .slice A0_2 l0_2.length c0_2, .slice A0_3 l0_3.length c0_3, .slice A0_4 l0_4.length c0_4, .slice A0_5 l0_5.length c0_5, .slice A0_6 l0_6.length c0_6], .int .i64 ((rd_T46 t103 x8_1).f0)] (by rfl) rfl rfl ?_
         with_reducible refine (cupolaref14_Mem.calls _ _ l0_0 _ _ l0_1 _ _ l0_2 _ _ l0_3 _ _ l0_4 _ _ l0_5 _ _ l0_6 ((rd_T46 t103 x8_1).f0) true _ ?side1 ?side2 ?side3 ?side4 ?side5 ?side6 ?side7 ?side8 ?side9 ?side10 ?side11 ?side12 ?side13 ?side14 A11.out).mono ?_
         (case side1 => exact cp9 HR0_0.out HB.out)
         (case side2 => exact HC0_0.out)
         (case side3 => exact cp9 HR0_1.out HB.out)
         (case side4 => exact HC0_1.out)
         (case side5 => exact cp9 HR0_2.out HB.out)
         (case side6 => exact HC0_2.out)
         (case side7 => exact cp9 HR0_3.out HB.out)
         (case side8 => exact HC0_3.out)
         (case side9 => exact cp9 HR0_4.out HB.out)
         (case side10 => exact HC0_4.out)
         (case side11 => exact cp9 HR0_5.out HB.out)
         (case side12 => exact HC0_5.out)
         (case side13 => exact cp9 HR0_6.out HB.out)
         (case side14 => exact HC0_6.out)
         rintro e w18 ⟨rfl, hb⟩
         have HS7_ := (hb.cell (World.block_lt_of_cell? _ _ (hHeld.2.2.2.2.2.2.2.1))).trans (hHeld.2.2.2.2.2.2.2.1)
         have HS8_ := (hb.cell (World.block_lt_of_cell? _ _ (hHeld.2.2.2.2.2.2.2.2.1))).trans (hHeld.2.2.2.2.2.2.2.2.1)
         have HS9_ := (hb.cell (World.block_lt_of_cell? _ _ (hHeld.2.2.2.2.2.2.2.2.2.1))).trans (hHeld.2.2.2.2.2.2.2.2.2.1)
         have HS10_ := (hb.cell (World.block_lt_of_cell? _ _ (hHeld.2.2.2.2.2.2.2.2.2.2))).trans (hHeld.2.2.2.2.2.2.2.2.2.2)
         refine ⟨_, rfl, ?_⟩
         have n0_ := Aside0.mk (Kd.R_below (rp9 HO_6.out) hb)
         have n1_ := Aside0.mk (Kd.R_below (rp9 HO_7.out) hb)
         have n2_ := Aside0.mk (blk_below (kp9 BK101.out) hb)
         have n3_ := Aside0.mk (below_step (bp9 HB.out) hb)
         clear HO_6 HO_7 BK101 HB
         revert n0_ n1_ n2_ n3_; intro HO_6 HO_7 BK101 HB
         (try clear hb)
         (try clear hb2)
         (try clear hk)
         (try clear hi)
         refine hK.out _ _ ⟨(blk_cell BK101.out 0).trans rfl, (blk_cell BK101.out 1).trans rfl, (blk_cell BK101.out 2).trans rfl, (blk_cell BK101.out 3).trans rfl, (blk_cell BK101.out 4).trans rfl, (blk_cell BK101.out 5).trans rfl, (blk_cell BK101.out 6).trans rfl, HS7_, HS8_, HS9_, HS10_⟩ (fun hHeld => ?_)
         clear hK K
         refine norm_ (a' := ?_) ?_ ?_
         rotate_left
         ·show Act.put _ (some 30) _ = _
          simp only [Act.put, List.setIfInBounds_toArray, List.set_cons_zero, List.set_cons_succ, i64_w, i32_w]
          rfl
         refine pure_ (i := 7) (N := some 31) (v := ?_) (a' := ?_) #[i9, i9, i9, i9, i9, i9, i9, i9, o9, o9, o9, o9, o9, o9, o9, o9] rfl rfl (any_of HT_.out (by kernel_rfl)) (fun _ _ _ h => h) (Or.inl ⟨by rfl, ?_⟩) ?_ ?_
         rotate_left
         ·intro w'
          go_simp
          with_reducible rfl
         rotate_left
         ·simp only [Act.put, List.setIfInBounds_toArray, List.set_cons_zero, List.set_cons_succ, i64_w, i32_w]
          rfl
         refine pure_ (i := 9) (N := some 33) (v := ?_) (a' := ?_) #[i9, i9, i9, i9, i9, i9, i9, i9, o9, i9, o9, o9, o9, o9, o9, o9] rfl rfl (any_of HT_.out (by kernel_rfl)) (fun _ _ _ h => h) (Or.inl ⟨by rfl, ?_⟩) ?_ ?_
         rotate_left
         ·intro w'
          go_simp
          with_reducible rfl
         rotate_left
         ·simp only [Act.put, List.setIfInBounds_toArray, List.set_cons_zero, List.set_cons_succ, i64_w, i32_w]
          rfl
         refine pure_ (i := 10) (N := some 34) (v := ?_) (a' := ?_) #[i9, i9, i9, i9, i9, i9, i9, i9, o9, i9, i9, o9, o9, o9, o9, o9] rfl rfl (any_of HT_.out (by kernel_rfl)) (fun _ _ _ h => h) (Or.inl ⟨by rfl, ?_⟩) ?_ ?_
         rotate_left
         ·intro w'
          go_simp
          with_reducible rfl
         rotate_left
         ·simp only [Act.put, List.setIfInBounds_toArray, List.set_cons_zero, List.set_cons_succ, i64_w, i32_w]
          rfl
         refine pure_ (i := 11) (N := some 35) (v := ?_) (a' := ?_) #[i9, i9, i9, i9, i9, i9, i9, i9, o9, i9, i9, i9, o9, o9, o9, o9] rfl rfl (any_of HT_.out (by kernel_rfl)) (fun _ _ _ h => h) (Or.inl ⟨by rfl, ?_⟩) ?_ ?_
         rotate_left
         ·intro w'
          go_simp
          with_reducible rfl
         rotate_left
         ·simp only [Act.put, List.setIfInBounds_toArray, List.set_cons_zero, List.set_cons_succ, i64_w, i32_w]
          rfl
         refine pure_ (i := 12) (N := some 36) (v := ?_) (a' := ?_) #[i9, i9, i9, i9, i9, i9, i9, i9, o9, i9, i9, i9, i9, o9, o9, o9] rfl rfl (any_of HT_.out (by kernel_rfl)) (fun _ _ _ h => h) (Or.inl ⟨by rfl, ?_⟩) ?_ ?_
         rotate_left
         ·intro w'
          go_simp
          with_reducible rfl
         rotate_left
         ·simp only [Act.put, List.setIfInBounds_toArray, List.set_cons_zero, List.set_cons_succ, i64_w, i32_w]
          rfl
         refine take_ (i := 8) (N := some 32) (v := ?_) (a' := ?_) #[i9, i9, i9, i9, i9, i9, i9, i9, i9, i9, i9, i9, i9, o9, o9, o9] rfl rfl (take_ofW HT_.out HW_.out (by kernel_rfl)) (fun _ _ _ h => h) (Or.inl ⟨by rfl, ?_⟩) hHeld ?_ ?_
         rotate_left
         ·rintro w' ⟨s0, s1, s2, s3, s4, s5, s6, s7, s8, s9, s10⟩
          go_simp
          with_reducible rfl
         rotate_left
         ·simp only [Act.put, List.setIfInBounds_toArray, List.set_cons_zero, List.set_cons_succ, i64_w, i32_w]
          rfl
         refine take_ (i := 13) (N := some 37) (v := ?_) (a' := ?_) #[i9, i9, i9, i9, i9, i9, i9, i9, i9, i9, i9, i9, i9, i9, o9, o9] rfl rfl (take_ofW HT_.out HW_.out (by kernel_rfl)) (fun _ _ _ h => h) (Or.inl ⟨by rfl, ?_⟩) hHeld ?_ ?_
         rotate_left
         ·rintro w' ⟨s0, s1, s2, s3, s4, s5, s6, s7, s8, s9, s10⟩
          go_simp
          with_reducible rfl
         rotate_left
         ·simp only [Act.put, List.setIfInBounds_toArray, List.set_cons_zero, List.set_cons_succ, i64_w, i32_w]
          rfl
         refine one_ (i := 14) (N := some 38) #[i9, i9, i9, i9, i9, i9, i9, i9, i9, i9, i9, i9, i9, i9, i9, o9] rfl rfl (one_of HT_.out (by kernel_rfl)) (by decide) (fun K hK => ?_)
         refine goes9 Try.func134 (by kernel_rfl) rfl #[.agg #[.slice A0_0 l0_0.length c0_0, .slice A0_1 l0_1.length c0_1, .slice A0_2 l0_2.length c0_2, .slice A0_3 l0_3.length c0_3, .slice A0_4 l0_4.length c0_4, .slice A0_5 l0_5.length c0_5, .slice A0_6 l0_6.length c0_6], .int .i64 ((rd_T46 t103 x8_1).f1)] (by rfl) rfl rfl ?_
         with_reducible refine (cupolaref14_Mem.calls _ _ l0_0 _ _ l0_1 _ _ l0_2 _ _ l0_3 _ _ l0_4 _ _ l0_5 _ _ l0_6 ((rd_T46 t103 x8_1).f1) true _ ?side1 ?side2 ?side3 ?side4 ?side5 ?side6 ?side7 ?side8 ?side9 ?side10 ?side11 ?side12 ?side13 ?side14 A13.out).mono ?_
         (case side1 => exact cp9 HR0_0.out HB.out)
         (case side2 => exact HC0_0.out)
         (case side3 => exact cp9 HR0_1.out HB.out)
         (case side4 => exact HC0_1.out)
         (case side5 => exact cp9 HR0_2.out HB.out)
         (case side6 => exact HC0_2.out)
         (case side7 => exact cp9 HR0_3.out HB.out)
         (case side8 => exact HC0_3.out)
         (case side9 => exact cp9 HR0_4.out HB.out)
         (case side10 => exact HC0_4.out)
         (case side11 => exact cp9 HR0_5.out HB.out)
         (case side12 => exact HC0_5.out)
         (case side13 => exact cp9 HR0_6.out HB.out)
         (case side14 => exact HC0_6.out)
         rintro e w19 ⟨rfl, hb⟩
         have HS7_ := (hb.cell (World.block_lt_of_cell? _ _ (hHeld.2.2.2.2.2.2.2.1))).trans (hHeld.2.2.2.2.2.2.2.1)
         have HS8_ := (hb.cell (World.block_lt_of_cell? _ _ (hHeld.2.2.2.2.2.2.2.2.1))).trans (hHeld.2.2.2.2.2.2.2.2.1)
         have HS9_ := (hb.cell (World.block_lt_of_cell? _ _ (hHeld.2.2.2.2.2.2.2.2.2.1))).trans (hHeld.2.2.2.2.2.2.2.2.2.1)
         have HS10_ := (hb.cell (World.block_lt_of_cell? _ _ (hHeld.2.2.2.2.2.2.2.2.2.2))).trans (hHeld.2.2.2.2.2.2.2.2.2.2)
         refine ⟨_, rfl, ?_⟩
         have n0_ := Aside0.mk (Kd.R_below (rp9 HO_6.out) hb)
         have n1_ := Aside0.mk (Kd.R_below (rp9 HO_7.out) hb)
         have n2_ := Aside0.mk (blk_below (kp9 BK101.out) hb)
         have n3_ := Aside0.mk (below_step (bp9 HB.out) hb)
         clear HO_6 HO_7 BK101 HB
         revert n0_ n1_ n2_ n3_; intro HO_6 HO_7 BK101 HB
         (try clear hb)
         (try clear hb2)
         (try clear hk)
         (try clear hi)
         refine hK.out _ _ ⟨(blk_cell BK101.out 0).trans rfl, (blk_cell BK101.out 1).trans rfl, (blk_cell BK101.out 2).trans rfl, (blk_cell BK101.out 3).trans rfl, (blk_cell BK101.out 4).trans rfl, (blk_cell BK101.out 5).trans rfl, (blk_cell BK101.out 6).trans rfl, HS7_, HS8_, HS9_, HS10_⟩ (fun hHeld => ?_)
         clear hK K
         refine norm_ (a' := ?_) ?_ ?_
         rotate_left
         ·show Act.put _ (some 38) _ = _
          simp only [Act.put, List.setIfInBounds_toArray, List.set_cons_zero, List.set_cons_succ, i64_w, i32_w]
          rfl
         refine pure_ (i := 15) (N := some 39) (v := ?_) (a' := ?_) #[i9, i9, i9, i9, i9, i9, i9, i9, i9, i9, i9, i9, i9, i9, i9, i9] rfl rfl (any_of HT_.out (by kernel_rfl)) (fun _ _ _ h => h) (Or.inl ⟨by rfl, ?_⟩) ?_ ?_
         rotate_left
         ·intro w'
          go_simp
          with_reducible rfl
         rotate_left
         ·simp only [Act.put, List.setIfInBounds_toArray, List.set_cons_zero, List.set_cons_succ, i64_w, i32_w]
          rfl
         refine done_ (done_of HT_.out (by kernel_rfl)) ?_
         have p113 : 0 ≤ (x8_1 : Int) := of_decide_eq_true (by first | (with_reducible assumption) | assumption)
         have q113 : x8_1 < (t103.length : Int) := of_decide_eq_true (by first | (with_reducible assumption) | assumption)
         obtain ⟨ad113, e113, hx113_0, hx113_1⟩ := at_T46 (Kd.R_reads' HO_7.out).2.2 x8_1 p113 q113
         obtain rfl : ad109 = ad113 := (by injection e113)
         replace p113 := eq_true p113
         replace q113 := eq_true q113
         try go_wp2_with (first | ((with_reducible refine gate_builtin (b := .append) (xs := #[.tmp 40, .tmp 45]) rfl ?_); at_builtin; refine Kd.R_append k46 (w0 := w) w.heap.size rfl (.tmp 40) (.tmp 45) 43 46 (.agg #[(.int .i64 0), (.int .i64 0)]) 16 rfl Try.underlying43 info46 rfl (by decide) (by omega) u6 x6_1 (⟨(rd_T46 t103 x8_1).f0, (rd_T46 t103 x8_1).f1⟩ : S46) [.int .i64 ((rd_T46 t103 x8_1).f0), .int .i64 ((rd_T46 t103 x8_1).f1)] (fun k_ => some k_ ≠ (.slice (some ad109) t103.length co16 : Value).ownBlock) (fun _ => False) rfl rfl ?aP (fun _ hk => hk.elim) ?aF ?aO ?aB ?aS ?aL ?_; (case aP => exact k46_mkM _ _ _ (⟨(rd_T46 t103 x8_1).f0, (rd_T46 t103 x8_1).f1⟩ : S46)); (case aB => exact (bp9 HB.out)); (case aF => exact (fun k_ hk => Kd.fresh' (Kd.R_lt (rp9 HO_7.out)) k_ hk)); (case aO => exact (rp9 HO_6.out)); (case aS => exact (below_size (bp9 HB.out))); (case aL => have := LMc15.out; omega); intro v115 w20 ho hb hg hat; rw [← Ny114.out] at ho; have n0_ := Aside0.mk (Kd.R_after (ok := (fun _ => True)) (by (with_reducible repeat (first | apply Kd.R_alloc | apply Kd.R_drewN | apply Kd.R_drew)); exact Kd.R_mono HO_7.out (fun _ hk => ⟨trivial, hk⟩)) hg hat); have n1_ := Aside0.mk (blk_grown (g := gb101) (o := .cells #[.slice A0_0 l0_0.length c0_0, .slice A0_1 l0_1.length c0_1, .slice A0_2 l0_2.length c0_2, .slice A0_3 l0_3.length c0_3, .slice A0_4 l0_4.length c0_4, .slice A0_5 l0_5.length c0_5, .slice A0_6 l0_6.length c0_6] 76 (0, 0)) (kp9 BK101.out) hg (Kd.R_ne HO_6.out BK101.out (by decide))); have n2_ := Aside0.mk (hb); have n3_ := Aside0.mk (ho); clear HO_7; clear BK101; clear HB; clear HO_6; have HO_7 := n0_; have BK101 := n1_; have HB := n2_; have HO116 := n3_; clear n0_ n1_ n2_ n3_; clear ho hb hg hat))
         go_roundg k1
         case measure => have := HK1.out; omega
         case rel => exact ⟨(y114), (wrap64 (x8_1 + 1)), (by first | rfl | (simp; done) | (simp [*]; done)), H', ⟨by have := HK1.out; omega⟩, ⟨rp9 HO116.out⟩, ⟨by (with_reducible repeat (first | apply Kd.R_alloc | apply Kd.R_drewN | apply Kd.R_drew)); exact Kd.R_mono HO_7.out (fun _ hk => hk.2)⟩, ⟨kp9 BK101.out⟩, ⟨bp9 HB.out⟩⟩
        ·rw [if_neg c15] at H
         exact absurd H (by simp)
       ·replace c14 := Bool.eq_false_iff.mpr c14
        subst c14
        rw [if_neg (show ¬ (false = true) by decide)] at H
        have H' := Aside0.mk H
        clear H
        obtain ⟨Ao21, co21, eo21⟩ := Kd.R_slice HO_7.out
        subst eo21
        try go_wp2
        have n0_ := Aside0.mk (Kd.R_drew HO_6.out)
        have n1_ := Aside0.mk (Kd.R_drew HO_7.out)
        have n2_ := Aside0.mk (blk_drew BK101.out)
        have n3_ := Aside0.mk (below_drew1 HB.out)
        clear HO_6 HO_7 BK101 HB
        revert n0_ n1_ n2_ n3_; intro HO_6 HO_7 BK101 HB
        have p109 : 0 ≤ (x8_1 : Int) := of_decide_eq_true (by first | (with_reducible assumption) | assumption)
        have q109 : x8_1 < (t103.length : Int) := of_decide_eq_true (by first | (with_reducible assumption) | assumption)
        obtain ⟨ad109, e109, hx109_0, hx109_1⟩ := at_T46 (Kd.R_reads' HO_7.out).2.2 x8_1 p109 q109
        cases e109
        replace p109 := eq_true p109
        replace q109 := eq_true q109
        have p111 : 0 ≤ (x8_1 : Int) := of_decide_eq_true (by first | (with_reducible assumption) | assumption)
        have q111 : x8_1 < (t103.length : Int) := of_decide_eq_true (by first | (with_reducible assumption) | assumption)
        obtain ⟨ad111, e111, hx111_0, hx111_1⟩ := at_T46 (Kd.R_reads' HO_7.out).2.2 x8_1 p111 q111
        obtain rfl : ad109 = ad111 := (by injection e111)
        replace p111 := eq_true p111
        replace q111 := eq_true q111
        refine start_ (n := 16) (S := fun w' => w'.cell? ⟨gb101, 0, none⟩ = some (.slice A0_0 l0_0.length c0_0) ∧ w'.cell? ⟨gb101, 1, none⟩ = some (.slice A0_1 l0_1.length c0_1) ∧ w'.cell? ⟨gb101, 2, none⟩ = some (.slice A0_2 l0_2.length c0_2) ∧ w'.cell? ⟨gb101, 3, none⟩ = some (.slice A0_3 l0_3.length c0_3) ∧ w'.cell? ⟨gb101, 4, none⟩ = some (.slice A0_4 l0_4.length c0_4) ∧ w'.cell? ⟨gb101, 5, none⟩ = some (.slice A0_5 l0_5.length c0_5) ∧ w'.cell? ⟨gb101, 6, none⟩ = some (.slice A0_6 l0_6.length c0_6) ∧ w'.cell? (ad109.add ((x8_1).toNat * 2)) = some (.int .i64 ((rd_T46 t103 x8_1).f0)) ∧ w'.cell? ⟨(ad109.add ((x8_1).toNat * 2)).block, (ad109.add ((x8_1).toNat * 2)).off + 1, none⟩ = some (.int .i64 ((rd_T46 t103 x8_1).f1)) ∧ w'.cell? (ad109.add ((x8_1).toNat * 2)) = some (.int .i64 ((rd_T46 t103 x8_1).f0)) ∧ w'.cell? ⟨(ad109.add ((x8_1).toNat * 2)).block, (ad109.add ((x8_1).toNat * 2)).off + 1, none⟩ = some (.int .i64 ((rd_T46 t103 x8_1).f1))) (ds := []) #[o9, o9, o9, o9, o9, o9, o9, o9, o9, o9, o9, o9, o9, o9, o9, o9] (by kernel_rfl) rfl rfl ⟨(blk_cell BK101.out 0).trans rfl, (blk_cell BK101.out 1).trans rfl, (blk_cell BK101.out 2).trans rfl, (blk_cell BK101.out 3).trans rfl, (blk_cell BK101.out 4).trans rfl, (blk_cell BK101.out 5).trans rfl, (blk_cell BK101.out 6).trans rfl, hx109_0, hx109_1, hx111_0, hx111_1⟩ (fun hHeld => ?_); refine with_tabW cupolaref14_Memory.tab9 cupolaref14_Memory.bits9 (fun HT_ HW_ => ?_)
        generalize wr.drew = w22 at HO_6 HO_7 BK101 HB hx109_0 hx109_1 hx111_0 hx111_1 hHeld ⊢
        refine pure_ (i := 1) (N := some 25) (v := ?_) (a' := ?_) #[o9, i9, o9, o9, o9, o9, o9, o9, o9, o9, o9, o9, o9, o9, o9, o9] rfl rfl (any_of HT_.out (by kernel_rfl)) (fun _ _ _ h => h) (Or.inl ⟨by rfl, ?_⟩) ?_ ?_
        rotate_left
        ·intro w'
         go_simp
         with_reducible rfl
        rotate_left
        ·simp only [Act.put, List.setIfInBounds_toArray, List.set_cons_zero, List.set_cons_succ, i64_w, i32_w]
         rfl
        refine pure_ (i := 2) (N := some 26) (v := ?_) (a' := ?_) #[o9, i9, i9, o9, o9, o9, o9, o9, o9, o9, o9, o9, o9, o9, o9, o9] rfl rfl (any_of HT_.out (by kernel_rfl)) (fun _ _ _ h => h) (Or.inl ⟨by rfl, ?_⟩) ?_ ?_
        rotate_left
        ·intro w'
         go_simp
         with_reducible rfl
        rotate_left
        ·simp only [Act.put, List.setIfInBounds_toArray, List.set_cons_zero, List.set_cons_succ, i64_w, i32_w]
         rfl
        refine pure_ (i := 3) (N := some 27) (v := ?_) (a' := ?_) #[o9, i9, i9, i9, o9, o9, o9, o9, o9, o9, o9, o9, o9, o9, o9, o9] rfl rfl (any_of HT_.out (by kernel_rfl)) (fun _ _ _ h => h) (Or.inl ⟨by rfl, ?_⟩) ?_ ?_
        rotate_left
        ·intro w'
         go_simp
         with_reducible rfl
        rotate_left
        ·simp only [Act.put, List.setIfInBounds_toArray, List.set_cons_zero, List.set_cons_succ, i64_w, i32_w]
         rfl
        refine pure_ (i := 4) (N := some 28) (v := ?_) (a' := ?_) #[o9, i9, i9, i9, i9, o9, o9, o9, o9, o9, o9, o9, o9, o9, o9, o9] rfl rfl (any_of HT_.out (by kernel_rfl)) (fun _ _ _ h => h) (Or.inl ⟨by rfl, ?_⟩) ?_ ?_
        rotate_left
        ·intro w'
         go_simp
         with_reducible rfl
        rotate_left
        ·simp only [Act.put, List.setIfInBounds_toArray, List.set_cons_zero, List.set_cons_succ, i64_w, i32_w]
         rfl
        refine take_ (i := 0) (N := some 24) (v := ?_) (a' := ?_) #[i9, i9, i9, i9, i9, o9, o9, o9, o9, o9, o9, o9, o9, o9, o9, o9] rfl rfl (take_ofW HT_.out HW_.out (by kernel_rfl)) (fun _ _ _ h => h) (Or.inl ⟨by rfl, ?_⟩) hHeld ?_ ?_
        rotate_left
        ·rintro w' ⟨s0, s1, s2, s3, s4, s5, s6, s7, s8, s9, s10⟩
         go_simp
         with_reducible rfl
        rotate_left
        ·simp only [Act.put, List.setIfInBounds_toArray, List.set_cons_zero, List.set_cons_succ, i64_w, i32_w]
         rfl
        refine take_ (i := 5) (N := some 29) (v := ?_) (a' := ?_) #[i9, i9, i9, i9, i9, i9, o9, o9, o9, o9, o9, o9, o9, o9, o9, o9] rfl rfl (take_ofW HT_.out HW_.out (by kernel_rfl)) (fun _ _ _ h => h) (Or.inl ⟨by rfl, ?_⟩) hHeld ?_ ?_
        rotate_left
        ·rintro w' ⟨s0, s1, s2, s3, s4, s5, s6, s7, s8, s9, s10⟩
         go_simp
         with_reducible rfl
        rotate_left
        ·simp only [Act.put, List.setIfInBounds_toArray, List.set_cons_zero, List.set_cons_succ, i64_w, i32_w]
         rfl
        refine one_ (i := 6) (N := some 30) #[i9, i9, i9, i9, i9, i9, i9, o9, o9, o9, o9, o9, o9, o9, o9, o9] rfl rfl (one_of HT_.out (by kernel_rfl)) (by decide) (fun K hK => ?_)
        refine goes9 Try.func134 (by kernel_rfl) rfl #[.agg #[.slice A0_0 l0_0.length c0_0, .slice A0_1 l0_1.length c0_1, .slice A0_2 l0_2.length c0_2, .slice A0_3 l0_3.length c0_3, .slice A0_4 l0_4.length c0_4, .slice A0_5 l0_5.length c0_5, .slice A0_6 l0_6.length c0_6], .int .i64 ((rd_T46 t103 x8_1).f0)] (by rfl) rfl rfl ?_
        with_reducible refine (cupolaref14_Mem.calls _ _ l0_0 _ _ l0_1 _ _ l0_2 _ _ l0_3 _ _ l0_4 _ _ l0_5 _ _ l0_6 ((rd_T46 t103 x8_1).f0) true _ ?side1 ?side2 ?side3 ?side4 ?side5 ?side6 ?side7 ?side8 ?side9 ?side10 ?side11 ?side12 ?side13 ?side14 A11.out).mono ?_
        (case side1 => exact cp9 HR0_0.out HB.out)
        (case side2 => exact HC0_0.out)
        (case side3 => exact cp9 HR0_1.out HB.out)
        (case side4 => exact HC0_1.out)
        (case side5 => exact cp9 HR0_2.out HB.out)
        (case side6 => exact HC0_2.out)
        (case side7 => exact cp9 HR0_3.out HB.out)
        (case side8 => exact HC0_3.out)
        (case side9 => exact cp9 HR0_4.out HB.out)
        (case side10 => exact HC0_4.out)
        (case side11 => exact cp9 HR0_5.out HB.out)
        (case side12 => exact HC0_5.out)
        (case side13 => exact cp9 HR0_6.out HB.out)
        (case side14 => exact HC0_6.out)
        rintro e w23 ⟨rfl, hb⟩
        have HS7_ := (hb.cell (World.block_lt_of_cell? _ _ (hHeld.2.2.2.2.2.2.2.1))).trans (hHeld.2.2.2.2.2.2.2.1)
        have HS8_ := (hb.cell (World.block_lt_of_cell? _ _ (hHeld.2.2.2.2.2.2.2.2.1))).trans (hHeld.2.2.2.2.2.2.2.2.1)
        have HS9_ := (hb.cell (World.block_lt_of_cell? _ _ (hHeld.2.2.2.2.2.2.2.2.2.1))).trans (hHeld.2.2.2.2.2.2.2.2.2.1)
        have HS10_ := (hb.cell (World.block_lt_of_cell? _ _ (hHeld.2.2.2.2.2.2.2.2.2.2))).trans (hHeld.2.2.2.2.2.2.2.2.2.2)
        refine ⟨_, rfl, ?_⟩
        have n0_ := Aside0.mk (Kd.R_below (rp9 HO_6.out) hb)
        have n1_ := Aside0.mk (Kd.R_below (rp9 HO_7.out) hb)
        have n2_ := Aside0.mk (blk_below (kp9 BK101.out) hb)
        have n3_ := Aside0.mk (below_step (bp9 HB.out) hb)
        clear HO_6 HO_7 BK101 HB
        revert n0_ n1_ n2_ n3_; intro HO_6 HO_7 BK101 HB
        (try clear hb)
        (try clear hb2)
        (try clear hk)
        (try clear hi)
        refine hK.out _ _ ⟨(blk_cell BK101.out 0).trans rfl, (blk_cell BK101.out 1).trans rfl, (blk_cell BK101.out 2).trans rfl, (blk_cell BK101.out 3).trans rfl, (blk_cell BK101.out 4).trans rfl, (blk_cell BK101.out 5).trans rfl, (blk_cell BK101.out 6).trans rfl, HS7_, HS8_, HS9_, HS10_⟩ (fun hHeld => ?_)
        clear hK K
        refine norm_ (a' := ?_) ?_ ?_
        rotate_left
        ·show Act.put _ (some 30) _ = _
         simp only [Act.put, List.setIfInBounds_toArray, List.set_cons_zero, List.set_cons_succ, i64_w, i32_w]
         rfl
        refine pure_ (i := 7) (N := some 31) (v := ?_) (a' := ?_) #[i9, i9, i9, i9, i9, i9, i9, i9, o9, o9, o9, o9, o9, o9, o9, o9] rfl rfl (any_of HT_.out (by kernel_rfl)) (fun _ _ _ h => h) (Or.inl ⟨by rfl, ?_⟩) ?_ ?_
        rotate_left
        ·intro w'
         go_simp
         with_reducible rfl
        rotate_left
        ·simp only [Act.put, List.setIfInBounds_toArray, List.set_cons_zero, List.set_cons_succ, i64_w, i32_w]
         rfl
        refine pure_ (i := 9) (N := some 33) (v := ?_) (a' := ?_) #[i9, i9, i9, i9, i9, i9, i9, i9, o9, i9, o9, o9, o9, o9, o9, o9] rfl rfl (any_of HT_.out (by kernel_rfl)) (fun _ _ _ h => h) (Or.inl ⟨by rfl, ?_⟩) ?_ ?_
        rotate_left
        ·intro w'
         go_simp
         with_reducible rfl
        rotate_left
        ·simp only [Act.put, List.setIfInBounds_toArray, List.set_cons_zero, List.set_cons_succ, i64_w, i32_w]
         rfl
        refine pure_ (i := 10) (N := some 34) (v := ?_) (a' := ?_) #[i9, i9, i9, i9, i9, i9, i9, i9, o9, i9, i9, o9, o9, o9, o9, o9] rfl rfl (any_of HT_.out (by kernel_rfl)) (fun _ _ _ h => h) (Or.inl ⟨by rfl, ?_⟩) ?_ ?_
        rotate_left
        ·intro w'
         go_simp
         with_reducible rfl
        rotate_left
        ·simp only [Act.put, List.setIfInBounds_toArray, List.set_cons_zero, List.set_cons_succ, i64_w, i32_w]
         rfl
        refine pure_ (i := 11) (N := some 35) (v := ?_) (a' := ?_) #[i9, i9, i9, i9, i9, i9, i9, i9, o9, i9, i9, i9, o9, o9, o9, o9] rfl rfl (any_of HT_.out (by kernel_rfl)) (fun _ _ _ h => h) (Or.inl ⟨by rfl, ?_⟩) ?_ ?_
        rotate_left
        ·intro w'
         go_simp
         with_reducible rfl
        rotate_left
        ·simp only [Act.put, List.setIfInBounds_toArray, List.set_cons_zero, List.set_cons_succ, i64_w, i32_w]
         rfl
        refine pure_ (i := 12) (N := some 36) (v := ?_) (a' := ?_) #[i9, i9, i9, i9, i9, i9, i9, i9, o9, i9, i9, i9, i9, o9, o9, o9] rfl rfl (any_of HT_.out (by kernel_rfl)) (fun _ _ _ h => h) (Or.inl ⟨by rfl, ?_⟩) ?_ ?_
        rotate_left
        ·intro w'
         go_simp
         with_reducible rfl
        rotate_left
        ·simp only [Act.put, List.setIfInBounds_toArray, List.set_cons_zero, List.set_cons_succ, i64_w, i32_w]
         rfl
        refine take_ (i := 8) (N := some 32) (v := ?_) (a' := ?_) #[i9, i9, i9, i9, i9, i9, i9, i9, i9, i9, i9, i9, i9, o9, o9, o9] rfl rfl (take_ofW HT_.out HW_.out (by kernel_rfl)) (fun _ _ _ h => h) (Or.inl ⟨by rfl, ?_⟩) hHeld ?_ ?_
        rotate_left
        ·rintro w' ⟨s0, s1, s2, s3, s4, s5, s6, s7, s8, s9, s10⟩
         go_simp
         with_reducible rfl
        rotate_left
        ·simp only [Act.put, List.setIfInBounds_toArray, List.set_cons_zero, List.set_cons_succ, i64_w, i32_w]
         rfl
        refine take_ (i := 13) (N := some 37) (v := ?_) (a' := ?_) #[i9, i9, i9, i9, i9, i9, i9, i9, i9, i9, i9, i9, i9, i9, o9, o9] rfl rfl (take_ofW HT_.out HW_.out (by kernel_rfl)) (fun _ _ _ h => h) (Or.inl ⟨by rfl, ?_⟩) hHeld ?_ ?_
        rotate_left
        ·rintro w' ⟨s0, s1, s2, s3, s4, s5, s6, s7, s8, s9, s10⟩
         go_simp
         with_reducible rfl
        rotate_left
        ·simp only [Act.put, List.setIfInBounds_toArray, List.set_cons_zero, List.set_cons_succ, i64_w, i32_w]
         rfl
        refine one_ (i := 14) (N := some 38) #[i9, i9, i9, i9, i9, i9, i9, i9, i9, i9, i9, i9, i9, i9, i9, o9] rfl rfl (one_of HT_.out (by kernel_rfl)) (by decide) (fun K hK => ?_)
        refine goes9 Try.func134 (by kernel_rfl) rfl #[.agg #[.slice A0_0 l0_0.length c0_0, .slice A0_1 l0_1.length c0_1, .slice A0_2 l0_2.length c0_2, .slice A0_3 l0_3.length c0_3, .slice A0_4 l0_4.length c0_4, .slice A0_5 l0_5.length c0_5, .slice A0_6 l0_6.length c0_6], .int .i64 ((rd_T46 t103 x8_1).f1)] (by rfl) rfl rfl ?_
        with_reducible refine (cupolaref14_Mem.calls _ _ l0_0 _ _ l0_1 _ _ l0_2 _ _ l0_3 _ _ l0_4 _ _ l0_5 _ _ l0_6 ((rd_T46 t103 x8_1).f1) false _ ?side1 ?side2 ?side3 ?side4 ?side5 ?side6 ?side7 ?side8 ?side9 ?side10 ?side11 ?side12 ?side13 ?side14 A13.out).mono ?_
        (case side1 => exact cp9 HR0_0.out HB.out)
        (case side2 => exact HC0_0.out)
        (case side3 => exact cp9 HR0_1.out HB.out)
        (case side4 => exact HC0_1.out)
        (case side5 => exact cp9 HR0_2.out HB.out)
        (case side6 => exact HC0_2.out)
        (case side7 => exact cp9 HR0_3.out HB.out)
        (case side8 => exact HC0_3.out)
        (case side9 => exact cp9 HR0_4.out HB.out)
        (case side10 => exact HC0_4.out)
        (case side11 => exact cp9 HR0_5.out HB.out)
        (case side12 => exact HC0_5.out)
        (case side13 => exact cp9 HR0_6.out HB.out)
        (case side14 => exact HC0_6.out)
        rintro e w24 ⟨rfl, hb⟩
        have HS7_ := (hb.cell (World.block_lt_of_cell? _ _ (hHeld.2.2.2.2.2.2.2.1))).trans (hHeld.2.2.2.2.2.2.2.1)
        have HS8_ := (hb.cell (World.block_lt_of_cell? _ _ (hHeld.2.2.2.2.2.2.2.2.1))).trans (hHeld.2.2.2.2.2.2.2.2.1)
        have HS9_ := (hb.cell (World.block_lt_of_cell? _ _ (hHeld.2.2.2.2.2.2.2.2.2.1))).trans (hHeld.2.2.2.2.2.2.2.2.2.1)
        have HS10_ := (hb.cell (World.block_lt_of_cell? _ _ (hHeld.2.2.2.2.2.2.2.2.2.2))).trans (hHeld.2.2.2.2.2.2.2.2.2.2)
        refine ⟨_, rfl, ?_⟩
        have n0_ := Aside0.mk (Kd.R_below (rp9 HO_6.out) hb)
        have n1_ := Aside0.mk (Kd.R_below (rp9 HO_7.out) hb)
        have n2_ := Aside0.mk (blk_below (kp9 BK101.out) hb)
        have n3_ := Aside0.mk (below_step (bp9 HB.out) hb)
        clear HO_6 HO_7 BK101 HB
        revert n0_ n1_ n2_ n3_; intro HO_6 HO_7 BK101 HB
        (try clear hb)
        (try clear hb2)
        (try clear hk)
        (try clear hi)
        refine hK.out _ _ ⟨(blk_cell BK101.out 0).trans rfl, (blk_cell BK101.out 1).trans rfl, (blk_cell BK101.out 2).trans rfl, (blk_cell BK101.out 3).trans rfl, (blk_cell BK101.out 4).trans rfl, (blk_cell BK101.out 5).trans rfl, (blk_cell BK101.out 6).trans rfl, HS7_, HS8_, HS9_, HS10_⟩ (fun hHeld => ?_)
        clear hK K
        refine norm_ (a' := ?_) ?_ ?_
        rotate_left
        ·show Act.put _ (some 38) _ = _
         simp only [Act.put, List.setIfInBounds_toArray, List.set_cons_zero, List.set_cons_succ, i64_w, i32_w]
         rfl
        refine pure_ (i := 15) (N := some 39) (v := ?_) (a' := ?_) #[i9, i9, i9, i9, i9, i9, i9, i9, i9, i9, i9, i9, i9, i9, i9, i9] rfl rfl (any_of HT_.out (by kernel_rfl)) (fun _ _ _ h => h) (Or.inl ⟨by rfl, ?_⟩) ?_ ?_
        rotate_left
        ·intro w'
         go_simp
         with_reducible rfl
        rotate_left
        ·simp only [Act.put, List.setIfInBounds_toArray, List.set_cons_zero, List.set_cons_succ, i64_w, i32_w]
         rfl
        refine done_ (done_of HT_.out (by kernel_rfl)) ?_
        try go_wp2
        go_roundg k1
        case measure => have := HK1.out; omega
        case rel => exact ⟨(x6_1), (wrap64 (x8_1 + 1)), (by first | rfl | (simp; done) | (simp [*]; done)), H', ⟨by have := HK1.out; omega⟩, ⟨rp9 HO_6.out⟩, ⟨rp9 HO_7.out⟩, ⟨kp9 BK101.out⟩, ⟨bp9 HB.out⟩⟩
      ·replace c12 := Bool.eq_false_iff.mpr c12
       subst c12
       rw [if_neg (show ¬ (false = true) by decide)] at H
       have H' := Aside0.mk H
       clear H
       obtain ⟨Ao25, co25, eo25⟩ := Kd.R_slice HO_7.out
       subst eo25
       try go_wp2
       have n0_ := Aside0.mk (Kd.R_drew HO_6.out)
       have n1_ := Aside0.mk (Kd.R_drew HO_7.out)
       have n2_ := Aside0.mk (blk_drew BK101.out)
       have n3_ := Aside0.mk (below_drew1 HB.out)
       clear HO_6 HO_7 BK101 HB
       revert n0_ n1_ n2_ n3_; intro HO_6 HO_7 BK101 HB
       have p109 : 0 ≤ (x8_1 : Int) := of_decide_eq_true (by first | (with_reducible assumption) | assumption)
       have q109 : x8_1 < (t103.length : Int) := of_decide_eq_true (by first | (with_reducible assumption) | assumption)
       obtain ⟨ad109, e109, hx109_0, hx109_1⟩ := at_T46 (Kd.R_reads' HO_7.out).2.2 x8_1 p109 q109
       cases e109
       replace p109 := eq_true p109
       replace q109 := eq_true q109
       refine start_ (n := 16) (S := fun w' => w'.cell? ⟨gb101, 0, none⟩ = some (.slice A0_0 l0_0.length c0_0) ∧ w'.cell? ⟨gb101, 1, none⟩ = some (.slice A0_1 l0_1.length c0_1) ∧ w'.cell? ⟨gb101, 2, none⟩ = some (.slice A0_2 l0_2.length c0_2) ∧ w'.cell? ⟨gb101, 3, none⟩ = some (.slice A0_3 l0_3.length c0_3) ∧ w'.cell? ⟨gb101, 4, none⟩ = some (.slice A0_4 l0_4.length c0_4) ∧ w'.cell? ⟨gb101, 5, none⟩ = some (.slice A0_5 l0_5.length c0_5) ∧ w'.cell? ⟨gb101, 6, none⟩ = some (.slice A0_6 l0_6.length c0_6) ∧ w'.cell? (ad109.add ((x8_1).toNat * 2)) = some (.int .i64 ((rd_T46 t103 x8_1).f0)) ∧ w'.cell? ⟨(ad109.add ((x8_1).toNat * 2)).block, (ad109.add ((x8_1).toNat * 2)).off + 1, none⟩ = some (.int .i64 ((rd_T46 t103 x8_1).f1))) (ds := []) #[o9, o9, o9, o9, o9, o9, o9, o9, o9, o9, o9, o9, o9, o9, o9, o9] (by kernel_rfl) rfl rfl ⟨(blk_cell BK101.out 0).trans rfl, (blk_cell BK101.out 1).trans rfl, (blk_cell BK101.out 2).trans rfl, (blk_cell BK101.out 3).trans rfl, (blk_cell BK101.out 4).trans rfl, (blk_cell BK101.out 5).trans rfl, (blk_cell BK101.out 6).trans rfl, hx109_0, hx109_1⟩ (fun hHeld => ?_); refine with_tabW cupolaref14_Memory.tab9 cupolaref14_Memory.bits9 (fun HT_ HW_ => ?_)
       generalize wr.drew = w26 at HO_6 HO_7 BK101 HB hx109_0 hx109_1 hHeld ⊢
       refine pure_ (i := 1) (N := some 25) (v := ?_) (a' := ?_) #[o9, i9, o9, o9, o9, o9, o9, o9, o9, o9, o9, o9, o9, o9, o9, o9] rfl rfl (any_of HT_.out (by kernel_rfl)) (fun _ _ _ h => h) (Or.inl ⟨by rfl, ?_⟩) ?_ ?_
       rotate_left
       ·intro w'
        go_simp
        with_reducible rfl
       rotate_left
       ·simp only [Act.put, List.setIfInBounds_toArray, List.set_cons_zero, List.set_cons_succ, i64_w, i32_w]
        rfl
       refine pure_ (i := 2) (N := some 26) (v := ?_) (a' := ?_) #[o9, i9, i9, o9, o9, o9, o9, o9, o9, o9, o9, o9, o9, o9, o9, o9] rfl rfl (any_of HT_.out (by kernel_rfl)) (fun _ _ _ h => h) (Or.inl ⟨by rfl, ?_⟩) ?_ ?_
       rotate_left
       ·intro w'
        go_simp
        with_reducible rfl
       rotate_left
       ·simp only [Act.put, List.setIfInBounds_toArray, List.set_cons_zero, List.set_cons_succ, i64_w, i32_w]
        rfl
       refine pure_ (i := 3) (N := some 27) (v := ?_) (a' := ?_) #[o9, i9, i9, i9, o9, o9, o9, o9, o9, o9, o9, o9, o9, o9, o9, o9] rfl rfl (any_of HT_.out (by kernel_rfl)) (fun _ _ _ h => h) (Or.inl ⟨by rfl, ?_⟩) ?_ ?_
       rotate_left
       ·intro w'
        go_simp
        with_reducible rfl
       rotate_left
       ·simp only [Act.put, List.setIfInBounds_toArray, List.set_cons_zero, List.set_cons_succ, i64_w, i32_w]
        rfl
       refine pure_ (i := 4) (N := some 28) (v := ?_) (a' := ?_) #[o9, i9, i9, i9, i9, o9, o9, o9, o9, o9, o9, o9, o9, o9, o9, o9] rfl rfl (any_of HT_.out (by kernel_rfl)) (fun _ _ _ h => h) (Or.inl ⟨by rfl, ?_⟩) ?_ ?_
       rotate_left
       ·intro w'
        go_simp
        with_reducible rfl
       rotate_left
       ·simp only [Act.put, List.setIfInBounds_toArray, List.set_cons_zero, List.set_cons_succ, i64_w, i32_w]
        rfl
       refine take_ (i := 0) (N := some 24) (v := ?_) (a' := ?_) #[i9, i9, i9, i9, i9, o9, o9, o9, o9, o9, o9, o9, o9, o9, o9, o9] rfl rfl (take_ofW HT_.out HW_.out (by kernel_rfl)) (fun _ _ _ h => h) (Or.inl ⟨by rfl, ?_⟩) hHeld ?_ ?_
       rotate_left
       ·rintro w' ⟨s0, s1, s2, s3, s4, s5, s6, s7, s8⟩
        go_simp
        with_reducible rfl
       rotate_left
       ·simp only [Act.put, List.setIfInBounds_toArray, List.set_cons_zero, List.set_cons_succ, i64_w, i32_w]
        rfl
       refine take_ (i := 5) (N := some 29) (v := ?_) (a' := ?_) #[i9, i9, i9, i9, i9, i9, o9, o9, o9, o9, o9, o9, o9, o9, o9, o9] rfl rfl (take_ofW HT_.out HW_.out (by kernel_rfl)) (fun _ _ _ h => h) (Or.inl ⟨by rfl, ?_⟩) hHeld ?_ ?_
       rotate_left
       ·rintro w' ⟨s0, s1, s2, s3, s4, s5, s6, s7, s8⟩
        go_simp
        with_reducible rfl
       rotate_left
       ·simp only [Act.put, List.setIfInBounds_toArray, List.set_cons_zero, List.set_cons_succ, i64_w, i32_w]
        rfl
       refine one_ (i := 6) (N := some 30) #[i9, i9, i9, i9, i9, i9, i9, o9, o9, o9, o9, o9, o9, o9, o9, o9] rfl rfl (one_of HT_.out (by kernel_rfl)) (by decide) (fun K hK => ?_)
       refine goes9 Try.func134 (by kernel_rfl) rfl #[.agg #[.slice A0_0 l0_0.length c0_0, .slice A0_1 l0_1.length c0_1, .slice A0_2 l0_2.length c0_2, .slice A0_3 l0_3.length c0_3, .slice A0_4 l0_4.length c0_4, .slice A0_5 l0_5.length c0_5, .slice A0_6 l0_6.length c0_6], .int .i64 ((rd_T46 t103 x8_1).f0)] (by rfl) rfl rfl ?_
       with_reducible refine (cupolaref14_Mem.calls _ _ l0_0 _ _ l0_1 _ _ l0_2 _ _ l0_3 _ _ l0_4 _ _ l0_5 _ _ l0_6 ((rd_T46 t103 x8_1).f0) false _ ?side1 ?side2 ?side3 ?side4 ?side5 ?side6 ?side7 ?side8 ?side9 ?side10 ?side11 ?side12 ?side13 ?side14 A11.out).mono ?_
       (case side1 => exact cp9 HR0_0.out HB.out)
       (case side2 => exact HC0_0.out)
       (case side3 => exact cp9 HR0_1.out HB.out)
       (case side4 => exact HC0_1.out)
       (case side5 => exact cp9 HR0_2.out HB.out)
       (case side6 => exact HC0_2.out)
       (case side7 => exact cp9 HR0_3.out HB.out)
       (case side8 => exact HC0_3.out)
       (case side9 => exact cp9 HR0_4.out HB.out)
       (case side10 => exact HC0_4.out)
       (case side11 => exact cp9 HR0_5.out HB.out)
       (case side12 => exact HC0_5.out)
       (case side13 => exact cp9 HR0_6.out HB.out)
       (case side14 => exact HC0_6.out)
       rintro e w27 ⟨rfl, hb⟩
       have HS7_ := (hb.cell (World.block_lt_of_cell? _ _ (hHeld.2.2.2.2.2.2.2.1))).trans (hHeld.2.2.2.2.2.2.2.1)
       have HS8_ := (hb.cell (World.block_lt_of_cell? _ _ (hHeld.2.2.2.2.2.2.2.2))).trans (hHeld.2.2.2.2.2.2.2.2)
       refine ⟨_, rfl, ?_⟩
       have n0_ := Aside0.mk (Kd.R_below (rp9 HO_6.out) hb)
       have n1_ := Aside0.mk (Kd.R_below (rp9 HO_7.out) hb)
       have n2_ := Aside0.mk (blk_below (kp9 BK101.out) hb)
       have n3_ := Aside0.mk (below_step (bp9 HB.out) hb)
       clear HO_6 HO_7 BK101 HB
       revert n0_ n1_ n2_ n3_; intro HO_6 HO_7 BK101 HB
       (try clear hb)
       (try clear hb2)
       (try clear hk)
       (try clear hi)
       refine hK.out _ _ ⟨(blk_cell BK101.out 0).trans rfl, (blk_cell BK101.out 1).trans rfl, (blk_cell BK101.out 2).trans rfl, (blk_cell BK101.out 3).trans rfl, (blk_cell BK101.out 4).trans rfl, (blk_cell BK101.out 5).trans rfl, (blk_cell BK101.out 6).trans rfl, HS7_, HS8_⟩ (fun hHeld => ?_)
       clear hK K
       refine norm_ (a' := ?_) ?_ ?_
       rotate_left
       ·show Act.put _ (some 30) _ = _
        simp only [Act.put, List.setIfInBounds_toArray, List.set_cons_zero, List.set_cons_succ, i64_w, i32_w]
        rfl
       refine pure_ (i := 7) (N := some 31) (v := ?_) (a' := ?_) #[i9, i9, i9, i9, i9, i9, i9, i9, o9, o9, o9, o9, o9, o9, o9, o9] rfl rfl (any_of HT_.out (by kernel_rfl)) (fun _ _ _ h => h) (Or.inl ⟨by rfl, ?_⟩) ?_ ?_
       rotate_left
       ·intro w'
        go_simp
        with_reducible rfl
       rotate_left
       ·simp only [Act.put, List.setIfInBounds_toArray, List.set_cons_zero, List.set_cons_succ, i64_w, i32_w]
        rfl
       refine pure_ (i := 8) (N := some 32) (v := undef) (a' := ?_) #[i9, i9, i9, i9, i9, i9, i9, i9, i9, o9, o9, o9, o9, o9, o9, o9] rfl rfl (any_of HT_.out (by kernel_rfl)) (fun _ _ _ h => h) (Or.inr ⟨by rfl, rfl⟩) ?_ ?_
       rotate_left
       ·simp only [Act.put, List.setIfInBounds_toArray, List.set_cons_zero, List.set_cons_succ, i64_w, i32_w]
        rfl
       refine pure_ (i := 9) (N := some 33) (v := undef) (a' := ?_) #[i9, i9, i9, i9, i9, i9, i9, i9, i9, i9, o9, o9, o9, o9, o9, o9] rfl rfl (any_of HT_.out (by kernel_rfl)) (fun _ _ _ h => h) (Or.inr ⟨by rfl, rfl⟩) ?_ ?_
       rotate_left
       ·simp only [Act.put, List.setIfInBounds_toArray, List.set_cons_zero, List.set_cons_succ, i64_w, i32_w]
        rfl
       refine pure_ (i := 10) (N := some 34) (v := undef) (a' := ?_) #[i9, i9, i9, i9, i9, i9, i9, i9, i9, i9, i9, o9, o9, o9, o9, o9] rfl rfl (any_of HT_.out (by kernel_rfl)) (fun _ _ _ h => h) (Or.inr ⟨by rfl, rfl⟩) ?_ ?_
       rotate_left
       ·simp only [Act.put, List.setIfInBounds_toArray, List.set_cons_zero, List.set_cons_succ, i64_w, i32_w]
        rfl
       refine pure_ (i := 11) (N := some 35) (v := undef) (a' := ?_) #[i9, i9, i9, i9, i9, i9, i9, i9, i9, i9, i9, i9, o9, o9, o9, o9] rfl rfl (any_of HT_.out (by kernel_rfl)) (fun _ _ _ h => h) (Or.inr ⟨by rfl, rfl⟩) ?_ ?_
       rotate_left
       ·simp only [Act.put, List.setIfInBounds_toArray, List.set_cons_zero, List.set_cons_succ, i64_w, i32_w]
        rfl
       refine pure_ (i := 12) (N := some 36) (v := undef) (a' := ?_) #[i9, i9, i9, i9, i9, i9, i9, i9, i9, i9, i9, i9, i9, o9, o9, o9] rfl rfl (any_of HT_.out (by kernel_rfl)) (fun _ _ _ h => h) (Or.inr ⟨by rfl, rfl⟩) ?_ ?_
       rotate_left
       ·simp only [Act.put, List.setIfInBounds_toArray, List.set_cons_zero, List.set_cons_succ, i64_w, i32_w]
        rfl
       refine pure_ (i := 13) (N := some 37) (v := undef) (a' := ?_) #[i9, i9, i9, i9, i9, i9, i9, i9, i9, i9, i9, i9, i9, i9, o9, o9] rfl rfl (any_of HT_.out (by kernel_rfl)) (fun _ _ _ h => h) (Or.inr ⟨by rfl, rfl⟩) ?_ ?_
       rotate_left
       ·simp only [Act.put, List.setIfInBounds_toArray, List.set_cons_zero, List.set_cons_succ, i64_w, i32_w]
        rfl
       refine pure_ (i := 14) (N := some 38) (v := undef) (a' := ?_) #[i9, i9, i9, i9, i9, i9, i9, i9, i9, i9, i9, i9, i9, i9, i9, o9] rfl rfl (any_of HT_.out (by kernel_rfl)) (fun _ _ _ h => h) (Or.inr ⟨by rfl, rfl⟩) ?_ ?_
       rotate_left
       ·simp only [Act.put, List.setIfInBounds_toArray, List.set_cons_zero, List.set_cons_succ, i64_w, i32_w]
        rfl
       refine pure_ (i := 15) (N := some 39) (v := ?_) (a' := ?_) #[i9, i9, i9, i9, i9, i9, i9, i9, i9, i9, i9, i9, i9, i9, i9, i9] rfl rfl (any_of HT_.out (by kernel_rfl)) (fun _ _ _ h => h) (Or.inl ⟨by rfl, ?_⟩) ?_ ?_
       rotate_left
       ·intro w'
        go_simp
        with_reducible rfl
       rotate_left
       ·simp only [Act.put, List.setIfInBounds_toArray, List.set_cons_zero, List.set_cons_succ, i64_w, i32_w]
        rfl
       refine done_ (done_of HT_.out (by kernel_rfl)) ?_
       try go_wp2
       go_roundg k1
       case measure => have := HK1.out; omega
       case rel => exact ⟨(x6_1), (wrap64 (x8_1 + 1)), (by first | rfl | (simp; done) | (simp [*]; done)), H', ⟨by have := HK1.out; omega⟩, ⟨rp9 HO_6.out⟩, ⟨rp9 HO_7.out⟩, ⟨kp9 BK101.out⟩, ⟨bp9 HB.out⟩⟩
     ·rw [if_neg c10] at H
      exact absurd H (by simp)
    ·rw [if_neg c9] at H
     have c9b0 : decide (x8_1 < (t103.length : Int)) = false := decide_eq_false c9
     clear c9
     replace H := Option.bind_eq_some_iff.mp H
     obtain ⟨t106, A280, H⟩ := H
     have A28 := Aside0.mk A280
     clear A280
     obtain rfl := Option.some.inj H
     obtain ⟨Ao29, co29, eo29⟩ := Kd.R_slice HO_7.out
     subst eo29
     obtain ⟨Ao30, co30, eo30⟩ := Kd.R_slice HO_6.out
     subst eo30
     go_wp2_with (first | ((with_reducible refine gate_callee (f := 119) rfl ?_); refine goesL9 (some 49) rfl rfl Try.func119 (by kernel_rfl) rfl #[.int .i64 (l0_0.length : Int), .slice Ao30 x6_1.length co30] rfl ?_; (with_reducible refine (cupolaref05_Made.calls k1 (l0_0.length : Int) _ _ x6_1 t106 _ ?side1 ?side2 A28.out).mono ?_); (case side1 => exact lp9 (Kd.R_reads' HO_6.out).2.2); (case side2 => exact (Kd.R_reads' HO_6.out).2.1); rintro e w31 ⟨v107, rfl, ho0, hb⟩; refine ⟨_, rfl, ?_⟩; have n0_ := Aside0.mk (Kd.R_below (rp9 HO_6.out) hb); have n1_ := Aside0.mk (Kd.R_below (rp9 HO_7.out) hb); have n2_ := Aside0.mk (Kd.R_lower ho0 (below_size (bp9 HB.out))); have n3_ := Aside0.mk (blk_below (kp9 BK101.out) hb); have n4_ := Aside0.mk (below_step (bp9 HB.out) hb); clear HO_6; clear HO_7; clear BK101; clear HB; have HO_6 := n0_; have HO_7 := n1_; have HO108 := n2_; have BK101 := n3_; have HB := n4_; clear n0_ n1_ n2_ n3_ n4_; (try clear hb); (try clear hb2); (try clear hk); (try clear hi); (try clear ho0)))
     go_ret
     exact ⟨_, by first | rfl | (simp [errW_none, errW_some] <;> rfl) | (simp [*, errW_none, errW_some] <;> rfl), by (with_reducible repeat (first | apply Kd.R_alloc | apply Kd.R_drewN | apply Kd.R_drew)); exact HO108.out, bp9 HB.out⟩
 ·rw [if_neg c4] at H
  have c4b0 : (t102 == (l0_0.length : Int)) = false := beq_eq_false_iff_ne.mpr c4
  have c4b1 : (t102 != (l0_0.length : Int)) = true := bne_iff_ne.mpr c4
  obtain rfl := Option.some.inj H
  go_enter Try.func85, Try.ntmps85
  go_wp2_with (first | ((with_reducible refine gate_dst (N := 2) rfl ?_); refine box_event ?hg (N := 2) ?hd (cs := #[.slice A0_0 l0_0.length c0_0, .slice A0_1 l0_1.length c0_1, .slice A0_2 l0_2.length c0_2, .slice A0_3 l0_3.length c0_3, .slice A0_4 l0_4.length c0_4, .slice A0_5 l0_5.length c0_5, .slice A0_6 l0_6.length c0_6]) (t := 76) ?hr ?_; (case hd => rfl); (case hg => rfl); (case hr => first | (go_simp; done) | (go_simp; rfl)); intro gb101 hg w32 hbox hb; have n0_ := Aside0.mk (below_step (bp9 HB.out) hb); have n1_ := Aside0.mk (hbox); have n2_ := Aside0.mk ((by rw [hg]; exact (below_size (bp9 HB.out)) : w.heap.size ≤ gb101)); have n3_ := n2_; clear HB; have HB := n0_; have BK101 := n1_; have GW101 := n2_; have GE101 := n3_; clear n0_ n1_ n2_ n3_; clear hb hbox hg; obtain ⟨hcz33_0, hcz33_1, hcz33_2, hcz33_3, hcz33_4, hcz33_5, hcz33_6, hfz33_0, hfz33_1, hfz33_2, hfz33_3, hfz33_4, hfz33_5, hfz33_6⟩ := cz7 BK101.out) | ((with_reducible refine gate_callee (f := 116) rfl ?_); refine goesL9 (some 13) rfl rfl Try.func116 (by kernel_rfl) rfl #[.slice A1 l1.length c1] rfl ?_; (with_reducible refine (cupolaref05_Size.calls _ _ l1 t102 _ ?side1 ?side2 A3.out).mono ?_); (case side1 => exact cp9 HR1.out HB.out); (case side2 => exact HC1.out); rintro e w' ⟨rfl, ⟨nd, rfl⟩⟩; refine ⟨_, rfl, ?_⟩))
  go_ret
  exact ⟨_, by first | rfl | (simp [errW_none, errW_some] <;> rfl) | (simp [*, errW_none, errW_some] <;> rfl), by first | exact Kd.R_nil _ _ _ _ _ | exact Kd.N_nil _ _ _ _ _ | exact Kd.V_nil _ _ _ _ _ | exact Kd.Q_nil _ _ _ _ _ | exact Kd.S_nil _ _ _ _ _, bp9 HB.out⟩

/-! ### cupolaref14_Coi: function 87 -/
def cupolaref14_Coi.f (k : Nat) (l0_0 : List (S26)) (l0_1 : List Int) (l0_2 : List Int) (l0_3 : List Int) (l0_4 : List Int) (l0_5 : List Int) (l0_6 : List (List Int)) (l1 : List Int) : Option (List Int) := (cupolaref13_Within.f k l0_0 l0_1 l0_2 l0_3 l0_4 l0_5 l0_6 l1).bind fun t102 => (some t102)
set_option maxHeartbeats 8000000 in
set_option maxRecDepth 100000 in
theorem cupolaref14_Coi.calls (k : Nat) (A0_0 : Option Addr) (c0_0 : Nat) (l0_0 : List (S26)) (A0_1 : Option Addr) (c0_1 : Nat) (l0_1 : List Int) (A0_2 : Option Addr) (c0_2 : Nat) (l0_2 : List Int) (A0_3 : Option Addr) (c0_3 : Nat) (l0_3 : List Int) (A0_4 : Option Addr) (c0_4 : Nat) (l0_4 : List Int) (A0_5 : Option Addr) (c0_5 : Nat) (l0_5 : List Int) (A0_6 : Option Addr) (c0_6 : Nat) (l0_6 : List (List Int)) (A1 : Option Addr) (c1 : Nat) (l1 : List Int) (r : List Int) (w : World) (hr0_0 : Kd.C k26 w A0_0 l0_0.length l0_0) (hc0_0 : l0_0.length ≤ c0_0) (hr0_1 : Kd.C (Kd.int .u32) w A0_1 l0_1.length l0_1) (hc0_1 : l0_1.length ≤ c0_1) (hr0_2 : Kd.C (Kd.int .u32) w A0_2 l0_2.length l0_2) (hc0_2 : l0_2.length ≤ c0_2) (hr0_3 : Kd.C (Kd.int .u32) w A0_3 l0_3.length l0_3) (hc0_3 : l0_3.length ≤ c0_3) (hr0_4 : Kd.C (Kd.int .u32) w A0_4 l0_4.length l0_4) (hc0_4 : l0_4.length ≤ c0_4) (hr0_5 : Kd.C (Kd.int .u32) w A0_5 l0_5.length l0_5) (hc0_5 : l0_5.length ≤ c0_5) (hr0_6 : Kd.C (Kd.slice 2 (Kd.int .i64)) w A0_6 l0_6.length l0_6) (hc0_6 : l0_6.length ≤ c0_6) (hr1 : Kd.C (Kd.int .u32) w A1 l1.length l1) (hc1 : l1.length ≤ c1) (h : cupolaref14_Coi.f k l0_0 l0_1 l0_2 l0_3 l0_4 l0_5 l0_6 l1 = some r) :
  Calls Try.prog 87 #[.agg #[.slice A0_0 l0_0.length c0_0, .slice A0_1 l0_1.length c0_1, .slice A0_2 l0_2.length c0_2, .slice A0_3 l0_3.length c0_3, .slice A0_4 l0_4.length c0_4, .slice A0_5 l0_5.length c0_5, .slice A0_6 l0_6.length c0_6], .slice A1 l1.length c1] w fun e w' => ∃ v0_ : Value, e = .returned (v0_) ∧ Kd.R (Kd.int .u32) 52 w' w.heap.size (fun _ => True) v0_ r ∧ Below w.heap.size w w' := by
 have hu76 := Try.underlying76
 have HR0_0 := Aside0.mk hr0_0
 have HC0_0 := Aside0.mk hc0_0
 clear hr0_0 hc0_0
 have HR0_1 := Aside0.mk hr0_1
 have HC0_1 := Aside0.mk hc0_1
 clear hr0_1 hc0_1
 have HR0_2 := Aside0.mk hr0_2
 have HC0_2 := Aside0.mk hc0_2
 clear hr0_2 hc0_2
 have HR0_3 := Aside0.mk hr0_3
 have HC0_3 := Aside0.mk hc0_3
 clear hr0_3 hc0_3
 have HR0_4 := Aside0.mk hr0_4
 have HC0_4 := Aside0.mk hc0_4
 clear hr0_4 hc0_4
 have HR0_5 := Aside0.mk hr0_5
 have HC0_5 := Aside0.mk hc0_5
 clear hr0_5 hc0_5
 have HR0_6 := Aside0.mk hr0_6
 have HC0_6 := Aside0.mk hc0_6
 clear hr0_6 hc0_6
 have HR1 := Aside0.mk hr1
 have HC1 := Aside0.mk hc1
 clear hr1 hc1
 have HB := Aside0.mk (Below.refl w.heap.size w)
 have H : ((cupolaref13_Within.f k l0_0 l0_1 l0_2 l0_3 l0_4 l0_5 l0_6 l1).bind fun t102 => (some t102)) = some r := h
 clear h
 replace H := Option.bind_eq_some_iff.mp H
 obtain ⟨t102, A30, H⟩ := H
 have A3 := Aside0.mk A30
 clear A30
 obtain rfl := Option.some.inj H
 go_enter Try.func87, Try.ntmps87
 go_wp2_with (first | ((with_reducible refine gate_dst (N := 2) rfl ?_); refine box_event ?hg (N := 2) ?hd (cs := #[.slice A0_0 l0_0.length c0_0, .slice A0_1 l0_1.length c0_1, .slice A0_2 l0_2.length c0_2, .slice A0_3 l0_3.length c0_3, .slice A0_4 l0_4.length c0_4, .slice A0_5 l0_5.length c0_5, .slice A0_6 l0_6.length c0_6]) (t := 76) ?hr ?_; (case hd => rfl); (case hg => rfl); (case hr => first | (go_simp; done) | (go_simp; rfl)); intro gb101 hg w4 hbox hb; have n0_ := Aside0.mk (below_step (bp9 HB.out) hb); have n1_ := Aside0.mk (hbox); have n2_ := Aside0.mk ((by rw [hg]; exact (below_size (bp9 HB.out)) : w.heap.size ≤ gb101)); have n3_ := n2_; clear HB; have HB := n0_; have BK101 := n1_; have GW101 := n2_; have GE101 := n3_; clear n0_ n1_ n2_ n3_; clear hb hbox hg; obtain ⟨hcz5_0, hcz5_1, hcz5_2, hcz5_3, hcz5_4, hcz5_5, hcz5_6, hfz5_0, hfz5_1, hfz5_2, hfz5_3, hfz5_4, hfz5_5, hfz5_6⟩ := cz7 BK101.out) | ((with_reducible refine gate_callee (f := 137) rfl ?_); refine goesL9 (some 7) rfl rfl Try.func137 (by kernel_rfl) rfl #[.agg #[.slice A0_0 l0_0.length c0_0, .slice A0_1 l0_1.length c0_1, .slice A0_2 l0_2.length c0_2, .slice A0_3 l0_3.length c0_3, .slice A0_4 l0_4.length c0_4, .slice A0_5 l0_5.length c0_5, .slice A0_6 l0_6.length c0_6], .slice A1 l1.length c1] rfl ?_; (with_reducible refine (cupolaref13_Within.calls k _ _ l0_0 _ _ l0_1 _ _ l0_2 _ _ l0_3 _ _ l0_4 _ _ l0_5 _ _ l0_6 _ _ l1 t102 _ ?side1 ?side2 ?side3 ?side4 ?side5 ?side6 ?side7 ?side8 ?side9 ?side10 ?side11 ?side12 ?side13 ?side14 ?side15 ?side16 A3.out).mono ?_); (case side1 => exact cp9 HR0_0.out HB.out); (case side2 => exact HC0_0.out); (case side3 => exact cp9 HR0_1.out HB.out); (case side4 => exact HC0_1.out); (case side5 => exact cp9 HR0_2.out HB.out); (case side6 => exact HC0_2.out); (case side7 => exact cp9 HR0_3.out HB.out); (case side8 => exact HC0_3.out); (case side9 => exact cp9 HR0_4.out HB.out); (case side10 => exact HC0_4.out); (case side11 => exact cp9 HR0_5.out HB.out); (case side12 => exact HC0_5.out); (case side13 => exact cp9 HR0_6.out HB.out); (case side14 => exact HC0_6.out); (case side15 => exact cp9 HR1.out HB.out); (case side16 => exact HC1.out); rintro e w6 ⟨v103, rfl, ho0, hb⟩; refine ⟨_, rfl, ?_⟩; have n0_ := Aside0.mk (Kd.R_lower ho0 (below_size (bp9 HB.out))); have n1_ := Aside0.mk (blk_below (kp9 BK101.out) hb); have n2_ := Aside0.mk (below_step (bp9 HB.out) hb); clear BK101; clear HB; have HO104 := n0_; have BK101 := n1_; have HB := n2_; clear n0_ n1_ n2_; (try clear hb); (try clear hb2); (try clear hk); (try clear hi); (try clear ho0)))
 go_ret
 exact ⟨_, by first | rfl | (simp [errW_none, errW_some] <;> rfl) | (simp [*, errW_none, errW_some] <;> rfl), by (with_reducible repeat (first | apply Kd.R_alloc | apply Kd.R_drewN | apply Kd.R_drew)); exact HO104.out, bp9 HB.out⟩

/-! ### cupolaref14_Rfi: function 89 -/
def cupolaref14_Rfi.f (k : Nat) (l0_0 : List (S26)) (l0_1 : List Int) (l0_2 : List Int) (l0_3 : List Int) (l0_4 : List Int) (l0_5 : List Int) (l0_6 : List (List Int)) (l1 : List Int) : Option (List Int) := (cupolaref11_Rf.f k l0_0 l0_1 l0_2 l0_3 l0_4 l0_5 l0_6 l1).bind fun t102 => ((cupolaref13_Within.f k l0_0 l0_1 l0_2 l0_3 l0_4 l0_5 l0_6 t102).bind fun t105 => (some t105))
set_option maxHeartbeats 8000000 in
set_option maxRecDepth 100000 in
theorem cupolaref14_Rfi.calls (k : Nat) (A0_0 : Option Addr) (c0_0 : Nat) (l0_0 : List (S26)) (A0_1 : Option Addr) (c0_1 : Nat) (l0_1 : List Int) (A0_2 : Option Addr) (c0_2 : Nat) (l0_2 : List Int) (A0_3 : Option Addr) (c0_3 : Nat) (l0_3 : List Int) (A0_4 : Option Addr) (c0_4 : Nat) (l0_4 : List Int) (A0_5 : Option Addr) (c0_5 : Nat) (l0_5 : List Int) (A0_6 : Option Addr) (c0_6 : Nat) (l0_6 : List (List Int)) (A1 : Option Addr) (c1 : Nat) (l1 : List Int) (r : List Int) (w : World) (hr0_0 : Kd.C k26 w A0_0 l0_0.length l0_0) (hc0_0 : l0_0.length ≤ c0_0) (hr0_1 : Kd.C (Kd.int .u32) w A0_1 l0_1.length l0_1) (hc0_1 : l0_1.length ≤ c0_1) (hr0_2 : Kd.C (Kd.int .u32) w A0_2 l0_2.length l0_2) (hc0_2 : l0_2.length ≤ c0_2) (hr0_3 : Kd.C (Kd.int .u32) w A0_3 l0_3.length l0_3) (hc0_3 : l0_3.length ≤ c0_3) (hr0_4 : Kd.C (Kd.int .u32) w A0_4 l0_4.length l0_4) (hc0_4 : l0_4.length ≤ c0_4) (hr0_5 : Kd.C (Kd.int .u32) w A0_5 l0_5.length l0_5) (hc0_5 : l0_5.length ≤ c0_5) (hr0_6 : Kd.C (Kd.slice 2 (Kd.int .i64)) w A0_6 l0_6.length l0_6) (hc0_6 : l0_6.length ≤ c0_6) (hr1 : Kd.C (Kd.int .i64) w A1 l1.length l1) (hc1 : l1.length ≤ c1) (h : cupolaref14_Rfi.f k l0_0 l0_1 l0_2 l0_3 l0_4 l0_5 l0_6 l1 = some r) :
  Calls Try.prog 89 #[.agg #[.slice A0_0 l0_0.length c0_0, .slice A0_1 l0_1.length c0_1, .slice A0_2 l0_2.length c0_2, .slice A0_3 l0_3.length c0_3, .slice A0_4 l0_4.length c0_4, .slice A0_5 l0_5.length c0_5, .slice A0_6 l0_6.length c0_6], .slice A1 l1.length c1] w fun e w' => ∃ v0_ : Value, e = .returned (v0_) ∧ Kd.R (Kd.int .u32) 52 w' w.heap.size (fun _ => True) v0_ r ∧ Below w.heap.size w w' := by
 have hu76 := Try.underlying76
 have HR0_0 := Aside0.mk hr0_0
 have HC0_0 := Aside0.mk hc0_0
 clear hr0_0 hc0_0
 have HR0_1 := Aside0.mk hr0_1
 have HC0_1 := Aside0.mk hc0_1
 clear hr0_1 hc0_1
 have HR0_2 := Aside0.mk hr0_2
 have HC0_2 := Aside0.mk hc0_2
 clear hr0_2 hc0_2
 have HR0_3 := Aside0.mk hr0_3
 have HC0_3 := Aside0.mk hc0_3
 clear hr0_3 hc0_3
 have HR0_4 := Aside0.mk hr0_4
 have HC0_4 := Aside0.mk hc0_4
 clear hr0_4 hc0_4
 have HR0_5 := Aside0.mk hr0_5
 have HC0_5 := Aside0.mk hc0_5
 clear hr0_5 hc0_5
 have HR0_6 := Aside0.mk hr0_6
 have HC0_6 := Aside0.mk hc0_6
 clear hr0_6 hc0_6
 have HR1 := Aside0.mk hr1
 have HC1 := Aside0.mk hc1
 clear hr1 hc1
 have HB := Aside0.mk (Below.refl w.heap.size w)
 have H : ((cupolaref11_Rf.f k l0_0 l0_1 l0_2 l0_3 l0_4 l0_5 l0_6 l1).bind fun t102 => ((cupolaref13_Within.f k l0_0 l0_1 l0_2 l0_3 l0_4 l0_5 l0_6 t102).bind fun t105 => (some t105))) = some r := h
 clear h
 replace H := Option.bind_eq_some_iff.mp H
 obtain ⟨t102, A30, H⟩ := H
 have A3 := Aside0.mk A30
 clear A30
 replace H := Option.bind_eq_some_iff.mp H
 obtain ⟨t105, A40, H⟩ := H
 have A4 := Aside0.mk A40
 clear A40
 obtain rfl := Option.some.inj H
 go_enter Try.func89, Try.ntmps89
 try go_wp2_with (first | ((with_reducible refine gate_dst (N := 2) rfl ?_); refine box_event ?hg (N := 2) ?hd (cs := #[.slice A0_0 l0_0.length c0_0, .slice A0_1 l0_1.length c0_1, .slice A0_2 l0_2.length c0_2, .slice A0_3 l0_3.length c0_3, .slice A0_4 l0_4.length c0_4, .slice A0_5 l0_5.length c0_5, .slice A0_6 l0_6.length c0_6]) (t := 76) ?hr ?_; (case hd => rfl); (case hg => rfl); (case hr => first | (go_simp; done) | (go_simp; rfl)); intro gb101 hg w5 hbox hb; have n0_ := Aside0.mk (below_step (bp9 HB.out) hb); have n1_ := Aside0.mk (hbox); have n2_ := Aside0.mk ((by rw [hg]; exact (below_size (bp9 HB.out)) : w.heap.size ≤ gb101)); have n3_ := n2_; clear HB; have HB := n0_; have BK101 := n1_; have GW101 := n2_; have GE101 := n3_; clear n0_ n1_ n2_ n3_; clear hb hbox hg))
 have n0_ := Aside0.mk (blk_drew BK101.out)
 have n1_ := Aside0.mk (below_drew1 HB.out)
 clear BK101 HB
 revert n0_ n1_; intro BK101 HB
 refine start_ (n := 6) (S := fun w' => w'.cell? ⟨gb101, 0, none⟩ = some (.slice A0_0 l0_0.length c0_0) ∧ w'.cell? ⟨gb101, 1, none⟩ = some (.slice A0_1 l0_1.length c0_1) ∧ w'.cell? ⟨gb101, 2, none⟩ = some (.slice A0_2 l0_2.length c0_2) ∧ w'.cell? ⟨gb101, 3, none⟩ = some (.slice A0_3 l0_3.length c0_3) ∧ w'.cell? ⟨gb101, 4, none⟩ = some (.slice A0_4 l0_4.length c0_4) ∧ w'.cell? ⟨gb101, 5, none⟩ = some (.slice A0_5 l0_5.length c0_5) ∧ w'.cell? ⟨gb101, 6, none⟩ = some (.slice A0_6 l0_6.length c0_6)) (ds := []) #[o9, o9, o9, o9, o9, o9] (by kernel_rfl) rfl rfl ⟨(blk_cell BK101.out 0).trans rfl, (blk_cell BK101.out 1).trans rfl, (blk_cell BK101.out 2).trans rfl, (blk_cell BK101.out 3).trans rfl, (blk_cell BK101.out 4).trans rfl, (blk_cell BK101.out 5).trans rfl, (blk_cell BK101.out 6).trans rfl⟩ (fun hHeld => ?_)
 generalize w5.drew = w6 at BK101 HB hHeld ⊢
 refine pure_ (i := 2) (N := some 7) (v := ?_) (a' := ?_) #[o9, o9, i9, o9, o9, o9] rfl rfl (by kernel_rfl) (fun _ _ _ h => h) (Or.inl ⟨by rfl, ?_⟩) ?_ ?_
 rotate_left
 ·intro w'
  go_simp
  with_reducible rfl
 rotate_left
 ·simp only [Act.put, List.setIfInBounds_toArray, List.set_cons_zero, List.set_cons_succ, i64_w, i32_w]
  rfl
 refine take_ (i := 0) (N := some 5) (v := ?_) (a' := ?_) #[i9, o9, i9, o9, o9, o9] rfl rfl (by kernel_rfl) (fun _ _ _ h => h) (Or.inl ⟨by rfl, ?_⟩) hHeld ?_ ?_
 rotate_left
 ·rintro w' ⟨s0, s1, s2, s3, s4, s5, s6⟩
  go_simp
  with_reducible rfl
 rotate_left
 ·simp only [Act.put, List.setIfInBounds_toArray, List.set_cons_zero, List.set_cons_succ, i64_w, i32_w]
  rfl
 refine take_ (i := 1) (N := some 6) (v := ?_) (a' := ?_) #[i9, i9, i9, o9, o9, o9] rfl rfl (by kernel_rfl) (fun _ _ _ h => h) (Or.inl ⟨by rfl, ?_⟩) hHeld ?_ ?_
 rotate_left
 ·rintro w' ⟨s0, s1, s2, s3, s4, s5, s6⟩
  go_simp
  with_reducible rfl
 rotate_left
 ·simp only [Act.put, List.setIfInBounds_toArray, List.set_cons_zero, List.set_cons_succ, i64_w, i32_w]
  rfl
 refine one_ (i := 3) (N := some 8) #[i9, i9, i9, i9, o9, o9] rfl rfl (by kernel_rfl) (by decide) (fun K hK => ?_)
 refine goes9 Try.func69 (by kernel_rfl) rfl #[.agg #[.slice A0_0 l0_0.length c0_0, .slice A0_1 l0_1.length c0_1, .slice A0_2 l0_2.length c0_2, .slice A0_3 l0_3.length c0_3, .slice A0_4 l0_4.length c0_4, .slice A0_5 l0_5.length c0_5, .slice A0_6 l0_6.length c0_6], .slice A1 l1.length c1] (by rfl) rfl rfl ?_
 with_reducible refine (cupolaref11_Rf.calls k _ _ l0_0 _ _ l0_1 _ _ l0_2 _ _ l0_3 _ _ l0_4 _ _ l0_5 _ _ l0_6 _ _ l1 t102 _ ?side1 ?side2 ?side3 ?side4 ?side5 ?side6 ?side7 ?side8 ?side9 ?side10 ?side11 ?side12 ?side13 ?side14 ?side15 ?side16 A3.out).mono ?_
 (case side1 => exact cp9 HR0_0.out HB.out)
 (case side2 => exact HC0_0.out)
 (case side3 => exact cp9 HR0_1.out HB.out)
 (case side4 => exact HC0_1.out)
 (case side5 => exact cp9 HR0_2.out HB.out)
 (case side6 => exact HC0_2.out)
 (case side7 => exact cp9 HR0_3.out HB.out)
 (case side8 => exact HC0_3.out)
 (case side9 => exact cp9 HR0_4.out HB.out)
 (case side10 => exact HC0_4.out)
 (case side11 => exact cp9 HR0_5.out HB.out)
 (case side12 => exact HC0_5.out)
 (case side13 => exact cp9 HR0_6.out HB.out)
 (case side14 => exact HC0_6.out)
 (case side15 => exact cp9 HR1.out HB.out)
 (case side16 => exact HC1.out)
 rintro e w7 ⟨v103, rfl, ho0, hb⟩
 refine ⟨_, rfl, ?_⟩
 have n0_ := Aside0.mk (Kd.R_lower ho0 (below_size (bp9 HB.out)))
 have n1_ := Aside0.mk (blk_below (kp9 BK101.out) hb)
 have n2_ := Aside0.mk (below_step (bp9 HB.out) hb)
 clear BK101 HB
 revert n0_ n1_ n2_; intro HO104 BK101 HB
 (try clear hb)
 (try clear hb2)
 (try clear hk)
 (try clear hi)
 (try clear ho0)
 obtain ⟨Ao8, co8, eo8⟩ := Kd.R_slice HO104.out
 (first | subst eo8 | (injection eo8 with f1_ f2_ f3_; have f4_ := f1_.symm; have f5_ := f3_.symm; clear f1_ f2_ f3_; subst f4_; subst f5_))
 refine hK.out _ _ ⟨(blk_cell BK101.out 0).trans rfl, (blk_cell BK101.out 1).trans rfl, (blk_cell BK101.out 2).trans rfl, (blk_cell BK101.out 3).trans rfl, (blk_cell BK101.out 4).trans rfl, (blk_cell BK101.out 5).trans rfl, (blk_cell BK101.out 6).trans rfl⟩ (fun hHeld => ?_)
 clear hK K
 refine norm_ (a' := ?_) ?_ ?_
 rotate_left
 ·show Act.put _ (some 8) _ = _
  simp only [Act.put, List.setIfInBounds_toArray, List.set_cons_zero, List.set_cons_succ, i64_w, i32_w]
  rfl
 refine one_ (i := 4) (N := some 9) #[i9, i9, i9, i9, i9, o9] rfl rfl (by kernel_rfl) (by decide) (fun K hK => ?_)
 refine goes9 Try.func137 (by kernel_rfl) rfl #[.agg #[.slice A0_0 l0_0.length c0_0, .slice A0_1 l0_1.length c0_1, .slice A0_2 l0_2.length c0_2, .slice A0_3 l0_3.length c0_3, .slice A0_4 l0_4.length c0_4, .slice A0_5 l0_5.length c0_5, .slice A0_6 l0_6.length c0_6], .slice Ao8 t102.length co8] (by rfl) rfl rfl ?_
 with_reducible refine (cupolaref13_Within.calls k _ _ l0_0 _ _ l0_1 _ _ l0_2 _ _ l0_3 _ _ l0_4 _ _ l0_5 _ _ l0_6 _ _ t102 t105 _ ?side1 ?side2 ?side3 ?side4 ?side5 ?side6 ?side7 ?side8 ?side9 ?side10 ?side11 ?side12 ?side13 ?side14 ?side15 ?side16 A4.out).mono ?_
 (case side1 => exact cp9 HR0_0.out HB.out)
 (case side2 => exact HC0_0.out)
 (case side3 => exact cp9 HR0_1.out HB.out)
 (case side4 => exact HC0_1.out)
 (case side5 => exact cp9 HR0_2.out HB.out)
 (case side6 => exact HC0_2.out)
 (case side7 => exact cp9 HR0_3.out HB.out)
 (case side8 => exact HC0_3.out)
 (case side9 => exact cp9 HR0_4.out HB.out)
 (case side10 => exact HC0_4.out)
 (case side11 => exact cp9 HR0_5.out HB.out)
 (case side12 => exact HC0_5.out)
 (case side13 => exact cp9 HR0_6.out HB.out)
 (case side14 => exact HC0_6.out)
 (case side15 => exact lp9 (Kd.R_reads' HO104.out).2.2)
 (case side16 => exact (Kd.R_reads' HO104.out).2.1)
 rintro e w9 ⟨v106, rfl, ho0, hb⟩
 refine ⟨_, rfl, ?_⟩
 have n0_ := Aside0.mk (Kd.R_elder' (rp9 HO104.out) (Kd.R_base ho0) hb)
 have n1_ := Aside0.mk (Kd.R_lower (Kd.R_new' ho0 (Kd.R_lt (rp9 HO104.out))) (below_size (bp9 HB.out)))
 have n2_ := Aside0.mk (blk_below (kp9 BK101.out) hb)
 have n3_ := Aside0.mk (below_step (bp9 HB.out) hb)
 clear HO104 BK101 HB
 revert n0_ n1_ n2_ n3_; intro HO104 HO107 BK101 HB
 (try clear hb)
 (try clear hb2)
 (try clear hk)
 (try clear hi)
 (try clear ho0)
 refine hK.out _ _ ⟨(blk_cell BK101.out 0).trans rfl, (blk_cell BK101.out 1).trans rfl, (blk_cell BK101.out 2).trans rfl, (blk_cell BK101.out 3).trans rfl, (blk_cell BK101.out 4).trans rfl, (blk_cell BK101.out 5).trans rfl, (blk_cell BK101.out 6).trans rfl⟩ (fun hHeld => ?_)
 clear hK K
 refine norm_ (a' := ?_) ?_ ?_
 rotate_left
 ·show Act.put _ (some 9) _ = _
  simp only [Act.put, List.setIfInBounds_toArray, List.set_cons_zero, List.set_cons_succ, i64_w, i32_w]
  rfl
 refine pure_ (i := 5) (N := some 4) (v := ?_) (a' := ?_) #[i9, i9, i9, i9, i9, i9] rfl rfl (by kernel_rfl) (fun _ _ _ h => h) (Or.inl ⟨by rfl, ?_⟩) ?_ ?_
 rotate_left
 ·intro w'
  go_simp
  with_reducible rfl
 rotate_left
 ·simp only [Act.put, List.setIfInBounds_toArray, List.set_cons_zero, List.set_cons_succ, i64_w, i32_w]
  rfl
 refine done_ (by kernel_rfl) ?_
 try go_wp2
 go_ret
 exact ⟨_, by first | rfl | (simp [errW_none, errW_some] <;> rfl) | (simp [*, errW_none, errW_some] <;> rfl), by (with_reducible repeat (first | apply Kd.R_alloc | apply Kd.R_drewN | apply Kd.R_drew)); exact Kd.R_mono HO107.out (fun _ hk => trivial), bp9 HB.out⟩

/-! ### cupolaref14_Dob: function 81 -/
def cupolaref14_Dob.f (k : Nat) (l0_0 : List (S26)) (l0_1 : List Int) (l0_2 : List Int) (l0_3 : List Int) (l0_4 : List Int) (l0_5 : List Int) (l0_6 : List (List Int)) (l1 : List Int) (l2 : List Int) : Option (List Int) := (cupolaref05_Or.f k l0_4 l0_3).bind fun t102 => ((cupolaref14_Coi.f k l0_0 l0_1 l0_2 l0_3 l0_4 l0_5 l0_6 l2).bind fun t105 => ((cupolaref05_Seq.f k t102 t105).bind fun t108 => ((cupolaref05_Or.f k l0_2 l0_3).bind fun t111 => ((cupolaref14_Rfi.f k l0_0 l0_1 l0_2 l0_3 l0_4 l0_5 l0_6 l1).bind fun t114 => ((cupolaref05_Seq.f k t111 t114).bind fun t117 => ((cupolaref14_Static.f k l0_0 l0_1 l0_2 l0_3 l0_4 l0_5 l0_6).bind fun t120 => ((cupolaref05_Or.f k t108 t117).bind fun t123 => ((cupolaref14_Memory.f k l0_0 l0_1 l0_2 l0_3 l0_4 l0_5 l0_6 t123).bind fun t126 => ((cupolaref05_Or.f k t120 t126).bind fun t129 => (some t129))))))))))
def cupolaref14_Dob.T1 : Bool × List (List Nat × List Nat) := (true, [([], []), ([0], [0]), ([], []), ([2], [2]), ([1, 3], [1, 3]), ([], []), ([], []), ([5, 6, 4], [5, 6]), ([4, 7, 7], [4, 7]), ([8, 8, 0, 1, 2, 3, 4, 5, 6, 7, 8], [8])])
def cupolaref14_Dob.B1 : List Nat := [0, 1, 0, 4, 15, 0, 0, 127, 255, 511]
theorem cupolaref14_Dob.tab1 : rtab .any (opsOf Try.f81 1) = cupolaref14_Dob.T1 := by kernel_rfl
theorem cupolaref14_Dob.bits1 : waitsOk cupolaref14_Dob.T1.2 cupolaref14_Dob.B1 = true := by kernel_rfl
def cupolaref14_Dob.T2 : Bool × List (List Nat × List Nat) := (true, [([], []), ([0], [0]), ([], []), ([2], [2]), ([1, 3], [1, 3]), ([], []), ([], []), ([5, 6, 4], [5, 6]), ([4, 7, 7], [4, 7]), ([8, 8, 0, 1, 2, 3, 4, 5, 6, 7, 8], [8])])
def cupolaref14_Dob.B2 : List Nat := [0, 1, 0, 4, 15, 0, 0, 127, 255, 511]
theorem cupolaref14_Dob.tab2 : rtab .any (opsOf Try.f81 2) = cupolaref14_Dob.T2 := by kernel_rfl
theorem cupolaref14_Dob.bits2 : waitsOk cupolaref14_Dob.T2.2 cupolaref14_Dob.B2 = true := by kernel_rfl
def cupolaref14_Dob.T3 : Bool × List (List Nat × List Nat) := (true, [([], []), ([0], [0]), ([], []), ([], []), ([], []), ([3, 4, 1], [3, 4]), ([2, 5, 5], [2, 5]), ([1, 6, 6], [1, 6]), ([7, 7, 0, 1, 2, 3, 4, 5, 6, 7], [7])])
def cupolaref14_Dob.B3 : List Nat := [0, 1, 0, 0, 0, 27, 63, 127, 255]
theorem cupolaref14_Dob.tab3 : rtab .any (opsOf Try.f81 3) = cupolaref14_Dob.T3 := by kernel_rfl
theorem cupolaref14_Dob.bits3 : waitsOk cupolaref14_Dob.T3.2 cupolaref14_Dob.B3 = true := by kernel_rfl
set_option maxHeartbeats 8000000 in
set_option maxRecDepth 100000 in
theorem cupolaref14_Dob.calls (k : Nat) (A0_0 : Option Addr) (c0_0 : Nat) (l0_0 : List (S26)) (A0_1 : Option Addr) (c0_1 : Nat) (l0_1 : List Int) (A0_2 : Option Addr) (c0_2 : Nat) (l0_2 : List Int) (A0_3 : Option Addr) (c0_3 : Nat) (l0_3 : List Int) (A0_4 : Option Addr) (c0_4 : Nat) (l0_4 : List Int) (A0_5 : Option Addr) (c0_5 : Nat) (l0_5 : List Int) (A0_6 : Option Addr) (c0_6 : Nat) (l0_6 : List (List Int)) (A1 : Option Addr) (c1 : Nat) (l1 : List Int) (A2 : Option Addr) (c2 : Nat) (l2 : List Int) (r : List Int) (w : World) (hr0_0 : Kd.C k26 w A0_0 l0_0.length l0_0) (hc0_0 : l0_0.length ≤ c0_0) (hr0_1 : Kd.C (Kd.int .u32) w A0_1 l0_1.length l0_1) (hc0_1 : l0_1.length ≤ c0_1) (hr0_2 : Kd.C (Kd.int .u32) w A0_2 l0_2.length l0_2) (hc0_2 : l0_2.length ≤ c0_2) (hr0_3 : Kd.C (Kd.int .u32) w A0_3 l0_3.length l0_3) (hc0_3 : l0_3.length ≤ c0_3) (hr0_4 : Kd.C (Kd.int .u32) w A0_4 l0_4.length l0_4) (hc0_4 : l0_4.length ≤ c0_4) (hr0_5 : Kd.C (Kd.int .u32) w A0_5 l0_5.length l0_5) (hc0_5 : l0_5.length ≤ c0_5) (hr0_6 : Kd.C (Kd.slice 2 (Kd.int .i64)) w A0_6 l0_6.length l0_6) (hc0_6 : l0_6.length ≤ c0_6) (hr1 : Kd.C (Kd.int .i64) w A1 l1.length l1) (hc1 : l1.length ≤ c1) (hr2 : Kd.C (Kd.int .u32) w A2 l2.length l2) (hc2 : l2.length ≤ c2) (h : cupolaref14_Dob.f k l0_0 l0_1 l0_2 l0_3 l0_4 l0_5 l0_6 l1 l2 = some r) :
  Calls Try.prog 81 #[.agg #[.slice A0_0 l0_0.length c0_0, .slice A0_1 l0_1.length c0_1, .slice A0_2 l0_2.length c0_2, .slice A0_3 l0_3.length c0_3, .slice A0_4 l0_4.length c0_4, .slice A0_5 l0_5.length c0_5, .slice A0_6 l0_6.length c0_6], .slice A1 l1.length c1, .slice A2 l2.length c2] w fun e w' => ∃ v0_ : Value, e = .returned (v0_) ∧ Kd.R (Kd.int .u32) 52 w' w.heap.size (fun _ => True) v0_ r ∧ Below w.heap.size w w' := by
 have hu76 := Try.underlying76
 have HR0_0 := Aside0.mk hr0_0
 have HC0_0 := Aside0.mk hc0_0
 clear hr0_0 hc0_0
 have HR0_1 := Aside0.mk hr0_1
 have HC0_1 := Aside0.mk hc0_1
 clear hr0_1 hc0_1
 have HR0_2 := Aside0.mk hr0_2
 have HC0_2 := Aside0.mk hc0_2
 clear hr0_2 hc0_2
 have HR0_3 := Aside0.mk hr0_3
 have HC0_3 := Aside0.mk hc0_3
 clear hr0_3 hc0_3
 have HR0_4 := Aside0.mk hr0_4
 have HC0_4 := Aside0.mk hc0_4
 clear hr0_4 hc0_4
 have HR0_5 := Aside0.mk hr0_5
 have HC0_5 := Aside0.mk hc0_5
 clear hr0_5 hc0_5
 have HR0_6 := Aside0.mk hr0_6
 have HC0_6 := Aside0.mk hc0_6
 clear hr0_6 hc0_6
 have HR1 := Aside0.mk hr1
 have HC1 := Aside0.mk hc1
 clear hr1 hc1
 have HR2 := Aside0.mk hr2
 have HC2 := Aside0.mk hc2
 clear hr2 hc2
 have HB := Aside0.mk (Below.refl w.heap.size w)
 have H : ((cupolaref05_Or.f k l0_4 l0_3).bind fun t102 => ((cupolaref14_Coi.f k l0_0 l0_1 l0_2 l0_3 l0_4 l0_5 l0_6 l2).bind fun t105 => ((cupolaref05_Seq.f k t102 t105).bind fun t108 => ((cupolaref05_Or.f k l0_2 l0_3).bind fun t111 => ((cupolaref14_Rfi.f k l0_0 l0_1 l0_2 l0_3 l0_4 l0_5 l0_6 l1).bind fun t114 => ((cupolaref05_Seq.f k t111 t114).bind fun t117 => ((cupolaref14_Static.f k l0_0 l0_1 l0_2 l0_3 l0_4 l0_5 l0_6).bind fun t120 => ((cupolaref05_Or.f k t108 t117).bind fun t123 => ((cupolaref14_Memory.f k l0_0 l0_1 l0_2 l0_3 l0_4 l0_5 l0_6 t123).bind fun t126 => ((cupolaref05_Or.f k t120 t126).bind fun t129 => (some t129))))))))))) = some r := h
 clear h
 replace H := Option.bind_eq_some_iff.mp H
 obtain ⟨t102, A40, H⟩ := H
 have A4 := Aside0.mk A40
 clear A40
 replace H := Option.bind_eq_some_iff.mp H
 obtain ⟨t105, A50, H⟩ := H
 have A5 := Aside0.mk A50
 clear A50
 replace H := Option.bind_eq_some_iff.mp H
 obtain ⟨t108, A60, H⟩ := H
 have A6 := Aside0.mk A60
 clear A60
 replace H := Option.bind_eq_some_iff.mp H
 obtain ⟨t111, A70, H⟩ := H
 have A7 := Aside0.mk A70
 clear A70
 replace H := Option.bind_eq_some_iff.mp H
 obtain ⟨t114, A80, H⟩ := H
 have A8 := Aside0.mk A80
 clear A80
 replace H := Option.bind_eq_some_iff.mp H
 obtain ⟨t117, A90, H⟩ := H
 have A9 := Aside0.mk A90
 clear A90
 replace H := Option.bind_eq_some_iff.mp H
 obtain ⟨t120, A100, H⟩ := H
 have A10 := Aside0.mk A100
 clear A100
 replace H := Option.bind_eq_some_iff.mp H
 obtain ⟨t123, A110, H⟩ := H
 have A11 := Aside0.mk A110
 clear A110
 replace H := Option.bind_eq_some_iff.mp H
 obtain ⟨t126, A120, H⟩ := H
 have A12 := Aside0.mk A120
 clear A120
 replace H := Option.bind_eq_some_iff.mp H
 obtain ⟨t129, A130, H⟩ := H
 have A13 := Aside0.mk A130
 clear A130
 obtain rfl := Option.some.inj H
 go_enter Try.func81, Try.ntmps81
 try go_wp2_with (first | ((with_reducible refine gate_dst (N := 3) rfl ?_); refine box_event ?hg (N := 3) ?hd (cs := #[.slice A0_0 l0_0.length c0_0, .slice A0_1 l0_1.length c0_1, .slice A0_2 l0_2.length c0_2, .slice A0_3 l0_3.length c0_3, .slice A0_4 l0_4.length c0_4, .slice A0_5 l0_5.length c0_5, .slice A0_6 l0_6.length c0_6]) (t := 76) ?hr ?_; (case hd => rfl); (case hg => rfl); (case hr => first | (go_simp; done) | (go_simp; rfl)); intro gb101 hg w14 hbox hb; have n0_ := Aside0.mk (below_step (bp9 HB.out) hb); have n1_ := Aside0.mk (hbox); have n2_ := Aside0.mk ((by rw [hg]; exact (below_size (bp9 HB.out)) : w.heap.size ≤ gb101)); have n3_ := n2_; clear HB; have HB := n0_; have BK101 := n1_; have GW101 := n2_; have GE101 := n3_; clear n0_ n1_ n2_ n3_; clear hb hbox hg))
 have n0_ := Aside0.mk (blk_drew BK101.out)
 have n1_ := Aside0.mk (below_drew1 HB.out)
 clear BK101 HB
 revert n0_ n1_; intro BK101 HB
 refine start_ (n := 10) (S := fun w' => w'.cell? ⟨gb101, 0, none⟩ = some (.slice A0_0 l0_0.length c0_0) ∧ w'.cell? ⟨gb101, 1, none⟩ = some (.slice A0_1 l0_1.length c0_1) ∧ w'.cell? ⟨gb101, 2, none⟩ = some (.slice A0_2 l0_2.length c0_2) ∧ w'.cell? ⟨gb101, 3, none⟩ = some (.slice A0_3 l0_3.length c0_3) ∧ w'.cell? ⟨gb101, 4, none⟩ = some (.slice A0_4 l0_4.length c0_4) ∧ w'.cell? ⟨gb101, 5, none⟩ = some (.slice A0_5 l0_5.length c0_5) ∧ w'.cell? ⟨gb101, 6, none⟩ = some (.slice A0_6 l0_6.length c0_6)) (ds := []) #[o9, o9, o9, o9, o9, o9, o9, o9, o9, o9] (by kernel_rfl) rfl rfl ⟨(blk_cell BK101.out 0).trans rfl, (blk_cell BK101.out 1).trans rfl, (blk_cell BK101.out 2).trans rfl, (blk_cell BK101.out 3).trans rfl, (blk_cell BK101.out 4).trans rfl, (blk_cell BK101.out 5).trans rfl, (blk_cell BK101.out 6).trans rfl⟩ (fun hHeld => ?_); refine with_tabW cupolaref14_Dob.tab1 cupolaref14_Dob.bits1 (fun HT_ HW_ => ?_)
 generalize w14.drew = w15 at BK101 HB hHeld ⊢
 refine pure_ (i := 0) (N := some 9) (v := ?_) (a' := ?_) #[i9, o9, o9, o9, o9, o9, o9, o9, o9, o9] rfl rfl (any_of HT_.out (by kernel_rfl)) (fun _ _ _ h => h) (Or.inl ⟨by rfl, ?_⟩) ?_ ?_
 rotate_left
 ·intro w'
  go_simp
  with_reducible rfl
 rotate_left
 ·simp only [Act.put, List.setIfInBounds_toArray, List.set_cons_zero, List.set_cons_succ, i64_w, i32_w]
  rfl
 refine pure_ (i := 2) (N := some 11) (v := ?_) (a' := ?_) #[i9, o9, i9, o9, o9, o9, o9, o9, o9, o9] rfl rfl (any_of HT_.out (by kernel_rfl)) (fun _ _ _ h => h) (Or.inl ⟨by rfl, ?_⟩) ?_ ?_
 rotate_left
 ·intro w'
  go_simp
  with_reducible rfl
 rotate_left
 ·simp only [Act.put, List.setIfInBounds_toArray, List.set_cons_zero, List.set_cons_succ, i64_w, i32_w]
  rfl
 refine pure_ (i := 6) (N := some 15) (v := ?_) (a' := ?_) #[i9, o9, i9, o9, o9, o9, i9, o9, o9, o9] rfl rfl (any_of HT_.out (by kernel_rfl)) (fun _ _ _ h => h) (Or.inl ⟨by rfl, ?_⟩) ?_ ?_
 rotate_left
 ·intro w'
  go_simp
  with_reducible rfl
 rotate_left
 ·simp only [Act.put, List.setIfInBounds_toArray, List.set_cons_zero, List.set_cons_succ, i64_w, i32_w]
  rfl
 refine take_ (i := 1) (N := some 10) (v := ?_) (a' := ?_) #[i9, i9, i9, o9, o9, o9, i9, o9, o9, o9] rfl rfl (take_ofW HT_.out HW_.out (by kernel_rfl)) (fun _ _ _ h => h) (Or.inl ⟨by rfl, ?_⟩) hHeld ?_ ?_
 rotate_left
 ·rintro w' ⟨s0, s1, s2, s3, s4, s5, s6⟩
  go_simp
  with_reducible rfl
 rotate_left
 ·simp only [Act.put, List.setIfInBounds_toArray, List.set_cons_zero, List.set_cons_succ, i64_w, i32_w]
  rfl
 refine take_ (i := 3) (N := some 12) (v := ?_) (a' := ?_) #[i9, i9, i9, i9, o9, o9, i9, o9, o9, o9] rfl rfl (take_ofW HT_.out HW_.out (by kernel_rfl)) (fun _ _ _ h => h) (Or.inl ⟨by rfl, ?_⟩) hHeld ?_ ?_
 rotate_left
 ·rintro w' ⟨s0, s1, s2, s3, s4, s5, s6⟩
  go_simp
  with_reducible rfl
 rotate_left
 ·simp only [Act.put, List.setIfInBounds_toArray, List.set_cons_zero, List.set_cons_succ, i64_w, i32_w]
  rfl
 refine take_ (i := 5) (N := some 14) (v := ?_) (a' := ?_) #[i9, i9, i9, i9, o9, i9, i9, o9, o9, o9] rfl rfl (take_ofW HT_.out HW_.out (by kernel_rfl)) (fun _ _ _ h => h) (Or.inl ⟨by rfl, ?_⟩) hHeld ?_ ?_
 rotate_left
 ·rintro w' ⟨s0, s1, s2, s3, s4, s5, s6⟩
  go_simp
  with_reducible rfl
 rotate_left
 ·simp only [Act.put, List.setIfInBounds_toArray, List.set_cons_zero, List.set_cons_succ, i64_w, i32_w]
  rfl
 refine one_ (i := 4) (N := some 13) #[i9, i9, i9, i9, i9, i9, i9, o9, o9, o9] rfl rfl (one_of HT_.out (by kernel_rfl)) (by decide) (fun K hK => ?_)
 refine goes9 Try.func59 (by kernel_rfl) rfl #[.slice A0_4 l0_4.length c0_4, .slice A0_3 l0_3.length c0_3] (by rfl) rfl rfl ?_
 with_reducible refine (cupolaref05_Or.calls k _ _ l0_4 _ _ l0_3 t102 _ ?side1 ?side2 ?side3 ?side4 A4.out).mono ?_
 (case side1 => exact cp9 HR0_4.out HB.out)
 (case side2 => exact HC0_4.out)
 (case side3 => exact cp9 HR0_3.out HB.out)
 (case side4 => exact HC0_3.out)
 rintro e w16 ⟨v103, rfl, ho0, hb⟩
 refine ⟨_, rfl, ?_⟩
 have n0_ := Aside0.mk (Kd.R_lower ho0 (below_size (bp9 HB.out)))
 have n1_ := Aside0.mk (blk_below (kp9 BK101.out) hb)
 have n2_ := Aside0.mk (below_step (bp9 HB.out) hb)
 clear BK101 HB
 revert n0_ n1_ n2_; intro HO104 BK101 HB
 (try clear hb)
 (try clear hb2)
 (try clear hk)
 (try clear hi)
 (try clear ho0)
 refine hK.out _ _ ⟨(blk_cell BK101.out 0).trans rfl, (blk_cell BK101.out 1).trans rfl, (blk_cell BK101.out 2).trans rfl, (blk_cell BK101.out 3).trans rfl, (blk_cell BK101.out 4).trans rfl, (blk_cell BK101.out 5).trans rfl, (blk_cell BK101.out 6).trans rfl⟩ (fun hHeld => ?_)
 clear hK K
 refine norm_ (a' := ?_) ?_ ?_
 rotate_left
 ·show Act.put _ (some 13) _ = _
  simp only [Act.put, List.setIfInBounds_toArray, List.set_cons_zero, List.set_cons_succ, i64_w, i32_w]
  rfl
 refine one_ (i := 7) (N := some 16) #[i9, i9, i9, i9, i9, i9, i9, i9, o9, o9] rfl rfl (one_of HT_.out (by kernel_rfl)) (by decide) (fun K hK => ?_)
 refine goes9 Try.func87 (by kernel_rfl) rfl #[.agg #[.slice A0_0 l0_0.length c0_0, .slice A0_1 l0_1.length c0_1, .slice A0_2 l0_2.length c0_2, .slice A0_3 l0_3.length c0_3, .slice A0_4 l0_4.length c0_4, .slice A0_5 l0_5.length c0_5, .slice A0_6 l0_6.length c0_6], .slice A2 l2.length c2] (by rfl) rfl rfl ?_
 with_reducible refine (cupolaref14_Coi.calls k _ _ l0_0 _ _ l0_1 _ _ l0_2 _ _ l0_3 _ _ l0_4 _ _ l0_5 _ _ l0_6 _ _ l2 t105 _ ?side1 ?side2 ?side3 ?side4 ?side5 ?side6 ?side7 ?side8 ?side9 ?side10 ?side11 ?side12 ?side13 ?side14 ?side15 ?side16 A5.out).mono ?_
 (case side1 => exact cp9 HR0_0.out HB.out)
 (case side2 => exact HC0_0.out)
 (case side3 => exact cp9 HR0_1.out HB.out)
 (case side4 => exact HC0_1.out)
 (case side5 => exact cp9 HR0_2.out HB.out)
 (case side6 => exact HC0_2.out)
 (case side7 => exact cp9 HR0_3.out HB.out)
 (case side8 => exact HC0_3.out)
 (case side9 => exact cp9 HR0_4.out HB.out)
 (case side10 => exact HC0_4.out)
 (case side11 => exact cp9 HR0_5.out HB.out)
 (case side12 => exact HC0_5.out)
 (case side13 => exact cp9 HR0_6.out HB.out)
 (case side14 => exact HC0_6.out)
 (case side15 => exact cp9 HR2.out HB.out)
 (case side16 => exact HC2.out)
 rintro e w17 ⟨v106, rfl, ho0, hb⟩
 refine ⟨_, rfl, ?_⟩
 have n0_ := Aside0.mk (Kd.R_elder' (rp9 HO104.out) (Kd.R_base ho0) hb)
 have n1_ := Aside0.mk (Kd.R_lower (Kd.R_new' ho0 (Kd.R_lt (rp9 HO104.out))) (below_size (bp9 HB.out)))
 have n2_ := Aside0.mk (blk_below (kp9 BK101.out) hb)
 have n3_ := Aside0.mk (below_step (bp9 HB.out) hb)
 clear HO104 BK101 HB
 revert n0_ n1_ n2_ n3_; intro HO104 HO107 BK101 HB
 (try clear hb)
 (try clear hb2)
 (try clear hk)
 (try clear hi)
 (try clear ho0)
 obtain ⟨Ao18, co18, eo18⟩ := Kd.R_slice HO104.out
 (first | subst eo18 | (injection eo18 with f1_ f2_ f3_; have f4_ := f1_.symm; have f5_ := f3_.symm; clear f1_ f2_ f3_; subst f4_; subst f5_))
 obtain ⟨Ao19, co19, eo19⟩ := Kd.R_slice HO107.out
 (first | subst eo19 | (injection eo19 with f1_ f2_ f3_; have f4_ := f1_.symm; have f5_ := f3_.symm; clear f1_ f2_ f3_; subst f4_; subst f5_))
 refine hK.out _ _ ⟨(blk_cell BK101.out 0).trans rfl, (blk_cell BK101.out 1).trans rfl, (blk_cell BK101.out 2).trans rfl, (blk_cell BK101.out 3).trans rfl, (blk_cell BK101.out 4).trans rfl, (blk_cell BK101.out 5).trans rfl, (blk_cell BK101.out 6).trans rfl⟩ (fun hHeld => ?_)
 clear hK K
 refine norm_ (a' := ?_) ?_ ?_
 rotate_left
 ·show Act.put _ (some 16) _ = _
  simp only [Act.put, List.setIfInBounds_toArray, List.set_cons_zero, List.set_cons_succ, i64_w, i32_w]
  rfl
 refine one_ (i := 8) (N := some 17) #[i9, i9, i9, i9, i9, i9, i9, i9, i9, o9] rfl rfl (one_of HT_.out (by kernel_rfl)) (by decide) (fun K hK => ?_)
 refine goes9 Try.func63 (by kernel_rfl) rfl #[.slice Ao18 t102.length co18, .slice Ao19 t105.length co19] (by rfl) rfl rfl ?_
 with_reducible refine (cupolaref05_Seq.calls k _ _ t102 _ _ t105 t108 _ ?side1 ?side2 ?side3 ?side4 A6.out).mono ?_
 (case side1 => exact lp9 (Kd.R_reads' HO104.out).2.2)
 (case side2 => exact (Kd.R_reads' HO104.out).2.1)
 (case side3 => exact lp9 (Kd.R_reads' HO107.out).2.2)
 (case side4 => exact (Kd.R_reads' HO107.out).2.1)
 rintro e w20 ⟨v109, rfl, ho0, hb⟩
 refine ⟨_, rfl, ?_⟩
 have n0_ := Aside0.mk (Kd.R_elder' (rp9 HO104.out) (Kd.R_base ho0) hb)
 have n1_ := Aside0.mk (Kd.R_elder' (rp9 HO107.out) (Kd.R_base ho0) hb)
 have n2_ := Aside0.mk (Kd.R_lower (Kd.R_new' (Kd.R_new' ho0 (Kd.R_lt (rp9 HO104.out))) (Kd.R_lt (rp9 HO107.out))) (below_size (bp9 HB.out)))
 have n3_ := Aside0.mk (blk_below (kp9 BK101.out) hb)
 have n4_ := Aside0.mk (below_step (bp9 HB.out) hb)
 clear HO104 HO107 BK101 HB
 revert n0_ n1_ n2_ n3_ n4_; intro HO104 HO107 HO110 BK101 HB
 (try clear hb)
 (try clear hb2)
 (try clear hk)
 (try clear hi)
 (try clear ho0)
 refine hK.out _ _ ⟨(blk_cell BK101.out 0).trans rfl, (blk_cell BK101.out 1).trans rfl, (blk_cell BK101.out 2).trans rfl, (blk_cell BK101.out 3).trans rfl, (blk_cell BK101.out 4).trans rfl, (blk_cell BK101.out 5).trans rfl, (blk_cell BK101.out 6).trans rfl⟩ (fun hHeld => ?_)
 clear hK K
 refine norm_ (a' := ?_) ?_ ?_
 rotate_left
 ·show Act.put _ (some 17) _ = _
  simp only [Act.put, List.setIfInBounds_toArray, List.set_cons_zero, List.set_cons_succ, i64_w, i32_w]
  rfl
 refine pure_ (i := 9) (N := some 7) (v := ?_) (a' := ?_) #[i9, i9, i9, i9, i9, i9, i9, i9, i9, i9] rfl rfl (any_of HT_.out (by kernel_rfl)) (fun _ _ _ h => h) (Or.inl ⟨by rfl, ?_⟩) ?_ ?_
 rotate_left
 ·intro w'
  go_simp
  with_reducible rfl
 rotate_left
 ·simp only [Act.put, List.setIfInBounds_toArray, List.set_cons_zero, List.set_cons_succ, i64_w, i32_w]
  rfl
 refine done_ (done_of HT_.out (by kernel_rfl)) ?_
 try go_wp2
 have n0_ := Aside0.mk (Kd.R_drew HO104.out)
 have n1_ := Aside0.mk (Kd.R_drew HO107.out)
 have n2_ := Aside0.mk (Kd.R_drew HO110.out)
 have n3_ := Aside0.mk (blk_drew BK101.out)
 have n4_ := Aside0.mk (below_drew1 HB.out)
 clear HO104 HO107 HO110 BK101 HB
 revert n0_ n1_ n2_ n3_ n4_; intro HO104 HO107 HO110 BK101 HB
 refine start_ (n := 10) (S := fun w' => w'.cell? ⟨gb101, 0, none⟩ = some (.slice A0_0 l0_0.length c0_0) ∧ w'.cell? ⟨gb101, 1, none⟩ = some (.slice A0_1 l0_1.length c0_1) ∧ w'.cell? ⟨gb101, 2, none⟩ = some (.slice A0_2 l0_2.length c0_2) ∧ w'.cell? ⟨gb101, 3, none⟩ = some (.slice A0_3 l0_3.length c0_3) ∧ w'.cell? ⟨gb101, 4, none⟩ = some (.slice A0_4 l0_4.length c0_4) ∧ w'.cell? ⟨gb101, 5, none⟩ = some (.slice A0_5 l0_5.length c0_5) ∧ w'.cell? ⟨gb101, 6, none⟩ = some (.slice A0_6 l0_6.length c0_6)) (ds := []) #[o9, o9, o9, o9, o9, o9, o9, o9, o9, o9] (by kernel_rfl) rfl rfl ⟨(blk_cell BK101.out 0).trans rfl, (blk_cell BK101.out 1).trans rfl, (blk_cell BK101.out 2).trans rfl, (blk_cell BK101.out 3).trans rfl, (blk_cell BK101.out 4).trans rfl, (blk_cell BK101.out 5).trans rfl, (blk_cell BK101.out 6).trans rfl⟩ (fun hHeld => ?_); refine with_tabW cupolaref14_Dob.tab2 cupolaref14_Dob.bits2 (fun HT_ HW_ => ?_)
 generalize w20.drew = w21 at HO104 HO107 HO110 BK101 HB hHeld ⊢
 refine pure_ (i := 0) (N := some 18) (v := ?_) (a' := ?_) #[i9, o9, o9, o9, o9, o9, o9, o9, o9, o9] rfl rfl (any_of HT_.out (by kernel_rfl)) (fun _ _ _ h => h) (Or.inl ⟨by rfl, ?_⟩) ?_ ?_
 rotate_left
 ·intro w'
  go_simp
  with_reducible rfl
 rotate_left
 ·simp only [Act.put, List.setIfInBounds_toArray, List.set_cons_zero, List.set_cons_succ, i64_w, i32_w]
  rfl
 refine pure_ (i := 2) (N := some 20) (v := ?_) (a' := ?_) #[i9, o9, i9, o9, o9, o9, o9, o9, o9, o9] rfl rfl (any_of HT_.out (by kernel_rfl)) (fun _ _ _ h => h) (Or.inl ⟨by rfl, ?_⟩) ?_ ?_
 rotate_left
 ·intro w'
  go_simp
  with_reducible rfl
 rotate_left
 ·simp only [Act.put, List.setIfInBounds_toArray, List.set_cons_zero, List.set_cons_succ, i64_w, i32_w]
  rfl
 refine pure_ (i := 6) (N := some 24) (v := ?_) (a' := ?_) #[i9, o9, i9, o9, o9, o9, i9, o9, o9, o9] rfl rfl (any_of HT_.out (by kernel_rfl)) (fun _ _ _ h => h) (Or.inl ⟨by rfl, ?_⟩) ?_ ?_
 rotate_left
 ·intro w'
  go_simp
  with_reducible rfl
 rotate_left
 ·simp only [Act.put, List.setIfInBounds_toArray, List.set_cons_zero, List.set_cons_succ, i64_w, i32_w]
  rfl
 refine take_ (i := 1) (N := some 19) (v := ?_) (a' := ?_) #[i9, i9, i9, o9, o9, o9, i9, o9, o9, o9] rfl rfl (take_ofW HT_.out HW_.out (by kernel_rfl)) (fun _ _ _ h => h) (Or.inl ⟨by rfl, ?_⟩) hHeld ?_ ?_
 rotate_left
 ·rintro w' ⟨s0, s1, s2, s3, s4, s5, s6⟩
  go_simp
  with_reducible rfl
 rotate_left
 ·simp only [Act.put, List.setIfInBounds_toArray, List.set_cons_zero, List.set_cons_succ, i64_w, i32_w]
  rfl
 refine take_ (i := 3) (N := some 21) (v := ?_) (a' := ?_) #[i9, i9, i9, i9, o9, o9, i9, o9, o9, o9] rfl rfl (take_ofW HT_.out HW_.out (by kernel_rfl)) (fun _ _ _ h => h) (Or.inl ⟨by rfl, ?_⟩) hHeld ?_ ?_
 rotate_left
 ·rintro w' ⟨s0, s1, s2, s3, s4, s5, s6⟩
  go_simp
  with_reducible rfl
 rotate_left
 ·simp only [Act.put, List.setIfInBounds_toArray, List.set_cons_zero, List.set_cons_succ, i64_w, i32_w]
  rfl
 refine take_ (i := 5) (N := some 23) (v := ?_) (a' := ?_) #[i9, i9, i9, i9, o9, i9, i9, o9, o9, o9] rfl rfl (take_ofW HT_.out HW_.out (by kernel_rfl)) (fun _ _ _ h => h) (Or.inl ⟨by rfl, ?_⟩) hHeld ?_ ?_
 rotate_left
 ·rintro w' ⟨s0, s1, s2, s3, s4, s5, s6⟩
  go_simp
  with_reducible rfl
 rotate_left
 ·simp only [Act.put, List.setIfInBounds_toArray, List.set_cons_zero, List.set_cons_succ, i64_w, i32_w]
  rfl
 refine one_ (i := 4) (N := some 22) #[i9, i9, i9, i9, i9, i9, i9, o9, o9, o9] rfl rfl (one_of HT_.out (by kernel_rfl)) (by decide) (fun K hK => ?_)
 refine goes9 Try.func59 (by kernel_rfl) rfl #[.slice A0_2 l0_2.length c0_2, .slice A0_3 l0_3.length c0_3] (by rfl) rfl rfl ?_
 with_reducible refine (cupolaref05_Or.calls k _ _ l0_2 _ _ l0_3 t111 _ ?side1 ?side2 ?side3 ?side4 A7.out).mono ?_
 (case side1 => exact cp9 HR0_2.out HB.out)
 (case side2 => exact HC0_2.out)
 (case side3 => exact cp9 HR0_3.out HB.out)
 (case side4 => exact HC0_3.out)
 rintro e w22 ⟨v112, rfl, ho0, hb⟩
 refine ⟨_, rfl, ?_⟩
 have n0_ := Aside0.mk (Kd.R_elder' (rp9 HO104.out) (Kd.R_base ho0) hb)
 have n1_ := Aside0.mk (Kd.R_elder' (rp9 HO107.out) (Kd.R_base ho0) hb)
 have n2_ := Aside0.mk (Kd.R_elder' (rp9 HO110.out) (Kd.R_base ho0) hb)
 have n3_ := Aside0.mk (Kd.R_lower (Kd.R_new' (Kd.R_new' (Kd.R_new' ho0 (Kd.R_lt (rp9 HO104.out))) (Kd.R_lt (rp9 HO107.out))) (Kd.R_lt (rp9 HO110.out))) (below_size (bp9 HB.out)))
 have n4_ := Aside0.mk (blk_below (kp9 BK101.out) hb)
 have n5_ := Aside0.mk (below_step (bp9 HB.out) hb)
 clear HO104 HO107 HO110 BK101 HB
 revert n0_ n1_ n2_ n3_ n4_ n5_; intro HO104 HO107 HO110 HO113 BK101 HB
 (try clear hb)
 (try clear hb2)
 (try clear hk)
 (try clear hi)
 (try clear ho0)
 refine hK.out _ _ ⟨(blk_cell BK101.out 0).trans rfl, (blk_cell BK101.out 1).trans rfl, (blk_cell BK101.out 2).trans rfl, (blk_cell BK101.out 3).trans rfl, (blk_cell BK101.out 4).trans rfl, (blk_cell BK101.out 5).trans rfl, (blk_cell BK101.out 6).trans rfl⟩ (fun hHeld => ?_)
 clear hK K
 refine norm_ (a' := ?_) ?_ ?_
 rotate_left
 ·show Act.put _ (some 22) _ = _
  simp only [Act.put, List.setIfInBounds_toArray, List.set_cons_zero, List.set_cons_succ, i64_w, i32_w]
  rfl
 refine one_ (i := 7) (N := some 25) #[i9, i9, i9, i9, i9, i9, i9, i9, o9, o9] rfl rfl (one_of HT_.out (by kernel_rfl)) (by decide) (fun K hK => ?_)
 refine goes9 Try.func89 (by kernel_rfl) rfl #[.agg #[.slice A0_0 l0_0.length c0_0, .slice A0_1 l0_1.length c0_1, .slice A0_2 l0_2.length c0_2, .slice A0_3 l0_3.length c0_3, .slice A0_4 l0_4.length c0_4, .slice A0_5 l0_5.length c0_5, .slice A0_6 l0_6.length c0_6], .slice A1 l1.length c1] (by rfl) rfl rfl ?_
 with_reducible refine (cupolaref14_Rfi.calls k _ _ l0_0 _ _ l0_1 _ _ l0_2 _ _ l0_3 _ _ l0_4 _ _ l0_5 _ _ l0_6 _ _ l1 t114 _ ?side1 ?side2 ?side3 ?side4 ?side5 ?side6 ?side7 ?side8 ?side9 ?side10 ?side11 ?side12 ?side13 ?side14 ?side15 ?side16 A8.out).mono ?_
 (case side1 => exact cp9 HR0_0.out HB.out)
 (case side2 => exact HC0_0.out)
 (case side3 => exact cp9 HR0_1.out HB.out)
 (case side4 => exact HC0_1.out)
 (case side5 => exact cp9 HR0_2.out HB.out)
 (case side6 => exact HC0_2.out)
 (case side7 => exact cp9 HR0_3.out HB.out)
 (case side8 => exact HC0_3.out)
 (case side9 => exact cp9 HR0_4.out HB.out)
 (case side10 => exact HC0_4.out)
 (case side11 => exact cp9 HR0_5.out HB.out)
 (case side12 => exact HC0_5.out)
 (case side13 => exact cp9 HR0_6.out HB.out)
 (case side14 => exact HC0_6.out)
 (case side15 => exact cp9 HR1.out HB.out)
 (case side16 => exact HC1.out)
 rintro e w23 ⟨v115, rfl, ho0, hb⟩
 refine ⟨_, rfl, ?_⟩
 have n0_ := Aside0.mk (Kd.R_elder' (rp9 HO104.out) (Kd.R_base ho0) hb)
 have n1_ := Aside0.mk (Kd.R_elder' (rp9 HO107.out) (Kd.R_base ho0) hb)
 have n2_ := Aside0.mk (Kd.R_elder' (rp9 HO110.out) (Kd.R_base ho0) hb)
 have n3_ := Aside0.mk (Kd.R_elder' (rp9 HO113.out) (Kd.R_base ho0) hb)
 have n4_ := Aside0.mk (Kd.R_lower (Kd.R_new' (Kd.R_new' (Kd.R_new' (Kd.R_new' ho0 (Kd.R_lt (rp9 HO104.out))) (Kd.R_lt (rp9 HO107.out))) (Kd.R_lt (rp9 HO110.out))) (Kd.R_lt (rp9 HO113.out))) (below_size (bp9 HB.out)))
 have n5_ := Aside0.mk (blk_below (kp9 BK101.out) hb)
 have n6_ := Aside0.mk (below_step (bp9 HB.out) hb)
 clear HO104 HO107 HO110 HO113 BK101 HB
 revert n0_ n1_ n2_ n3_ n4_ n5_ n6_; intro HO104 HO107 HO110 HO113 HO116 BK101 HB
 (try clear hb)
 (try clear hb2)
 (try clear hk)
 (try clear hi)
 (try clear ho0)
 obtain ⟨Ao24, co24, eo24⟩ := Kd.R_slice HO113.out
 (first | subst eo24 | (injection eo24 with f1_ f2_ f3_; have f4_ := f1_.symm; have f5_ := f3_.symm; clear f1_ f2_ f3_; subst f4_; subst f5_))
 obtain ⟨Ao25, co25, eo25⟩ := Kd.R_slice HO116.out
 (first | subst eo25 | (injection eo25 with f1_ f2_ f3_; have f4_ := f1_.symm; have f5_ := f3_.symm; clear f1_ f2_ f3_; subst f4_; subst f5_))
 refine hK.out _ _ ⟨(blk_cell BK101.out 0).trans rfl, (blk_cell BK101.out 1).trans rfl, (blk_cell BK101.out 2).trans rfl, (blk_cell BK101.out 3).trans rfl, (blk_cell BK101.out 4).trans rfl, (blk_cell BK101.out 5).trans rfl, (blk_cell BK101.out 6).trans rfl⟩ (fun hHeld => ?_)
 clear hK K
 refine norm_ (a' := ?_) ?_ ?_
 rotate_left
 ·show Act.put _ (some 25) _ = _
  simp only [Act.put, List.setIfInBounds_toArray, List.set_cons_zero, List.set_cons_succ, i64_w, i32_w]
  rfl
 refine one_ (i := 8) (N := some 26) #[i9, i9, i9, i9, i9, i9, i9, i9, i9, o9] rfl rfl (one_of HT_.out (by kernel_rfl)) (by decide) (fun K hK => ?_)
 refine goes9 Try.func63 (by kernel_rfl) rfl #[.slice Ao24 t111.length co24, .slice Ao25 t114.length co25] (by rfl) rfl rfl ?_
 with_reducible refine (cupolaref05_Seq.calls k _ _ t111 _ _ t114 t117 _ ?side1 ?side2 ?side3 ?side4 A9.out).mono ?_
 (case side1 => exact lp9 (Kd.R_reads' HO113.out).2.2)
 (case side2 => exact (Kd.R_reads' HO113.out).2.1)
 (case side3 => exact lp9 (Kd.R_reads' HO116.out).2.2)
 (case side4 => exact (Kd.R_reads' HO116.out).2.1)
 rintro e w26 ⟨v118, rfl, ho0, hb⟩
 refine ⟨_, rfl, ?_⟩
 have n0_ := Aside0.mk (Kd.R_elder' (rp9 HO104.out) (Kd.R_base ho0) hb)
 have n1_ := Aside0.mk (Kd.R_elder' (rp9 HO107.out) (Kd.R_base ho0) hb)
 have n2_ := Aside0.mk (Kd.R_elder' (rp9 HO110.out) (Kd.R_base ho0) hb)
 have n3_ := Aside0.mk (Kd.R_elder' (rp9 HO113.out) (Kd.R_base ho0) hb)
 have n4_ := Aside0.mk (Kd.R_elder' (rp9 HO116.out) (Kd.R_base ho0) hb)
 have n5_ := Aside0.mk (Kd.R_lower (Kd.R_new' (Kd.R_new' (Kd.R_new' (Kd.R_new' (Kd.R_new' ho0 (Kd.R_lt (rp9 HO104.out))) (Kd.R_lt (rp9 HO107.out))) (Kd.R_lt (rp9 HO110.out))) (Kd.R_lt (rp9 HO113.out))) (Kd.R_lt (rp9 HO116.out))) (below_size (bp9 HB.out)))
 have n6_ := Aside0.mk (blk_below (kp9 BK101.out) hb)
 have n7_ := Aside0.mk (below_step (bp9 HB.out) hb)
 clear HO104 HO107 HO110 HO113 HO116 BK101 HB
 revert n0_ n1_ n2_ n3_ n4_ n5_ n6_ n7_; intro HO104 HO107 HO110 HO113 HO116 HO119 BK101 HB
 (try clear hb)
 (try clear hb2)
 (try clear hk)
 (try clear hi)
 (try clear ho0)
 refine hK.out _ _ ⟨(blk_cell BK101.out 0).trans rfl, (blk_cell BK101.out 1).trans rfl, (blk_cell BK101.out 2).trans rfl, (blk_cell BK101.out 3).trans rfl, (blk_cell BK101.out 4).trans rfl, (blk_cell BK101.out 5).trans rfl, (blk_cell BK101.out 6).trans rfl⟩ (fun hHeld => ?_)
 clear hK K
 refine norm_ (a' := ?_) ?_ ?_
 rotate_left
 ·show Act.put _ (some 26) _ = _
  simp only [Act.put, List.setIfInBounds_toArray, List.set_cons_zero, List.set_cons_succ, i64_w, i32_w]
  rfl
 refine pure_ (i := 9) (N := some 8) (v := ?_) (a' := ?_) #[i9, i9, i9, i9, i9, i9, i9, i9, i9, i9] rfl rfl (any_of HT_.out (by kernel_rfl)) (fun _ _ _ h => h) (Or.inl ⟨by rfl, ?_⟩) ?_ ?_
 rotate_left
 ·intro w'
  go_simp
  with_reducible rfl
 rotate_left
 ·simp only [Act.put, List.setIfInBounds_toArray, List.set_cons_zero, List.set_cons_succ, i64_w, i32_w]
  rfl
 refine done_ (done_of HT_.out (by kernel_rfl)) ?_
 try go_wp2
 have n0_ := Aside0.mk (Kd.R_drew HO104.out)
 have n1_ := Aside0.mk (Kd.R_drew HO107.out)
 have n2_ := Aside0.mk (Kd.R_drew HO110.out)
 have n3_ := Aside0.mk (Kd.R_drew HO113.out)
 have n4_ := Aside0.mk (Kd.R_drew HO116.out)
 have n5_ := Aside0.mk (Kd.R_drew HO119.out)
 have n6_ := Aside0.mk (blk_drew BK101.out)
 have n7_ := Aside0.mk (below_drew1 HB.out)
 clear HO104 HO107 HO110 HO113 HO116 HO119 BK101 HB
 revert n0_ n1_ n2_ n3_ n4_ n5_ n6_ n7_; intro HO104 HO107 HO110 HO113 HO116 HO119 BK101 HB
 refine start_ (n := 9) (S := fun w' => w'.cell? ⟨gb101, 0, none⟩ = some (.slice A0_0 l0_0.length c0_0) ∧ w'.cell? ⟨gb101, 1, none⟩ = some (.slice A0_1 l0_1.length c0_1) ∧ w'.cell? ⟨gb101, 2, none⟩ = some (.slice A0_2 l0_2.length c0_2) ∧ w'.cell? ⟨gb101, 3, none⟩ = some (.slice A0_3 l0_3.length c0_3) ∧ w'.cell? ⟨gb101, 4, none⟩ = some (.slice A0_4 l0_4.length c0_4) ∧ w'.cell? ⟨gb101, 5, none⟩ = some (.slice A0_5 l0_5.length c0_5) ∧ w'.cell? ⟨gb101, 6, none⟩ = some (.slice A0_6 l0_6.length c0_6)) (ds := []) #[o9, o9, o9, o9, o9, o9, o9, o9, o9] (by kernel_rfl) rfl rfl ⟨(blk_cell BK101.out 0).trans rfl, (blk_cell BK101.out 1).trans rfl, (blk_cell BK101.out 2).trans rfl, (blk_cell BK101.out 3).trans rfl, (blk_cell BK101.out 4).trans rfl, (blk_cell BK101.out 5).trans rfl, (blk_cell BK101.out 6).trans rfl⟩ (fun hHeld => ?_); refine with_tabW cupolaref14_Dob.tab3 cupolaref14_Dob.bits3 (fun HT_ HW_ => ?_)
 generalize w26.drew = w27 at HO104 HO107 HO110 HO113 HO116 HO119 BK101 HB hHeld ⊢
 refine pure_ (i := 3) (N := some 30) (v := ?_) (a' := ?_) #[o9, o9, o9, i9, o9, o9, o9, o9, o9] rfl rfl (any_of HT_.out (by kernel_rfl)) (fun _ _ _ h => h) (Or.inl ⟨by rfl, ?_⟩) ?_ ?_
 rotate_left
 ·intro w'
  go_simp
  with_reducible rfl
 rotate_left
 ·simp only [Act.put, List.setIfInBounds_toArray, List.set_cons_zero, List.set_cons_succ, i64_w, i32_w]
  rfl
 refine pure_ (i := 4) (N := some 31) (v := ?_) (a' := ?_) #[o9, o9, o9, i9, i9, o9, o9, o9, o9] rfl rfl (any_of HT_.out (by kernel_rfl)) (fun _ _ _ h => h) (Or.inl ⟨by rfl, ?_⟩) ?_ ?_
 rotate_left
 ·intro w'
  go_simp
  with_reducible rfl
 rotate_left
 ·simp only [Act.put, List.setIfInBounds_toArray, List.set_cons_zero, List.set_cons_succ, i64_w, i32_w]
  rfl
 refine take_ (i := 0) (N := some 27) (v := ?_) (a' := ?_) #[i9, o9, o9, i9, i9, o9, o9, o9, o9] rfl rfl (take_ofW HT_.out HW_.out (by kernel_rfl)) (fun _ _ _ h => h) (Or.inl ⟨by rfl, ?_⟩) hHeld ?_ ?_
 rotate_left
 ·rintro w' ⟨s0, s1, s2, s3, s4, s5, s6⟩
  go_simp
  with_reducible rfl
 rotate_left
 ·simp only [Act.put, List.setIfInBounds_toArray, List.set_cons_zero, List.set_cons_succ, i64_w, i32_w]
  rfl
 refine take_ (i := 2) (N := some 29) (v := ?_) (a' := ?_) #[i9, o9, i9, i9, i9, o9, o9, o9, o9] rfl rfl (take_ofW HT_.out HW_.out (by kernel_rfl)) (fun _ _ _ h => h) (Or.inl ⟨by rfl, ?_⟩) hHeld ?_ ?_
 rotate_left
 ·rintro w' ⟨s0, s1, s2, s3, s4, s5, s6⟩
  go_simp
  with_reducible rfl
 rotate_left
 ·simp only [Act.put, List.setIfInBounds_toArray, List.set_cons_zero, List.set_cons_succ, i64_w, i32_w]
  rfl
 refine one_ (i := 1) (N := some 28) #[i9, i9, i9, i9, i9, o9, o9, o9, o9] rfl rfl (one_of HT_.out (by kernel_rfl)) (by decide) (fun K hK => ?_)
 refine goes9 Try.func83 (by kernel_rfl) rfl #[.agg #[.slice A0_0 l0_0.length c0_0, .slice A0_1 l0_1.length c0_1, .slice A0_2 l0_2.length c0_2, .slice A0_3 l0_3.length c0_3, .slice A0_4 l0_4.length c0_4, .slice A0_5 l0_5.length c0_5, .slice A0_6 l0_6.length c0_6]] (by rfl) rfl rfl ?_
 with_reducible refine (cupolaref14_Static.calls k _ _ l0_0 _ _ l0_1 _ _ l0_2 _ _ l0_3 _ _ l0_4 _ _ l0_5 _ _ l0_6 t120 _ ?side1 ?side2 ?side3 ?side4 ?side5 ?side6 ?side7 ?side8 ?side9 ?side10 ?side11 ?side12 ?side13 ?side14 A10.out).mono ?_
 (case side1 => exact cp9 HR0_0.out HB.out)
 (case side2 => exact HC0_0.out)
 (case side3 => exact cp9 HR0_1.out HB.out)
 (case side4 => exact HC0_1.out)
 (case side5 => exact cp9 HR0_2.out HB.out)
 (case side6 => exact HC0_2.out)
 (case side7 => exact cp9 HR0_3.out HB.out)
 (case side8 => exact HC0_3.out)
 (case side9 => exact cp9 HR0_4.out HB.out)
 (case side10 => exact HC0_4.out)
 (case side11 => exact cp9 HR0_5.out HB.out)
 (case side12 => exact HC0_5.out)
 (case side13 => exact cp9 HR0_6.out HB.out)
 (case side14 => exact HC0_6.out)
 rintro e w28 ⟨v121, rfl, ho0, hb⟩
 refine ⟨_, rfl, ?_⟩
 have n0_ := Aside0.mk (Kd.R_elder' (rp9 HO104.out) (Kd.R_base ho0) hb)
 have n1_ := Aside0.mk (Kd.R_elder' (rp9 HO107.out) (Kd.R_base ho0) hb)
 have n2_ := Aside0.mk (Kd.R_elder' (rp9 HO110.out) (Kd.R_base ho0) hb)
 have n3_ := Aside0.mk (Kd.R_elder' (rp9 HO113.out) (Kd.R_base ho0) hb)
 have n4_ := Aside0.mk (Kd.R_elder' (rp9 HO116.out) (Kd.R_base ho0) hb)
 have n5_ := Aside0.mk (Kd.R_elder' (rp9 HO119.out) (Kd.R_base ho0) hb)
 have n6_ := Aside0.mk (Kd.R_lower (Kd.R_new' (Kd.R_new' (Kd.R_new' (Kd.R_new' (Kd.R_new' (Kd.R_new' ho0 (Kd.R_lt (rp9 HO104.out))) (Kd.R_lt (rp9 HO107.out))) (Kd.R_lt (rp9 HO110.out))) (Kd.R_lt (rp9 HO113.out))) (Kd.R_lt (rp9 HO116.out))) (Kd.R_lt (rp9 HO119.out))) (below_size (bp9 HB.out)))
 have n7_ := Aside0.mk (blk_below (kp9 BK101.out) hb)
 have n8_ := Aside0.mk (below_step (bp9 HB.out) hb)
 clear HO104 HO107 HO110 HO113 HO116 HO119 BK101 HB
 revert n0_ n1_ n2_ n3_ n4_ n5_ n6_ n7_ n8_; intro HO104 HO107 HO110 HO113 HO116 HO119 HO122 BK101 HB
 (try clear hb)
 (try clear hb2)
 (try clear hk)
 (try clear hi)
 (try clear ho0)
 obtain ⟨Ao29, co29, eo29⟩ := Kd.R_slice HO110.out
 (first | subst eo29 | (injection eo29 with f1_ f2_ f3_; have f4_ := f1_.symm; have f5_ := f3_.symm; clear f1_ f2_ f3_; subst f4_; subst f5_))
 obtain ⟨Ao30, co30, eo30⟩ := Kd.R_slice HO119.out
 (first | subst eo30 | (injection eo30 with f1_ f2_ f3_; have f4_ := f1_.symm; have f5_ := f3_.symm; clear f1_ f2_ f3_; subst f4_; subst f5_))
 refine hK.out _ _ ⟨(blk_cell BK101.out 0).trans rfl, (blk_cell BK101.out 1).trans rfl, (blk_cell BK101.out 2).trans rfl, (blk_cell BK101.out 3).trans rfl, (blk_cell BK101.out 4).trans rfl, (blk_cell BK101.out 5).trans rfl, (blk_cell BK101.out 6).trans rfl⟩ (fun hHeld => ?_)
 clear hK K
 refine norm_ (a' := ?_) ?_ ?_
 rotate_left
 ·show Act.put _ (some 28) _ = _
  simp only [Act.put, List.setIfInBounds_toArray, List.set_cons_zero, List.set_cons_succ, i64_w, i32_w]
  rfl
 refine one_ (i := 5) (N := some 32) #[i9, i9, i9, i9, i9, i9, o9, o9, o9] rfl rfl (one_of HT_.out (by kernel_rfl)) (by decide) (fun K hK => ?_)
 refine goes9 Try.func59 (by kernel_rfl) rfl #[.slice Ao29 t108.length co29, .slice Ao30 t117.length co30] (by rfl) rfl rfl ?_
 with_reducible refine (cupolaref05_Or.calls k _ _ t108 _ _ t117 t123 _ ?side1 ?side2 ?side3 ?side4 A11.out).mono ?_
 (case side1 => exact lp9 (Kd.R_reads' HO110.out).2.2)
 (case side2 => exact (Kd.R_reads' HO110.out).2.1)
 (case side3 => exact lp9 (Kd.R_reads' HO119.out).2.2)
 (case side4 => exact (Kd.R_reads' HO119.out).2.1)
 rintro e w31 ⟨v124, rfl, ho0, hb⟩
 refine ⟨_, rfl, ?_⟩
 have n0_ := Aside0.mk (Kd.R_elder' (rp9 HO104.out) (Kd.R_base ho0) hb)
 have n1_ := Aside0.mk (Kd.R_elder' (rp9 HO107.out) (Kd.R_base ho0) hb)
 have n2_ := Aside0.mk (Kd.R_elder' (rp9 HO110.out) (Kd.R_base ho0) hb)
 have n3_ := Aside0.mk (Kd.R_elder' (rp9 HO113.out) (Kd.R_base ho0) hb)
 have n4_ := Aside0.mk (Kd.R_elder' (rp9 HO116.out) (Kd.R_base ho0) hb)
 have n5_ := Aside0.mk (Kd.R_elder' (rp9 HO119.out) (Kd.R_base ho0) hb)
 have n6_ := Aside0.mk (Kd.R_elder' (rp9 HO122.out) (Kd.R_base ho0) hb)
 have n7_ := Aside0.mk (Kd.R_lower (Kd.R_new' (Kd.R_new' (Kd.R_new' (Kd.R_new' (Kd.R_new' (Kd.R_new' (Kd.R_new' ho0 (Kd.R_lt (rp9 HO104.out))) (Kd.R_lt (rp9 HO107.out))) (Kd.R_lt (rp9 HO110.out))) (Kd.R_lt (rp9 HO113.out))) (Kd.R_lt (rp9 HO116.out))) (Kd.R_lt (rp9 HO119.out))) (Kd.R_lt (rp9 HO122.out))) (below_size (bp9 HB.out)))
 have n8_ := Aside0.mk (blk_below (kp9 BK101.out) hb)
 have n9_ := Aside0.mk (below_step (bp9 HB.out) hb)
 clear HO104 HO107 HO110 HO113 HO116 HO119 HO122 BK101 HB
 revert n0_ n1_ n2_ n3_ n4_ n5_ n6_ n7_ n8_ n9_; intro HO104 HO107 HO110 HO113 HO116 HO119 HO122 HO125 BK101 HB
 (try clear hb)
 (try clear hb2)
 (try clear hk)
 (try clear hi)
 (try clear ho0)
 obtain ⟨Ao32, co32, eo32⟩ := Kd.R_slice HO125.out
 (first | subst eo32 | (injection eo32 with f1_ f2_ f3_; have f4_ := f1_.symm; have f5_ := f3_.symm; clear f1_ f2_ f3_; subst f4_; subst f5_))
 refine hK.out _ _ ⟨(blk_cell BK101.out 0).trans rfl, (blk_cell BK101.out 1).trans rfl, (blk_cell BK101.out 2).trans rfl, (blk_cell BK101.out 3).trans rfl, (blk_cell BK101.out 4).trans rfl, (blk_cell BK101.out 5).trans rfl, (blk_cell BK101.out 6).trans rfl⟩ (fun hHeld => ?_)
 clear hK K
 refine norm_ (a' := ?_) ?_ ?_
 rotate_left
 ·show Act.put _ (some 32) _ = _
  simp only [Act.put, List.setIfInBounds_toArray, List.set_cons_zero, List.set_cons_succ, i64_w, i32_w]
  rfl
 refine one_ (i := 6) (N := some 33) #[i9, i9, i9, i9, i9, i9, i9, o9, o9] rfl rfl (one_of HT_.out (by kernel_rfl)) (by decide) (fun K hK => ?_)
 refine goes9 Try.func85 (by kernel_rfl) rfl #[.agg #[.slice A0_0 l0_0.length c0_0, .slice A0_1 l0_1.length c0_1, .slice A0_2 l0_2.length c0_2, .slice A0_3 l0_3.length c0_3, .slice A0_4 l0_4.length c0_4, .slice A0_5 l0_5.length c0_5, .slice A0_6 l0_6.length c0_6], .slice Ao32 t123.length co32] (by rfl) rfl rfl ?_
 with_reducible refine (cupolaref14_Memory.calls k _ _ l0_0 _ _ l0_1 _ _ l0_2 _ _ l0_3 _ _ l0_4 _ _ l0_5 _ _ l0_6 _ _ t123 t126 _ ?side1 ?side2 ?side3 ?side4 ?side5 ?side6 ?side7 ?side8 ?side9 ?side10 ?side11 ?side12 ?side13 ?side14 ?side15 ?side16 A12.out).mono ?_
 (case side1 => exact cp9 HR0_0.out HB.out)
 (case side2 => exact HC0_0.out)
 (case side3 => exact cp9 HR0_1.out HB.out)
 (case side4 => exact HC0_1.out)
 (case side5 => exact cp9 HR0_2.out HB.out)
 (case side6 => exact HC0_2.out)
 (case side7 => exact cp9 HR0_3.out HB.out)
 (case side8 => exact HC0_3.out)
 (case side9 => exact cp9 HR0_4.out HB.out)
 (case side10 => exact HC0_4.out)
 (case side11 => exact cp9 HR0_5.out HB.out)
 (case side12 => exact HC0_5.out)
 (case side13 => exact cp9 HR0_6.out HB.out)
 (case side14 => exact HC0_6.out)
 (case side15 => exact lp9 (Kd.R_reads' HO125.out).2.2)
 (case side16 => exact (Kd.R_reads' HO125.out).2.1)
 rintro e w33 ⟨v127, rfl, ho0, hb⟩
 refine ⟨_, rfl, ?_⟩
 have n0_ := Aside0.mk (Kd.R_elder' (rp9 HO104.out) (Kd.R_base ho0) hb)
 have n1_ := Aside0.mk (Kd.R_elder' (rp9 HO107.out) (Kd.R_base ho0) hb)
 have n2_ := Aside0.mk (Kd.R_elder' (rp9 HO110.out) (Kd.R_base ho0) hb)
 have n3_ := Aside0.mk (Kd.R_elder' (rp9 HO113.out) (Kd.R_base ho0) hb)
 have n4_ := Aside0.mk (Kd.R_elder' (rp9 HO116.out) (Kd.R_base ho0) hb)
 have n5_ := Aside0.mk (Kd.R_elder' (rp9 HO119.out) (Kd.R_base ho0) hb)
 have n6_ := Aside0.mk (Kd.R_elder' (rp9 HO122.out) (Kd.R_base ho0) hb)
 have n7_ := Aside0.mk (Kd.R_elder' (rp9 HO125.out) (Kd.R_base ho0) hb)
 have n8_ := Aside0.mk (Kd.R_lower (Kd.R_new' (Kd.R_new' (Kd.R_new' (Kd.R_new' (Kd.R_new' (Kd.R_new' (Kd.R_new' (Kd.R_new' ho0 (Kd.R_lt (rp9 HO104.out))) (Kd.R_lt (rp9 HO107.out))) (Kd.R_lt (rp9 HO110.out))) (Kd.R_lt (rp9 HO113.out))) (Kd.R_lt (rp9 HO116.out))) (Kd.R_lt (rp9 HO119.out))) (Kd.R_lt (rp9 HO122.out))) (Kd.R_lt (rp9 HO125.out))) (below_size (bp9 HB.out)))
 have n9_ := Aside0.mk (blk_below (kp9 BK101.out) hb)
 have n10_ := Aside0.mk (below_step (bp9 HB.out) hb)
 clear HO104 HO107 HO110 HO113 HO116 HO119 HO122 HO125 BK101 HB
 revert n0_ n1_ n2_ n3_ n4_ n5_ n6_ n7_ n8_ n9_ n10_; intro HO104 HO107 HO110 HO113 HO116 HO119 HO122 HO125 HO128 BK101 HB
 (try clear hb)
 (try clear hb2)
 (try clear hk)
 (try clear hi)
 (try clear ho0)
 obtain ⟨Ao34, co34, eo34⟩ := Kd.R_slice HO122.out
 (first | subst eo34 | (injection eo34 with f1_ f2_ f3_; have f4_ := f1_.symm; have f5_ := f3_.symm; clear f1_ f2_ f3_; subst f4_; subst f5_))
 obtain ⟨Ao35, co35, eo35⟩ := Kd.R_slice HO128.out
 (first | subst eo35 | (injection eo35 with f1_ f2_ f3_; have f4_ := f1_.symm; have f5_ := f3_.symm; clear f1_ f2_ f3_; subst f4_; subst f5_))
 refine hK.out _ _ ⟨(blk_cell BK101.out 0).trans rfl, (blk_cell BK101.out 1).trans rfl, (blk_cell BK101.out 2).trans rfl, (blk_cell BK101.out 3).trans rfl, (blk_cell BK101.out 4).trans rfl, (blk_cell BK101.out 5).trans rfl, (blk_cell BK101.out 6).trans rfl⟩ (fun hHeld => ?_)
 clear hK K
 refine norm_ (a' := ?_) ?_ ?_
 rotate_left
 ·show Act.put _ (some 33) _ = _
  simp only [Act.put, List.setIfInBounds_toArray, List.set_cons_zero, List.set_cons_succ, i64_w, i32_w]
  rfl
 refine one_ (i := 7) (N := some 34) #[i9, i9, i9, i9, i9, i9, i9, i9, o9] rfl rfl (one_of HT_.out (by kernel_rfl)) (by decide) (fun K hK => ?_)
 refine goes9 Try.func59 (by kernel_rfl) rfl #[.slice Ao34 t120.length co34, .slice Ao35 t126.length co35] (by rfl) rfl rfl ?_
 with_reducible refine (cupolaref05_Or.calls k _ _ t120 _ _ t126 t129 _ ?side1 ?side2 ?side3 ?side4 A13.out).mono ?_
 (case side1 => exact lp9 (Kd.R_reads' HO122.out).2.2)
 (case side2 => exact (Kd.R_reads' HO122.out).2.1)
 (case side3 => exact lp9 (Kd.R_reads' HO128.out).2.2)
 (case side4 => exact (Kd.R_reads' HO128.out).2.1)
 rintro e w36 ⟨v130, rfl, ho0, hb⟩
 refine ⟨_, rfl, ?_⟩
 have n0_ := Aside0.mk (Kd.R_elder' (rp9 HO104.out) (Kd.R_base ho0) hb)
 have n1_ := Aside0.mk (Kd.R_elder' (rp9 HO107.out) (Kd.R_base ho0) hb)
 have n2_ := Aside0.mk (Kd.R_elder' (rp9 HO110.out) (Kd.R_base ho0) hb)
 have n3_ := Aside0.mk (Kd.R_elder' (rp9 HO113.out) (Kd.R_base ho0) hb)
 have n4_ := Aside0.mk (Kd.R_elder' (rp9 HO116.out) (Kd.R_base ho0) hb)
 have n5_ := Aside0.mk (Kd.R_elder' (rp9 HO119.out) (Kd.R_base ho0) hb)
 have n6_ := Aside0.mk (Kd.R_elder' (rp9 HO122.out) (Kd.R_base ho0) hb)
 have n7_ := Aside0.mk (Kd.R_elder' (rp9 HO125.out) (Kd.R_base ho0) hb)
 have n8_ := Aside0.mk (Kd.R_elder' (rp9 HO128.out) (Kd.R_base ho0) hb)
 have n9_ := Aside0.mk (Kd.R_lower (Kd.R_new' (Kd.R_new' (Kd.R_new' (Kd.R_new' (Kd.R_new' (Kd.R_new' (Kd.R_new' (Kd.R_new' (Kd.R_new' ho0 (Kd.R_lt (rp9 HO104.out))) (Kd.R_lt (rp9 HO107.out))) (Kd.R_lt (rp9 HO110.out))) (Kd.R_lt (rp9 HO113.out))) (Kd.R_lt (rp9 HO116.out))) (Kd.R_lt (rp9 HO119.out))) (Kd.R_lt (rp9 HO122.out))) (Kd.R_lt (rp9 HO125.out))) (Kd.R_lt (rp9 HO128.out))) (below_size (bp9 HB.out)))
 have n10_ := Aside0.mk (blk_below (kp9 BK101.out) hb)
 have n11_ := Aside0.mk (below_step (bp9 HB.out) hb)
 clear HO104 HO107 HO110 HO113 HO116 HO119 HO122 HO125 HO128 BK101 HB
 revert n0_ n1_ n2_ n3_ n4_ n5_ n6_ n7_ n8_ n9_ n10_ n11_; intro HO104 HO107 HO110 HO113 HO116 HO119 HO122 HO125 HO128 HO131 BK101 HB
 (try clear hb)
 (try clear hb2)
 (try clear hk)
 (try clear hi)
 (try clear ho0)
 refine hK.out _ _ ⟨(blk_cell BK101.out 0).trans rfl, (blk_cell BK101.out 1).trans rfl, (blk_cell BK101.out 2).trans rfl, (blk_cell BK101.out 3).trans rfl, (blk_cell BK101.out 4).trans rfl, (blk_cell BK101.out 5).trans rfl, (blk_cell BK101.out 6).trans rfl⟩ (fun hHeld => ?_)
 clear hK K
 refine norm_ (a' := ?_) ?_ ?_
 rotate_left
 ·show Act.put _ (some 34) _ = _
  simp only [Act.put, List.setIfInBounds_toArray, List.set_cons_zero, List.set_cons_succ, i64_w, i32_w]
  rfl
 refine pure_ (i := 8) (N := some 6) (v := ?_) (a' := ?_) #[i9, i9, i9, i9, i9, i9, i9, i9, i9] rfl rfl (any_of HT_.out (by kernel_rfl)) (fun _ _ _ h => h) (Or.inl ⟨by rfl, ?_⟩) ?_ ?_
 rotate_left
 ·intro w'
  go_simp
  with_reducible rfl
 rotate_left
 ·simp only [Act.put, List.setIfInBounds_toArray, List.set_cons_zero, List.set_cons_succ, i64_w, i32_w]
  rfl
 refine done_ (done_of HT_.out (by kernel_rfl)) ?_
 try go_wp2
 go_ret
 exact ⟨_, by first | rfl | (simp [errW_none, errW_some] <;> rfl) | (simp [*, errW_none, errW_some] <;> rfl), by (with_reducible repeat (first | apply Kd.R_alloc | apply Kd.R_drewN | apply Kd.R_drew)); exact Kd.R_mono HO131.out (fun _ hk => trivial), bp9 HB.out⟩

end Go.Proofs.Ytbamkkdikeedoaa.G
