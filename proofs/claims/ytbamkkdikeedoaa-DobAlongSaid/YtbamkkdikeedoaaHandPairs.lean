/- By hand over printed lines: exec.pairs at exec.Inner$1. -/
import Derived.Test.YtbamkkdikeedoaaGRel
import Derived.Test.YtbamkkdikeedoaaHandCz
namespace Go.Proofs.Ytbamkkdikeedoaa.G
open Go.RowKit Go.Proofs.YtbamkkdikeedoaaW.PrintWords Go.Proofs.YtbamkkdikeedoaaW.PrintLast Go.Proofs.YtbamkkdikeedoaaW.PrintMore
set_option maxHeartbeats 8000000
set_option maxRecDepth 100000
set_option linter.unusedVariables false
set_option linter.unusedSimpArgs false
def exec_Inner_1.f (a0_0 : Int) (a0_1 : Int) (a0_2 : Int) (a0_3 : Int) (a0_4 : Bool) (a0_5 : Bool) (a0_6 : Bool) (a1_0 : Int) (a1_1 : Int) (a1_2 : Int) (a1_3 : Int) (a1_4 : Bool) (a1_5 : Bool) (a1_6 : Bool) : Option (Bool) := some (a0_0 == a1_0)
theorem exec_Inner_1.calls (a0_0 : Int) (a0_1 : Int) (a0_2 : Int) (a0_3 : Int) (a0_4 : Bool) (a0_5 : Bool) (a0_6 : Bool) (a1_0 : Int) (a1_1 : Int) (a1_2 : Int) (a1_3 : Int) (a1_4 : Bool) (a1_5 : Bool) (a1_6 : Bool) (r : Bool) (w : World) (h : exec_Inner_1.f a0_0 a0_1 a0_2 a0_3 a0_4 a0_5 a0_6 a1_0 a1_1 a1_2 a1_3 a1_4 a1_5 a1_6 = some r) :
  Calls Try.prog 158 #[.agg #[.int .i64 a0_0, .int .i64 a0_1, .int .i64 a0_2, .int .i64 a0_3, .bool a0_4, .bool a0_5, .bool a0_6], .agg #[.int .i64 a1_0, .int .i64 a1_1, .int .i64 a1_2, .int .i64 a1_3, .bool a1_4, .bool a1_5, .bool a1_6]] w fun e w' => e = .returned (.bool r) ∧ Below w.heap.size w w' := by
 have hu26 := Try.underlying26
 have HB := a9_ (Below.refl w.heap.size w)
 have H : (some (a0_0 == a1_0)) = some r := h
 clear h
 obtain rfl := Option.some.inj H
 go_enter Try.func158, Try.ntmps158
 go_wp2_with (first | ((with_reducible refine gate_dst (N := 2) rfl ?_); refine box9 (N := 2) (cs := #[.int .i64 a0_0, .int .i64 a0_1, .int .i64 a0_2, .int .i64 a0_3, .bool a0_4, .bool a0_5, .bool a0_6]) (t := 26) ?_; intro gb101 hg w3 hbox hb; have n0_ := a9_ (below_step (bp9 HB.out) hb); have n1_ := a9_ (hbox); have n2_ := a9_ ((by rw [hg]; exact (below_size (bp9 HB.out)) : w.heap.size ≤ gb101)); have n3_ := n2_; clear HB; have HB := n0_; have BK101 := n1_; have GW101 := n2_; have GE101 := n3_; clear n0_ n1_ n2_ n3_; clear hb hbox hg) | ((with_reducible refine gate_dst (N := 3) rfl ?_); refine box9 (N := 3) (cs := #[.int .i64 a1_0, .int .i64 a1_1, .int .i64 a1_2, .int .i64 a1_3, .bool a1_4, .bool a1_5, .bool a1_6]) (t := 26) ?_; intro gb102 hg w4 hbox hb; have n0_ := a9_ (blk_below (kp9 BK101.out) hb); have n1_ := a9_ (below_step (bp9 HB.out) hb); have n2_ := a9_ (hbox); have n3_ := a9_ ((by rw [hg]; exact (below_size (bp9 HB.out)) : w.heap.size ≤ gb102)); have n4_ := n3_; have n5_ := a9_ ((by rw [hg]; exact Nat.ne_of_lt (blk_lt (g := gb101) (o := .cells #[.int .i64 a0_0, .int .i64 a0_1, .int .i64 a0_2, .int .i64 a0_3, .bool a0_4, .bool a0_5, .bool a0_6] 26 (0, 0)) (kp9 BK101.out)) : gb101 ≠ gb102)); have n6_ := a9_ ((by rw [hg]; exact Nat.ne_of_gt (blk_lt (g := gb101) (o := .cells #[.int .i64 a0_0, .int .i64 a0_1, .int .i64 a0_2, .int .i64 a0_3, .bool a0_4, .bool a0_5, .bool a0_6] 26 (0, 0)) (kp9 BK101.out)) : gb102 ≠ gb101)); clear BK101; clear HB; have BK101 := n0_; have HB := n1_; have BK102 := n2_; have GW102 := n3_; have GE102 := n4_; have NB101_102 := n5_; have NB102_101 := n6_; clear n0_ n1_ n2_ n3_ n4_ n5_ n6_; clear hb hbox hg; have hnb5 := NB101_102.out; have hnc5 := NB102_101.out; obtain ⟨hcz6_0, hcz6_1, hcz6_2, hcz6_3, hcz6_4, hcz6_5, hcz6_6, hfz6_0, hfz6_1, hfz6_2, hfz6_3, hfz6_4, hfz6_5, hfz6_6⟩ := cz7 BK101.out; obtain ⟨hcz7_0, hcz7_1, hcz7_2, hcz7_3, hcz7_4, hcz7_5, hcz7_6, hfz7_0, hfz7_1, hfz7_2, hfz7_3, hfz7_4, hfz7_5, hfz7_6⟩ := cz7 BK102.out))
 go_ret
 exact ⟨by first | rfl | (simp [errW_none, errW_some] <;> rfl) | (simp [*, errW_none, errW_some] <;> rfl), bp9 HB.out⟩
mutual
def exec_pairs.l0 : Nat → List Int → List (S26) → Int → Int → List (S26) → List Int → List Int → List Int → List Int → List Int → List (List Int) → Option (List Int)
 | 0, _, _, _, _, _, _, _, _, _, _, _ => none
 | k + 1, x5, x15, x16, x17, x102000, x102001, x102002, x102003, x102004, x102005, x102006 => if x17 < x16 then (if 0 ≤ x17 then (if x17 < (x15.length : Int) then (exec_pairs.l1 k x5 x17 x15 x16 x17 x102000 (x102000.length : Int) 0 x102000 x102001 x102002 x102003 x102004 x102005 x102006 ((rd_T26 x15 x17).f0) ((rd_T26 x15 x17).f1) ((rd_T26 x15 x17).f2) ((rd_T26 x15 x17).f3) ((rd_T26 x15 x17).f4) ((rd_T26 x15 x17).f5) ((rd_T26 x15 x17).f6)) else (none)) else (none)) else (some x5)
def exec_pairs.l1 : Nat → List Int → Int → List (S26) → Int → Int → List (S26) → Int → Int → List (S26) → List Int → List Int → List Int → List Int → List Int → List (List Int) → Int → Int → Int → Int → Bool → Bool → Bool → Option (List Int)
 | 0, _, _, _, _, _, _, _, _, _, _, _, _, _, _, _, _, _, _, _, _, _, _ => none
 | k + 1, x5, x6, x15, x16, x17, x23, x24, x25, x102000, x102001, x102002, x102003, x102004, x102005, x102006, x107000, x107001, x107002, x107003, x107004, x107005, x107006 => if x25 < x24 then (if 0 ≤ x25 then (if x25 < (x23.length : Int) then (if x6 = x25 then (exec_pairs.l1 k x5 x6 x15 x16 x17 x23 x24 (wrap64 (x25 + 1)) x102000 x102001 x102002 x102003 x102004 x102005 x102006 x107000 x107001 x107002 x107003 x107004 x107005 x107006) else ((exec_Inner_1.f x107000 x107001 x107002 x107003 x107004 x107005 x107006 ((rd_T26 x23 x25).f0) ((rd_T26 x23 x25).f1) ((rd_T26 x23 x25).f2) ((rd_T26 x23 x25).f3) ((rd_T26 x23 x25).f4) ((rd_T26 x23 x25).f5) ((rd_T26 x23 x25).f6)).bind fun t109 => (if t109 = true then ((rel_Put.f k x5 x6 x25).bind fun t110 => (exec_pairs.l1 k t110 x6 x15 x16 x17 x23 x24 (wrap64 (x25 + 1)) x102000 x102001 x102002 x102003 x102004 x102005 x102006 x107000 x107001 x107002 x107003 x107004 x107005 x107006)) else (exec_pairs.l1 k x5 x6 x15 x16 x17 x23 x24 (wrap64 (x25 + 1)) x102000 x102001 x102002 x102003 x102004 x102005 x102006 x107000 x107001 x107002 x107003 x107004 x107005 x107006)))) else (none)) else (none)) else (exec_pairs.l0 k x5 x15 x16 (wrap64 (x17 + 1)) x102000 x102001 x102002 x102003 x102004 x102005 x102006)
end
def exec_pairs.f (k : Nat) (l0_0 : List (S26)) (l0_1 : List Int) (l0_2 : List Int) (l0_3 : List Int) (l0_4 : List Int) (l0_5 : List Int) (l0_6 : List (List Int)) : Option (List Int) := (rel_New.f (l0_0.length : Int)).bind fun t102 => (exec_pairs.l0 k t102 l0_0 (l0_0.length : Int) 0 l0_0 l0_1 l0_2 l0_3 l0_4 l0_5 l0_6)
theorem exec_pairs.calls (k : Nat) (A0_0 : Option Addr) (c0_0 : Nat) (l0_0 : List (S26)) (A0_1 : Option Addr) (c0_1 : Nat) (l0_1 : List Int) (A0_2 : Option Addr) (c0_2 : Nat) (l0_2 : List Int) (A0_3 : Option Addr) (c0_3 : Nat) (l0_3 : List Int) (A0_4 : Option Addr) (c0_4 : Nat) (l0_4 : List Int) (A0_5 : Option Addr) (c0_5 : Nat) (l0_5 : List Int) (A0_6 : Option Addr) (c0_6 : Nat) (l0_6 : List (List Int)) (r : List Int) (w : World) (hr0_0 : Kd.C k26 w A0_0 l0_0.length l0_0) (hc0_0 : l0_0.length ≤ c0_0) (hr0_1 : Kd.C (Kd.int .u32) w A0_1 l0_1.length l0_1) (hc0_1 : l0_1.length ≤ c0_1) (hr0_2 : Kd.C (Kd.int .u32) w A0_2 l0_2.length l0_2) (hc0_2 : l0_2.length ≤ c0_2) (hr0_3 : Kd.C (Kd.int .u32) w A0_3 l0_3.length l0_3) (hc0_3 : l0_3.length ≤ c0_3) (hr0_4 : Kd.C (Kd.int .u32) w A0_4 l0_4.length l0_4) (hc0_4 : l0_4.length ≤ c0_4) (hr0_5 : Kd.C (Kd.int .u32) w A0_5 l0_5.length l0_5) (hc0_5 : l0_5.length ≤ c0_5) (hr0_6 : Kd.C (Kd.slice 2 (Kd.int .i64)) w A0_6 l0_6.length l0_6) (hc0_6 : l0_6.length ≤ c0_6) (h : exec_pairs.f k l0_0 l0_1 l0_2 l0_3 l0_4 l0_5 l0_6 = some r) :
  Calls Try.prog 157 #[.agg #[.slice A0_0 l0_0.length c0_0, .slice A0_1 l0_1.length c0_1, .slice A0_2 l0_2.length c0_2, .slice A0_3 l0_3.length c0_3, .slice A0_4 l0_4.length c0_4, .slice A0_5 l0_5.length c0_5, .slice A0_6 l0_6.length c0_6], .func (.func 158) #[] #[]] w fun e w' => ∃ v0_ : Value, e = .returned (v0_) ∧ Kd.R (Kd.int .u32) 52 w' w.heap.size (fun _ => True) v0_ r ∧ Below w.heap.size w w' := by
 have hu31 := Try.underlying31
 have hu26 := Try.underlying26
 have HR0_0 := a9_ hr0_0
 have HC0_0 := a9_ hc0_0
 clear hr0_0 hc0_0
 have HR0_1 := a9_ hr0_1
 have HC0_1 := a9_ hc0_1
 clear hr0_1 hc0_1
 have HR0_2 := a9_ hr0_2
 have HC0_2 := a9_ hc0_2
 clear hr0_2 hc0_2
 have HR0_3 := a9_ hr0_3
 have HC0_3 := a9_ hc0_3
 clear hr0_3 hc0_3
 have HR0_4 := a9_ hr0_4
 have HC0_4 := a9_ hc0_4
 clear hr0_4 hc0_4
 have HR0_5 := a9_ hr0_5
 have HC0_5 := a9_ hc0_5
 clear hr0_5 hc0_5
 have HR0_6 := a9_ hr0_6
 have HC0_6 := a9_ hc0_6
 clear hr0_6 hc0_6
 have HB := a9_ (Below.refl w.heap.size w)
 have H : ((rel_New.f (l0_0.length : Int)).bind fun t102 => (exec_pairs.l0 k t102 l0_0 (l0_0.length : Int) 0 l0_0 l0_1 l0_2 l0_3 l0_4 l0_5 l0_6)) = some r := h
 clear h
 replace H := Option.bind_eq_some_iff.mp H
 obtain ⟨t102, A20, H⟩ := H
 have A2 := a9_ A20
 clear A20
 have H' := a9_ H
 clear H
 go_enter Try.func157, Try.ntmps157
 go_wp2_with (first | ((with_reducible refine gate_dst (N := 2) rfl ?_); refine box9 (N := 2) (cs := #[.slice A0_0 l0_0.length c0_0, .slice A0_1 l0_1.length c0_1, .slice A0_2 l0_2.length c0_2, .slice A0_3 l0_3.length c0_3, .slice A0_4 l0_4.length c0_4, .slice A0_5 l0_5.length c0_5, .slice A0_6 l0_6.length c0_6]) (t := 31) ?_; intro gb101 hg w3 hbox hb; have n0_ := a9_ (below_step (bp9 HB.out) hb); have n1_ := a9_ (hbox); have n2_ := a9_ ((by rw [hg]; exact (below_size (bp9 HB.out)) : w.heap.size ≤ gb101)); have n3_ := n2_; clear HB; have HB := n0_; have BK101 := n1_; have GW101 := n2_; have GE101 := n3_; clear n0_ n1_ n2_ n3_; clear hb hbox hg; obtain ⟨hcz4_0, hcz4_1, hcz4_2, hcz4_3, hcz4_4, hcz4_5, hcz4_6, hfz4_0, hfz4_1, hfz4_2, hfz4_3, hfz4_4, hfz4_5, hfz4_6⟩ := cz7 BK101.out) | ((with_reducible refine gate_callee (f := 37) rfl ?_); refine goesL9 (some 13) rfl rfl Try.func37 (by kernel_rfl) rfl #[.int .i64 (l0_0.length : Int)] rfl ?_; (with_reducible refine (rel_New.calls (l0_0.length : Int) t102 _ A2.out).mono ?_); rintro e w5 ⟨v103, rfl, ho0, hb⟩; refine ⟨_, rfl, ?_⟩; have n0_ := a9_ (Kd.R_lower ho0 (below_size (bp9 HB.out))); have n1_ := a9_ (blk_below (kp9 BK101.out) hb); have n2_ := a9_ (below_step (bp9 HB.out) hb); clear BK101; clear HB; have HO104 := n0_; have BK101 := n1_; have HB := n2_; clear n0_ n1_ n2_; (try clear hb); (try clear ho0); obtain ⟨hcz6_0, hcz6_1, hcz6_2, hcz6_3, hcz6_4, hcz6_5, hcz6_6, hfz6_0, hfz6_1, hfz6_2, hfz6_3, hfz6_4, hfz6_5, hfz6_6⟩ := cz7 BK101.out))
 go_loopg [5, 17] k (fun kq v5 v17 w' => ∃ (x5_1 : List Int) (x17_1 : Int), v17 = .int .i64 x17_1 ∧ Aside0 (exec_pairs.l0 kq x5_1 l0_0 (l0_0.length : Int) x17_1 l0_0 l0_1 l0_2 l0_3 l0_4 l0_5 l0_6 = some r) ∧ Aside0 (kq ≤ k) ∧ Aside0 (Kd.R (Kd.int .u32) 52 w' w.heap.size (fun _ => True) v5 x5_1) ∧ Aside0 (w'.heap[gb101]? = some (.cells #[(.slice A0_0 l0_0.length c0_0), (.slice A0_1 l0_1.length c0_1), (.slice A0_2 l0_2.length c0_2), (.slice A0_3 l0_3.length c0_3), (.slice A0_4 l0_4.length c0_4), (.slice A0_5 l0_5.length c0_5), (.slice A0_6 l0_6.length c0_6)] 31 (0, 0))) ∧ Aside0 (Below w.heap.size w w'))
 case atStart => exact ⟨(t102), (0), rs9, H', ⟨Nat.le_refl _⟩, ⟨rp9 HO104.out⟩, ⟨kp9 BK101.out⟩, ⟨bp9 HB.out⟩⟩
 case round =>
  clear H'
  try clear c1
  try clear p2
  try clear c3
  try clear hcz4_0 hcz4_1 hcz4_2 hcz4_3 hcz4_4 hcz4_5 hcz4_6
  try clear hcz6_0 hcz6_1 hcz6_2 hcz6_3 hcz6_4 hcz6_5 hcz6_6
  try clear hfz4_0 hfz4_1 hfz4_2 hfz4_3 hfz4_4 hfz4_5 hfz4_6
  try clear hfz6_0 hfz6_1 hfz6_2 hfz6_3 hfz6_4 hfz6_5 hfz6_6
  obtain ⟨x5_1, x17_1, rfl, HA, HK1, HO_5, BK101, HB⟩ := hrel
  cases gk with
  | zero => exact absurd HA.out (by simp [exec_pairs.l0])
  | succ k1 =>
   have H := HA.out
   clear HA
   simp only [exec_pairs.l0] at H
   by_cases c7 : x17_1 < (l0_0.length : Int)
   ·rw [if_pos c7] at H
    have c7b0 : decide (x17_1 < (l0_0.length : Int)) = true := decide_eq_true c7
    clear c7
    by_cases c8 : 0 ≤ x17_1
    ·rw [if_pos c8] at H
     have c8b0 : decide (0 ≤ x17_1) = true := decide_eq_true c8
     clear c8
     by_cases c9 : x17_1 < (l0_0.length : Int)
     ·rw [if_pos c9] at H
      have c9b0 : decide (x17_1 < (l0_0.length : Int)) = true := decide_eq_true c9
      clear c9
      have H' := a9_ H
      clear H
      have p105 : 0 ≤ (x17_1 : Int) := of_decide_eq_true (by first | (with_reducible assumption) | assumption)
      have q105 : x17_1 < (l0_0.length : Int) := of_decide_eq_true (by first | (with_reducible assumption) | assumption)
      obtain ⟨ad105, e105, hx105_0, hx105_1, hx105_2, hx105_3, hx105_4, hx105_5, hx105_6⟩ := at_T26 HR0_0.out x17_1 p105 q105
      cases e105
      replace hx105_0 := hb9 HB.out hx105_0
      replace hx105_1 := hb9 HB.out hx105_1
      replace hx105_2 := hb9 HB.out hx105_2
      replace hx105_3 := hb9 HB.out hx105_3
      replace hx105_4 := hb9 HB.out hx105_4
      replace hx105_5 := hb9 HB.out hx105_5
      replace hx105_6 := hb9 HB.out hx105_6
      replace p105 := eq_true p105
      replace q105 := eq_true q105
      go_wp2_with (first | ((with_reducible refine gate_dst (N := 7) rfl ?_); refine box9 (N := 7) (cs := #[.int .i64 0, .int .i64 0, .int .i64 0, .int .i64 0, .bool false, .bool false, .bool false]) (t := 26) ?_; intro gb106 hg w10 hbox hb; have n0_ := a9_ (Kd.R_below (rp9 HO_5.out) hb); have n1_ := a9_ (blk_below (kp9 BK101.out) hb); have n2_ := a9_ (below_step (bp9 HB.out) hb); have n3_ := a9_ (hbox); have n4_ := a9_ ((by rw [hg]; exact (below_size (bp9 HB.out)) : w.heap.size ≤ gb106)); have n5_ := n4_; have n6_ := a9_ ((by rw [hg]; exact Nat.ne_of_lt (blk_lt (g := gb101) (o := .cells #[.slice (some ad105) l0_0.length c0_0, .slice A0_1 l0_1.length c0_1, .slice A0_2 l0_2.length c0_2, .slice A0_3 l0_3.length c0_3, .slice A0_4 l0_4.length c0_4, .slice A0_5 l0_5.length c0_5, .slice A0_6 l0_6.length c0_6] 31 (0, 0)) (kp9 BK101.out)) : gb101 ≠ gb106)); have n7_ := a9_ ((by rw [hg]; exact Nat.ne_of_gt (blk_lt (g := gb101) (o := .cells #[.slice (some ad105) l0_0.length c0_0, .slice A0_1 l0_1.length c0_1, .slice A0_2 l0_2.length c0_2, .slice A0_3 l0_3.length c0_3, .slice A0_4 l0_4.length c0_4, .slice A0_5 l0_5.length c0_5, .slice A0_6 l0_6.length c0_6] 31 (0, 0)) (kp9 BK101.out)) : gb106 ≠ gb101)); clear HO_5; clear BK101; clear HB; have HO_5 := n0_; have BK101 := n1_; have HB := n2_; have BK106 := n3_; have GW106 := n4_; have GE106 := n5_; have NB101_106 := n6_; have NB106_101 := n7_; clear n0_ n1_ n2_ n3_ n4_ n5_ n6_ n7_; clear hb hbox hg; have hnb11 := NB106_101.out; have hnc11 := NB101_106.out; obtain ⟨hcz12_0, hcz12_1, hcz12_2, hcz12_3, hcz12_4, hcz12_5, hcz12_6, hfz12_0, hfz12_1, hfz12_2, hfz12_3, hfz12_4, hfz12_5, hfz12_6⟩ := cz7 BK106.out; obtain ⟨hcz13_0, hcz13_1, hcz13_2, hcz13_3, hcz13_4, hcz13_5, hcz13_6, hfz13_0, hfz13_1, hfz13_2, hfz13_3, hfz13_4, hfz13_5, hfz13_6⟩ := cz7 BK101.out))
      go_loopg [5, 25] k1 (fun kq v5 v25 w' => ∃ (x5_2 : List Int) (x25_2 : Int), v25 = .int .i64 x25_2 ∧ Aside0 (exec_pairs.l1 kq x5_2 x17_1 l0_0 (l0_0.length : Int) x17_1 l0_0 (l0_0.length : Int) x25_2 l0_0 l0_1 l0_2 l0_3 l0_4 l0_5 l0_6 ((rd_T26 l0_0 x17_1).f0) ((rd_T26 l0_0 x17_1).f1) ((rd_T26 l0_0 x17_1).f2) ((rd_T26 l0_0 x17_1).f3) ((rd_T26 l0_0 x17_1).f4) ((rd_T26 l0_0 x17_1).f5) ((rd_T26 l0_0 x17_1).f6) = some r) ∧ Aside0 (kq ≤ k1) ∧ Aside0 (Kd.R (Kd.int .u32) 52 w' w.heap.size (fun _ => True) v5 x5_2) ∧ Aside0 (w'.heap[gb101]? = some (.cells #[(.slice (some ad105) l0_0.length c0_0), (.slice A0_1 l0_1.length c0_1), (.slice A0_2 l0_2.length c0_2), (.slice A0_3 l0_3.length c0_3), (.slice A0_4 l0_4.length c0_4), (.slice A0_5 l0_5.length c0_5), (.slice A0_6 l0_6.length c0_6)] 31 (0, 0))) ∧ Aside0 (w'.heap[gb106]? = some (.cells #[.int .i64 ((rd_T26 l0_0 x17_1).f0), .int .i64 ((rd_T26 l0_0 x17_1).f1), .int .i64 ((rd_T26 l0_0 x17_1).f2), .int .i64 ((rd_T26 l0_0 x17_1).f3), .bool ((rd_T26 l0_0 x17_1).f4), .bool ((rd_T26 l0_0 x17_1).f5), .bool ((rd_T26 l0_0 x17_1).f6)] 26 (0, 0))) ∧ Aside0 (Below w.heap.size w w'))
      case atStart => exact ⟨(x5_1), (0), rs9, H', ⟨Nat.le_refl _⟩, ⟨by (with_reducible repeat (first | apply Kd.R_alloc | apply Kd.R_drewN | apply Kd.R_drew)); exact Kd.R_mono (Kd.R_far (p := ⟨gb106, 6, none⟩) (Kd.R_far (p := ⟨gb106, 5, none⟩) (Kd.R_far (p := ⟨gb106, 4, none⟩) (Kd.R_far (p := ⟨gb106, 3, none⟩) (Kd.R_far (p := ⟨gb106, 2, none⟩) (Kd.R_far (p := ⟨gb106, 1, none⟩) (Kd.R_far (p := ⟨gb106, 0, none⟩) (Kd.R_types HO_5.out BK106.out (by decide)) (fun _ hk => hk.2) (.int .i64 ((rd_T26 l0_0 x17_1).f0))) (fun _ hk => hk.2) (.int .i64 ((rd_T26 l0_0 x17_1).f1))) (fun _ hk => hk.2) (.int .i64 ((rd_T26 l0_0 x17_1).f2))) (fun _ hk => hk.2) (.int .i64 ((rd_T26 l0_0 x17_1).f3))) (fun _ hk => hk.2) (.bool ((rd_T26 l0_0 x17_1).f4))) (fun _ hk => hk.2) (.bool ((rd_T26 l0_0 x17_1).f5))) (fun _ hk => hk.2) (.bool ((rd_T26 l0_0 x17_1).f6))) (fun _ hk => trivial)⟩, ⟨by (with_reducible repeat (first | refine blk_drewN ?_ _ | refine blk_drew ?_ | refine blk_alloc ?_ _)); refine blk_far ?_ NB101_106.out _; (with_reducible repeat (first | refine blk_drewN ?_ _ | refine blk_drew ?_ | refine blk_alloc ?_ _)); refine blk_far ?_ NB101_106.out _; (with_reducible repeat (first | refine blk_drewN ?_ _ | refine blk_drew ?_ | refine blk_alloc ?_ _)); refine blk_far ?_ NB101_106.out _; (with_reducible repeat (first | refine blk_drewN ?_ _ | refine blk_drew ?_ | refine blk_alloc ?_ _)); refine blk_far ?_ NB101_106.out _; (with_reducible repeat (first | refine blk_drewN ?_ _ | refine blk_drew ?_ | refine blk_alloc ?_ _)); refine blk_far ?_ NB101_106.out _; (with_reducible repeat (first | refine blk_drewN ?_ _ | refine blk_drew ?_ | refine blk_alloc ?_ _)); refine blk_far ?_ NB101_106.out _; (with_reducible repeat (first | refine blk_drewN ?_ _ | refine blk_drew ?_ | refine blk_alloc ?_ _)); refine blk_far ?_ NB101_106.out _; (with_reducible repeat (first | refine blk_drewN ?_ _ | refine blk_drew ?_ | refine blk_alloc ?_ _)); exact BK101.out⟩, ⟨by (with_reducible repeat (first | refine blk_drewN ?_ _ | refine blk_drew ?_ | refine blk_alloc ?_ _)); refine blk_put (cs := #[.int .i64 ((rd_T26 l0_0 x17_1).f0), .int .i64 ((rd_T26 l0_0 x17_1).f1), .int .i64 ((rd_T26 l0_0 x17_1).f2), .int .i64 ((rd_T26 l0_0 x17_1).f3), .bool ((rd_T26 l0_0 x17_1).f4), .bool ((rd_T26 l0_0 x17_1).f5), .bool false]) ?_ 6 _ rfl; (with_reducible repeat (first | refine blk_drewN ?_ _ | refine blk_drew ?_ | refine blk_alloc ?_ _)); refine blk_put (cs := #[.int .i64 ((rd_T26 l0_0 x17_1).f0), .int .i64 ((rd_T26 l0_0 x17_1).f1), .int .i64 ((rd_T26 l0_0 x17_1).f2), .int .i64 ((rd_T26 l0_0 x17_1).f3), .bool ((rd_T26 l0_0 x17_1).f4), .bool false, .bool false]) ?_ 5 _ rfl; (with_reducible repeat (first | refine blk_drewN ?_ _ | refine blk_drew ?_ | refine blk_alloc ?_ _)); refine blk_put (cs := #[.int .i64 ((rd_T26 l0_0 x17_1).f0), .int .i64 ((rd_T26 l0_0 x17_1).f1), .int .i64 ((rd_T26 l0_0 x17_1).f2), .int .i64 ((rd_T26 l0_0 x17_1).f3), .bool false, .bool false, .bool false]) ?_ 4 _ rfl; (with_reducible repeat (first | refine blk_drewN ?_ _ | refine blk_drew ?_ | refine blk_alloc ?_ _)); refine blk_put (cs := #[.int .i64 ((rd_T26 l0_0 x17_1).f0), .int .i64 ((rd_T26 l0_0 x17_1).f1), .int .i64 ((rd_T26 l0_0 x17_1).f2), .int .i64 0, .bool false, .bool false, .bool false]) ?_ 3 _ rfl; (with_reducible repeat (first | refine blk_drewN ?_ _ | refine blk_drew ?_ | refine blk_alloc ?_ _)); refine blk_put (cs := #[.int .i64 ((rd_T26 l0_0 x17_1).f0), .int .i64 ((rd_T26 l0_0 x17_1).f1), .int .i64 0, .int .i64 0, .bool false, .bool false, .bool false]) ?_ 2 _ rfl; (with_reducible repeat (first | refine blk_drewN ?_ _ | refine blk_drew ?_ | refine blk_alloc ?_ _)); refine blk_put (cs := #[.int .i64 ((rd_T26 l0_0 x17_1).f0), .int .i64 0, .int .i64 0, .int .i64 0, .bool false, .bool false, .bool false]) ?_ 1 _ rfl; (with_reducible repeat (first | refine blk_drewN ?_ _ | refine blk_drew ?_ | refine blk_alloc ?_ _)); refine blk_put (cs := #[.int .i64 0, .int .i64 0, .int .i64 0, .int .i64 0, .bool false, .bool false, .bool false]) ?_ 0 _ rfl; (with_reducible repeat (first | refine blk_drewN ?_ _ | refine blk_drew ?_ | refine blk_alloc ?_ _)); exact BK106.out⟩, ⟨bp9 HB.out⟩⟩
      case round =>
       clear H'
       try clear c1
       try clear p1
       try clear q1
       try clear hx1
       try clear p2
       try clear c3
       try clear c7
       try clear c7b0
       try clear c8
       try clear c8b0
       try clear c9
       try clear c9b0
       try clear p10
       try clear q10
       try clear hx10
       try clear c11
       try clear hcz12_0 hcz12_1 hcz12_2 hcz12_3 hcz12_4 hcz12_5 hcz12_6
       try clear hcz13_0 hcz13_1 hcz13_2 hcz13_3 hcz13_4 hcz13_5 hcz13_6
       try clear hcz4_0 hcz4_1 hcz4_2 hcz4_3 hcz4_4 hcz4_5 hcz4_6
       try clear hcz6_0 hcz6_1 hcz6_2 hcz6_3 hcz6_4 hcz6_5 hcz6_6
       try clear hfz12_0 hfz12_1 hfz12_2 hfz12_3 hfz12_4 hfz12_5 hfz12_6
       try clear hfz13_0 hfz13_1 hfz13_2 hfz13_3 hfz13_4 hfz13_5 hfz13_6
       try clear hfz4_0 hfz4_1 hfz4_2 hfz4_3 hfz4_4 hfz4_5 hfz4_6
       try clear hfz6_0 hfz6_1 hfz6_2 hfz6_3 hfz6_4 hfz6_5 hfz6_6
       try clear hx105_0
       try clear hx105_1
       try clear hx105_2
       try clear hx105_3
       try clear hx105_4
       try clear hx105_5
       try clear hx105_6
       try clear p105
       try clear p2
       try clear q105
       obtain ⟨x5_2, x25_2, rfl, HA, HK2, HO_5, BK101, BK106, HB⟩ := hrel
       cases gk with
       | zero => exact absurd HA.out (by simp [exec_pairs.l1])
       | succ k2 =>
        have H := HA.out
        clear HA
        simp only [exec_pairs.l1] at H
        by_cases c14 : x25_2 < (l0_0.length : Int)
        ·rw [if_pos c14] at H
         have c14b0 : decide (x25_2 < (l0_0.length : Int)) = true := decide_eq_true c14
         clear c14
         by_cases c15 : 0 ≤ x25_2
         ·rw [if_pos c15] at H
          have c15b0 : decide (0 ≤ x25_2) = true := decide_eq_true c15
          clear c15
          by_cases c16 : x25_2 < (l0_0.length : Int)
          ·rw [if_pos c16] at H
           have c16b0 : decide (x25_2 < (l0_0.length : Int)) = true := decide_eq_true c16
           clear c16
           by_cases c17 : x17_1 = x25_2
           ·rw [if_pos c17] at H
            have c17b0 : (x17_1 == x25_2) = true := beq_iff_eq.mpr c17
            have c17b1 : (x17_1 != x25_2) = false := bne_eq_false_iff_eq.mpr c17
            clear c17
            have H' := a9_ H
            clear H
            have p107 : 0 ≤ (x25_2 : Int) := of_decide_eq_true (by first | (with_reducible assumption) | assumption)
            have q107 : x25_2 < (l0_0.length : Int) := of_decide_eq_true (by first | (with_reducible assumption) | assumption)
            obtain ⟨ad107, e107, hx107_0, hx107_1, hx107_2, hx107_3, hx107_4, hx107_5, hx107_6⟩ := at_T26 HR0_0.out x25_2 p107 q107
            obtain rfl : ad105 = ad107 := (by injection e107)
            replace hx107_0 := hb9 HB.out hx107_0
            replace hx107_1 := hb9 HB.out hx107_1
            replace hx107_2 := hb9 HB.out hx107_2
            replace hx107_3 := hb9 HB.out hx107_3
            replace hx107_4 := hb9 HB.out hx107_4
            replace hx107_5 := hb9 HB.out hx107_5
            replace hx107_6 := hb9 HB.out hx107_6
            replace p107 := eq_true p107
            replace q107 := eq_true q107
            go_wp2_with (first | ((with_reducible refine gate_dst (N := 9) rfl ?_); refine box9 (N := 9) (cs := #[.int .i64 0, .int .i64 0, .int .i64 0, .int .i64 0, .bool false, .bool false, .bool false]) (t := 26) ?_; intro gb108 hg w18 hbox hb; have n0_ := a9_ (Kd.R_below (rp9 HO_5.out) hb); have n1_ := a9_ (blk_below (kp9 BK101.out) hb); have n2_ := a9_ (blk_below (kp9 BK106.out) hb); have n3_ := a9_ (below_step (bp9 HB.out) hb); have n4_ := a9_ (hbox); have n5_ := a9_ ((by rw [hg]; exact (below_size (bp9 HB.out)) : w.heap.size ≤ gb108)); have n6_ := n5_; have n7_ := a9_ ((by rw [hg]; exact Nat.ne_of_lt (blk_lt (g := gb101) (o := .cells #[.slice (some ad105) l0_0.length c0_0, .slice A0_1 l0_1.length c0_1, .slice A0_2 l0_2.length c0_2, .slice A0_3 l0_3.length c0_3, .slice A0_4 l0_4.length c0_4, .slice A0_5 l0_5.length c0_5, .slice A0_6 l0_6.length c0_6] 31 (0, 0)) (kp9 BK101.out)) : gb101 ≠ gb108)); have n8_ := a9_ ((by rw [hg]; exact Nat.ne_of_gt (blk_lt (g := gb101) (o := .cells #[.slice (some ad105) l0_0.length c0_0, .slice A0_1 l0_1.length c0_1, .slice A0_2 l0_2.length c0_2, .slice A0_3 l0_3.length c0_3, .slice A0_4 l0_4.length c0_4, .slice A0_5 l0_5.length c0_5, .slice A0_6 l0_6.length c0_6] 31 (0, 0)) (kp9 BK101.out)) : gb108 ≠ gb101)); have n9_ := a9_ ((by rw [hg]; exact Nat.ne_of_lt (blk_lt (g := gb106) (o := .cells #[.int .i64 ((rd_T26 l0_0 x17_1).f0), .int .i64 ((rd_T26 l0_0 x17_1).f1), .int .i64 ((rd_T26 l0_0 x17_1).f2), .int .i64 ((rd_T26 l0_0 x17_1).f3), .bool ((rd_T26 l0_0 x17_1).f4), .bool ((rd_T26 l0_0 x17_1).f5), .bool ((rd_T26 l0_0 x17_1).f6)] 26 (0, 0)) (kp9 BK106.out)) : gb106 ≠ gb108)); have n10_ := a9_ ((by rw [hg]; exact Nat.ne_of_gt (blk_lt (g := gb106) (o := .cells #[.int .i64 ((rd_T26 l0_0 x17_1).f0), .int .i64 ((rd_T26 l0_0 x17_1).f1), .int .i64 ((rd_T26 l0_0 x17_1).f2), .int .i64 ((rd_T26 l0_0 x17_1).f3), .bool ((rd_T26 l0_0 x17_1).f4), .bool ((rd_T26 l0_0 x17_1).f5), .bool ((rd_T26 l0_0 x17_1).f6)] 26 (0, 0)) (kp9 BK106.out)) : gb108 ≠ gb106)); clear HO_5; clear BK101; clear BK106; clear HB; have HO_5 := n0_; have BK101 := n1_; have BK106 := n2_; have HB := n3_; have BK108 := n4_; have GW108 := n5_; have GE108 := n6_; have NB101_108 := n7_; have NB108_101 := n8_; have NB106_108 := n9_; have NB108_106 := n10_; clear n0_ n1_ n2_ n3_ n4_ n5_ n6_ n7_ n8_ n9_ n10_; clear hb hbox hg; have hnb19 := NB108_101.out; have hnc19 := NB101_108.out; have hnb20 := NB108_106.out; have hnc20 := NB106_108.out; obtain ⟨hcz21_0, hcz21_1, hcz21_2, hcz21_3, hcz21_4, hcz21_5, hcz21_6, hfz21_0, hfz21_1, hfz21_2, hfz21_3, hfz21_4, hfz21_5, hfz21_6⟩ := cz7 BK108.out))
            go_roundg k2
            case measure => have := HK1.out; have := HK2.out; omega
            case rel => exact ⟨(x5_2), (wrap64 (x25_2 + 1)), rs9, H', ⟨by have := HK1.out; have := HK2.out; omega⟩, ⟨by (with_reducible repeat (first | apply Kd.R_alloc | apply Kd.R_drewN | apply Kd.R_drew)); exact Kd.R_mono (Kd.R_far (p := ⟨gb108, 6, none⟩) (Kd.R_far (p := ⟨gb108, 5, none⟩) (Kd.R_far (p := ⟨gb108, 4, none⟩) (Kd.R_far (p := ⟨gb108, 3, none⟩) (Kd.R_far (p := ⟨gb108, 2, none⟩) (Kd.R_far (p := ⟨gb108, 1, none⟩) (Kd.R_far (p := ⟨gb108, 0, none⟩) (Kd.R_types HO_5.out BK108.out (by decide)) (fun _ hk => hk.2) (.int .i64 ((rd_T26 l0_0 x25_2).f0))) (fun _ hk => hk.2) (.int .i64 ((rd_T26 l0_0 x25_2).f1))) (fun _ hk => hk.2) (.int .i64 ((rd_T26 l0_0 x25_2).f2))) (fun _ hk => hk.2) (.int .i64 ((rd_T26 l0_0 x25_2).f3))) (fun _ hk => hk.2) (.bool ((rd_T26 l0_0 x25_2).f4))) (fun _ hk => hk.2) (.bool ((rd_T26 l0_0 x25_2).f5))) (fun _ hk => hk.2) (.bool ((rd_T26 l0_0 x25_2).f6))) (fun _ hk => trivial)⟩, ⟨by (with_reducible repeat (first | refine blk_drewN ?_ _ | refine blk_drew ?_ | refine blk_alloc ?_ _)); refine blk_far ?_ NB101_108.out _; (with_reducible repeat (first | refine blk_drewN ?_ _ | refine blk_drew ?_ | refine blk_alloc ?_ _)); refine blk_far ?_ NB101_108.out _; (with_reducible repeat (first | refine blk_drewN ?_ _ | refine blk_drew ?_ | refine blk_alloc ?_ _)); refine blk_far ?_ NB101_108.out _; (with_reducible repeat (first | refine blk_drewN ?_ _ | refine blk_drew ?_ | refine blk_alloc ?_ _)); refine blk_far ?_ NB101_108.out _; (with_reducible repeat (first | refine blk_drewN ?_ _ | refine blk_drew ?_ | refine blk_alloc ?_ _)); refine blk_far ?_ NB101_108.out _; (with_reducible repeat (first | refine blk_drewN ?_ _ | refine blk_drew ?_ | refine blk_alloc ?_ _)); refine blk_far ?_ NB101_108.out _; (with_reducible repeat (first | refine blk_drewN ?_ _ | refine blk_drew ?_ | refine blk_alloc ?_ _)); refine blk_far ?_ NB101_108.out _; (with_reducible repeat (first | refine blk_drewN ?_ _ | refine blk_drew ?_ | refine blk_alloc ?_ _)); exact BK101.out⟩, ⟨by (with_reducible repeat (first | refine blk_drewN ?_ _ | refine blk_drew ?_ | refine blk_alloc ?_ _)); refine blk_far ?_ NB106_108.out _; (with_reducible repeat (first | refine blk_drewN ?_ _ | refine blk_drew ?_ | refine blk_alloc ?_ _)); refine blk_far ?_ NB106_108.out _; (with_reducible repeat (first | refine blk_drewN ?_ _ | refine blk_drew ?_ | refine blk_alloc ?_ _)); refine blk_far ?_ NB106_108.out _; (with_reducible repeat (first | refine blk_drewN ?_ _ | refine blk_drew ?_ | refine blk_alloc ?_ _)); refine blk_far ?_ NB106_108.out _; (with_reducible repeat (first | refine blk_drewN ?_ _ | refine blk_drew ?_ | refine blk_alloc ?_ _)); refine blk_far ?_ NB106_108.out _; (with_reducible repeat (first | refine blk_drewN ?_ _ | refine blk_drew ?_ | refine blk_alloc ?_ _)); refine blk_far ?_ NB106_108.out _; (with_reducible repeat (first | refine blk_drewN ?_ _ | refine blk_drew ?_ | refine blk_alloc ?_ _)); refine blk_far ?_ NB106_108.out _; (with_reducible repeat (first | refine blk_drewN ?_ _ | refine blk_drew ?_ | refine blk_alloc ?_ _)); exact BK106.out⟩, ⟨bp9 HB.out⟩⟩
           ·rw [if_neg c17] at H
            have c17b0 : (x17_1 == x25_2) = false := beq_eq_false_iff_ne.mpr c17
            have c17b1 : (x17_1 != x25_2) = true := bne_iff_ne.mpr c17
            replace H := Option.bind_eq_some_iff.mp H
            obtain ⟨t109, A220, H⟩ := H
            have A22 := a9_ A220
            clear A220
            by_cases c23 : t109 = true
            ·subst c23
             rw [if_pos rfl] at H
             replace H := Option.bind_eq_some_iff.mp H
             obtain ⟨t110, A240, H⟩ := H
             have A24 := a9_ A240
             clear A240
             have H' := a9_ H
             clear H
             have p107 : 0 ≤ (x25_2 : Int) := of_decide_eq_true (by first | (with_reducible assumption) | assumption)
             have q107 : x25_2 < (l0_0.length : Int) := of_decide_eq_true (by first | (with_reducible assumption) | assumption)
             obtain ⟨ad107, e107, hx107_0, hx107_1, hx107_2, hx107_3, hx107_4, hx107_5, hx107_6⟩ := at_T26 HR0_0.out x25_2 p107 q107
             obtain rfl : ad105 = ad107 := (by injection e107)
             replace hx107_0 := hb9 HB.out hx107_0
             replace hx107_1 := hb9 HB.out hx107_1
             replace hx107_2 := hb9 HB.out hx107_2
             replace hx107_3 := hb9 HB.out hx107_3
             replace hx107_4 := hb9 HB.out hx107_4
             replace hx107_5 := hb9 HB.out hx107_5
             replace hx107_6 := hb9 HB.out hx107_6
             replace p107 := eq_true p107
             replace q107 := eq_true q107
             go_wp2_with (first | ((with_reducible refine gate_dst (N := 9) rfl ?_); refine box9 (N := 9) (cs := #[.int .i64 0, .int .i64 0, .int .i64 0, .int .i64 0, .bool false, .bool false, .bool false]) (t := 26) ?_; intro gb108 hg w25 hbox hb; have n0_ := a9_ (Kd.R_below (rp9 HO_5.out) hb); have n1_ := a9_ (blk_below (kp9 BK101.out) hb); have n2_ := a9_ (blk_below (kp9 BK106.out) hb); have n3_ := a9_ (below_step (bp9 HB.out) hb); have n4_ := a9_ (hbox); have n5_ := a9_ ((by rw [hg]; exact (below_size (bp9 HB.out)) : w.heap.size ≤ gb108)); have n6_ := n5_; have n7_ := a9_ ((by rw [hg]; exact Nat.ne_of_lt (blk_lt (g := gb101) (o := .cells #[.slice (some ad105) l0_0.length c0_0, .slice A0_1 l0_1.length c0_1, .slice A0_2 l0_2.length c0_2, .slice A0_3 l0_3.length c0_3, .slice A0_4 l0_4.length c0_4, .slice A0_5 l0_5.length c0_5, .slice A0_6 l0_6.length c0_6] 31 (0, 0)) (kp9 BK101.out)) : gb101 ≠ gb108)); have n8_ := a9_ ((by rw [hg]; exact Nat.ne_of_gt (blk_lt (g := gb101) (o := .cells #[.slice (some ad105) l0_0.length c0_0, .slice A0_1 l0_1.length c0_1, .slice A0_2 l0_2.length c0_2, .slice A0_3 l0_3.length c0_3, .slice A0_4 l0_4.length c0_4, .slice A0_5 l0_5.length c0_5, .slice A0_6 l0_6.length c0_6] 31 (0, 0)) (kp9 BK101.out)) : gb108 ≠ gb101)); have n9_ := a9_ ((by rw [hg]; exact Nat.ne_of_lt (blk_lt (g := gb106) (o := .cells #[.int .i64 ((rd_T26 l0_0 x17_1).f0), .int .i64 ((rd_T26 l0_0 x17_1).f1), .int .i64 ((rd_T26 l0_0 x17_1).f2), .int .i64 ((rd_T26 l0_0 x17_1).f3), .bool ((rd_T26 l0_0 x17_1).f4), .bool ((rd_T26 l0_0 x17_1).f5), .bool ((rd_T26 l0_0 x17_1).f6)] 26 (0, 0)) (kp9 BK106.out)) : gb106 ≠ gb108)); have n10_ := a9_ ((by rw [hg]; exact Nat.ne_of_gt (blk_lt (g := gb106) (o := .cells #[.int .i64 ((rd_T26 l0_0 x17_1).f0), .int .i64 ((rd_T26 l0_0 x17_1).f1), .int .i64 ((rd_T26 l0_0 x17_1).f2), .int .i64 ((rd_T26 l0_0 x17_1).f3), .bool ((rd_T26 l0_0 x17_1).f4), .bool ((rd_T26 l0_0 x17_1).f5), .bool ((rd_T26 l0_0 x17_1).f6)] 26 (0, 0)) (kp9 BK106.out)) : gb108 ≠ gb106)); clear HO_5; clear BK101; clear BK106; clear HB; have HO_5 := n0_; have BK101 := n1_; have BK106 := n2_; have HB := n3_; have BK108 := n4_; have GW108 := n5_; have GE108 := n6_; have NB101_108 := n7_; have NB108_101 := n8_; have NB106_108 := n9_; have NB108_106 := n10_; clear n0_ n1_ n2_ n3_ n4_ n5_ n6_ n7_ n8_ n9_ n10_; clear hb hbox hg; have hnb26 := NB108_101.out; have hnc26 := NB101_108.out; have hnb27 := NB108_106.out; have hnc27 := NB106_108.out; obtain ⟨hcz28_0, hcz28_1, hcz28_2, hcz28_3, hcz28_4, hcz28_5, hcz28_6, hfz28_0, hfz28_1, hfz28_2, hfz28_3, hfz28_4, hfz28_5, hfz28_6⟩ := cz7 BK108.out; have hnb29 := NB106_101.out; have hnc29 := NB101_106.out; obtain ⟨hcz30_0, hcz30_1, hcz30_2, hcz30_3, hcz30_4, hcz30_5, hcz30_6, hfz30_0, hfz30_1, hfz30_2, hfz30_3, hfz30_4, hfz30_5, hfz30_6⟩ := cz7 BK106.out) | (go_at_call 158; (with_reducible refine (exec_Inner_1.calls ((rd_T26 l0_0 x17_1).f0) ((rd_T26 l0_0 x17_1).f1) ((rd_T26 l0_0 x17_1).f2) ((rd_T26 l0_0 x17_1).f3) ((rd_T26 l0_0 x17_1).f4) ((rd_T26 l0_0 x17_1).f5) ((rd_T26 l0_0 x17_1).f6) ((rd_T26 l0_0 x25_2).f0) ((rd_T26 l0_0 x25_2).f1) ((rd_T26 l0_0 x25_2).f2) ((rd_T26 l0_0 x25_2).f3) ((rd_T26 l0_0 x25_2).f4) ((rd_T26 l0_0 x25_2).f5) ((rd_T26 l0_0 x25_2).f6) true _ A22.out).mono ?_); rintro e w31 ⟨rfl, hb⟩; have n0_ := a9_ (Kd.R_below (by (with_reducible repeat (first | apply Kd.R_alloc | apply Kd.R_drewN | apply Kd.R_drew)); exact (Kd.R_mono (Kd.R_far (p := ⟨gb108, 6, none⟩) (Kd.R_far (p := ⟨gb108, 5, none⟩) (Kd.R_far (p := ⟨gb108, 4, none⟩) (Kd.R_far (p := ⟨gb108, 3, none⟩) (Kd.R_far (p := ⟨gb108, 2, none⟩) (Kd.R_far (p := ⟨gb108, 1, none⟩) (Kd.R_far (p := ⟨gb108, 0, none⟩) (Kd.R_types HO_5.out BK108.out (by decide)) (fun _ hk => hk.2) (.int .i64 ((rd_T26 l0_0 x25_2).f0))) (fun _ hk => hk.2) (.int .i64 ((rd_T26 l0_0 x25_2).f1))) (fun _ hk => hk.2) (.int .i64 ((rd_T26 l0_0 x25_2).f2))) (fun _ hk => hk.2) (.int .i64 ((rd_T26 l0_0 x25_2).f3))) (fun _ hk => hk.2) (.bool ((rd_T26 l0_0 x25_2).f4))) (fun _ hk => hk.2) (.bool ((rd_T26 l0_0 x25_2).f5))) (fun _ hk => hk.2) (.bool ((rd_T26 l0_0 x25_2).f6))) (fun _ h_ => h_.1))) hb); have n1_ := a9_ (blk_below (g := gb101) (o := .cells #[.slice (some ad105) l0_0.length c0_0, .slice A0_1 l0_1.length c0_1, .slice A0_2 l0_2.length c0_2, .slice A0_3 l0_3.length c0_3, .slice A0_4 l0_4.length c0_4, .slice A0_5 l0_5.length c0_5, .slice A0_6 l0_6.length c0_6] 31 (0, 0)) (by (with_reducible repeat (first | refine blk_drewN ?_ _ | refine blk_drew ?_ | refine blk_alloc ?_ _)); refine blk_far ?_ NB101_108.out _; (with_reducible repeat (first | refine blk_drewN ?_ _ | refine blk_drew ?_ | refine blk_alloc ?_ _)); refine blk_far ?_ NB101_108.out _; (with_reducible repeat (first | refine blk_drewN ?_ _ | refine blk_drew ?_ | refine blk_alloc ?_ _)); refine blk_far ?_ NB101_108.out _; (with_reducible repeat (first | refine blk_drewN ?_ _ | refine blk_drew ?_ | refine blk_alloc ?_ _)); refine blk_far ?_ NB101_108.out _; (with_reducible repeat (first | refine blk_drewN ?_ _ | refine blk_drew ?_ | refine blk_alloc ?_ _)); refine blk_far ?_ NB101_108.out _; (with_reducible repeat (first | refine blk_drewN ?_ _ | refine blk_drew ?_ | refine blk_alloc ?_ _)); refine blk_far ?_ NB101_108.out _; (with_reducible repeat (first | refine blk_drewN ?_ _ | refine blk_drew ?_ | refine blk_alloc ?_ _)); refine blk_far ?_ NB101_108.out _; (with_reducible repeat (first | refine blk_drewN ?_ _ | refine blk_drew ?_ | refine blk_alloc ?_ _)); exact BK101.out) hb); have n2_ := a9_ (blk_below (g := gb106) (o := .cells #[.int .i64 ((rd_T26 l0_0 x17_1).f0), .int .i64 ((rd_T26 l0_0 x17_1).f1), .int .i64 ((rd_T26 l0_0 x17_1).f2), .int .i64 ((rd_T26 l0_0 x17_1).f3), .bool ((rd_T26 l0_0 x17_1).f4), .bool ((rd_T26 l0_0 x17_1).f5), .bool ((rd_T26 l0_0 x17_1).f6)] 26 (0, 0)) (by (with_reducible repeat (first | refine blk_drewN ?_ _ | refine blk_drew ?_ | refine blk_alloc ?_ _)); refine blk_far ?_ NB106_108.out _; (with_reducible repeat (first | refine blk_drewN ?_ _ | refine blk_drew ?_ | refine blk_alloc ?_ _)); refine blk_far ?_ NB106_108.out _; (with_reducible repeat (first | refine blk_drewN ?_ _ | refine blk_drew ?_ | refine blk_alloc ?_ _)); refine blk_far ?_ NB106_108.out _; (with_reducible repeat (first | refine blk_drewN ?_ _ | refine blk_drew ?_ | refine blk_alloc ?_ _)); refine blk_far ?_ NB106_108.out _; (with_reducible repeat (first | refine blk_drewN ?_ _ | refine blk_drew ?_ | refine blk_alloc ?_ _)); refine blk_far ?_ NB106_108.out _; (with_reducible repeat (first | refine blk_drewN ?_ _ | refine blk_drew ?_ | refine blk_alloc ?_ _)); refine blk_far ?_ NB106_108.out _; (with_reducible repeat (first | refine blk_drewN ?_ _ | refine blk_drew ?_ | refine blk_alloc ?_ _)); refine blk_far ?_ NB106_108.out _; (with_reducible repeat (first | refine blk_drewN ?_ _ | refine blk_drew ?_ | refine blk_alloc ?_ _)); exact BK106.out) hb); have n3_ := a9_ (blk_below (g := gb108) (o := .cells #[.int .i64 ((rd_T26 l0_0 x25_2).f0), .int .i64 ((rd_T26 l0_0 x25_2).f1), .int .i64 ((rd_T26 l0_0 x25_2).f2), .int .i64 ((rd_T26 l0_0 x25_2).f3), .bool ((rd_T26 l0_0 x25_2).f4), .bool ((rd_T26 l0_0 x25_2).f5), .bool ((rd_T26 l0_0 x25_2).f6)] 26 (0, 0)) (by (with_reducible repeat (first | refine blk_drewN ?_ _ | refine blk_drew ?_ | refine blk_alloc ?_ _)); refine blk_put (cs := #[.int .i64 ((rd_T26 l0_0 x25_2).f0), .int .i64 ((rd_T26 l0_0 x25_2).f1), .int .i64 ((rd_T26 l0_0 x25_2).f2), .int .i64 ((rd_T26 l0_0 x25_2).f3), .bool ((rd_T26 l0_0 x25_2).f4), .bool ((rd_T26 l0_0 x25_2).f5), .bool false]) ?_ 6 _ rfl; (with_reducible repeat (first | refine blk_drewN ?_ _ | refine blk_drew ?_ | refine blk_alloc ?_ _)); refine blk_put (cs := #[.int .i64 ((rd_T26 l0_0 x25_2).f0), .int .i64 ((rd_T26 l0_0 x25_2).f1), .int .i64 ((rd_T26 l0_0 x25_2).f2), .int .i64 ((rd_T26 l0_0 x25_2).f3), .bool ((rd_T26 l0_0 x25_2).f4), .bool false, .bool false]) ?_ 5 _ rfl; (with_reducible repeat (first | refine blk_drewN ?_ _ | refine blk_drew ?_ | refine blk_alloc ?_ _)); refine blk_put (cs := #[.int .i64 ((rd_T26 l0_0 x25_2).f0), .int .i64 ((rd_T26 l0_0 x25_2).f1), .int .i64 ((rd_T26 l0_0 x25_2).f2), .int .i64 ((rd_T26 l0_0 x25_2).f3), .bool false, .bool false, .bool false]) ?_ 4 _ rfl; (with_reducible repeat (first | refine blk_drewN ?_ _ | refine blk_drew ?_ | refine blk_alloc ?_ _)); refine blk_put (cs := #[.int .i64 ((rd_T26 l0_0 x25_2).f0), .int .i64 ((rd_T26 l0_0 x25_2).f1), .int .i64 ((rd_T26 l0_0 x25_2).f2), .int .i64 0, .bool false, .bool false, .bool false]) ?_ 3 _ rfl; (with_reducible repeat (first | refine blk_drewN ?_ _ | refine blk_drew ?_ | refine blk_alloc ?_ _)); refine blk_put (cs := #[.int .i64 ((rd_T26 l0_0 x25_2).f0), .int .i64 ((rd_T26 l0_0 x25_2).f1), .int .i64 0, .int .i64 0, .bool false, .bool false, .bool false]) ?_ 2 _ rfl; (with_reducible repeat (first | refine blk_drewN ?_ _ | refine blk_drew ?_ | refine blk_alloc ?_ _)); refine blk_put (cs := #[.int .i64 ((rd_T26 l0_0 x25_2).f0), .int .i64 0, .int .i64 0, .int .i64 0, .bool false, .bool false, .bool false]) ?_ 1 _ rfl; (with_reducible repeat (first | refine blk_drewN ?_ _ | refine blk_drew ?_ | refine blk_alloc ?_ _)); refine blk_put (cs := #[.int .i64 0, .int .i64 0, .int .i64 0, .int .i64 0, .bool false, .bool false, .bool false]) ?_ 0 _ rfl; (with_reducible repeat (first | refine blk_drewN ?_ _ | refine blk_drew ?_ | refine blk_alloc ?_ _)); exact BK108.out) hb); have n4_ := a9_ (below_step (bp9 HB.out) hb); clear HO_5; clear BK101; clear BK106; clear BK108; clear HB; have HO_5 := n0_; have BK101 := n1_; have BK106 := n2_; have BK108 := n3_; have HB := n4_; clear n0_ n1_ n2_ n3_ n4_; (try clear hb); obtain ⟨Ao32, co32, eo32⟩ := Kd.R_slice HO_5.out; subst eo32) | ((with_reducible refine gate_callee (f := 40) rfl ?_); refine goesL9 (some 42) rfl rfl Try.func40 (by kernel_rfl) rfl #[.slice Ao32 x5_2.length co32, .int .i64 x17_1, .int .i64 x25_2] rfl ?_; (with_reducible refine (rel_Put.calls k2 _ _ x5_2 x17_1 x25_2 t110 _ ?side1 ?side2 A24.out).mono ?_); (case side1 => exact lp9 (Kd.R_reads' HO_5.out).2.2); (case side2 => exact (Kd.R_reads' HO_5.out).2.1); rintro e w33 ⟨v111, rfl, ho0, hb⟩; refine ⟨_, rfl, ?_⟩; have n0_ := a9_ (Kd.R_elder' (rp9 HO_5.out) (Kd.R_base ho0) hb); have n1_ := a9_ (Kd.R_lower (Kd.R_new' ho0 (Kd.R_lt (rp9 HO_5.out))) (below_size (bp9 HB.out))); have n2_ := a9_ (blk_below (kp9 BK101.out) hb); have n3_ := a9_ (blk_below (kp9 BK106.out) hb); have n4_ := a9_ (blk_below (kp9 BK108.out) hb); have n5_ := a9_ (below_step (bp9 HB.out) hb); clear HO_5; clear BK101; clear BK106; clear BK108; clear HB; have HO_5 := n0_; have HO112 := n1_; have BK101 := n2_; have BK106 := n3_; have BK108 := n4_; have HB := n5_; clear n0_ n1_ n2_ n3_ n4_ n5_; (try clear hb); (try clear ho0)))
             go_roundg k2
             case measure => have := HK1.out; have := HK2.out; omega
             case rel => exact ⟨(t110), (wrap64 (x25_2 + 1)), rs9, H', ⟨by have := HK1.out; have := HK2.out; omega⟩, ⟨by (with_reducible repeat (first | apply Kd.R_alloc | apply Kd.R_drewN | apply Kd.R_drew)); exact Kd.R_mono HO112.out (fun _ hk => trivial)⟩, ⟨kp9 BK101.out⟩, ⟨kp9 BK106.out⟩, ⟨bp9 HB.out⟩⟩
            ·replace c23 := Bool.eq_false_iff.mpr c23
             subst c23
             rw [if_neg (show ¬ (false = true) by decide)] at H
             have H' := a9_ H
             clear H
             have p107 : 0 ≤ (x25_2 : Int) := of_decide_eq_true (by first | (with_reducible assumption) | assumption)
             have q107 : x25_2 < (l0_0.length : Int) := of_decide_eq_true (by first | (with_reducible assumption) | assumption)
             obtain ⟨ad107, e107, hx107_0, hx107_1, hx107_2, hx107_3, hx107_4, hx107_5, hx107_6⟩ := at_T26 HR0_0.out x25_2 p107 q107
             obtain rfl : ad105 = ad107 := (by injection e107)
             replace hx107_0 := hb9 HB.out hx107_0
             replace hx107_1 := hb9 HB.out hx107_1
             replace hx107_2 := hb9 HB.out hx107_2
             replace hx107_3 := hb9 HB.out hx107_3
             replace hx107_4 := hb9 HB.out hx107_4
             replace hx107_5 := hb9 HB.out hx107_5
             replace hx107_6 := hb9 HB.out hx107_6
             replace p107 := eq_true p107
             replace q107 := eq_true q107
             go_wp2_with (first | ((with_reducible refine gate_dst (N := 9) rfl ?_); refine box9 (N := 9) (cs := #[.int .i64 0, .int .i64 0, .int .i64 0, .int .i64 0, .bool false, .bool false, .bool false]) (t := 26) ?_; intro gb108 hg w34 hbox hb; have n0_ := a9_ (Kd.R_below (rp9 HO_5.out) hb); have n1_ := a9_ (blk_below (kp9 BK101.out) hb); have n2_ := a9_ (blk_below (kp9 BK106.out) hb); have n3_ := a9_ (below_step (bp9 HB.out) hb); have n4_ := a9_ (hbox); have n5_ := a9_ ((by rw [hg]; exact (below_size (bp9 HB.out)) : w.heap.size ≤ gb108)); have n6_ := n5_; have n7_ := a9_ ((by rw [hg]; exact Nat.ne_of_lt (blk_lt (g := gb101) (o := .cells #[.slice (some ad105) l0_0.length c0_0, .slice A0_1 l0_1.length c0_1, .slice A0_2 l0_2.length c0_2, .slice A0_3 l0_3.length c0_3, .slice A0_4 l0_4.length c0_4, .slice A0_5 l0_5.length c0_5, .slice A0_6 l0_6.length c0_6] 31 (0, 0)) (kp9 BK101.out)) : gb101 ≠ gb108)); have n8_ := a9_ ((by rw [hg]; exact Nat.ne_of_gt (blk_lt (g := gb101) (o := .cells #[.slice (some ad105) l0_0.length c0_0, .slice A0_1 l0_1.length c0_1, .slice A0_2 l0_2.length c0_2, .slice A0_3 l0_3.length c0_3, .slice A0_4 l0_4.length c0_4, .slice A0_5 l0_5.length c0_5, .slice A0_6 l0_6.length c0_6] 31 (0, 0)) (kp9 BK101.out)) : gb108 ≠ gb101)); have n9_ := a9_ ((by rw [hg]; exact Nat.ne_of_lt (blk_lt (g := gb106) (o := .cells #[.int .i64 ((rd_T26 l0_0 x17_1).f0), .int .i64 ((rd_T26 l0_0 x17_1).f1), .int .i64 ((rd_T26 l0_0 x17_1).f2), .int .i64 ((rd_T26 l0_0 x17_1).f3), .bool ((rd_T26 l0_0 x17_1).f4), .bool ((rd_T26 l0_0 x17_1).f5), .bool ((rd_T26 l0_0 x17_1).f6)] 26 (0, 0)) (kp9 BK106.out)) : gb106 ≠ gb108)); have n10_ := a9_ ((by rw [hg]; exact Nat.ne_of_gt (blk_lt (g := gb106) (o := .cells #[.int .i64 ((rd_T26 l0_0 x17_1).f0), .int .i64 ((rd_T26 l0_0 x17_1).f1), .int .i64 ((rd_T26 l0_0 x17_1).f2), .int .i64 ((rd_T26 l0_0 x17_1).f3), .bool ((rd_T26 l0_0 x17_1).f4), .bool ((rd_T26 l0_0 x17_1).f5), .bool ((rd_T26 l0_0 x17_1).f6)] 26 (0, 0)) (kp9 BK106.out)) : gb108 ≠ gb106)); clear HO_5; clear BK101; clear BK106; clear HB; have HO_5 := n0_; have BK101 := n1_; have BK106 := n2_; have HB := n3_; have BK108 := n4_; have GW108 := n5_; have GE108 := n6_; have NB101_108 := n7_; have NB108_101 := n8_; have NB106_108 := n9_; have NB108_106 := n10_; clear n0_ n1_ n2_ n3_ n4_ n5_ n6_ n7_ n8_ n9_ n10_; clear hb hbox hg; have hnb35 := NB108_101.out; have hnc35 := NB101_108.out; have hnb36 := NB108_106.out; have hnc36 := NB106_108.out; obtain ⟨hcz37_0, hcz37_1, hcz37_2, hcz37_3, hcz37_4, hcz37_5, hcz37_6, hfz37_0, hfz37_1, hfz37_2, hfz37_3, hfz37_4, hfz37_5, hfz37_6⟩ := cz7 BK108.out; have hnb38 := NB106_101.out; have hnc38 := NB101_106.out; obtain ⟨hcz39_0, hcz39_1, hcz39_2, hcz39_3, hcz39_4, hcz39_5, hcz39_6, hfz39_0, hfz39_1, hfz39_2, hfz39_3, hfz39_4, hfz39_5, hfz39_6⟩ := cz7 BK106.out) | (go_at_call 158; (with_reducible refine (exec_Inner_1.calls ((rd_T26 l0_0 x17_1).f0) ((rd_T26 l0_0 x17_1).f1) ((rd_T26 l0_0 x17_1).f2) ((rd_T26 l0_0 x17_1).f3) ((rd_T26 l0_0 x17_1).f4) ((rd_T26 l0_0 x17_1).f5) ((rd_T26 l0_0 x17_1).f6) ((rd_T26 l0_0 x25_2).f0) ((rd_T26 l0_0 x25_2).f1) ((rd_T26 l0_0 x25_2).f2) ((rd_T26 l0_0 x25_2).f3) ((rd_T26 l0_0 x25_2).f4) ((rd_T26 l0_0 x25_2).f5) ((rd_T26 l0_0 x25_2).f6) false _ A22.out).mono ?_); rintro e w40 ⟨rfl, hb⟩; have n0_ := a9_ (Kd.R_below (by (with_reducible repeat (first | apply Kd.R_alloc | apply Kd.R_drewN | apply Kd.R_drew)); exact (Kd.R_mono (Kd.R_far (p := ⟨gb108, 6, none⟩) (Kd.R_far (p := ⟨gb108, 5, none⟩) (Kd.R_far (p := ⟨gb108, 4, none⟩) (Kd.R_far (p := ⟨gb108, 3, none⟩) (Kd.R_far (p := ⟨gb108, 2, none⟩) (Kd.R_far (p := ⟨gb108, 1, none⟩) (Kd.R_far (p := ⟨gb108, 0, none⟩) (Kd.R_types HO_5.out BK108.out (by decide)) (fun _ hk => hk.2) (.int .i64 ((rd_T26 l0_0 x25_2).f0))) (fun _ hk => hk.2) (.int .i64 ((rd_T26 l0_0 x25_2).f1))) (fun _ hk => hk.2) (.int .i64 ((rd_T26 l0_0 x25_2).f2))) (fun _ hk => hk.2) (.int .i64 ((rd_T26 l0_0 x25_2).f3))) (fun _ hk => hk.2) (.bool ((rd_T26 l0_0 x25_2).f4))) (fun _ hk => hk.2) (.bool ((rd_T26 l0_0 x25_2).f5))) (fun _ hk => hk.2) (.bool ((rd_T26 l0_0 x25_2).f6))) (fun _ h_ => h_.1))) hb); have n1_ := a9_ (blk_below (g := gb101) (o := .cells #[.slice (some ad105) l0_0.length c0_0, .slice A0_1 l0_1.length c0_1, .slice A0_2 l0_2.length c0_2, .slice A0_3 l0_3.length c0_3, .slice A0_4 l0_4.length c0_4, .slice A0_5 l0_5.length c0_5, .slice A0_6 l0_6.length c0_6] 31 (0, 0)) (by (with_reducible repeat (first | refine blk_drewN ?_ _ | refine blk_drew ?_ | refine blk_alloc ?_ _)); refine blk_far ?_ NB101_108.out _; (with_reducible repeat (first | refine blk_drewN ?_ _ | refine blk_drew ?_ | refine blk_alloc ?_ _)); refine blk_far ?_ NB101_108.out _; (with_reducible repeat (first | refine blk_drewN ?_ _ | refine blk_drew ?_ | refine blk_alloc ?_ _)); refine blk_far ?_ NB101_108.out _; (with_reducible repeat (first | refine blk_drewN ?_ _ | refine blk_drew ?_ | refine blk_alloc ?_ _)); refine blk_far ?_ NB101_108.out _; (with_reducible repeat (first | refine blk_drewN ?_ _ | refine blk_drew ?_ | refine blk_alloc ?_ _)); refine blk_far ?_ NB101_108.out _; (with_reducible repeat (first | refine blk_drewN ?_ _ | refine blk_drew ?_ | refine blk_alloc ?_ _)); refine blk_far ?_ NB101_108.out _; (with_reducible repeat (first | refine blk_drewN ?_ _ | refine blk_drew ?_ | refine blk_alloc ?_ _)); refine blk_far ?_ NB101_108.out _; (with_reducible repeat (first | refine blk_drewN ?_ _ | refine blk_drew ?_ | refine blk_alloc ?_ _)); exact BK101.out) hb); have n2_ := a9_ (blk_below (g := gb106) (o := .cells #[.int .i64 ((rd_T26 l0_0 x17_1).f0), .int .i64 ((rd_T26 l0_0 x17_1).f1), .int .i64 ((rd_T26 l0_0 x17_1).f2), .int .i64 ((rd_T26 l0_0 x17_1).f3), .bool ((rd_T26 l0_0 x17_1).f4), .bool ((rd_T26 l0_0 x17_1).f5), .bool ((rd_T26 l0_0 x17_1).f6)] 26 (0, 0)) (by (with_reducible repeat (first | refine blk_drewN ?_ _ | refine blk_drew ?_ | refine blk_alloc ?_ _)); refine blk_far ?_ NB106_108.out _; (with_reducible repeat (first | refine blk_drewN ?_ _ | refine blk_drew ?_ | refine blk_alloc ?_ _)); refine blk_far ?_ NB106_108.out _; (with_reducible repeat (first | refine blk_drewN ?_ _ | refine blk_drew ?_ | refine blk_alloc ?_ _)); refine blk_far ?_ NB106_108.out _; (with_reducible repeat (first | refine blk_drewN ?_ _ | refine blk_drew ?_ | refine blk_alloc ?_ _)); refine blk_far ?_ NB106_108.out _; (with_reducible repeat (first | refine blk_drewN ?_ _ | refine blk_drew ?_ | refine blk_alloc ?_ _)); refine blk_far ?_ NB106_108.out _; (with_reducible repeat (first | refine blk_drewN ?_ _ | refine blk_drew ?_ | refine blk_alloc ?_ _)); refine blk_far ?_ NB106_108.out _; (with_reducible repeat (first | refine blk_drewN ?_ _ | refine blk_drew ?_ | refine blk_alloc ?_ _)); refine blk_far ?_ NB106_108.out _; (with_reducible repeat (first | refine blk_drewN ?_ _ | refine blk_drew ?_ | refine blk_alloc ?_ _)); exact BK106.out) hb); have n3_ := a9_ (blk_below (g := gb108) (o := .cells #[.int .i64 ((rd_T26 l0_0 x25_2).f0), .int .i64 ((rd_T26 l0_0 x25_2).f1), .int .i64 ((rd_T26 l0_0 x25_2).f2), .int .i64 ((rd_T26 l0_0 x25_2).f3), .bool ((rd_T26 l0_0 x25_2).f4), .bool ((rd_T26 l0_0 x25_2).f5), .bool ((rd_T26 l0_0 x25_2).f6)] 26 (0, 0)) (by (with_reducible repeat (first | refine blk_drewN ?_ _ | refine blk_drew ?_ | refine blk_alloc ?_ _)); refine blk_put (cs := #[.int .i64 ((rd_T26 l0_0 x25_2).f0), .int .i64 ((rd_T26 l0_0 x25_2).f1), .int .i64 ((rd_T26 l0_0 x25_2).f2), .int .i64 ((rd_T26 l0_0 x25_2).f3), .bool ((rd_T26 l0_0 x25_2).f4), .bool ((rd_T26 l0_0 x25_2).f5), .bool false]) ?_ 6 _ rfl; (with_reducible repeat (first | refine blk_drewN ?_ _ | refine blk_drew ?_ | refine blk_alloc ?_ _)); refine blk_put (cs := #[.int .i64 ((rd_T26 l0_0 x25_2).f0), .int .i64 ((rd_T26 l0_0 x25_2).f1), .int .i64 ((rd_T26 l0_0 x25_2).f2), .int .i64 ((rd_T26 l0_0 x25_2).f3), .bool ((rd_T26 l0_0 x25_2).f4), .bool false, .bool false]) ?_ 5 _ rfl; (with_reducible repeat (first | refine blk_drewN ?_ _ | refine blk_drew ?_ | refine blk_alloc ?_ _)); refine blk_put (cs := #[.int .i64 ((rd_T26 l0_0 x25_2).f0), .int .i64 ((rd_T26 l0_0 x25_2).f1), .int .i64 ((rd_T26 l0_0 x25_2).f2), .int .i64 ((rd_T26 l0_0 x25_2).f3), .bool false, .bool false, .bool false]) ?_ 4 _ rfl; (with_reducible repeat (first | refine blk_drewN ?_ _ | refine blk_drew ?_ | refine blk_alloc ?_ _)); refine blk_put (cs := #[.int .i64 ((rd_T26 l0_0 x25_2).f0), .int .i64 ((rd_T26 l0_0 x25_2).f1), .int .i64 ((rd_T26 l0_0 x25_2).f2), .int .i64 0, .bool false, .bool false, .bool false]) ?_ 3 _ rfl; (with_reducible repeat (first | refine blk_drewN ?_ _ | refine blk_drew ?_ | refine blk_alloc ?_ _)); refine blk_put (cs := #[.int .i64 ((rd_T26 l0_0 x25_2).f0), .int .i64 ((rd_T26 l0_0 x25_2).f1), .int .i64 0, .int .i64 0, .bool false, .bool false, .bool false]) ?_ 2 _ rfl; (with_reducible repeat (first | refine blk_drewN ?_ _ | refine blk_drew ?_ | refine blk_alloc ?_ _)); refine blk_put (cs := #[.int .i64 ((rd_T26 l0_0 x25_2).f0), .int .i64 0, .int .i64 0, .int .i64 0, .bool false, .bool false, .bool false]) ?_ 1 _ rfl; (with_reducible repeat (first | refine blk_drewN ?_ _ | refine blk_drew ?_ | refine blk_alloc ?_ _)); refine blk_put (cs := #[.int .i64 0, .int .i64 0, .int .i64 0, .int .i64 0, .bool false, .bool false, .bool false]) ?_ 0 _ rfl; (with_reducible repeat (first | refine blk_drewN ?_ _ | refine blk_drew ?_ | refine blk_alloc ?_ _)); exact BK108.out) hb); have n4_ := a9_ (below_step (bp9 HB.out) hb); clear HO_5; clear BK101; clear BK106; clear BK108; clear HB; have HO_5 := n0_; have BK101 := n1_; have BK106 := n2_; have BK108 := n3_; have HB := n4_; clear n0_ n1_ n2_ n3_ n4_; (try clear hb); (try clear hi)))
             go_roundg k2
             case measure => have := HK1.out; have := HK2.out; omega
             case rel => exact ⟨(x5_2), (wrap64 (x25_2 + 1)), rs9, H', ⟨by have := HK1.out; have := HK2.out; omega⟩, ⟨rp9 HO_5.out⟩, ⟨kp9 BK101.out⟩, ⟨kp9 BK106.out⟩, ⟨bp9 HB.out⟩⟩
          ·rw [if_neg c16] at H
           exact absurd H (by simp)
         ·rw [if_neg c15] at H
          exact absurd H (by simp)
        ·rw [if_neg c14] at H
         have c14b0 : decide (x25_2 < (l0_0.length : Int)) = false := decide_eq_false c14
         clear c14
         have H' := a9_ H
         clear H
         go_wp2
         go_roundg k2
         case measure => have := HK1.out; have := HK2.out; omega
         case rel => exact ⟨(x5_2), (wrap64 (x17_1 + 1)), rs9, H', ⟨by have := HK1.out; have := HK2.out; omega⟩, ⟨rp9 HO_5.out⟩, ⟨kp9 BK101.out⟩, ⟨bp9 HB.out⟩⟩
     ·rw [if_neg c9] at H
      exact absurd H (by simp)
    ·rw [if_neg c8] at H
     exact absurd H (by simp)
   ·rw [if_neg c7] at H
    have c7b0 : decide (x17_1 < (l0_0.length : Int)) = false := decide_eq_false c7
    clear c7
    obtain rfl := Option.some.inj H
    go_wp2
    go_ret
    exact ⟨_, rt9, by (with_reducible repeat (first | apply Kd.R_alloc | apply Kd.R_drewN | apply Kd.R_drew)); exact HO_5.out, bp9 HB.out⟩
end Go.Proofs.Ytbamkkdikeedoaa.G
