-- Written by drive.py, a program of this seat's session, out of the translation.
import Derived.Test.YtbamkkdikeedoaaG0
import Derived.Test.YtbamkkdikeedoaaGCupolaref05
import Derived.Test.YtbamkkdikeedoaaGCupolaref14
import Derived.Test.YtbamkkdikeedoaaGCupolaref15
import Derived.Test.YtbamkkdikeedoaaHandCz
namespace Go.Proofs.Ytbamkkdikeedoaa.G
open Go.RowKit Go.Proofs.YtbamkkdikeedoaaW.PrintWords Go.Proofs.YtbamkkdikeedoaaW.PrintLast Go.Proofs.YtbamkkdikeedoaaW.PrintMore
set_option linter.unusedVariables false
set_option linter.unusedSimpArgs false
mutual
def cupolaref15_Aob.l0 : Nat → List (S46) → List (S46) → List (S46) → Int → List (S26) → List Int → List Int → List Int → List Int → List Int → List (List Int) → Option (List Int)
 | 0, _, _, _, _, _, _, _, _, _, _, _ => none
 | k + 1, x6, x7, x8, x9, x102000, x102001, x102002, x102003, x102004, x102005, x102006 => if x9 < (x7.length : Int) then (cupolaref15_Aob.l1 k x6 x7 x8 x9 0 x102000 x102001 x102002 x102003 x102004 x102005 x102006) else ((cupolaref05_Made.f k (x102000.length : Int) x6).bind fun t114 => ((cupolaref14_Memory.f k x102000 x102001 x102002 x102003 x102004 x102005 x102006 t114).bind fun t117 => (some t117)))
def cupolaref15_Aob.l1 : Nat → List (S46) → List (S46) → List (S46) → Int → Int → List (S26) → List Int → List Int → List Int → List Int → List Int → List (List Int) → Option (List Int)
 | 0, _, _, _, _, _, _, _, _, _, _, _, _ => none
 | k + 1, x6, x7, x8, x9, x10, x102000, x102001, x102002, x102003, x102004, x102005, x102006 => if x10 < (x8.length : Int) then (if 0 ≤ x10 then (if 0 ≤ x9 then (if x9 < (x7.length : Int) then (if ((rd_T46 x8 x10).f1) = ((rd_T46 x7 x9).f0) then (if 0 ≤ ((rd_T46 x7 x9).f1) then (if ((rd_T46 x7 x9).f1) < (x102000.length : Int) then ((cupolaref15_acquires.f ((rd_T26 x102000 ((rd_T46 x7 x9).f1)).f0) ((rd_T26 x102000 ((rd_T46 x7 x9).f1)).f1) ((rd_T26 x102000 ((rd_T46 x7 x9).f1)).f2) ((rd_T26 x102000 ((rd_T46 x7 x9).f1)).f3) ((rd_T26 x102000 ((rd_T46 x7 x9).f1)).f4) ((rd_T26 x102000 ((rd_T46 x7 x9).f1)).f5) ((rd_T26 x102000 ((rd_T46 x7 x9).f1)).f6)).bind fun t124 => (if t124 = true then (if x6.length < 8796093022208 then (cupolaref15_Aob.l1 k (x6 ++ [(⟨(rd_T46 x7 x9).f0, (rd_T46 x7 x9).f1⟩ : S46)]) x7 x8 x9 (wrap64 (x10 + 1)) x102000 x102001 x102002 x102003 x102004 x102005 x102006) else (none)) else (cupolaref15_Aob.l1 k x6 x7 x8 x9 (wrap64 (x10 + 1)) x102000 x102001 x102002 x102003 x102004 x102005 x102006))) else (none)) else (none)) else (cupolaref15_Aob.l1 k x6 x7 x8 x9 (wrap64 (x10 + 1)) x102000 x102001 x102002 x102003 x102004 x102005 x102006)) else (none)) else (none)) else (none)) else (cupolaref15_Aob.l0 k x6 x7 x8 (wrap64 (x9 + 1)) x102000 x102001 x102002 x102003 x102004 x102005 x102006)
end
def cupolaref15_Aob.f (k : Nat) (l0_0 : List (S26)) (l0_1 : List Int) (l0_2 : List Int) (l0_3 : List Int) (l0_4 : List Int) (l0_5 : List Int) (l0_6 : List (List Int)) (l1 : List Int) : Option (List Int) := (cupolaref14_Rfi.f k l0_0 l0_1 l0_2 l0_3 l0_4 l0_5 l0_6 l1).bind fun t102 => ((cupolaref05_Pairs.f k l0_5).bind fun t105 => ((cupolaref05_Pairs.f k t102).bind fun t108 => ((cupolaref05_Pairs.f k l0_5).bind fun t111 => (cupolaref15_Aob.l0 k t105 t108 t111 0 l0_0 l0_1 l0_2 l0_3 l0_4 l0_5 l0_6))))
def cupolaref15_Aob.T11 : Bool × List (List Nat × List Nat) := (true, [([], []), ([], []), ([0, 1], [0, 1]), ([2], [2]), ([3], [3]), ([], []), ([], []), ([5, 6], [5, 6]), ([7], [7]), ([8], [8]), ([4, 9], [4, 9]), ([10], [10]), ([11], [11]), ([12, 11], [11, 12]), ([11], [11]), ([11], [11]), ([14, 15, 11], [11, 14, 15]), ([16, 11], [11, 16]), ([17, 11], [11, 17]), ([13, 18, 11], [11, 13, 18]), ([19, 11], [11, 19]), ([20, 11, 11], [11, 20]), ([11, 21], [11, 21])])
def cupolaref15_Aob.B11 : List Nat := [0, 0, 3, 7, 15, 0, 0, 96, 224, 480, 1023, 2047, 4095, 8191, 4095, 4095, 53247, 118783, 249855, 524287, 1048575, 2097151, 4194303]
theorem cupolaref15_Aob.tab11 : rtab .any (opsOf Try.f98 11) = cupolaref15_Aob.T11 := by kernel_rfl
theorem cupolaref15_Aob.bits11 : waitsOk cupolaref15_Aob.T11.2 cupolaref15_Aob.B11 = true := by kernel_rfl
def cupolaref15_Aob.T13 : Bool × List (List Nat × List Nat) := (true, [([], []), ([], []), ([1], [1]), ([2], [2]), ([], []), ([3, 4], [3, 4]), ([0, 5, 5], [0, 5]), ([6, 6, 0, 1, 2, 3, 4, 5, 6], [6])])
def cupolaref15_Aob.B13 : List Nat := [0, 0, 2, 6, 0, 30, 63, 127]
theorem cupolaref15_Aob.tab13 : rtab .any (opsOf Try.f98 13) = cupolaref15_Aob.T13 := by kernel_rfl
theorem cupolaref15_Aob.bits13 : waitsOk cupolaref15_Aob.T13.2 cupolaref15_Aob.B13 = true := by kernel_rfl
set_option maxHeartbeats 8000000 in
set_option maxRecDepth 100000 in
theorem cupolaref15_Aob.calls (k : Nat) (A0_0 : Option Addr) (c0_0 : Nat) (l0_0 : List (S26)) (A0_1 : Option Addr) (c0_1 : Nat) (l0_1 : List Int) (A0_2 : Option Addr) (c0_2 : Nat) (l0_2 : List Int) (A0_3 : Option Addr) (c0_3 : Nat) (l0_3 : List Int) (A0_4 : Option Addr) (c0_4 : Nat) (l0_4 : List Int) (A0_5 : Option Addr) (c0_5 : Nat) (l0_5 : List Int) (A0_6 : Option Addr) (c0_6 : Nat) (l0_6 : List (List Int)) (A1 : Option Addr) (c1 : Nat) (l1 : List Int) (r : List Int) (w : World) (hr0_0 : Kd.C k26 w A0_0 l0_0.length l0_0) (hc0_0 : l0_0.length ≤ c0_0) (hr0_1 : Kd.C (Kd.int .u32) w A0_1 l0_1.length l0_1) (hc0_1 : l0_1.length ≤ c0_1) (hr0_2 : Kd.C (Kd.int .u32) w A0_2 l0_2.length l0_2) (hc0_2 : l0_2.length ≤ c0_2) (hr0_3 : Kd.C (Kd.int .u32) w A0_3 l0_3.length l0_3) (hc0_3 : l0_3.length ≤ c0_3) (hr0_4 : Kd.C (Kd.int .u32) w A0_4 l0_4.length l0_4) (hc0_4 : l0_4.length ≤ c0_4) (hr0_5 : Kd.C (Kd.int .u32) w A0_5 l0_5.length l0_5) (hc0_5 : l0_5.length ≤ c0_5) (hr0_6 : Kd.C (Kd.slice 2 (Kd.int .i64)) w A0_6 l0_6.length l0_6) (hc0_6 : l0_6.length ≤ c0_6) (hr1 : Kd.C (Kd.int .i64) w A1 l1.length l1) (hc1 : l1.length ≤ c1) (h : cupolaref15_Aob.f k l0_0 l0_1 l0_2 l0_3 l0_4 l0_5 l0_6 l1 = some r) :
  Calls Try.prog 98 #[.agg #[.slice A0_0 l0_0.length c0_0, .slice A0_1 l0_1.length c0_1, .slice A0_2 l0_2.length c0_2, .slice A0_3 l0_3.length c0_3, .slice A0_4 l0_4.length c0_4, .slice A0_5 l0_5.length c0_5, .slice A0_6 l0_6.length c0_6], .slice A1 l1.length c1] w fun e w' => ∃ v0_ : Value, e = .returned (v0_) ∧ Kd.R (Kd.int .u32) 52 w' w.heap.size (fun _ => True) v0_ r ∧ Below w.heap.size w w' := by
 have hu76 := Try.underlying76
 have hu26 := Try.underlying26
 have hu46 := Try.underlying46
 have HR0_0 := a9_ hr0_0
 have HC0_0 := a9_ hc0_0
 clear hr0_0 hc0_0
 have HR0_1 := a9_ hr0_1
 have HC0_1 := a9_ hc0_1
 clear hr0_1 hc0_1
 have HR0_2 := a9_ hr0_2
 have HC0_2 := a9_ hc0_2
 clear hr0_2 hc0_2
 have HR0_3 := a9_ hr0_3
 have HC0_3 := a9_ hc0_3
 clear hr0_3 hc0_3
 have HR0_4 := a9_ hr0_4
 have HC0_4 := a9_ hc0_4
 clear hr0_4 hc0_4
 have HR0_5 := a9_ hr0_5
 have HC0_5 := a9_ hc0_5
 clear hr0_5 hc0_5
 have HR0_6 := a9_ hr0_6
 have HC0_6 := a9_ hc0_6
 clear hr0_6 hc0_6
 have HR1 := a9_ hr1
 have HC1 := a9_ hc1
 clear hr1 hc1
 have HB := a9_ (Below.refl w.heap.size w)
 have H : ((cupolaref14_Rfi.f k l0_0 l0_1 l0_2 l0_3 l0_4 l0_5 l0_6 l1).bind fun t102 => ((cupolaref05_Pairs.f k l0_5).bind fun t105 => ((cupolaref05_Pairs.f k t102).bind fun t108 => ((cupolaref05_Pairs.f k l0_5).bind fun t111 => (cupolaref15_Aob.l0 k t105 t108 t111 0 l0_0 l0_1 l0_2 l0_3 l0_4 l0_5 l0_6))))) = some r := h
 clear h
 replace H := Option.bind_eq_some_iff.mp H
 obtain ⟨t102, A30, H⟩ := H
 have A3 := a9_ A30
 clear A30
 replace H := Option.bind_eq_some_iff.mp H
 obtain ⟨t105, A40, H⟩ := H
 have A4 := a9_ A40
 clear A40
 replace H := Option.bind_eq_some_iff.mp H
 obtain ⟨t108, A50, H⟩ := H
 have A5 := a9_ A50
 clear A50
 replace H := Option.bind_eq_some_iff.mp H
 obtain ⟨t111, A60, H⟩ := H
 have A6 := a9_ A60
 clear A60
 have H' := a9_ H
 clear H
 go_enter Try.func98, Try.ntmps98
 go_wp2_with (first | ((with_reducible refine gate_dst (N := 2) rfl ?_); refine box9 (N := 2) (cs := #[.slice A0_0 l0_0.length c0_0, .slice A0_1 l0_1.length c0_1, .slice A0_2 l0_2.length c0_2, .slice A0_3 l0_3.length c0_3, .slice A0_4 l0_4.length c0_4, .slice A0_5 l0_5.length c0_5, .slice A0_6 l0_6.length c0_6]) (t := 76) ?_; intro gb101 hg w7 hbox hb; have n0_ := a9_ (below_step (bp9 HB.out) hb); have n1_ := a9_ (hbox); have n2_ := a9_ ((by rw [hg]; exact (below_size (bp9 HB.out)) : w.heap.size ≤ gb101)); have n3_ := n2_; clear HB; have HB := n0_; have BK101 := n1_; have GW101 := n2_; have GE101 := n3_; clear n0_ n1_ n2_ n3_; clear hb hbox hg; obtain ⟨hcz8_0, hcz8_1, hcz8_2, hcz8_3, hcz8_4, hcz8_5, hcz8_6, hfz8_0, hfz8_1, hfz8_2, hfz8_3, hfz8_4, hfz8_5, hfz8_6⟩ := cz7 BK101.out) | ((with_reducible refine gate_callee (f := 89) rfl ?_); refine goesL9 (some 13) rfl rfl Try.func89 (by kernel_rfl) rfl #[.agg #[.slice A0_0 l0_0.length c0_0, .slice A0_1 l0_1.length c0_1, .slice A0_2 l0_2.length c0_2, .slice A0_3 l0_3.length c0_3, .slice A0_4 l0_4.length c0_4, .slice A0_5 l0_5.length c0_5, .slice A0_6 l0_6.length c0_6], .slice A1 l1.length c1] rfl ?_; (with_reducible refine (cupolaref14_Rfi.calls k _ _ l0_0 _ _ l0_1 _ _ l0_2 _ _ l0_3 _ _ l0_4 _ _ l0_5 _ _ l0_6 _ _ l1 t102 _ ?side1 ?side2 ?side3 ?side4 ?side5 ?side6 ?side7 ?side8 ?side9 ?side10 ?side11 ?side12 ?side13 ?side14 ?side15 ?side16 A3.out).mono ?_); (case side1 => exact cp9 HR0_0.out HB.out); (case side2 => exact HC0_0.out); (case side3 => exact cp9 HR0_1.out HB.out); (case side4 => exact HC0_1.out); (case side5 => exact cp9 HR0_2.out HB.out); (case side6 => exact HC0_2.out); (case side7 => exact cp9 HR0_3.out HB.out); (case side8 => exact HC0_3.out); (case side9 => exact cp9 HR0_4.out HB.out); (case side10 => exact HC0_4.out); (case side11 => exact cp9 HR0_5.out HB.out); (case side12 => exact HC0_5.out); (case side13 => exact cp9 HR0_6.out HB.out); (case side14 => exact HC0_6.out); (case side15 => exact cp9 HR1.out HB.out); (case side16 => exact HC1.out); rintro e w9 ⟨v103, rfl, ho0, hb⟩; refine ⟨_, rfl, ?_⟩; have n0_ := a9_ (Kd.R_lower ho0 (below_size (bp9 HB.out))); have n1_ := a9_ (blk_below (kp9 BK101.out) hb); have n2_ := a9_ (below_step (bp9 HB.out) hb); clear BK101; clear HB; have HO104 := n0_; have BK101 := n1_; have HB := n2_; clear n0_ n1_ n2_; (try clear hb); (try clear ho0); obtain ⟨hcz10_0, hcz10_1, hcz10_2, hcz10_3, hcz10_4, hcz10_5, hcz10_6, hfz10_0, hfz10_1, hfz10_2, hfz10_3, hfz10_4, hfz10_5, hfz10_6⟩ := cz7 BK101.out) | ((with_reducible refine gate_callee (f := 47) rfl ?_); refine goesL9 (some 16) rfl rfl Try.func47 (by kernel_rfl) rfl #[.slice A0_5 l0_5.length c0_5] rfl ?_; (with_reducible refine (cupolaref05_Pairs.calls k _ _ l0_5 t105 _ ?side1 ?side2 A4.out).mono ?_); (case side1 => exact cp9 HR0_5.out HB.out); (case side2 => exact HC0_5.out); rintro e w11 ⟨v106, rfl, ho0, hb⟩; refine ⟨_, rfl, ?_⟩; have n0_ := a9_ (Kd.R_below (rp9 HO104.out) hb); have n1_ := a9_ (Kd.R_lower ho0 (below_size (bp9 HB.out))); have n2_ := a9_ (blk_below (kp9 BK101.out) hb); have n3_ := a9_ (below_step (bp9 HB.out) hb); clear HO104; clear BK101; clear HB; have HO104 := n0_; have HO107 := n1_; have BK101 := n2_; have HB := n3_; clear n0_ n1_ n2_ n3_; (try clear hb); (try clear ho0); obtain ⟨Ao12, co12, eo12⟩ := Kd.R_slice HO104.out; subst eo12; (try clear A4)) | ((with_reducible refine gate_callee (f := 47) rfl ?_); refine goesL9 (some 18) rfl rfl Try.func47 (by kernel_rfl) rfl #[.slice Ao12 t102.length co12] rfl ?_; (with_reducible refine (cupolaref05_Pairs.calls k _ _ t102 t108 _ ?side1 ?side2 A5.out).mono ?_); (case side1 => exact lp9 (Kd.R_reads' HO104.out).2.2); (case side2 => exact (Kd.R_reads' HO104.out).2.1); rintro e w13 ⟨v109, rfl, ho0, hb⟩; refine ⟨_, rfl, ?_⟩; have n0_ := a9_ (Kd.R_below (rp9 HO104.out) hb); have n1_ := a9_ (Kd.R_elder' (rp9 HO107.out) (Kd.R_base ho0) hb); have n2_ := a9_ (Kd.R_lower (Kd.R_new' ho0 (Kd.R_lt (rp9 HO107.out))) (below_size (bp9 HB.out))); have n3_ := a9_ (blk_below (kp9 BK101.out) hb); have n4_ := a9_ (below_step (bp9 HB.out) hb); clear HO104; clear HO107; clear BK101; clear HB; have HO104 := n0_; have HO107 := n1_; have HO110 := n2_; have BK101 := n3_; have HB := n4_; clear n0_ n1_ n2_ n3_ n4_; (try clear hb); (try clear ho0); obtain ⟨hcz14_0, hcz14_1, hcz14_2, hcz14_3, hcz14_4, hcz14_5, hcz14_6, hfz14_0, hfz14_1, hfz14_2, hfz14_3, hfz14_4, hfz14_5, hfz14_6⟩ := cz7 BK101.out) | ((with_reducible refine gate_callee (f := 47) rfl ?_); refine goesL9 (some 21) rfl rfl Try.func47 (by kernel_rfl) rfl #[.slice A0_5 l0_5.length c0_5] rfl ?_; (with_reducible refine (cupolaref05_Pairs.calls k _ _ l0_5 t111 _ ?side1 ?side2 A6.out).mono ?_); (case side1 => exact cp9 HR0_5.out HB.out); (case side2 => exact HC0_5.out); rintro e w15 ⟨v112, rfl, ho0, hb⟩; refine ⟨_, rfl, ?_⟩; have n0_ := a9_ (Kd.R_below (rp9 HO104.out) hb); have n1_ := a9_ (Kd.R_elder' (rp9 HO107.out) (Kd.R_base ho0) hb); have n2_ := a9_ (Kd.R_elder' (rp9 HO110.out) (Kd.R_base ho0) hb); have n3_ := a9_ (Kd.R_lower (Kd.R_new' (Kd.R_new' ho0 (Kd.R_lt (rp9 HO107.out))) (Kd.R_lt (rp9 HO110.out))) (below_size (bp9 HB.out))); have n4_ := a9_ (blk_below (kp9 BK101.out) hb); have n5_ := a9_ (below_step (bp9 HB.out) hb); clear HO104; clear HO107; clear HO110; clear BK101; clear HB; have HO104 := n0_; have HO107 := n1_; have HO110 := n2_; have HO113 := n3_; have BK101 := n4_; have HB := n5_; clear n0_ n1_ n2_ n3_ n4_ n5_; (try clear hb); (try clear ho0); (try clear A6)))
 go_loopg [6, 9] k (fun kq v6 v9 w' => ∃ (x6_1 : List (S46)) (x9_1 : Int), v9 = .int .i64 x9_1 ∧ Aside0 (cupolaref15_Aob.l0 kq x6_1 t108 t111 x9_1 l0_0 l0_1 l0_2 l0_3 l0_4 l0_5 l0_6 = some r) ∧ Aside0 (kq ≤ k) ∧ Aside0 (Kd.R k46 46 w' w.heap.size (fun k_ => some k_ ≠ (v109 : Value).ownBlock ∧ some k_ ≠ (v112 : Value).ownBlock) v6 x6_1) ∧ Aside0 (Kd.R k46 46 w' w.heap.size (fun k_ => some k_ ≠ (v6 : Value).ownBlock ∧ some k_ ≠ (v112 : Value).ownBlock) v109 t108) ∧ Aside0 (Kd.R k46 46 w' w.heap.size (fun k_ => some k_ ≠ (v6 : Value).ownBlock ∧ some k_ ≠ (v109 : Value).ownBlock) v112 t111) ∧ Aside0 (w'.heap[gb101]? = some (.cells #[(.slice A0_0 l0_0.length c0_0), (.slice A0_1 l0_1.length c0_1), (.slice A0_2 l0_2.length c0_2), (.slice A0_3 l0_3.length c0_3), (.slice A0_4 l0_4.length c0_4), (.slice A0_5 l0_5.length c0_5), (.slice A0_6 l0_6.length c0_6)] 76 (0, 0))) ∧ Aside0 (Below w.heap.size w w'))
 case atStart => exact ⟨(t105), (0), rs9, H', ⟨Nat.le_refl _⟩, ⟨by (with_reducible repeat (first | apply Kd.R_alloc | apply Kd.R_drewN | apply Kd.R_drew)); exact Kd.R_mono HO107.out (fun _ hk => ⟨hk.1.2, hk.2⟩)⟩, ⟨by (with_reducible repeat (first | apply Kd.R_alloc | apply Kd.R_drewN | apply Kd.R_drew)); exact Kd.R_mono HO110.out (fun _ hk => ⟨hk.1.2, hk.2⟩)⟩, ⟨by (with_reducible repeat (first | apply Kd.R_alloc | apply Kd.R_drewN | apply Kd.R_drew)); exact Kd.R_mono HO113.out (fun _ hk => ⟨hk.1.2, hk.2⟩)⟩, ⟨kp9 BK101.out⟩, ⟨bp9 HB.out⟩⟩
 case round =>
  clear H'
  try clear c1
  try clear p2
  try clear c4
  try clear c8
  try clear c9
  try clear hcz10_0 hcz10_1 hcz10_2 hcz10_3 hcz10_4 hcz10_5 hcz10_6
  try clear hcz14_0 hcz14_1 hcz14_2 hcz14_3 hcz14_4 hcz14_5 hcz14_6
  try clear hcz8_0 hcz8_1 hcz8_2 hcz8_3 hcz8_4 hcz8_5 hcz8_6
  try clear hfz10_0 hfz10_1 hfz10_2 hfz10_3 hfz10_4 hfz10_5 hfz10_6
  try clear hfz14_0 hfz14_1 hfz14_2 hfz14_3 hfz14_4 hfz14_5 hfz14_6
  try clear hfz8_0 hfz8_1 hfz8_2 hfz8_3 hfz8_4 hfz8_5 hfz8_6
  obtain ⟨x6_1, x9_1, rfl, HA, HK1, HO_6, HO_7, HO_8, BK101, HB⟩ := hrel
  cases gk with
  | zero => exact absurd HA.out (by simp [cupolaref15_Aob.l0])
  | succ k1 =>
   have H := HA.out
   clear HA
   simp only [cupolaref15_Aob.l0] at H
   by_cases c16 : x9_1 < (t108.length : Int)
   ·rw [if_pos c16] at H
    have c16b0 : decide (x9_1 < (t108.length : Int)) = true := decide_eq_true c16
    clear c16
    have H' := a9_ H
    clear H
    obtain ⟨Ao17, co17, eo17⟩ := Kd.R_slice HO_7.out
    subst eo17
    go_wp2
    go_loopg [6, 10] k1 (fun kq v6 v10 w' => ∃ (x6_2 : List (S46)) (x10_2 : Int), v10 = .int .i64 x10_2 ∧ Aside0 (cupolaref15_Aob.l1 kq x6_2 t108 t111 x9_1 x10_2 l0_0 l0_1 l0_2 l0_3 l0_4 l0_5 l0_6 = some r) ∧ Aside0 (kq ≤ k1) ∧ Aside0 (Kd.R k46 46 w' w.heap.size (fun k_ => some k_ ≠ ((.slice Ao17 t108.length co17) : Value).ownBlock ∧ some k_ ≠ (v112 : Value).ownBlock) v6 x6_2) ∧ Aside0 (Kd.R k46 46 w' w.heap.size (fun k_ => some k_ ≠ (v6 : Value).ownBlock ∧ some k_ ≠ (v112 : Value).ownBlock) (.slice Ao17 t108.length co17) t108) ∧ Aside0 (Kd.R k46 46 w' w.heap.size (fun k_ => some k_ ≠ (v6 : Value).ownBlock ∧ some k_ ≠ ((.slice Ao17 t108.length co17) : Value).ownBlock) v112 t111) ∧ Aside0 (w'.heap[gb101]? = some (.cells #[(.slice A0_0 l0_0.length c0_0), (.slice A0_1 l0_1.length c0_1), (.slice A0_2 l0_2.length c0_2), (.slice A0_3 l0_3.length c0_3), (.slice A0_4 l0_4.length c0_4), (.slice A0_5 l0_5.length c0_5), (.slice A0_6 l0_6.length c0_6)] 76 (0, 0))) ∧ Aside0 (Below w.heap.size w w'))
    case atStart => exact ⟨(x6_1), (0), rs9, H', ⟨Nat.le_refl _⟩, ⟨rp9 HO_6.out⟩, ⟨rp9 HO_7.out⟩, ⟨rp9 HO_8.out⟩, ⟨kp9 BK101.out⟩, ⟨bp9 HB.out⟩⟩
    case round =>
     clear H'
     try clear c1
     try clear p2
     try clear c4
     try clear c8
     try clear c9
     try clear c16
     try clear c16b0
     try clear hcz10_0 hcz10_1 hcz10_2 hcz10_3 hcz10_4 hcz10_5 hcz10_6
     try clear hcz14_0 hcz14_1 hcz14_2 hcz14_3 hcz14_4 hcz14_5 hcz14_6
     try clear hcz8_0 hcz8_1 hcz8_2 hcz8_3 hcz8_4 hcz8_5 hcz8_6
     try clear hfz10_0 hfz10_1 hfz10_2 hfz10_3 hfz10_4 hfz10_5 hfz10_6
     try clear hfz14_0 hfz14_1 hfz14_2 hfz14_3 hfz14_4 hfz14_5 hfz14_6
     try clear hfz8_0 hfz8_1 hfz8_2 hfz8_3 hfz8_4 hfz8_5 hfz8_6
     try clear p2
     obtain ⟨x6_2, x10_2, rfl, HA, HK2, HO_6, HO_7, HO_8, BK101, HB⟩ := hrel
     cases gk with
     | zero => exact absurd HA.out (by simp [cupolaref15_Aob.l1])
     | succ k2 =>
      have H := HA.out
      clear HA
      simp only [cupolaref15_Aob.l1] at H
      by_cases c18 : x10_2 < (t111.length : Int)
      ·rw [if_pos c18] at H
       have c18b0 : decide (x10_2 < (t111.length : Int)) = true := decide_eq_true c18
       clear c18
       by_cases c19 : 0 ≤ x10_2
       ·rw [if_pos c19] at H
        have c19b0 : decide (0 ≤ x10_2) = true := decide_eq_true c19
        clear c19
        by_cases c20 : 0 ≤ x9_1
        ·rw [if_pos c20] at H
         have c20b0 : decide (0 ≤ x9_1) = true := decide_eq_true c20
         clear c20
         by_cases c21 : x9_1 < (t108.length : Int)
         ·rw [if_pos c21] at H
          have c21b0 : decide (x9_1 < (t108.length : Int)) = true := decide_eq_true c21
          clear c21
          by_cases c22 : ((rd_T46 t111 x10_2).f1) = ((rd_T46 t108 x9_1).f0)
          ·rw [if_pos c22] at H
           have c22b0 : (((rd_T46 t111 x10_2).f1) == ((rd_T46 t108 x9_1).f0)) = true := beq_iff_eq.mpr c22
           have c22b1 : (((rd_T46 t111 x10_2).f1) != ((rd_T46 t108 x9_1).f0)) = false := bne_eq_false_iff_eq.mpr c22
           clear c22
           by_cases c23 : 0 ≤ ((rd_T46 t108 x9_1).f1)
           ·rw [if_pos c23] at H
            have c23b0 : decide (0 ≤ ((rd_T46 t108 x9_1).f1)) = true := decide_eq_true c23
            clear c23
            by_cases c24 : ((rd_T46 t108 x9_1).f1) < (l0_0.length : Int)
            ·rw [if_pos c24] at H
             have c24b0 : decide (((rd_T46 t108 x9_1).f1) < (l0_0.length : Int)) = true := decide_eq_true c24
             clear c24
             replace H := Option.bind_eq_some_iff.mp H
             obtain ⟨t124, A250, H⟩ := H
             have A25 := a9_ A250
             clear A250
             by_cases c26 : t124 = true
             ·subst c26
              rw [if_pos rfl] at H
              by_cases c27 : x6_2.length < 8796093022208
              ·rw [if_pos c27] at H
               have LMc27 := a9_ c27
               clear c27
               obtain ⟨y126, hy126⟩ : ∃ y_ : List (S46), y_ = (x6_2 ++ [(⟨(rd_T46 t108 x9_1).f0, (rd_T46 t108 x9_1).f1⟩ : S46)]) := ⟨_, rfl⟩
               replace H : (cupolaref15_Aob.l1 k2 y126 t108 t111 x9_1 (wrap64 (x10_2 + 1)) l0_0 l0_1 l0_2 l0_3 l0_4 l0_5 l0_6) = some r := by first | (rw [hy126]; with_reducible exact H) | (have H2_ := (Option.bind_some _ _).symm.trans H; rw [hy126]; with_reducible exact H2_) | (have H2_ := (Option.bind_some _ _).symm.trans H; with_reducible exact H2_) | with_reducible exact H | (rw [hy126]; exact H) | exact H
               have Ny126 := a9_ hy126
               clear hy126
               have H' := a9_ H
               clear H
               obtain ⟨Ao28, co28, eo28⟩ := Kd.R_slice HO_8.out
               subst eo28
               try go_wp2
               have n0_ := a9_ (Kd.R_drew HO_6.out)
               have n1_ := a9_ (Kd.R_drew HO_7.out)
               have n2_ := a9_ (Kd.R_drew HO_8.out)
               have n3_ := a9_ (blk_drew BK101.out)
               have n4_ := a9_ (below_drew1 HB.out)
               clear HO_6 HO_7 HO_8 BK101 HB
               revert n0_ n1_ n2_ n3_ n4_; intro HO_6 HO_7 HO_8 BK101 HB
               have p120 : 0 ≤ (x10_2 : Int) := of_decide_eq_true (by first | (with_reducible assumption) | assumption)
               have q120 : x10_2 < (t111.length : Int) := of_decide_eq_true (by first | (with_reducible assumption) | assumption)
               obtain ⟨ad120, e120, hx120_0, hx120_1⟩ := at_T46 (Kd.R_reads' HO_8.out).2.2 x10_2 p120 q120
               cases e120
               replace p120 := eq_true p120
               replace q120 := eq_true q120
               have p121 : 0 ≤ (x9_1 : Int) := of_decide_eq_true (by first | (with_reducible assumption) | assumption)
               have q121 : x9_1 < (t108.length : Int) := of_decide_eq_true (by first | (with_reducible assumption) | assumption)
               obtain ⟨ad121, e121, hx121_0, hx121_1⟩ := at_T46 (Kd.R_reads' HO_7.out).2.2 x9_1 p121 q121
               cases e121
               replace p121 := eq_true p121
               replace q121 := eq_true q121
               have p122 : 0 ≤ (x9_1 : Int) := of_decide_eq_true (by first | (with_reducible assumption) | assumption)
               have q122 : x9_1 < (t108.length : Int) := of_decide_eq_true (by first | (with_reducible assumption) | assumption)
               obtain ⟨ad122, e122, hx122_0, hx122_1⟩ := at_T46 (Kd.R_reads' HO_7.out).2.2 x9_1 p122 q122
               obtain rfl : ad121 = ad122 := (by injection e122)
               replace p122 := eq_true p122
               replace q122 := eq_true q122
               have p123 : 0 ≤ (((rd_T46 t108 x9_1).f1) : Int) := of_decide_eq_true (by first | (with_reducible assumption) | assumption)
               have q123 : ((rd_T46 t108 x9_1).f1) < (l0_0.length : Int) := of_decide_eq_true (by first | (with_reducible assumption) | assumption)
               obtain ⟨ad123, e123, hx123_0, hx123_1, hx123_2, hx123_3, hx123_4, hx123_5, hx123_6⟩ := at_T26 HR0_0.out ((rd_T46 t108 x9_1).f1) p123 q123
               have hw123_6 := hx123_6
               have hw123_5 := hx123_5
               have hw123_4 := hx123_4
               have hw123_3 := hx123_3
               have hw123_2 := hx123_2
               have hw123_1 := hx123_1
               have hw123_0 := hx123_0
               cases e123
               replace hx123_0 := hb9 HB.out hx123_0
               replace hx123_1 := hb9 HB.out hx123_1
               replace hx123_2 := hb9 HB.out hx123_2
               replace hx123_3 := hb9 HB.out hx123_3
               replace hx123_4 := hb9 HB.out hx123_4
               replace hx123_5 := hb9 HB.out hx123_5
               replace hx123_6 := hb9 HB.out hx123_6
               replace p123 := eq_true p123
               replace q123 := eq_true q123
               refine start_ (n := 23) (S := fun w' => w'.cell? ⟨gb101, 0, none⟩ = some (.slice (some ad123) l0_0.length c0_0) ∧ w'.cell? ⟨gb101, 1, none⟩ = some (.slice A0_1 l0_1.length c0_1) ∧ w'.cell? ⟨gb101, 2, none⟩ = some (.slice A0_2 l0_2.length c0_2) ∧ w'.cell? ⟨gb101, 3, none⟩ = some (.slice A0_3 l0_3.length c0_3) ∧ w'.cell? ⟨gb101, 4, none⟩ = some (.slice A0_4 l0_4.length c0_4) ∧ w'.cell? ⟨gb101, 5, none⟩ = some (.slice A0_5 l0_5.length c0_5) ∧ w'.cell? ⟨gb101, 6, none⟩ = some (.slice A0_6 l0_6.length c0_6) ∧ w'.cell? (ad120.add ((x10_2).toNat * 2)) = some (.int .i64 ((rd_T46 t111 x10_2).f0)) ∧ w'.cell? ⟨(ad120.add ((x10_2).toNat * 2)).block, (ad120.add ((x10_2).toNat * 2)).off + 1, none⟩ = some (.int .i64 ((rd_T46 t111 x10_2).f1)) ∧ w'.cell? (ad121.add ((x9_1).toNat * 2)) = some (.int .i64 ((rd_T46 t108 x9_1).f0)) ∧ w'.cell? ⟨(ad121.add ((x9_1).toNat * 2)).block, (ad121.add ((x9_1).toNat * 2)).off + 1, none⟩ = some (.int .i64 ((rd_T46 t108 x9_1).f1)) ∧ w'.cell? (ad121.add ((x9_1).toNat * 2)) = some (.int .i64 ((rd_T46 t108 x9_1).f0)) ∧ w'.cell? ⟨(ad121.add ((x9_1).toNat * 2)).block, (ad121.add ((x9_1).toNat * 2)).off + 1, none⟩ = some (.int .i64 ((rd_T46 t108 x9_1).f1)) ∧ w'.cell? (ad123.add ((((rd_T46 t108 x9_1).f1)).toNat * 7)) = some (.int .i64 ((rd_T26 l0_0 ((rd_T46 t108 x9_1).f1)).f0)) ∧ w'.cell? ⟨(ad123.add ((((rd_T46 t108 x9_1).f1)).toNat * 7)).block, (ad123.add ((((rd_T46 t108 x9_1).f1)).toNat * 7)).off + 1, none⟩ = some (.int .i64 ((rd_T26 l0_0 ((rd_T46 t108 x9_1).f1)).f1)) ∧ w'.cell? ⟨(ad123.add ((((rd_T46 t108 x9_1).f1)).toNat * 7)).block, (ad123.add ((((rd_T46 t108 x9_1).f1)).toNat * 7)).off + 2, none⟩ = some (.int .i64 ((rd_T26 l0_0 ((rd_T46 t108 x9_1).f1)).f2)) ∧ w'.cell? ⟨(ad123.add ((((rd_T46 t108 x9_1).f1)).toNat * 7)).block, (ad123.add ((((rd_T46 t108 x9_1).f1)).toNat * 7)).off + 3, none⟩ = some (.int .i64 ((rd_T26 l0_0 ((rd_T46 t108 x9_1).f1)).f3)) ∧ w'.cell? ⟨(ad123.add ((((rd_T46 t108 x9_1).f1)).toNat * 7)).block, (ad123.add ((((rd_T46 t108 x9_1).f1)).toNat * 7)).off + 4, none⟩ = some (.bool ((rd_T26 l0_0 ((rd_T46 t108 x9_1).f1)).f4)) ∧ w'.cell? ⟨(ad123.add ((((rd_T46 t108 x9_1).f1)).toNat * 7)).block, (ad123.add ((((rd_T46 t108 x9_1).f1)).toNat * 7)).off + 5, none⟩ = some (.bool ((rd_T26 l0_0 ((rd_T46 t108 x9_1).f1)).f5)) ∧ w'.cell? ⟨(ad123.add ((((rd_T46 t108 x9_1).f1)).toNat * 7)).block, (ad123.add ((((rd_T46 t108 x9_1).f1)).toNat * 7)).off + 6, none⟩ = some (.bool ((rd_T26 l0_0 ((rd_T46 t108 x9_1).f1)).f6))) (ds := []) #[o9, o9, o9, o9, o9, o9, o9, o9, o9, o9, o9, o9, o9, o9, o9, o9, o9, o9, o9, o9, o9, o9, o9] (by kernel_rfl) rfl rfl ⟨(blk_cell BK101.out 0).trans rfl, (blk_cell BK101.out 1).trans rfl, (blk_cell BK101.out 2).trans rfl, (blk_cell BK101.out 3).trans rfl, (blk_cell BK101.out 4).trans rfl, (blk_cell BK101.out 5).trans rfl, (blk_cell BK101.out 6).trans rfl, hx120_0, hx120_1, hx121_0, hx121_1, hx122_0, hx122_1, ((HB.out.cell (World.block_lt_of_cell? w _ hw123_0)).trans hw123_0), ((HB.out.cell (World.block_lt_of_cell? w _ hw123_1)).trans hw123_1), ((HB.out.cell (World.block_lt_of_cell? w _ hw123_2)).trans hw123_2), ((HB.out.cell (World.block_lt_of_cell? w _ hw123_3)).trans hw123_3), ((HB.out.cell (World.block_lt_of_cell? w _ hw123_4)).trans hw123_4), ((HB.out.cell (World.block_lt_of_cell? w _ hw123_5)).trans hw123_5), ((HB.out.cell (World.block_lt_of_cell? w _ hw123_6)).trans hw123_6)⟩ (fun hHeld => ?_); refine with_tabW cupolaref15_Aob.tab11 cupolaref15_Aob.bits11 (fun HT_ HW_ => ?_)
               generalize wr.drew = w29 at HO_6 HO_7 HO_8 BK101 HB hx120_0 hx120_1 hx121_0 hx121_1 hx122_0 hx122_1 hx123_0 hx123_1 hx123_2 hx123_3 hx123_4 hx123_5 hx123_6 hHeld ⊢
               refine pureA 0 (some 34) ?_ #[i9, o9, o9, o9, o9, o9, o9, o9, o9, o9, o9, o9, o9, o9, o9, o9, o9, o9, o9, o9, o9, o9, o9] rfl rfl (any_of HT_.out (by kernel_rfl)) ?_ ?_ ?_ ?_
               rotate_left
               ·intro w'; go_simp; with_reducible rfl
               rotate_left
               ·exact put9
               refine pureA 1 (some 35) ?_ #[i9, i9, o9, o9, o9, o9, o9, o9, o9, o9, o9, o9, o9, o9, o9, o9, o9, o9, o9, o9, o9, o9, o9] rfl rfl (any_of HT_.out (by kernel_rfl)) ?_ ?_ ?_ ?_
               rotate_left
               ·intro w'; go_simp; with_reducible rfl
               rotate_left
               ·exact put9
               refine pureA 2 (some 36) ?_ #[i9, i9, i9, o9, o9, o9, o9, o9, o9, o9, o9, o9, o9, o9, o9, o9, o9, o9, o9, o9, o9, o9, o9] rfl rfl (any_of HT_.out (by kernel_rfl)) ?_ ?_ ?_ ?_
               rotate_left
               ·intro w'; go_simp; with_reducible rfl
               rotate_left
               ·exact put9
               refine pureA 3 (some 37) ?_ #[i9, i9, i9, i9, o9, o9, o9, o9, o9, o9, o9, o9, o9, o9, o9, o9, o9, o9, o9, o9, o9, o9, o9] rfl rfl (any_of HT_.out (by kernel_rfl)) ?_ ?_ ?_ ?_
               rotate_left
               ·intro w'; go_simp; with_reducible rfl
               rotate_left
               ·exact put9
               refine pureA 5 (some 39) ?_ #[i9, i9, i9, i9, o9, i9, o9, o9, o9, o9, o9, o9, o9, o9, o9, o9, o9, o9, o9, o9, o9, o9, o9] rfl rfl (any_of HT_.out (by kernel_rfl)) ?_ ?_ ?_ ?_
               rotate_left
               ·intro w'; go_simp; with_reducible rfl
               rotate_left
               ·exact put9
               refine pureA 6 (some 40) ?_ #[i9, i9, i9, i9, o9, i9, i9, o9, o9, o9, o9, o9, o9, o9, o9, o9, o9, o9, o9, o9, o9, o9, o9] rfl rfl (any_of HT_.out (by kernel_rfl)) ?_ ?_ ?_ ?_
               rotate_left
               ·intro w'; go_simp; with_reducible rfl
               rotate_left
               ·exact put9
               refine pureA 7 (some 41) ?_ #[i9, i9, i9, i9, o9, i9, i9, i9, o9, o9, o9, o9, o9, o9, o9, o9, o9, o9, o9, o9, o9, o9, o9] rfl rfl (any_of HT_.out (by kernel_rfl)) ?_ ?_ ?_ ?_
               rotate_left
               ·intro w'; go_simp; with_reducible rfl
               rotate_left
               ·exact put9
               refine pureA 8 (some 42) ?_ #[i9, i9, i9, i9, o9, i9, i9, i9, i9, o9, o9, o9, o9, o9, o9, o9, o9, o9, o9, o9, o9, o9, o9] rfl rfl (any_of HT_.out (by kernel_rfl)) ?_ ?_ ?_ ?_
               rotate_left
               ·intro w'; go_simp; with_reducible rfl
               rotate_left
               ·exact put9
               refine take_ (i := 4) (N := some 38) (v := ?_) (a' := ?_) #[i9, i9, i9, i9, i9, i9, i9, i9, i9, o9, o9, o9, o9, o9, o9, o9, o9, o9, o9, o9, o9, o9, o9] rfl rfl (take_ofW HT_.out HW_.out (by kernel_rfl)) (fun _ _ _ h => h) (Or.inl ⟨by rfl, ?_⟩) hHeld ?_ ?_
               rotate_left
               ·rintro w' ⟨s0, s1, s2, s3, s4, s5, s6, s7, s8, s9, s10, s11, s12, s13, s14, s15, s16, s17, s18, s19⟩
                go_simp
                with_reducible rfl
               rotate_left
               ·exact put9
               refine take_ (i := 9) (N := some 43) (v := ?_) (a' := ?_) #[i9, i9, i9, i9, i9, i9, i9, i9, i9, i9, o9, o9, o9, o9, o9, o9, o9, o9, o9, o9, o9, o9, o9] rfl rfl (take_ofW HT_.out HW_.out (by kernel_rfl)) (fun _ _ _ h => h) (Or.inl ⟨by rfl, ?_⟩) hHeld ?_ ?_
               rotate_left
               ·rintro w' ⟨s0, s1, s2, s3, s4, s5, s6, s7, s8, s9, s10, s11, s12, s13, s14, s15, s16, s17, s18, s19⟩
                go_simp
                with_reducible rfl
               rotate_left
               ·exact put9
               refine pureA 10 (some 44) ?_ #[i9, i9, i9, i9, i9, i9, i9, i9, i9, i9, i9, o9, o9, o9, o9, o9, o9, o9, o9, o9, o9, o9, o9] rfl rfl (any_of HT_.out (by kernel_rfl)) ?_ ?_ ?_ ?_
               rotate_left
               ·intro w'; go_simp; with_reducible rfl
               rotate_left
               ·exact put9
               refine pureA 11 (some 45) ?_ #[i9, i9, i9, i9, i9, i9, i9, i9, i9, i9, i9, i9, o9, o9, o9, o9, o9, o9, o9, o9, o9, o9, o9] rfl rfl (any_of HT_.out (by kernel_rfl)) ?_ ?_ ?_ ?_
               rotate_left
               ·intro w'; go_simp; with_reducible rfl
               rotate_left
               ·exact put9
               refine pureA 12 (some 46) ?_ #[i9, i9, i9, i9, i9, i9, i9, i9, i9, i9, i9, i9, i9, o9, o9, o9, o9, o9, o9, o9, o9, o9, o9] rfl rfl (any_of HT_.out (by kernel_rfl)) ?_ ?_ ?_ ?_
               rotate_left
               ·intro w'; go_simp; with_reducible rfl
               rotate_left
               ·exact put9
               refine pureA 14 (some 48) ?_ #[i9, i9, i9, i9, i9, i9, i9, i9, i9, i9, i9, i9, i9, o9, i9, o9, o9, o9, o9, o9, o9, o9, o9] rfl rfl (any_of HT_.out (by kernel_rfl)) ?_ ?_ ?_ ?_
               rotate_left
               ·intro w'; go_simp; with_reducible rfl
               rotate_left
               ·exact put9
               refine pureA 15 (some 49) ?_ #[i9, i9, i9, i9, i9, i9, i9, i9, i9, i9, i9, i9, i9, o9, i9, i9, o9, o9, o9, o9, o9, o9, o9] rfl rfl (any_of HT_.out (by kernel_rfl)) ?_ ?_ ?_ ?_
               rotate_left
               ·intro w'; go_simp; with_reducible rfl
               rotate_left
               ·exact put9
               refine pureA 16 (some 50) ?_ #[i9, i9, i9, i9, i9, i9, i9, i9, i9, i9, i9, i9, i9, o9, i9, i9, i9, o9, o9, o9, o9, o9, o9] rfl rfl (any_of HT_.out (by kernel_rfl)) ?_ ?_ ?_ ?_
               rotate_left
               ·intro w'; go_simp; with_reducible rfl
               rotate_left
               ·exact put9
               refine pureA 17 (some 51) ?_ #[i9, i9, i9, i9, i9, i9, i9, i9, i9, i9, i9, i9, i9, o9, i9, i9, i9, i9, o9, o9, o9, o9, o9] rfl rfl (any_of HT_.out (by kernel_rfl)) ?_ ?_ ?_ ?_
               rotate_left
               ·intro w'; go_simp; with_reducible rfl
               rotate_left
               ·exact put9
               refine take_ (i := 13) (N := some 47) (v := ?_) (a' := ?_) #[i9, i9, i9, i9, i9, i9, i9, i9, i9, i9, i9, i9, i9, i9, i9, i9, i9, i9, o9, o9, o9, o9, o9] rfl rfl (take_ofW HT_.out HW_.out (by kernel_rfl)) (fun _ _ _ h => h) (Or.inl ⟨by rfl, ?_⟩) hHeld ?_ ?_
               rotate_left
               ·rintro w' ⟨s0, s1, s2, s3, s4, s5, s6, s7, s8, s9, s10, s11, s12, s13, s14, s15, s16, s17, s18, s19⟩
                go_simp
                with_reducible rfl
               rotate_left
               ·exact put9
               refine take_ (i := 18) (N := some 52) (v := ?_) (a' := ?_) #[i9, i9, i9, i9, i9, i9, i9, i9, i9, i9, i9, i9, i9, i9, i9, i9, i9, i9, i9, o9, o9, o9, o9] rfl rfl (take_ofW HT_.out HW_.out (by kernel_rfl)) (fun _ _ _ h => h) (Or.inl ⟨by rfl, ?_⟩) hHeld ?_ ?_
               rotate_left
               ·rintro w' ⟨s0, s1, s2, s3, s4, s5, s6, s7, s8, s9, s10, s11, s12, s13, s14, s15, s16, s17, s18, s19⟩
                go_simp
                with_reducible rfl
               rotate_left
               ·exact put9
               refine pureA 19 (some 53) ?_ #[i9, i9, i9, i9, i9, i9, i9, i9, i9, i9, i9, i9, i9, i9, i9, i9, i9, i9, i9, i9, o9, o9, o9] rfl rfl (any_of HT_.out (by kernel_rfl)) ?_ ?_ ?_ ?_
               rotate_left
               ·intro w'; go_simp; with_reducible rfl
               rotate_left
               ·exact put9
               refine take_ (i := 20) (N := some 54) (v := ?_) (a' := ?_) #[i9, i9, i9, i9, i9, i9, i9, i9, i9, i9, i9, i9, i9, i9, i9, i9, i9, i9, i9, i9, i9, o9, o9] rfl rfl (take_ofW HT_.out HW_.out (by kernel_rfl)) (fun _ _ _ h => h) (Or.inl ⟨by rfl, ?_⟩) hHeld ?_ ?_
               rotate_left
               ·rintro w' ⟨s0, s1, s2, s3, s4, s5, s6, s7, s8, s9, s10, s11, s12, s13, s14, s15, s16, s17, s18, s19⟩
                go_simp
                with_reducible rfl
               rotate_left
               ·exact put9
               refine one_ (i := 21) (N := some 55) #[i9, i9, i9, i9, i9, i9, i9, i9, i9, i9, i9, i9, i9, i9, i9, i9, i9, i9, i9, i9, i9, i9, o9] rfl rfl (one_of HT_.out (by kernel_rfl)) (by decide) (fun K hK => ?_)
               refine goes9 Try.func145 (by kernel_rfl) rfl #[.agg #[.int .i64 ((rd_T26 l0_0 ((rd_T46 t108 x9_1).f1)).f0), .int .i64 ((rd_T26 l0_0 ((rd_T46 t108 x9_1).f1)).f1), .int .i64 ((rd_T26 l0_0 ((rd_T46 t108 x9_1).f1)).f2), .int .i64 ((rd_T26 l0_0 ((rd_T46 t108 x9_1).f1)).f3), .bool ((rd_T26 l0_0 ((rd_T46 t108 x9_1).f1)).f4), .bool ((rd_T26 l0_0 ((rd_T46 t108 x9_1).f1)).f5), .bool ((rd_T26 l0_0 ((rd_T46 t108 x9_1).f1)).f6)]] (by rfl) rfl rfl ?_
               with_reducible refine (cupolaref15_acquires.calls ((rd_T26 l0_0 ((rd_T46 t108 x9_1).f1)).f0) ((rd_T26 l0_0 ((rd_T46 t108 x9_1).f1)).f1) ((rd_T26 l0_0 ((rd_T46 t108 x9_1).f1)).f2) ((rd_T26 l0_0 ((rd_T46 t108 x9_1).f1)).f3) ((rd_T26 l0_0 ((rd_T46 t108 x9_1).f1)).f4) ((rd_T26 l0_0 ((rd_T46 t108 x9_1).f1)).f5) ((rd_T26 l0_0 ((rd_T46 t108 x9_1).f1)).f6) true _ A25.out).mono ?_
               rintro e w30 ⟨rfl, hb⟩
               have HS7_ := (hb.cell (World.block_lt_of_cell? _ _ (hHeld.2.2.2.2.2.2.2.1))).trans (hHeld.2.2.2.2.2.2.2.1)
               have HS8_ := (hb.cell (World.block_lt_of_cell? _ _ (hHeld.2.2.2.2.2.2.2.2.1))).trans (hHeld.2.2.2.2.2.2.2.2.1)
               have HS9_ := (hb.cell (World.block_lt_of_cell? _ _ (hHeld.2.2.2.2.2.2.2.2.2.1))).trans (hHeld.2.2.2.2.2.2.2.2.2.1)
               have HS10_ := (hb.cell (World.block_lt_of_cell? _ _ (hHeld.2.2.2.2.2.2.2.2.2.2.1))).trans (hHeld.2.2.2.2.2.2.2.2.2.2.1)
               have HS11_ := (hb.cell (World.block_lt_of_cell? _ _ (hHeld.2.2.2.2.2.2.2.2.2.2.2.1))).trans (hHeld.2.2.2.2.2.2.2.2.2.2.2.1)
               have HS12_ := (hb.cell (World.block_lt_of_cell? _ _ (hHeld.2.2.2.2.2.2.2.2.2.2.2.2.1))).trans (hHeld.2.2.2.2.2.2.2.2.2.2.2.2.1)
               refine ⟨_, rfl, ?_⟩
               have n0_ := a9_ (Kd.R_below (rp9 HO_6.out) hb)
               have n1_ := a9_ (Kd.R_below (rp9 HO_7.out) hb)
               have n2_ := a9_ (Kd.R_below (rp9 HO_8.out) hb)
               have n3_ := a9_ (blk_below (kp9 BK101.out) hb)
               have n4_ := a9_ (below_step (bp9 HB.out) hb)
               clear HO_6 HO_7 HO_8 BK101 HB
               revert n0_ n1_ n2_ n3_ n4_; intro HO_6 HO_7 HO_8 BK101 HB
               (try clear hb)
               refine hK.out _ _ ⟨(blk_cell BK101.out 0).trans rfl, (blk_cell BK101.out 1).trans rfl, (blk_cell BK101.out 2).trans rfl, (blk_cell BK101.out 3).trans rfl, (blk_cell BK101.out 4).trans rfl, (blk_cell BK101.out 5).trans rfl, (blk_cell BK101.out 6).trans rfl, HS7_, HS8_, HS9_, HS10_, HS11_, HS12_, ((HB.out.cell (World.block_lt_of_cell? w _ hw123_0)).trans hw123_0), ((HB.out.cell (World.block_lt_of_cell? w _ hw123_1)).trans hw123_1), ((HB.out.cell (World.block_lt_of_cell? w _ hw123_2)).trans hw123_2), ((HB.out.cell (World.block_lt_of_cell? w _ hw123_3)).trans hw123_3), ((HB.out.cell (World.block_lt_of_cell? w _ hw123_4)).trans hw123_4), ((HB.out.cell (World.block_lt_of_cell? w _ hw123_5)).trans hw123_5), ((HB.out.cell (World.block_lt_of_cell? w _ hw123_6)).trans hw123_6)⟩ (fun hHeld => ?_)
               clear hK K
               refine norm_ (a' := ?_) ?_ ?_
               rotate_left
               ·show Act.put _ (some 55) _ = _
                exact put9
               refine pureA 22 (some 56) ?_ #[i9, i9, i9, i9, i9, i9, i9, i9, i9, i9, i9, i9, i9, i9, i9, i9, i9, i9, i9, i9, i9, i9, i9] rfl rfl (any_of HT_.out (by kernel_rfl)) ?_ ?_ ?_ ?_
               rotate_left
               ·intro w'; go_simp; with_reducible rfl
               rotate_left
               ·exact put9
               refine done_ (done_of HT_.out (by kernel_rfl)) ?_
               have p125 : 0 ≤ (x9_1 : Int) := of_decide_eq_true (by first | (with_reducible assumption) | assumption)
               have q125 : x9_1 < (t108.length : Int) := of_decide_eq_true (by first | (with_reducible assumption) | assumption)
               obtain ⟨ad125, e125, hx125_0, hx125_1⟩ := at_T46 (Kd.R_reads' HO_7.out).2.2 x9_1 p125 q125
               obtain rfl : ad121 = ad125 := (by injection e125)
               replace p125 := eq_true p125
               replace q125 := eq_true q125
               try go_wp2_with (first | ((with_reducible refine gate_builtin (b := .append) (xs := #[.tmp 57, .tmp 62]) rfl ?_); at_builtin; refine Kd.R_append k46 (w0 := w) w.heap.size rfl (.tmp 57) (.tmp 62) 43 46 (.agg #[(.int .i64 0), (.int .i64 0)]) 16 rfl Try.underlying43 info46 rfl (by decide) (by omega) u6 x6_2 (⟨(rd_T46 t108 x9_1).f0, (rd_T46 t108 x9_1).f1⟩ : S46) [.int .i64 ((rd_T46 t108 x9_1).f0), .int .i64 ((rd_T46 t108 x9_1).f1)] (fun k_ => some k_ ≠ (.slice (some ad121) t108.length co17 : Value).ownBlock ∧ some k_ ≠ (.slice (some ad120) t111.length co28 : Value).ownBlock) (fun _ => False) rfl rfl ?aP (fun _ hk => hk.elim) ?aF ?aO ?aB ?aS ?aL ?_; (case aP => exact k46_mkM _ _ _ (⟨(rd_T46 t108 x9_1).f0, (rd_T46 t108 x9_1).f1⟩ : S46)); (case aB => exact (bp9 HB.out)); (case aF => exact (fun k_ hk => ⟨Kd.fresh' (Kd.R_lt (rp9 HO_7.out)) k_ hk, Kd.fresh' (Kd.R_lt (rp9 HO_8.out)) k_ hk⟩)); (case aO => exact (rp9 HO_6.out)); (case aS => exact (below_size (bp9 HB.out))); (case aL => have := LMc27.out; omega); intro v127 w31 ho hb hg hat; rw [← Ny126.out] at ho; have n0_ := a9_ (Kd.R_after (ok := (fun k_ => some k_ ≠ (.slice (some ad120) t111.length co28 : Value).ownBlock)) (by (with_reducible repeat (first | apply Kd.R_alloc | apply Kd.R_drewN | apply Kd.R_drew)); exact Kd.R_mono HO_7.out (fun _ hk => ⟨hk.2, hk.1⟩)) hg hat); have n1_ := a9_ (Kd.R_after (ok := (fun k_ => some k_ ≠ (.slice (some ad121) t108.length co17 : Value).ownBlock)) (by (with_reducible repeat (first | apply Kd.R_alloc | apply Kd.R_drewN | apply Kd.R_drew)); exact Kd.R_mono HO_8.out (fun _ hk => ⟨hk.2, hk.1⟩)) hg hat); have n2_ := a9_ (blk_grown (g := gb101) (o := .cells #[.slice (some ad123) l0_0.length c0_0, .slice A0_1 l0_1.length c0_1, .slice A0_2 l0_2.length c0_2, .slice A0_3 l0_3.length c0_3, .slice A0_4 l0_4.length c0_4, .slice A0_5 l0_5.length c0_5, .slice A0_6 l0_6.length c0_6] 76 (0, 0)) (kp9 BK101.out) hg (Kd.R_ne HO_6.out BK101.out (by decide))); have n3_ := a9_ (hb); have n4_ := a9_ (ho); clear HO_7; clear HO_8; clear BK101; clear HB; clear HO_6; have HO_7 := n0_; have HO_8 := n1_; have BK101 := n2_; have HB := n3_; have HO128 := n4_; clear n0_ n1_ n2_ n3_ n4_; clear ho hb hg hat))
               go_roundg k2
               case measure => have := HK1.out; have := HK2.out; omega
               case rel => exact ⟨(y126), (wrap64 (x10_2 + 1)), rs9, H', ⟨by have := HK1.out; have := HK2.out; omega⟩, ⟨rp9 HO128.out⟩, ⟨by (with_reducible repeat (first | apply Kd.R_alloc | apply Kd.R_drewN | apply Kd.R_drew)); exact Kd.R_mono HO_7.out (fun _ hk => ⟨hk.2, hk.1⟩)⟩, ⟨by (with_reducible repeat (first | apply Kd.R_alloc | apply Kd.R_drewN | apply Kd.R_drew)); exact Kd.R_mono HO_8.out (fun _ hk => ⟨hk.2, hk.1⟩)⟩, ⟨kp9 BK101.out⟩, ⟨bp9 HB.out⟩⟩
              ·rw [if_neg c27] at H
               exact absurd H (by simp)
             ·replace c26 := Bool.eq_false_iff.mpr c26
              subst c26
              rw [if_neg (show ¬ (false = true) by decide)] at H
              have H' := a9_ H
              clear H
              obtain ⟨Ao32, co32, eo32⟩ := Kd.R_slice HO_8.out
              subst eo32
              try go_wp2
              have n0_ := a9_ (Kd.R_drew HO_6.out)
              have n1_ := a9_ (Kd.R_drew HO_7.out)
              have n2_ := a9_ (Kd.R_drew HO_8.out)
              have n3_ := a9_ (blk_drew BK101.out)
              have n4_ := a9_ (below_drew1 HB.out)
              clear HO_6 HO_7 HO_8 BK101 HB
              revert n0_ n1_ n2_ n3_ n4_; intro HO_6 HO_7 HO_8 BK101 HB
              have p120 : 0 ≤ (x10_2 : Int) := of_decide_eq_true (by first | (with_reducible assumption) | assumption)
              have q120 : x10_2 < (t111.length : Int) := of_decide_eq_true (by first | (with_reducible assumption) | assumption)
              obtain ⟨ad120, e120, hx120_0, hx120_1⟩ := at_T46 (Kd.R_reads' HO_8.out).2.2 x10_2 p120 q120
              cases e120
              replace p120 := eq_true p120
              replace q120 := eq_true q120
              have p121 : 0 ≤ (x9_1 : Int) := of_decide_eq_true (by first | (with_reducible assumption) | assumption)
              have q121 : x9_1 < (t108.length : Int) := of_decide_eq_true (by first | (with_reducible assumption) | assumption)
              obtain ⟨ad121, e121, hx121_0, hx121_1⟩ := at_T46 (Kd.R_reads' HO_7.out).2.2 x9_1 p121 q121
              cases e121
              replace p121 := eq_true p121
              replace q121 := eq_true q121
              have p122 : 0 ≤ (x9_1 : Int) := of_decide_eq_true (by first | (with_reducible assumption) | assumption)
              have q122 : x9_1 < (t108.length : Int) := of_decide_eq_true (by first | (with_reducible assumption) | assumption)
              obtain ⟨ad122, e122, hx122_0, hx122_1⟩ := at_T46 (Kd.R_reads' HO_7.out).2.2 x9_1 p122 q122
              obtain rfl : ad121 = ad122 := (by injection e122)
              replace p122 := eq_true p122
              replace q122 := eq_true q122
              have p123 : 0 ≤ (((rd_T46 t108 x9_1).f1) : Int) := of_decide_eq_true (by first | (with_reducible assumption) | assumption)
              have q123 : ((rd_T46 t108 x9_1).f1) < (l0_0.length : Int) := of_decide_eq_true (by first | (with_reducible assumption) | assumption)
              obtain ⟨ad123, e123, hx123_0, hx123_1, hx123_2, hx123_3, hx123_4, hx123_5, hx123_6⟩ := at_T26 HR0_0.out ((rd_T46 t108 x9_1).f1) p123 q123
              have hw123_6 := hx123_6
              have hw123_5 := hx123_5
              have hw123_4 := hx123_4
              have hw123_3 := hx123_3
              have hw123_2 := hx123_2
              have hw123_1 := hx123_1
              have hw123_0 := hx123_0
              cases e123
              replace hx123_0 := hb9 HB.out hx123_0
              replace hx123_1 := hb9 HB.out hx123_1
              replace hx123_2 := hb9 HB.out hx123_2
              replace hx123_3 := hb9 HB.out hx123_3
              replace hx123_4 := hb9 HB.out hx123_4
              replace hx123_5 := hb9 HB.out hx123_5
              replace hx123_6 := hb9 HB.out hx123_6
              replace p123 := eq_true p123
              replace q123 := eq_true q123
              refine start_ (n := 23) (S := fun w' => w'.cell? ⟨gb101, 0, none⟩ = some (.slice (some ad123) l0_0.length c0_0) ∧ w'.cell? ⟨gb101, 1, none⟩ = some (.slice A0_1 l0_1.length c0_1) ∧ w'.cell? ⟨gb101, 2, none⟩ = some (.slice A0_2 l0_2.length c0_2) ∧ w'.cell? ⟨gb101, 3, none⟩ = some (.slice A0_3 l0_3.length c0_3) ∧ w'.cell? ⟨gb101, 4, none⟩ = some (.slice A0_4 l0_4.length c0_4) ∧ w'.cell? ⟨gb101, 5, none⟩ = some (.slice A0_5 l0_5.length c0_5) ∧ w'.cell? ⟨gb101, 6, none⟩ = some (.slice A0_6 l0_6.length c0_6) ∧ w'.cell? (ad120.add ((x10_2).toNat * 2)) = some (.int .i64 ((rd_T46 t111 x10_2).f0)) ∧ w'.cell? ⟨(ad120.add ((x10_2).toNat * 2)).block, (ad120.add ((x10_2).toNat * 2)).off + 1, none⟩ = some (.int .i64 ((rd_T46 t111 x10_2).f1)) ∧ w'.cell? (ad121.add ((x9_1).toNat * 2)) = some (.int .i64 ((rd_T46 t108 x9_1).f0)) ∧ w'.cell? ⟨(ad121.add ((x9_1).toNat * 2)).block, (ad121.add ((x9_1).toNat * 2)).off + 1, none⟩ = some (.int .i64 ((rd_T46 t108 x9_1).f1)) ∧ w'.cell? (ad121.add ((x9_1).toNat * 2)) = some (.int .i64 ((rd_T46 t108 x9_1).f0)) ∧ w'.cell? ⟨(ad121.add ((x9_1).toNat * 2)).block, (ad121.add ((x9_1).toNat * 2)).off + 1, none⟩ = some (.int .i64 ((rd_T46 t108 x9_1).f1)) ∧ w'.cell? (ad123.add ((((rd_T46 t108 x9_1).f1)).toNat * 7)) = some (.int .i64 ((rd_T26 l0_0 ((rd_T46 t108 x9_1).f1)).f0)) ∧ w'.cell? ⟨(ad123.add ((((rd_T46 t108 x9_1).f1)).toNat * 7)).block, (ad123.add ((((rd_T46 t108 x9_1).f1)).toNat * 7)).off + 1, none⟩ = some (.int .i64 ((rd_T26 l0_0 ((rd_T46 t108 x9_1).f1)).f1)) ∧ w'.cell? ⟨(ad123.add ((((rd_T46 t108 x9_1).f1)).toNat * 7)).block, (ad123.add ((((rd_T46 t108 x9_1).f1)).toNat * 7)).off + 2, none⟩ = some (.int .i64 ((rd_T26 l0_0 ((rd_T46 t108 x9_1).f1)).f2)) ∧ w'.cell? ⟨(ad123.add ((((rd_T46 t108 x9_1).f1)).toNat * 7)).block, (ad123.add ((((rd_T46 t108 x9_1).f1)).toNat * 7)).off + 3, none⟩ = some (.int .i64 ((rd_T26 l0_0 ((rd_T46 t108 x9_1).f1)).f3)) ∧ w'.cell? ⟨(ad123.add ((((rd_T46 t108 x9_1).f1)).toNat * 7)).block, (ad123.add ((((rd_T46 t108 x9_1).f1)).toNat * 7)).off + 4, none⟩ = some (.bool ((rd_T26 l0_0 ((rd_T46 t108 x9_1).f1)).f4)) ∧ w'.cell? ⟨(ad123.add ((((rd_T46 t108 x9_1).f1)).toNat * 7)).block, (ad123.add ((((rd_T46 t108 x9_1).f1)).toNat * 7)).off + 5, none⟩ = some (.bool ((rd_T26 l0_0 ((rd_T46 t108 x9_1).f1)).f5)) ∧ w'.cell? ⟨(ad123.add ((((rd_T46 t108 x9_1).f1)).toNat * 7)).block, (ad123.add ((((rd_T46 t108 x9_1).f1)).toNat * 7)).off + 6, none⟩ = some (.bool ((rd_T26 l0_0 ((rd_T46 t108 x9_1).f1)).f6))) (ds := []) #[o9, o9, o9, o9, o9, o9, o9, o9, o9, o9, o9, o9, o9, o9, o9, o9, o9, o9, o9, o9, o9, o9, o9] (by kernel_rfl) rfl rfl ⟨(blk_cell BK101.out 0).trans rfl, (blk_cell BK101.out 1).trans rfl, (blk_cell BK101.out 2).trans rfl, (blk_cell BK101.out 3).trans rfl, (blk_cell BK101.out 4).trans rfl, (blk_cell BK101.out 5).trans rfl, (blk_cell BK101.out 6).trans rfl, hx120_0, hx120_1, hx121_0, hx121_1, hx122_0, hx122_1, ((HB.out.cell (World.block_lt_of_cell? w _ hw123_0)).trans hw123_0), ((HB.out.cell (World.block_lt_of_cell? w _ hw123_1)).trans hw123_1), ((HB.out.cell (World.block_lt_of_cell? w _ hw123_2)).trans hw123_2), ((HB.out.cell (World.block_lt_of_cell? w _ hw123_3)).trans hw123_3), ((HB.out.cell (World.block_lt_of_cell? w _ hw123_4)).trans hw123_4), ((HB.out.cell (World.block_lt_of_cell? w _ hw123_5)).trans hw123_5), ((HB.out.cell (World.block_lt_of_cell? w _ hw123_6)).trans hw123_6)⟩ (fun hHeld => ?_); refine with_tabW cupolaref15_Aob.tab11 cupolaref15_Aob.bits11 (fun HT_ HW_ => ?_)
              generalize wr.drew = w33 at HO_6 HO_7 HO_8 BK101 HB hx120_0 hx120_1 hx121_0 hx121_1 hx122_0 hx122_1 hx123_0 hx123_1 hx123_2 hx123_3 hx123_4 hx123_5 hx123_6 hHeld ⊢
              refine pureA 0 (some 34) ?_ #[i9, o9, o9, o9, o9, o9, o9, o9, o9, o9, o9, o9, o9, o9, o9, o9, o9, o9, o9, o9, o9, o9, o9] rfl rfl (any_of HT_.out (by kernel_rfl)) ?_ ?_ ?_ ?_
              rotate_left
              ·intro w'; go_simp; with_reducible rfl
              rotate_left
              ·exact put9
              refine pureA 1 (some 35) ?_ #[i9, i9, o9, o9, o9, o9, o9, o9, o9, o9, o9, o9, o9, o9, o9, o9, o9, o9, o9, o9, o9, o9, o9] rfl rfl (any_of HT_.out (by kernel_rfl)) ?_ ?_ ?_ ?_
              rotate_left
              ·intro w'; go_simp; with_reducible rfl
              rotate_left
              ·exact put9
              refine pureA 2 (some 36) ?_ #[i9, i9, i9, o9, o9, o9, o9, o9, o9, o9, o9, o9, o9, o9, o9, o9, o9, o9, o9, o9, o9, o9, o9] rfl rfl (any_of HT_.out (by kernel_rfl)) ?_ ?_ ?_ ?_
              rotate_left
              ·intro w'; go_simp; with_reducible rfl
              rotate_left
              ·exact put9
              refine pureA 3 (some 37) ?_ #[i9, i9, i9, i9, o9, o9, o9, o9, o9, o9, o9, o9, o9, o9, o9, o9, o9, o9, o9, o9, o9, o9, o9] rfl rfl (any_of HT_.out (by kernel_rfl)) ?_ ?_ ?_ ?_
              rotate_left
              ·intro w'; go_simp; with_reducible rfl
              rotate_left
              ·exact put9
              refine pureA 5 (some 39) ?_ #[i9, i9, i9, i9, o9, i9, o9, o9, o9, o9, o9, o9, o9, o9, o9, o9, o9, o9, o9, o9, o9, o9, o9] rfl rfl (any_of HT_.out (by kernel_rfl)) ?_ ?_ ?_ ?_
              rotate_left
              ·intro w'; go_simp; with_reducible rfl
              rotate_left
              ·exact put9
              refine pureA 6 (some 40) ?_ #[i9, i9, i9, i9, o9, i9, i9, o9, o9, o9, o9, o9, o9, o9, o9, o9, o9, o9, o9, o9, o9, o9, o9] rfl rfl (any_of HT_.out (by kernel_rfl)) ?_ ?_ ?_ ?_
              rotate_left
              ·intro w'; go_simp; with_reducible rfl
              rotate_left
              ·exact put9
              refine pureA 7 (some 41) ?_ #[i9, i9, i9, i9, o9, i9, i9, i9, o9, o9, o9, o9, o9, o9, o9, o9, o9, o9, o9, o9, o9, o9, o9] rfl rfl (any_of HT_.out (by kernel_rfl)) ?_ ?_ ?_ ?_
              rotate_left
              ·intro w'; go_simp; with_reducible rfl
              rotate_left
              ·exact put9
              refine pureA 8 (some 42) ?_ #[i9, i9, i9, i9, o9, i9, i9, i9, i9, o9, o9, o9, o9, o9, o9, o9, o9, o9, o9, o9, o9, o9, o9] rfl rfl (any_of HT_.out (by kernel_rfl)) ?_ ?_ ?_ ?_
              rotate_left
              ·intro w'; go_simp; with_reducible rfl
              rotate_left
              ·exact put9
              refine take_ (i := 4) (N := some 38) (v := ?_) (a' := ?_) #[i9, i9, i9, i9, i9, i9, i9, i9, i9, o9, o9, o9, o9, o9, o9, o9, o9, o9, o9, o9, o9, o9, o9] rfl rfl (take_ofW HT_.out HW_.out (by kernel_rfl)) (fun _ _ _ h => h) (Or.inl ⟨by rfl, ?_⟩) hHeld ?_ ?_
              rotate_left
              ·rintro w' ⟨s0, s1, s2, s3, s4, s5, s6, s7, s8, s9, s10, s11, s12, s13, s14, s15, s16, s17, s18, s19⟩
               go_simp
               with_reducible rfl
              rotate_left
              ·exact put9
              refine take_ (i := 9) (N := some 43) (v := ?_) (a' := ?_) #[i9, i9, i9, i9, i9, i9, i9, i9, i9, i9, o9, o9, o9, o9, o9, o9, o9, o9, o9, o9, o9, o9, o9] rfl rfl (take_ofW HT_.out HW_.out (by kernel_rfl)) (fun _ _ _ h => h) (Or.inl ⟨by rfl, ?_⟩) hHeld ?_ ?_
              rotate_left
              ·rintro w' ⟨s0, s1, s2, s3, s4, s5, s6, s7, s8, s9, s10, s11, s12, s13, s14, s15, s16, s17, s18, s19⟩
               go_simp
               with_reducible rfl
              rotate_left
              ·exact put9
              refine pureA 10 (some 44) ?_ #[i9, i9, i9, i9, i9, i9, i9, i9, i9, i9, i9, o9, o9, o9, o9, o9, o9, o9, o9, o9, o9, o9, o9] rfl rfl (any_of HT_.out (by kernel_rfl)) ?_ ?_ ?_ ?_
              rotate_left
              ·intro w'; go_simp; with_reducible rfl
              rotate_left
              ·exact put9
              refine pureA 11 (some 45) ?_ #[i9, i9, i9, i9, i9, i9, i9, i9, i9, i9, i9, i9, o9, o9, o9, o9, o9, o9, o9, o9, o9, o9, o9] rfl rfl (any_of HT_.out (by kernel_rfl)) ?_ ?_ ?_ ?_
              rotate_left
              ·intro w'; go_simp; with_reducible rfl
              rotate_left
              ·exact put9
              refine pureA 12 (some 46) ?_ #[i9, i9, i9, i9, i9, i9, i9, i9, i9, i9, i9, i9, i9, o9, o9, o9, o9, o9, o9, o9, o9, o9, o9] rfl rfl (any_of HT_.out (by kernel_rfl)) ?_ ?_ ?_ ?_
              rotate_left
              ·intro w'; go_simp; with_reducible rfl
              rotate_left
              ·exact put9
              refine pureA 14 (some 48) ?_ #[i9, i9, i9, i9, i9, i9, i9, i9, i9, i9, i9, i9, i9, o9, i9, o9, o9, o9, o9, o9, o9, o9, o9] rfl rfl (any_of HT_.out (by kernel_rfl)) ?_ ?_ ?_ ?_
              rotate_left
              ·intro w'; go_simp; with_reducible rfl
              rotate_left
              ·exact put9
              refine pureA 15 (some 49) ?_ #[i9, i9, i9, i9, i9, i9, i9, i9, i9, i9, i9, i9, i9, o9, i9, i9, o9, o9, o9, o9, o9, o9, o9] rfl rfl (any_of HT_.out (by kernel_rfl)) ?_ ?_ ?_ ?_
              rotate_left
              ·intro w'; go_simp; with_reducible rfl
              rotate_left
              ·exact put9
              refine pureA 16 (some 50) ?_ #[i9, i9, i9, i9, i9, i9, i9, i9, i9, i9, i9, i9, i9, o9, i9, i9, i9, o9, o9, o9, o9, o9, o9] rfl rfl (any_of HT_.out (by kernel_rfl)) ?_ ?_ ?_ ?_
              rotate_left
              ·intro w'; go_simp; with_reducible rfl
              rotate_left
              ·exact put9
              refine pureA 17 (some 51) ?_ #[i9, i9, i9, i9, i9, i9, i9, i9, i9, i9, i9, i9, i9, o9, i9, i9, i9, i9, o9, o9, o9, o9, o9] rfl rfl (any_of HT_.out (by kernel_rfl)) ?_ ?_ ?_ ?_
              rotate_left
              ·intro w'; go_simp; with_reducible rfl
              rotate_left
              ·exact put9
              refine take_ (i := 13) (N := some 47) (v := ?_) (a' := ?_) #[i9, i9, i9, i9, i9, i9, i9, i9, i9, i9, i9, i9, i9, i9, i9, i9, i9, i9, o9, o9, o9, o9, o9] rfl rfl (take_ofW HT_.out HW_.out (by kernel_rfl)) (fun _ _ _ h => h) (Or.inl ⟨by rfl, ?_⟩) hHeld ?_ ?_
              rotate_left
              ·rintro w' ⟨s0, s1, s2, s3, s4, s5, s6, s7, s8, s9, s10, s11, s12, s13, s14, s15, s16, s17, s18, s19⟩
               go_simp
               with_reducible rfl
              rotate_left
              ·exact put9
              refine take_ (i := 18) (N := some 52) (v := ?_) (a' := ?_) #[i9, i9, i9, i9, i9, i9, i9, i9, i9, i9, i9, i9, i9, i9, i9, i9, i9, i9, i9, o9, o9, o9, o9] rfl rfl (take_ofW HT_.out HW_.out (by kernel_rfl)) (fun _ _ _ h => h) (Or.inl ⟨by rfl, ?_⟩) hHeld ?_ ?_
              rotate_left
              ·rintro w' ⟨s0, s1, s2, s3, s4, s5, s6, s7, s8, s9, s10, s11, s12, s13, s14, s15, s16, s17, s18, s19⟩
               go_simp
               with_reducible rfl
              rotate_left
              ·exact put9
              refine pureA 19 (some 53) ?_ #[i9, i9, i9, i9, i9, i9, i9, i9, i9, i9, i9, i9, i9, i9, i9, i9, i9, i9, i9, i9, o9, o9, o9] rfl rfl (any_of HT_.out (by kernel_rfl)) ?_ ?_ ?_ ?_
              rotate_left
              ·intro w'; go_simp; with_reducible rfl
              rotate_left
              ·exact put9
              refine take_ (i := 20) (N := some 54) (v := ?_) (a' := ?_) #[i9, i9, i9, i9, i9, i9, i9, i9, i9, i9, i9, i9, i9, i9, i9, i9, i9, i9, i9, i9, i9, o9, o9] rfl rfl (take_ofW HT_.out HW_.out (by kernel_rfl)) (fun _ _ _ h => h) (Or.inl ⟨by rfl, ?_⟩) hHeld ?_ ?_
              rotate_left
              ·rintro w' ⟨s0, s1, s2, s3, s4, s5, s6, s7, s8, s9, s10, s11, s12, s13, s14, s15, s16, s17, s18, s19⟩
               go_simp
               with_reducible rfl
              rotate_left
              ·exact put9
              refine one_ (i := 21) (N := some 55) #[i9, i9, i9, i9, i9, i9, i9, i9, i9, i9, i9, i9, i9, i9, i9, i9, i9, i9, i9, i9, i9, i9, o9] rfl rfl (one_of HT_.out (by kernel_rfl)) (by decide) (fun K hK => ?_)
              refine goes9 Try.func145 (by kernel_rfl) rfl #[.agg #[.int .i64 ((rd_T26 l0_0 ((rd_T46 t108 x9_1).f1)).f0), .int .i64 ((rd_T26 l0_0 ((rd_T46 t108 x9_1).f1)).f1), .int .i64 ((rd_T26 l0_0 ((rd_T46 t108 x9_1).f1)).f2), .int .i64 ((rd_T26 l0_0 ((rd_T46 t108 x9_1).f1)).f3), .bool ((rd_T26 l0_0 ((rd_T46 t108 x9_1).f1)).f4), .bool ((rd_T26 l0_0 ((rd_T46 t108 x9_1).f1)).f5), .bool ((rd_T26 l0_0 ((rd_T46 t108 x9_1).f1)).f6)]] (by rfl) rfl rfl ?_
              with_reducible refine (cupolaref15_acquires.calls ((rd_T26 l0_0 ((rd_T46 t108 x9_1).f1)).f0) ((rd_T26 l0_0 ((rd_T46 t108 x9_1).f1)).f1) ((rd_T26 l0_0 ((rd_T46 t108 x9_1).f1)).f2) ((rd_T26 l0_0 ((rd_T46 t108 x9_1).f1)).f3) ((rd_T26 l0_0 ((rd_T46 t108 x9_1).f1)).f4) ((rd_T26 l0_0 ((rd_T46 t108 x9_1).f1)).f5) ((rd_T26 l0_0 ((rd_T46 t108 x9_1).f1)).f6) false _ A25.out).mono ?_
              rintro e w34 ⟨rfl, hb⟩
              have HS7_ := (hb.cell (World.block_lt_of_cell? _ _ (hHeld.2.2.2.2.2.2.2.1))).trans (hHeld.2.2.2.2.2.2.2.1)
              have HS8_ := (hb.cell (World.block_lt_of_cell? _ _ (hHeld.2.2.2.2.2.2.2.2.1))).trans (hHeld.2.2.2.2.2.2.2.2.1)
              have HS9_ := (hb.cell (World.block_lt_of_cell? _ _ (hHeld.2.2.2.2.2.2.2.2.2.1))).trans (hHeld.2.2.2.2.2.2.2.2.2.1)
              have HS10_ := (hb.cell (World.block_lt_of_cell? _ _ (hHeld.2.2.2.2.2.2.2.2.2.2.1))).trans (hHeld.2.2.2.2.2.2.2.2.2.2.1)
              have HS11_ := (hb.cell (World.block_lt_of_cell? _ _ (hHeld.2.2.2.2.2.2.2.2.2.2.2.1))).trans (hHeld.2.2.2.2.2.2.2.2.2.2.2.1)
              have HS12_ := (hb.cell (World.block_lt_of_cell? _ _ (hHeld.2.2.2.2.2.2.2.2.2.2.2.2.1))).trans (hHeld.2.2.2.2.2.2.2.2.2.2.2.2.1)
              refine ⟨_, rfl, ?_⟩
              have n0_ := a9_ (Kd.R_below (rp9 HO_6.out) hb)
              have n1_ := a9_ (Kd.R_below (rp9 HO_7.out) hb)
              have n2_ := a9_ (Kd.R_below (rp9 HO_8.out) hb)
              have n3_ := a9_ (blk_below (kp9 BK101.out) hb)
              have n4_ := a9_ (below_step (bp9 HB.out) hb)
              clear HO_6 HO_7 HO_8 BK101 HB
              revert n0_ n1_ n2_ n3_ n4_; intro HO_6 HO_7 HO_8 BK101 HB
              (try clear hb)
              refine hK.out _ _ ⟨(blk_cell BK101.out 0).trans rfl, (blk_cell BK101.out 1).trans rfl, (blk_cell BK101.out 2).trans rfl, (blk_cell BK101.out 3).trans rfl, (blk_cell BK101.out 4).trans rfl, (blk_cell BK101.out 5).trans rfl, (blk_cell BK101.out 6).trans rfl, HS7_, HS8_, HS9_, HS10_, HS11_, HS12_, ((HB.out.cell (World.block_lt_of_cell? w _ hw123_0)).trans hw123_0), ((HB.out.cell (World.block_lt_of_cell? w _ hw123_1)).trans hw123_1), ((HB.out.cell (World.block_lt_of_cell? w _ hw123_2)).trans hw123_2), ((HB.out.cell (World.block_lt_of_cell? w _ hw123_3)).trans hw123_3), ((HB.out.cell (World.block_lt_of_cell? w _ hw123_4)).trans hw123_4), ((HB.out.cell (World.block_lt_of_cell? w _ hw123_5)).trans hw123_5), ((HB.out.cell (World.block_lt_of_cell? w _ hw123_6)).trans hw123_6)⟩ (fun hHeld => ?_)
              clear hK K
              refine norm_ (a' := ?_) ?_ ?_
              rotate_left
              ·show Act.put _ (some 55) _ = _
               exact put9
              refine pureA 22 (some 56) ?_ #[i9, i9, i9, i9, i9, i9, i9, i9, i9, i9, i9, i9, i9, i9, i9, i9, i9, i9, i9, i9, i9, i9, i9] rfl rfl (any_of HT_.out (by kernel_rfl)) ?_ ?_ ?_ ?_
              rotate_left
              ·intro w'; go_simp; with_reducible rfl
              rotate_left
              ·exact put9
              refine done_ (done_of HT_.out (by kernel_rfl)) ?_
              try go_wp2
              go_roundg k2
              case measure => have := HK1.out; have := HK2.out; omega
              case rel => exact ⟨(x6_2), (wrap64 (x10_2 + 1)), rs9, H', ⟨by have := HK1.out; have := HK2.out; omega⟩, ⟨rp9 HO_6.out⟩, ⟨rp9 HO_7.out⟩, ⟨rp9 HO_8.out⟩, ⟨kp9 BK101.out⟩, ⟨bp9 HB.out⟩⟩
            ·rw [if_neg c24] at H
             exact absurd H (by simp)
           ·rw [if_neg c23] at H
            exact absurd H (by simp)
          ·rw [if_neg c22] at H
           have c22b0 : (((rd_T46 t111 x10_2).f1) == ((rd_T46 t108 x9_1).f0)) = false := beq_eq_false_iff_ne.mpr c22
           have c22b1 : (((rd_T46 t111 x10_2).f1) != ((rd_T46 t108 x9_1).f0)) = true := bne_iff_ne.mpr c22
           have H' := a9_ H
           clear H
           obtain ⟨Ao35, co35, eo35⟩ := Kd.R_slice HO_8.out
           subst eo35
           try go_wp2
           have n0_ := a9_ (Kd.R_drew HO_6.out)
           have n1_ := a9_ (Kd.R_drew HO_7.out)
           have n2_ := a9_ (Kd.R_drew HO_8.out)
           have n3_ := a9_ (blk_drew BK101.out)
           have n4_ := a9_ (below_drew1 HB.out)
           clear HO_6 HO_7 HO_8 BK101 HB
           revert n0_ n1_ n2_ n3_ n4_; intro HO_6 HO_7 HO_8 BK101 HB
           have p120 : 0 ≤ (x10_2 : Int) := of_decide_eq_true (by first | (with_reducible assumption) | assumption)
           have q120 : x10_2 < (t111.length : Int) := of_decide_eq_true (by first | (with_reducible assumption) | assumption)
           obtain ⟨ad120, e120, hx120_0, hx120_1⟩ := at_T46 (Kd.R_reads' HO_8.out).2.2 x10_2 p120 q120
           cases e120
           replace p120 := eq_true p120
           replace q120 := eq_true q120
           have p121 : 0 ≤ (x9_1 : Int) := of_decide_eq_true (by first | (with_reducible assumption) | assumption)
           have q121 : x9_1 < (t108.length : Int) := of_decide_eq_true (by first | (with_reducible assumption) | assumption)
           obtain ⟨ad121, e121, hx121_0, hx121_1⟩ := at_T46 (Kd.R_reads' HO_7.out).2.2 x9_1 p121 q121
           cases e121
           replace p121 := eq_true p121
           replace q121 := eq_true q121
           refine start_ (n := 23) (S := fun w' => w'.cell? (ad120.add ((x10_2).toNat * 2)) = some (.int .i64 ((rd_T46 t111 x10_2).f0)) ∧ w'.cell? ⟨(ad120.add ((x10_2).toNat * 2)).block, (ad120.add ((x10_2).toNat * 2)).off + 1, none⟩ = some (.int .i64 ((rd_T46 t111 x10_2).f1)) ∧ w'.cell? (ad121.add ((x9_1).toNat * 2)) = some (.int .i64 ((rd_T46 t108 x9_1).f0)) ∧ w'.cell? ⟨(ad121.add ((x9_1).toNat * 2)).block, (ad121.add ((x9_1).toNat * 2)).off + 1, none⟩ = some (.int .i64 ((rd_T46 t108 x9_1).f1))) (ds := []) #[o9, o9, o9, o9, o9, o9, o9, o9, o9, o9, o9, o9, o9, o9, o9, o9, o9, o9, o9, o9, o9, o9, o9] (by kernel_rfl) rfl rfl ⟨hx120_0, hx120_1, hx121_0, hx121_1⟩ (fun hHeld => ?_); refine with_tabW cupolaref15_Aob.tab11 cupolaref15_Aob.bits11 (fun HT_ HW_ => ?_)
           generalize wr.drew = w36 at HO_6 HO_7 HO_8 BK101 HB hx120_0 hx120_1 hx121_0 hx121_1 hHeld ⊢
           refine pureA 0 (some 34) ?_ #[i9, o9, o9, o9, o9, o9, o9, o9, o9, o9, o9, o9, o9, o9, o9, o9, o9, o9, o9, o9, o9, o9, o9] rfl rfl (any_of HT_.out (by kernel_rfl)) ?_ ?_ ?_ ?_
           rotate_left
           ·intro w'; go_simp; with_reducible rfl
           rotate_left
           ·exact put9
           refine pureA 1 (some 35) ?_ #[i9, i9, o9, o9, o9, o9, o9, o9, o9, o9, o9, o9, o9, o9, o9, o9, o9, o9, o9, o9, o9, o9, o9] rfl rfl (any_of HT_.out (by kernel_rfl)) ?_ ?_ ?_ ?_
           rotate_left
           ·intro w'; go_simp; with_reducible rfl
           rotate_left
           ·exact put9
           refine pureA 2 (some 36) ?_ #[i9, i9, i9, o9, o9, o9, o9, o9, o9, o9, o9, o9, o9, o9, o9, o9, o9, o9, o9, o9, o9, o9, o9] rfl rfl (any_of HT_.out (by kernel_rfl)) ?_ ?_ ?_ ?_
           rotate_left
           ·intro w'; go_simp; with_reducible rfl
           rotate_left
           ·exact put9
           refine pureA 3 (some 37) ?_ #[i9, i9, i9, i9, o9, o9, o9, o9, o9, o9, o9, o9, o9, o9, o9, o9, o9, o9, o9, o9, o9, o9, o9] rfl rfl (any_of HT_.out (by kernel_rfl)) ?_ ?_ ?_ ?_
           rotate_left
           ·intro w'; go_simp; with_reducible rfl
           rotate_left
           ·exact put9
           refine pureA 5 (some 39) ?_ #[i9, i9, i9, i9, o9, i9, o9, o9, o9, o9, o9, o9, o9, o9, o9, o9, o9, o9, o9, o9, o9, o9, o9] rfl rfl (any_of HT_.out (by kernel_rfl)) ?_ ?_ ?_ ?_
           rotate_left
           ·intro w'; go_simp; with_reducible rfl
           rotate_left
           ·exact put9
           refine pureA 6 (some 40) ?_ #[i9, i9, i9, i9, o9, i9, i9, o9, o9, o9, o9, o9, o9, o9, o9, o9, o9, o9, o9, o9, o9, o9, o9] rfl rfl (any_of HT_.out (by kernel_rfl)) ?_ ?_ ?_ ?_
           rotate_left
           ·intro w'; go_simp; with_reducible rfl
           rotate_left
           ·exact put9
           refine pureA 7 (some 41) ?_ #[i9, i9, i9, i9, o9, i9, i9, i9, o9, o9, o9, o9, o9, o9, o9, o9, o9, o9, o9, o9, o9, o9, o9] rfl rfl (any_of HT_.out (by kernel_rfl)) ?_ ?_ ?_ ?_
           rotate_left
           ·intro w'; go_simp; with_reducible rfl
           rotate_left
           ·exact put9
           refine pureA 8 (some 42) ?_ #[i9, i9, i9, i9, o9, i9, i9, i9, i9, o9, o9, o9, o9, o9, o9, o9, o9, o9, o9, o9, o9, o9, o9] rfl rfl (any_of HT_.out (by kernel_rfl)) ?_ ?_ ?_ ?_
           rotate_left
           ·intro w'; go_simp; with_reducible rfl
           rotate_left
           ·exact put9
           refine take_ (i := 4) (N := some 38) (v := ?_) (a' := ?_) #[i9, i9, i9, i9, i9, i9, i9, i9, i9, o9, o9, o9, o9, o9, o9, o9, o9, o9, o9, o9, o9, o9, o9] rfl rfl (take_ofW HT_.out HW_.out (by kernel_rfl)) (fun _ _ _ h => h) (Or.inl ⟨by rfl, ?_⟩) hHeld ?_ ?_
           rotate_left
           ·rintro w' ⟨s0, s1, s2, s3⟩
            go_simp
            with_reducible rfl
           rotate_left
           ·exact put9
           refine take_ (i := 9) (N := some 43) (v := ?_) (a' := ?_) #[i9, i9, i9, i9, i9, i9, i9, i9, i9, i9, o9, o9, o9, o9, o9, o9, o9, o9, o9, o9, o9, o9, o9] rfl rfl (take_ofW HT_.out HW_.out (by kernel_rfl)) (fun _ _ _ h => h) (Or.inl ⟨by rfl, ?_⟩) hHeld ?_ ?_
           rotate_left
           ·rintro w' ⟨s0, s1, s2, s3⟩
            go_simp
            with_reducible rfl
           rotate_left
           ·exact put9
           refine pureA 10 (some 44) ?_ #[i9, i9, i9, i9, i9, i9, i9, i9, i9, i9, i9, o9, o9, o9, o9, o9, o9, o9, o9, o9, o9, o9, o9] rfl rfl (any_of HT_.out (by kernel_rfl)) ?_ ?_ ?_ ?_
           rotate_left
           ·intro w'; go_simp; with_reducible rfl
           rotate_left
           ·exact put9
           refine pureA 11 (some 45) ?_ #[i9, i9, i9, i9, i9, i9, i9, i9, i9, i9, i9, i9, o9, o9, o9, o9, o9, o9, o9, o9, o9, o9, o9] rfl rfl (any_of HT_.out (by kernel_rfl)) ?_ ?_ ?_ ?_
           rotate_left
           ·intro w'; go_simp; with_reducible rfl
           rotate_left
           ·exact put9
           refine pure_ (i := 12) (N := some 46) (v := undef) (a' := ?_) #[i9, i9, i9, i9, i9, i9, i9, i9, i9, i9, i9, i9, i9, o9, o9, o9, o9, o9, o9, o9, o9, o9, o9] rfl rfl (any_of HT_.out (by kernel_rfl)) (fun _ _ _ h => h) (Or.inr ⟨by rfl, rfl⟩) ?_ ?_
           rotate_left
           ·exact put9
           refine pure_ (i := 13) (N := some 47) (v := undef) (a' := ?_) #[i9, i9, i9, i9, i9, i9, i9, i9, i9, i9, i9, i9, i9, i9, o9, o9, o9, o9, o9, o9, o9, o9, o9] rfl rfl (any_of HT_.out (by kernel_rfl)) (fun _ _ _ h => h) (Or.inr ⟨by rfl, rfl⟩) ?_ ?_
           rotate_left
           ·exact put9
           refine pure_ (i := 14) (N := some 48) (v := undef) (a' := ?_) #[i9, i9, i9, i9, i9, i9, i9, i9, i9, i9, i9, i9, i9, i9, i9, o9, o9, o9, o9, o9, o9, o9, o9] rfl rfl (any_of HT_.out (by kernel_rfl)) (fun _ _ _ h => h) (Or.inr ⟨by rfl, rfl⟩) ?_ ?_
           rotate_left
           ·exact put9
           refine pure_ (i := 15) (N := some 49) (v := undef) (a' := ?_) #[i9, i9, i9, i9, i9, i9, i9, i9, i9, i9, i9, i9, i9, i9, i9, i9, o9, o9, o9, o9, o9, o9, o9] rfl rfl (any_of HT_.out (by kernel_rfl)) (fun _ _ _ h => h) (Or.inr ⟨by rfl, rfl⟩) ?_ ?_
           rotate_left
           ·exact put9
           refine pure_ (i := 16) (N := some 50) (v := undef) (a' := ?_) #[i9, i9, i9, i9, i9, i9, i9, i9, i9, i9, i9, i9, i9, i9, i9, i9, i9, o9, o9, o9, o9, o9, o9] rfl rfl (any_of HT_.out (by kernel_rfl)) (fun _ _ _ h => h) (Or.inr ⟨by rfl, rfl⟩) ?_ ?_
           rotate_left
           ·exact put9
           refine pure_ (i := 17) (N := some 51) (v := undef) (a' := ?_) #[i9, i9, i9, i9, i9, i9, i9, i9, i9, i9, i9, i9, i9, i9, i9, i9, i9, i9, o9, o9, o9, o9, o9] rfl rfl (any_of HT_.out (by kernel_rfl)) (fun _ _ _ h => h) (Or.inr ⟨by rfl, rfl⟩) ?_ ?_
           rotate_left
           ·exact put9
           refine pure_ (i := 18) (N := some 52) (v := undef) (a' := ?_) #[i9, i9, i9, i9, i9, i9, i9, i9, i9, i9, i9, i9, i9, i9, i9, i9, i9, i9, i9, o9, o9, o9, o9] rfl rfl (any_of HT_.out (by kernel_rfl)) (fun _ _ _ h => h) (Or.inr ⟨by rfl, rfl⟩) ?_ ?_
           rotate_left
           ·exact put9
           refine pure_ (i := 19) (N := some 53) (v := undef) (a' := ?_) #[i9, i9, i9, i9, i9, i9, i9, i9, i9, i9, i9, i9, i9, i9, i9, i9, i9, i9, i9, i9, o9, o9, o9] rfl rfl (any_of HT_.out (by kernel_rfl)) (fun _ _ _ h => h) (Or.inr ⟨by rfl, rfl⟩) ?_ ?_
           rotate_left
           ·exact put9
           refine pure_ (i := 20) (N := some 54) (v := undef) (a' := ?_) #[i9, i9, i9, i9, i9, i9, i9, i9, i9, i9, i9, i9, i9, i9, i9, i9, i9, i9, i9, i9, i9, o9, o9] rfl rfl (any_of HT_.out (by kernel_rfl)) (fun _ _ _ h => h) (Or.inr ⟨by rfl, rfl⟩) ?_ ?_
           rotate_left
           ·exact put9
           refine pure_ (i := 21) (N := some 55) (v := undef) (a' := ?_) #[i9, i9, i9, i9, i9, i9, i9, i9, i9, i9, i9, i9, i9, i9, i9, i9, i9, i9, i9, i9, i9, i9, o9] rfl rfl (any_of HT_.out (by kernel_rfl)) (fun _ _ _ h => h) (Or.inr ⟨by rfl, rfl⟩) ?_ ?_
           rotate_left
           ·exact put9
           refine pureA 22 (some 56) ?_ #[i9, i9, i9, i9, i9, i9, i9, i9, i9, i9, i9, i9, i9, i9, i9, i9, i9, i9, i9, i9, i9, i9, i9] rfl rfl (any_of HT_.out (by kernel_rfl)) ?_ ?_ ?_ ?_
           rotate_left
           ·intro w'; go_simp; with_reducible rfl
           rotate_left
           ·exact put9
           refine done_ (done_of HT_.out (by kernel_rfl)) ?_
           try go_wp2
           go_roundg k2
           case measure => have := HK1.out; have := HK2.out; omega
           case rel => exact ⟨(x6_2), (wrap64 (x10_2 + 1)), rs9, H', ⟨by have := HK1.out; have := HK2.out; omega⟩, ⟨rp9 HO_6.out⟩, ⟨rp9 HO_7.out⟩, ⟨rp9 HO_8.out⟩, ⟨kp9 BK101.out⟩, ⟨bp9 HB.out⟩⟩
         ·rw [if_neg c21] at H
          exact absurd H (by simp)
        ·rw [if_neg c20] at H
         exact absurd H (by simp)
       ·rw [if_neg c19] at H
        exact absurd H (by simp)
      ·rw [if_neg c18] at H
       have c18b0 : decide (x10_2 < (t111.length : Int)) = false := decide_eq_false c18
       clear c18
       have H' := a9_ H
       clear H
       obtain ⟨Ao37, co37, eo37⟩ := Kd.R_slice HO_8.out
       subst eo37
       go_wp2
       go_roundg k2
       case measure => have := HK1.out; have := HK2.out; omega
       case rel => exact ⟨(x6_2), (wrap64 (x9_1 + 1)), rs9, H', ⟨by have := HK1.out; have := HK2.out; omega⟩, ⟨rp9 HO_6.out⟩, ⟨rp9 HO_7.out⟩, ⟨rp9 HO_8.out⟩, ⟨kp9 BK101.out⟩, ⟨bp9 HB.out⟩⟩
   ·rw [if_neg c16] at H
    have c16b0 : decide (x9_1 < (t108.length : Int)) = false := decide_eq_false c16
    clear c16
    replace H := Option.bind_eq_some_iff.mp H
    obtain ⟨t114, A380, H⟩ := H
    have A38 := a9_ A380
    clear A380
    replace H := Option.bind_eq_some_iff.mp H
    obtain ⟨t117, A390, H⟩ := H
    have A39 := a9_ A390
    clear A390
    obtain rfl := Option.some.inj H
    obtain ⟨Ao40, co40, eo40⟩ := Kd.R_slice HO_7.out
    subst eo40
    try go_wp2
    have n0_ := a9_ (Kd.R_drew HO_6.out)
    have n1_ := a9_ (Kd.R_drew HO_7.out)
    have n2_ := a9_ (Kd.R_drew HO_8.out)
    have n3_ := a9_ (blk_drew BK101.out)
    have n4_ := a9_ (below_drew1 HB.out)
    clear HO_6 HO_7 HO_8 BK101 HB
    revert n0_ n1_ n2_ n3_ n4_; intro HO_6 HO_7 HO_8 BK101 HB
    obtain ⟨Ao42, co42, eo42⟩ := Kd.R_slice HO_6.out
    (first | subst eo42 | (injection eo42 with f1_ f2_ f3_; have f4_ := f1_.symm; have f5_ := f3_.symm; clear f1_ f2_ f3_; subst f4_; subst f5_))
    refine start_ (n := 8) (S := fun w' => w'.cell? ⟨gb101, 0, none⟩ = some (.slice A0_0 l0_0.length c0_0) ∧ w'.cell? ⟨gb101, 1, none⟩ = some (.slice A0_1 l0_1.length c0_1) ∧ w'.cell? ⟨gb101, 2, none⟩ = some (.slice A0_2 l0_2.length c0_2) ∧ w'.cell? ⟨gb101, 3, none⟩ = some (.slice A0_3 l0_3.length c0_3) ∧ w'.cell? ⟨gb101, 4, none⟩ = some (.slice A0_4 l0_4.length c0_4) ∧ w'.cell? ⟨gb101, 5, none⟩ = some (.slice A0_5 l0_5.length c0_5) ∧ w'.cell? ⟨gb101, 6, none⟩ = some (.slice A0_6 l0_6.length c0_6)) (ds := []) #[o9, o9, o9, o9, o9, o9, o9, o9] (by kernel_rfl) rfl rfl ⟨(blk_cell BK101.out 0).trans rfl, (blk_cell BK101.out 1).trans rfl, (blk_cell BK101.out 2).trans rfl, (blk_cell BK101.out 3).trans rfl, (blk_cell BK101.out 4).trans rfl, (blk_cell BK101.out 5).trans rfl, (blk_cell BK101.out 6).trans rfl⟩ (fun hHeld => ?_); refine with_tabW cupolaref15_Aob.tab13 cupolaref15_Aob.bits13 (fun HT_ HW_ => ?_)
    generalize wr.drew = w41 at HO_6 HO_7 HO_8 BK101 HB hHeld ⊢
    refine pureA 1 (some 65) ?_ #[o9, i9, o9, o9, o9, o9, o9, o9] rfl rfl (any_of HT_.out (by kernel_rfl)) ?_ ?_ ?_ ?_
    rotate_left
    ·intro w'; go_simp; with_reducible rfl
    rotate_left
    ·exact put9
    refine pureA 4 (some 68) ?_ #[o9, i9, o9, o9, i9, o9, o9, o9] rfl rfl (any_of HT_.out (by kernel_rfl)) ?_ ?_ ?_ ?_
    rotate_left
    ·intro w'; go_simp; with_reducible rfl
    rotate_left
    ·exact put9
    refine take_ (i := 0) (N := some 64) (v := ?_) (a' := ?_) #[i9, i9, o9, o9, i9, o9, o9, o9] rfl rfl (take_ofW HT_.out HW_.out (by kernel_rfl)) (fun _ _ _ h => h) (Or.inl ⟨by rfl, ?_⟩) hHeld ?_ ?_
    rotate_left
    ·rintro w' ⟨s0, s1, s2, s3, s4, s5, s6⟩
     go_simp
     with_reducible rfl
    rotate_left
    ·exact put9
    refine take_ (i := 2) (N := some 66) (v := ?_) (a' := ?_) #[i9, i9, i9, o9, i9, o9, o9, o9] rfl rfl (take_ofW HT_.out HW_.out (by kernel_rfl)) (fun _ _ _ h => h) (Or.inl ⟨by rfl, ?_⟩) hHeld ?_ ?_
    rotate_left
    ·rintro w' ⟨s0, s1, s2, s3, s4, s5, s6⟩
     go_simp
     with_reducible rfl
    rotate_left
    ·exact put9
    refine pureA 3 (some 67) ?_ #[i9, i9, i9, i9, i9, o9, o9, o9] rfl rfl (any_of HT_.out (by kernel_rfl)) ?_ ?_ ?_ ?_
    rotate_left
    ·intro w'; go_simp; with_reducible rfl
    rotate_left
    ·exact put9
    refine one_ (i := 5) (N := some 69) #[i9, i9, i9, i9, i9, i9, o9, o9] rfl rfl (one_of HT_.out (by kernel_rfl)) (by decide) (fun K hK => ?_)
    refine goes9 Try.func119 (by kernel_rfl) rfl #[.int .i64 (l0_0.length : Int), .slice Ao42 x6_1.length co42] (by rfl) rfl rfl ?_
    with_reducible refine (cupolaref05_Made.calls k1 (l0_0.length : Int) _ _ x6_1 t114 _ ?side1 ?side2 A38.out).mono ?_
    (case side1 => exact lp9 (Kd.R_reads' HO_6.out).2.2)
    (case side2 => exact (Kd.R_reads' HO_6.out).2.1)
    rintro e w43 ⟨v115, rfl, ho0, hb⟩
    refine ⟨_, rfl, ?_⟩
    have n0_ := a9_ (Kd.R_below (rp9 HO_6.out) hb)
    have n1_ := a9_ (Kd.R_below (rp9 HO_7.out) hb)
    have n2_ := a9_ (Kd.R_below (rp9 HO_8.out) hb)
    have n3_ := a9_ (Kd.R_lower ho0 (below_size (bp9 HB.out)))
    have n4_ := a9_ (blk_below (kp9 BK101.out) hb)
    have n5_ := a9_ (below_step (bp9 HB.out) hb)
    clear HO_6 HO_7 HO_8 BK101 HB
    revert n0_ n1_ n2_ n3_ n4_ n5_; intro HO_6 HO_7 HO_8 HO116 BK101 HB
    (try clear hb)
    (try clear ho0)
    obtain ⟨Ao44, co44, eo44⟩ := Kd.R_slice HO116.out
    (first | subst eo44 | (injection eo44 with f1_ f2_ f3_; have f4_ := f1_.symm; have f5_ := f3_.symm; clear f1_ f2_ f3_; subst f4_; subst f5_))
    refine hK.out _ _ ⟨(blk_cell BK101.out 0).trans rfl, (blk_cell BK101.out 1).trans rfl, (blk_cell BK101.out 2).trans rfl, (blk_cell BK101.out 3).trans rfl, (blk_cell BK101.out 4).trans rfl, (blk_cell BK101.out 5).trans rfl, (blk_cell BK101.out 6).trans rfl⟩ (fun hHeld => ?_)
    clear hK K
    refine norm_ (a' := ?_) ?_ ?_
    rotate_left
    ·show Act.put _ (some 69) _ = _
     exact put9
    refine one_ (i := 6) (N := some 70) #[i9, i9, i9, i9, i9, i9, i9, o9] rfl rfl (one_of HT_.out (by kernel_rfl)) (by decide) (fun K hK => ?_)
    refine goes9 Try.func85 (by kernel_rfl) rfl #[.agg #[.slice A0_0 l0_0.length c0_0, .slice A0_1 l0_1.length c0_1, .slice A0_2 l0_2.length c0_2, .slice A0_3 l0_3.length c0_3, .slice A0_4 l0_4.length c0_4, .slice A0_5 l0_5.length c0_5, .slice A0_6 l0_6.length c0_6], .slice Ao44 t114.length co44] (by rfl) rfl rfl ?_
    with_reducible refine (cupolaref14_Memory.calls k1 _ _ l0_0 _ _ l0_1 _ _ l0_2 _ _ l0_3 _ _ l0_4 _ _ l0_5 _ _ l0_6 _ _ t114 t117 _ ?side1 ?side2 ?side3 ?side4 ?side5 ?side6 ?side7 ?side8 ?side9 ?side10 ?side11 ?side12 ?side13 ?side14 ?side15 ?side16 A39.out).mono ?_
    (case side1 => exact cp9 HR0_0.out HB.out)
    (case side2 => exact HC0_0.out)
    (case side3 => exact cp9 HR0_1.out HB.out)
    (case side4 => exact HC0_1.out)
    (case side5 => exact cp9 HR0_2.out HB.out)
    (case side6 => exact HC0_2.out)
    (case side7 => exact cp9 HR0_3.out HB.out)
    (case side8 => exact HC0_3.out)
    (case side9 => exact cp9 HR0_4.out HB.out)
    (case side10 => exact HC0_4.out)
    (case side11 => exact cp9 HR0_5.out HB.out)
    (case side12 => exact HC0_5.out)
    (case side13 => exact cp9 HR0_6.out HB.out)
    (case side14 => exact HC0_6.out)
    (case side15 => exact lp9 (Kd.R_reads' HO116.out).2.2)
    (case side16 => exact (Kd.R_reads' HO116.out).2.1)
    rintro e w45 ⟨v118, rfl, ho0, hb⟩
    refine ⟨_, rfl, ?_⟩
    have n0_ := a9_ (Kd.R_below (rp9 HO_6.out) hb)
    have n1_ := a9_ (Kd.R_below (rp9 HO_7.out) hb)
    have n2_ := a9_ (Kd.R_below (rp9 HO_8.out) hb)
    have n3_ := a9_ (Kd.R_elder' (rp9 HO116.out) (Kd.R_base ho0) hb)
    have n4_ := a9_ (Kd.R_lower (Kd.R_new' ho0 (Kd.R_lt (rp9 HO116.out))) (below_size (bp9 HB.out)))
    have n5_ := a9_ (blk_below (kp9 BK101.out) hb)
    have n6_ := a9_ (below_step (bp9 HB.out) hb)
    clear HO_6 HO_7 HO_8 HO116 BK101 HB
    revert n0_ n1_ n2_ n3_ n4_ n5_ n6_; intro HO_6 HO_7 HO_8 HO116 HO119 BK101 HB
    (try clear hb)
    (try clear ho0)
    refine hK.out _ _ ⟨(blk_cell BK101.out 0).trans rfl, (blk_cell BK101.out 1).trans rfl, (blk_cell BK101.out 2).trans rfl, (blk_cell BK101.out 3).trans rfl, (blk_cell BK101.out 4).trans rfl, (blk_cell BK101.out 5).trans rfl, (blk_cell BK101.out 6).trans rfl⟩ (fun hHeld => ?_)
    clear hK K
    refine norm_ (a' := ?_) ?_ ?_
    rotate_left
    ·show Act.put _ (some 70) _ = _
     exact put9
    refine pureA 7 (some 4) ?_ #[i9, i9, i9, i9, i9, i9, i9, i9] rfl rfl (any_of HT_.out (by kernel_rfl)) ?_ ?_ ?_ ?_
    rotate_left
    ·intro w'; go_simp; with_reducible rfl
    rotate_left
    ·exact put9
    refine done_ (done_of HT_.out (by kernel_rfl)) ?_
    try go_wp2
    go_ret
    exact ⟨_, rt9, by (with_reducible repeat (first | apply Kd.R_alloc | apply Kd.R_drewN | apply Kd.R_drew)); exact Kd.R_mono HO119.out (fun _ hk => trivial), bp9 HB.out⟩
end Go.Proofs.Ytbamkkdikeedoaa.G
