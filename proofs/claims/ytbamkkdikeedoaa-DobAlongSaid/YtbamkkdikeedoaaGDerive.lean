-- Written by drive.py, a program of this seat's session, out of the translation.
import Derived.Test.YtbamkkdikeedoaaG0
import Derived.Test.YtbamkkdikeedoaaHandInner
import Derived.Test.YtbamkkdikeedoaaHandRel
import Derived.Test.YtbamkkdikeedoaaHandCz
namespace Go.Proofs.Ytbamkkdikeedoaa.G
open Go.RowKit Go.Proofs.YtbamkkdikeedoaaW.PrintWords Go.Proofs.YtbamkkdikeedoaaW.PrintLast Go.Proofs.YtbamkkdikeedoaaW.PrintMore
set_option linter.unusedVariables false
set_option linter.unusedSimpArgs false
def derive_Within.f (l0_0 : List (S26)) (l0_1 : List Int) (l0_2 : List Int) (l0_3 : List Int) (l0_4 : List Int) (l0_5 : List Int) (l0_6 : List (List Int)) (l1 : List Int) : Option (List Int) := (exec_Inner.f l0_0 l0_1 l0_2 l0_3 l0_4 l0_5 l0_6).bind fun t102 => ((rel_And.f l1 t102).bind fun t105 => (some t105))
set_option maxHeartbeats 8000000 in
set_option maxRecDepth 100000 in
theorem derive_Within.calls (A0_0 : Option Addr) (c0_0 : Nat) (l0_0 : List (S26)) (A0_1 : Option Addr) (c0_1 : Nat) (l0_1 : List Int) (A0_2 : Option Addr) (c0_2 : Nat) (l0_2 : List Int) (A0_3 : Option Addr) (c0_3 : Nat) (l0_3 : List Int) (A0_4 : Option Addr) (c0_4 : Nat) (l0_4 : List Int) (A0_5 : Option Addr) (c0_5 : Nat) (l0_5 : List Int) (A0_6 : Option Addr) (c0_6 : Nat) (l0_6 : List (List Int)) (A1 : Option Addr) (c1 : Nat) (l1 : List Int) (r : List Int) (w : World) (hr0_0 : Kd.C k26 w A0_0 l0_0.length l0_0) (hc0_0 : l0_0.length ≤ c0_0) (hr0_1 : Kd.C (Kd.int .u32) w A0_1 l0_1.length l0_1) (hc0_1 : l0_1.length ≤ c0_1) (hr0_2 : Kd.C (Kd.int .u32) w A0_2 l0_2.length l0_2) (hc0_2 : l0_2.length ≤ c0_2) (hr0_3 : Kd.C (Kd.int .u32) w A0_3 l0_3.length l0_3) (hc0_3 : l0_3.length ≤ c0_3) (hr0_4 : Kd.C (Kd.int .u32) w A0_4 l0_4.length l0_4) (hc0_4 : l0_4.length ≤ c0_4) (hr0_5 : Kd.C (Kd.int .u32) w A0_5 l0_5.length l0_5) (hc0_5 : l0_5.length ≤ c0_5) (hr0_6 : Kd.C (Kd.slice 2 (Kd.int .i64)) w A0_6 l0_6.length l0_6) (hc0_6 : l0_6.length ≤ c0_6) (hr1 : Kd.C (Kd.int .u32) w A1 l1.length l1) (hc1 : l1.length ≤ c1) (h : derive_Within.f l0_0 l0_1 l0_2 l0_3 l0_4 l0_5 l0_6 l1 = some r) :
  Calls Try.prog 136 #[.agg #[.slice A0_0 l0_0.length c0_0, .slice A0_1 l0_1.length c0_1, .slice A0_2 l0_2.length c0_2, .slice A0_3 l0_3.length c0_3, .slice A0_4 l0_4.length c0_4, .slice A0_5 l0_5.length c0_5, .slice A0_6 l0_6.length c0_6], .slice A1 l1.length c1] w fun e w' => ∃ v0_ : Value, e = .returned (v0_) ∧ Kd.R (Kd.int .u32) 52 w' w.heap.size (fun _ => True) v0_ r ∧ Below w.heap.size w w' := by
 have hu31 := Try.underlying31
 have HR0_0 := a9_ hr0_0
 have HC0_0 := a9_ hc0_0
 clear hr0_0 hc0_0
 have HR0_1 := a9_ hr0_1
 have HC0_1 := a9_ hc0_1
 clear hr0_1 hc0_1
 have HR0_2 := a9_ hr0_2
 have HC0_2 := a9_ hc0_2
 clear hr0_2 hc0_2
 have HR0_3 := a9_ hr0_3
 have HC0_3 := a9_ hc0_3
 clear hr0_3 hc0_3
 have HR0_4 := a9_ hr0_4
 have HC0_4 := a9_ hc0_4
 clear hr0_4 hc0_4
 have HR0_5 := a9_ hr0_5
 have HC0_5 := a9_ hc0_5
 clear hr0_5 hc0_5
 have HR0_6 := a9_ hr0_6
 have HC0_6 := a9_ hc0_6
 clear hr0_6 hc0_6
 have HR1 := a9_ hr1
 have HC1 := a9_ hc1
 clear hr1 hc1
 have HB := a9_ (Below.refl w.heap.size w)
 have H : ((exec_Inner.f l0_0 l0_1 l0_2 l0_3 l0_4 l0_5 l0_6).bind fun t102 => ((rel_And.f l1 t102).bind fun t105 => (some t105))) = some r := h
 clear h
 replace H := Option.bind_eq_some_iff.mp H
 obtain ⟨t102, A30, H⟩ := H
 have A3 := a9_ A30
 clear A30
 replace H := Option.bind_eq_some_iff.mp H
 obtain ⟨t105, A40, H⟩ := H
 have A4 := a9_ A40
 clear A40
 obtain rfl := Option.some.inj H
 go_enter Try.func136, Try.ntmps136
 go_wp2_with (first | ((with_reducible refine gate_dst (N := 2) rfl ?_); refine box9 (N := 2) (cs := #[.slice A0_0 l0_0.length c0_0, .slice A0_1 l0_1.length c0_1, .slice A0_2 l0_2.length c0_2, .slice A0_3 l0_3.length c0_3, .slice A0_4 l0_4.length c0_4, .slice A0_5 l0_5.length c0_5, .slice A0_6 l0_6.length c0_6]) (t := 31) ?_; intro gb101 hg w5 hbox hb; have n0_ := a9_ (below_step (bp9 HB.out) hb); have n1_ := a9_ (hbox); have n2_ := a9_ ((by rw [hg]; exact (below_size (bp9 HB.out)) : w.heap.size ≤ gb101)); have n3_ := n2_; clear HB; have HB := n0_; have BK101 := n1_; have GW101 := n2_; have GE101 := n3_; clear n0_ n1_ n2_ n3_; clear hb hbox hg; obtain ⟨hcz6_0, hcz6_1, hcz6_2, hcz6_3, hcz6_4, hcz6_5, hcz6_6, hfz6_0, hfz6_1, hfz6_2, hfz6_3, hfz6_4, hfz6_5, hfz6_6⟩ := cz7 BK101.out) | ((with_reducible refine gate_callee (f := 153) rfl ?_); refine goesL9 (some 7) rfl rfl Try.func153 (by kernel_rfl) rfl #[.agg #[.slice A0_0 l0_0.length c0_0, .slice A0_1 l0_1.length c0_1, .slice A0_2 l0_2.length c0_2, .slice A0_3 l0_3.length c0_3, .slice A0_4 l0_4.length c0_4, .slice A0_5 l0_5.length c0_5, .slice A0_6 l0_6.length c0_6]] rfl ?_; (with_reducible refine (exec_Inner.calls _ _ l0_0 _ _ l0_1 _ _ l0_2 _ _ l0_3 _ _ l0_4 _ _ l0_5 _ _ l0_6 t102 _ ?side1 ?side2 ?side3 ?side4 ?side5 ?side6 ?side7 ?side8 ?side9 ?side10 ?side11 ?side12 ?side13 ?side14 A3.out).mono ?_); (case side1 => exact cp9 HR0_0.out HB.out); (case side2 => exact HC0_0.out); (case side3 => exact cp9 HR0_1.out HB.out); (case side4 => exact HC0_1.out); (case side5 => exact cp9 HR0_2.out HB.out); (case side6 => exact HC0_2.out); (case side7 => exact cp9 HR0_3.out HB.out); (case side8 => exact HC0_3.out); (case side9 => exact cp9 HR0_4.out HB.out); (case side10 => exact HC0_4.out); (case side11 => exact cp9 HR0_5.out HB.out); (case side12 => exact HC0_5.out); (case side13 => exact cp9 HR0_6.out HB.out); (case side14 => exact HC0_6.out); rintro e w7 ⟨v103, rfl, ho0, hb⟩; refine ⟨_, rfl, ?_⟩; have n0_ := a9_ (Kd.R_lower ho0 (below_size (bp9 HB.out))); have n1_ := a9_ (blk_below (kp9 BK101.out) hb); have n2_ := a9_ (below_step (bp9 HB.out) hb); clear BK101; clear HB; have HO104 := n0_; have BK101 := n1_; have HB := n2_; clear n0_ n1_ n2_; (try clear hb); (try clear ho0); obtain ⟨Ao8, co8, eo8⟩ := Kd.R_slice HO104.out; subst eo8) | ((with_reducible refine gate_callee (f := 60) rfl ?_); refine goesL9 (some 8) rfl rfl Try.func60 (by kernel_rfl) rfl #[.slice A1 l1.length c1, .slice Ao8 t102.length co8] rfl ?_; (with_reducible refine (rel_And.calls _ _ l1 _ _ t102 t105 _ ?side1 ?side2 ?side3 ?side4 A4.out).mono ?_); (case side1 => exact cp9 HR1.out HB.out); (case side2 => exact HC1.out); (case side3 => exact lp9 (Kd.R_reads' HO104.out).2.2); (case side4 => exact (Kd.R_reads' HO104.out).2.1); rintro e w9 ⟨v106, rfl, ho0, hb⟩; refine ⟨_, rfl, ?_⟩; have n0_ := a9_ (Kd.R_elder' (rp9 HO104.out) (Kd.R_base ho0) hb); have n1_ := a9_ (Kd.R_lower (Kd.R_new' ho0 (Kd.R_lt (rp9 HO104.out))) (below_size (bp9 HB.out))); have n2_ := a9_ (blk_below (kp9 BK101.out) hb); have n3_ := a9_ (below_step (bp9 HB.out) hb); clear HO104; clear BK101; clear HB; have HO104 := n0_; have HO107 := n1_; have BK101 := n2_; have HB := n3_; clear n0_ n1_ n2_ n3_; (try clear hb); (try clear ho0)))
 go_ret
 exact ⟨_, rt9, by (with_reducible repeat (first | apply Kd.R_alloc | apply Kd.R_drewN | apply Kd.R_drew)); exact Kd.R_mono HO107.out (fun _ hk => trivial), bp9 HB.out⟩
end Go.Proofs.Ytbamkkdikeedoaa.G
