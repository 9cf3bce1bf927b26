-- Written by drive.py, a program of this seat's session, out of the translation.
import Derived.Test.YtbamkkdikeedoaaG0
import Derived.Test.YtbamkkdikeedoaaGCupolalaw11
import Derived.Test.YtbamkkdikeedoaaGRel
import Derived.Test.YtbamkkdikeedoaaGSource
import Derived.Test.YtbamkkdikeedoaaHandMade
import Derived.Test.YtbamkkdikeedoaaHandSource
import Derived.Test.YtbamkkdikeedoaaHandCz
namespace Go.Proofs.Ytbamkkdikeedoaa.G
open Go.RowKit Go.Proofs.YtbamkkdikeedoaaW.PrintWords Go.Proofs.YtbamkkdikeedoaaW.PrintLast Go.Proofs.YtbamkkdikeedoaaW.PrintMore
attribute [local go_sem] max2_int min2_int max_two min_two max_three min_three max_four min_four   -- for this text's walks alone
set_option linter.unusedVariables false
set_option linter.unusedSimpArgs false

/-! ### cupolalaw11_SourceRf: function 10 -/
theorem cupolalaw11_SourceRf.idx (w : World) (a : Addr) (k : IntKind) (i : Int) : (Instr.indexAt 71 (.pointer (some a)) (.int k i)).run Try.prog w = if 0 ≤ i ∧ i < 24 then .ok (.pointer (some (a.add i.toNat))) w else (boundsPanic k i 24 .index).run Try.prog w := by
 have h3 : Try.prog.arrayLen 71 = 24 := by unfold Program.arrayLen; rw [Try.underlying71]
 have h4 : Try.prog.elem 71 = 3 := by unfold Program.elem; rw [Try.underlying71]
 have hs : (Go.sizeOf 3).run Try.prog w = .ok 1 w := by kernel_rfl
 rw [run_indexAt_array (h := by rw [h3, h4]; exact Try.underlying71), h3, h4, hs]
 simp only [Result.andThen_ok, Nat.mul_one]
 rfl
attribute [local go_sem] cupolalaw11_SourceRf.idx
theorem cupolalaw11_SourceRf.row {w : World} {g base : Nat} {l : List Int} (h : w.heap[g]? = some (.cells #[.int .i64 0, .int .i64 0, .int .i64 0, .int .i64 0, .int .i64 0, .int .i64 0, .int .i64 0, .int .i64 0, .int .i64 0, .int .i64 0, .int .i64 0, .int .i64 0, .int .i64 0, .int .i64 0, .int .i64 0, .int .i64 0, .int .i64 0, .int .i64 0, .int .i64 0, .int .i64 0, .int .i64 0, .int .i64 0, .int .i64 0, .int .i64 0] 71 (0, 0))) (hb : base ≤ g) (hl : l = List.replicate 24 0) : Kd.R (Kd.int .i64) 71 w base (fun _ => True) (.slice (some ⟨g, 0, none⟩) 24 24) l := by
 subst hl
 refine Kd.R_of_own (enc := Value.int .i64) ⟨rfl, .inr ⟨g, 24, _, rfl, hb, h, Nat.le_refl _, by decide, rfl, ?_⟩⟩ (fun _ _ => trivial)
 rfl
mutual
def cupolalaw11_SourceRf.l0 : Nat → List (S26) → Bool → List Int → List (S46) → List Int → Int → Option (Bool)
 | 0, _, _, _, _, _, _ => none
 | k + 1, x0, x7, x10, x11, x12, x13 => if x13 < (x11.length : Int) then (if 0 ≤ x13 then (if 0 ≤ ((rd_T46 x11 x13).f0) then (if ((rd_T46 x11 x13).f0) < (x0.length : Int) then (if ((rd_T26 x0 ((rd_T46 x11 x13).f0)).f1) = 2 then (if 0 ≤ ((rd_T46 x11 x13).f1) then (if ((rd_T46 x11 x13).f1) < (x0.length : Int) then (if ((rd_T26 x0 ((rd_T46 x11 x13).f1)).f1) = 1 then (if ((rd_T26 x0 ((rd_T46 x11 x13).f0)).f2) = ((rd_T26 x0 ((rd_T46 x11 x13).f1)).f2) then (cupolalaw11_SourceRf.j1 k x0 x7 x10 x11 x12 x13 ((rd_T46 x11 x13).f1) (((rd_T26 x0 ((rd_T46 x11 x13).f0)).f3) != ((rd_T26 x0 ((rd_T46 x11 x13).f1)).f3))) else (cupolalaw11_SourceRf.j1 k x0 x7 x10 x11 x12 x13 ((rd_T46 x11 x13).f1) true)) else (cupolalaw11_SourceRf.j1 k x0 x7 x10 x11 x12 x13 ((rd_T46 x11 x13).f1) true)) else (none)) else (none)) else (cupolalaw11_SourceRf.j1 k x0 x7 x10 x11 x12 x13 ((rd_T46 x11 x13).f1) true)) else (none)) else (none)) else (none)) else (cupolalaw11_SourceRf.l1 k x0 x7 x10 x12 0)
def cupolalaw11_SourceRf.j1 : Nat → List (S26) → Bool → List Int → List (S46) → List Int → Int → Int → Bool → Option (Bool)
 | 0, _, _, _, _, _, _, _, _ => none
 | k + 1, x0, x7, x10, x11, x12, x13, x15, x99 => if x99 = true then (some false) else (if 0 ≤ x15 then (if x15 < (x12.length : Int) then (cupolalaw11_SourceRf.l0 k x0 x7 x10 x11 (x12.set (x15 : Int).toNat (wrap64 ((rd x12 x15) + 1))) (wrap64 (x13 + 1))) else (none)) else (none))
def cupolalaw11_SourceRf.l1 : Nat → List (S26) → Bool → List Int → List Int → Int → Option (Bool)
 | 0, _, _, _, _, _ => none
 | k + 1, x0, x7, x10, x12, x16 => if x16 < (x0.length : Int) then (if 0 ≤ x16 then (if x16 < (x12.length : Int) then (if (rd x12 x16) > 1 then (cupolalaw11_SourceRf.j3 k x0 x7 x10 x12 x16 true) else (if ((rd_T26 x0 x16).f1) = 1 then (if x16 < (x10.length : Int) then (if (((rd x12 x16) == 0) != ((rd x10 x16) == (-1))) = true then (cupolalaw11_SourceRf.j3 k x0 x7 x10 x12 x16 true) else (if (((rd_T26 x0 x16).f1) = 1) then (cupolalaw11_SourceRf.j3 k x0 x7 x10 x12 x16 false) else (if (rd x12 x16) > 0 then (cupolalaw11_SourceRf.j3 k x0 x7 x10 x12 x16 true) else (cupolalaw11_SourceRf.j3 k x0 x7 x10 x12 x16 ((rd x10 x16) != (-2)))))) else (none)) else (if (((rd_T26 x0 x16).f1) = 1) then (cupolalaw11_SourceRf.j3 k x0 x7 x10 x12 x16 false) else (if (rd x12 x16) > 0 then (cupolalaw11_SourceRf.j3 k x0 x7 x10 x12 x16 true) else (if x16 < (x10.length : Int) then (cupolalaw11_SourceRf.j3 k x0 x7 x10 x12 x16 ((rd x10 x16) != (-2))) else (none)))))) else (none)) else (none)) else (some x7)
def cupolalaw11_SourceRf.j3 : Nat → List (S26) → Bool → List Int → List Int → Int → Bool → Option (Bool)
 | 0, _, _, _, _, _, _ => none
 | k + 1, x0, x7, x10, x12, x16, x152 => if x152 = true then (some false) else (cupolalaw11_SourceRf.l1 k x0 x7 x10 x12 (wrap64 (x16 + 1)))
end
def cupolalaw11_SourceRf.f (k : Nat) (l0 : List (S26)) (l1 : List Int) (a2 : Int) : Option (Bool) := (cupolalaw11_shown.f k).bind fun t101 => (if (l0.length : Int) > 24 then (some t101) else ((cupolalaw11_made.f l0).bind fun _ => ((source_All.f k l0 ([] : List Int) ([] : List Int) ([] : List Int) ([] : List Int) ([] : List Int) ([] : List (List Int)) l1).bind fun t103 => (if (t103.length : Int) = 0 then (some t101) else (if 0 ≤ (Int.tmod (wrap64 (a2)) (t103.length : Int)) then (if (Int.tmod (wrap64 (a2)) (t103.length : Int)) < (t103.length : Int) then ((source_Rf.f k l0 ([] : List Int) ([] : List Int) ([] : List Int) ([] : List Int) ([] : List Int) ([] : List (List Int)) (rd_L5 t103 (Int.tmod (wrap64 (a2)) (t103.length : Int)))).bind fun t107 => ((rel_Pairs.f k t107).bind fun t110 => (cupolalaw11_SourceRf.l0 k l0 t101 (rd_L5 t103 (Int.tmod (wrap64 (a2)) (t103.length : Int))) t110 (List.replicate 24 0) 0))) else (none)) else (none))))))
set_option maxHeartbeats 8000000 in
set_option maxRecDepth 100000 in
theorem cupolalaw11_SourceRf.calls (k : Nat) (A0 : Option Addr) (c0 : Nat) (l0 : List (S26)) (A1 : Option Addr) (c1 : Nat) (l1 : List Int) (a2 : Int) (r : Bool) (hT : r = true) (w : World) (hr0 : Kd.C k26 w A0 l0.length l0) (hc0 : l0.length ≤ c0) (hr1 : Kd.C (Kd.int .i64) w A1 l1.length l1) (hc1 : l1.length ≤ c1) (h : cupolalaw11_SourceRf.f k l0 l1 a2 = some r) :
  Calls Try.prog 10 #[.slice A0 l0.length c0, .slice A1 l1.length c1, .int .u16 a2] w fun e w' => e = .returned (.bool r) ∧ Below w.heap.size w w' := by
 have HT9 := Aside0.mk hT
 clear hT
 have hu31 := Try.underlying31
 have HR0 := Aside0.mk hr0
 have HC0 := Aside0.mk hc0
 clear hr0 hc0
 have HR1 := Aside0.mk hr1
 have HC1 := Aside0.mk hc1
 clear hr1 hc1
 have HB := Aside0.mk (Below.refl w.heap.size w)
 have H : ((cupolalaw11_shown.f k).bind fun t101 => (if (l0.length : Int) > 24 then (some t101) else ((cupolalaw11_made.f l0).bind fun _ => ((source_All.f k l0 ([] : List Int) ([] : List Int) ([] : List Int) ([] : List Int) ([] : List Int) ([] : List (List Int)) l1).bind fun t103 => (if (t103.length : Int) = 0 then (some t101) else (if 0 ≤ (Int.tmod (wrap64 (a2)) (t103.length : Int)) then (if (Int.tmod (wrap64 (a2)) (t103.length : Int)) < (t103.length : Int) then ((source_Rf.f k l0 ([] : List Int) ([] : List Int) ([] : List Int) ([] : List Int) ([] : List Int) ([] : List (List Int)) (rd_L5 t103 (Int.tmod (wrap64 (a2)) (t103.length : Int)))).bind fun t107 => ((rel_Pairs.f k t107).bind fun t110 => (cupolalaw11_SourceRf.l0 k l0 t101 (rd_L5 t103 (Int.tmod (wrap64 (a2)) (t103.length : Int))) t110 (List.replicate 24 0) 0))) else (none)) else (none))))))) = some r := h
 clear h
 replace H := Option.bind_eq_some_iff.mp H
 obtain ⟨t101, A40, H⟩ := H
 have A4 := Aside0.mk A40
 clear A40
 by_cases c5 : (l0.length : Int) > 24
 ·rw [if_pos c5] at H
  have c5b0 : decide (24 < (l0.length : Int)) = true := decide_eq_true c5
  have c5b1 : decide (24 < l0.length) = true := decide_eq_true (by omega)
  clear c5
  obtain rfl := Option.some.inj H
  go_enter Try.func10, Try.ntmps10
  go_wp2_with (first | (go_at_call 30; (with_reducible refine (cupolalaw11_shown.calls k  t101 _ A4.out).mono ?_); rintro e w6 ⟨rfl, hb⟩; have n0_ := Aside0.mk (below_step (bp9 HB.out) hb); clear HB; have HB := n0_; clear n0_; (try clear hb); (try clear hb2); (try clear hk); (try clear hi)))
  repeat (go_quiet (first | (go_at_call 30; (with_reducible refine (cupolalaw11_shown.calls k  t101 _ A4.out).mono ?_); rintro e w6 ⟨rfl, hb⟩; have n0_ := Aside0.mk (below_step (bp9 HB.out) hb); clear HB; have HB := n0_; clear n0_; (try clear hb); (try clear hb2); (try clear hk); (try clear hi))); try go_wp2_with (first | (go_at_call 30; (with_reducible refine (cupolalaw11_shown.calls k  t101 _ A4.out).mono ?_); rintro e w6 ⟨rfl, hb⟩; have n0_ := Aside0.mk (below_step (bp9 HB.out) hb); clear HB; have HB := n0_; clear n0_; (try clear hb); (try clear hb2); (try clear hk); (try clear hi))))
  go_ret
  exact ⟨by first | rfl | (simp [errW_none, errW_some] <;> rfl) | (simp [*, errW_none, errW_some] <;> rfl), bp9 HB.out⟩
 ·rw [if_neg c5] at H
  have c5b0 : decide (24 < (l0.length : Int)) = false := decide_eq_false c5
  have c5b1 : decide (24 < l0.length) = false := decide_eq_false (by omega)
  clear c5
  replace H := Option.bind_eq_some_iff.mp H
  obtain ⟨_, A70, H⟩ := H
  replace H : ((source_All.f k l0 ([] : List Int) ([] : List Int) ([] : List Int) ([] : List Int) ([] : List Int) ([] : List (List Int)) l1).bind fun t103 => (if (t103.length : Int) = 0 then (some t101) else (if 0 ≤ (Int.tmod (wrap64 (a2)) (t103.length : Int)) then (if (Int.tmod (wrap64 (a2)) (t103.length : Int)) < (t103.length : Int) then ((source_Rf.f k l0 ([] : List Int) ([] : List Int) ([] : List Int) ([] : List Int) ([] : List Int) ([] : List (List Int)) (rd_L5 t103 (Int.tmod (wrap64 (a2)) (t103.length : Int)))).bind fun t107 => ((rel_Pairs.f k t107).bind fun t110 => (cupolalaw11_SourceRf.l0 k l0 t101 (rd_L5 t103 (Int.tmod (wrap64 (a2)) (t103.length : Int))) t110 (List.replicate 24 0) 0))) else (none)) else (none)))) = some r := H
  have A7 := Aside0.mk A70
  clear A70
  replace H := Option.bind_eq_some_iff.mp H
  obtain ⟨t103, A80, H⟩ := H
  have A8 := Aside0.mk A80
  clear A80
  by_cases c9 : (t103.length : Int) = 0
  ·rw [if_pos c9] at H
   have c9b0 : ((t103.length : Int) == 0) = true := beq_iff_eq.mpr c9
   have c9b1 : ((t103.length : Int) != 0) = false := bne_eq_false_iff_eq.mpr c9
   clear c9
   obtain rfl := Option.some.inj H
   go_enter Try.func10, Try.ntmps10
   go_wp2_with (first | (go_at_call 30; (with_reducible refine (cupolalaw11_shown.calls k  t101 _ A4.out).mono ?_); rintro e w10 ⟨rfl, hb⟩; have n0_ := Aside0.mk (below_step (bp9 HB.out) hb); clear HB; have HB := n0_; clear n0_; (try clear hb); (try clear hb2); (try clear hk); (try clear hi)) | (go_at_call 31; (with_reducible refine (cupolalaw11_made.calls _ _ l0  _ ?side1 ?side2 A7.out).mono ?_); (case side1 => exact cp9 HR0.out HB.out); (case side2 => exact HC0.out); rintro e w11 ⟨rfl, hb⟩; have n0_ := Aside0.mk (below_step (bp9 HB.out) hb); clear HB; have HB := n0_; clear n0_; (try clear hb); (try clear hb2); (try clear hk); (try clear hi)) | ((with_reducible refine gate_dst (N := 8) rfl ?_); refine box_event ?hg (N := 8) ?hd (cs := #[.slice none 0 0, .slice none 0 0, .slice none 0 0, .slice none 0 0, .slice none 0 0, .slice none 0 0, .slice none 0 0]) (t := 31) ?hr ?_; (case hd => rfl); (case hg => rfl); (case hr => first | (go_simp; done) | (go_simp; rfl)); intro gb102 hg w12 hbox hb; have n0_ := Aside0.mk (below_step (bp9 HB.out) hb); have n1_ := Aside0.mk (hbox); have n2_ := Aside0.mk ((by rw [hg]; exact (below_size (bp9 HB.out)) : w.heap.size ≤ gb102)); have n3_ := n2_; clear HB; have HB := n0_; have BK102 := n1_; have GW102 := n2_; have GE102 := n3_; clear n0_ n1_ n2_ n3_; clear hb hbox hg; obtain ⟨hcz13_0, hcz13_1, hcz13_2, hcz13_3, hcz13_4, hcz13_5, hcz13_6, hfz13_0, hfz13_1, hfz13_2, hfz13_3, hfz13_4, hfz13_5, hfz13_6⟩ := cz7 BK102.out) | (go_at_call 33; (refine (source_All.calls k _ _ l0 _ _ ([] : List Int) _ _ ([] : List Int) _ _ ([] : List Int) _ _ ([] : List Int) _ _ ([] : List Int) _ _ ([] : List (List Int)) _ _ l1 t103 _ ?side1 ?side2 ?side3 ?side4 ?side5 ?side6 ?side7 ?side8 ?side9 ?side10 ?side11 ?side12 ?side13 ?side14 ?side15 ?side16 A8.out).mono ?_); (case side1 => exact Kd.C_below HR0.out (bp9 HB.out)); (case side2 => exact HC0.out); (case side3 => exact Kd.C_nil _ _); (case side4 => exact Nat.le_refl _); (case side5 => exact Kd.C_nil _ _); (case side6 => exact Nat.le_refl _); (case side7 => exact Kd.C_nil _ _); (case side8 => exact Nat.le_refl _); (case side9 => exact Kd.C_nil _ _); (case side10 => exact Nat.le_refl _); (case side11 => exact Kd.C_nil _ _); (case side12 => exact Nat.le_refl _); (case side13 => exact Kd.C_nil _ _); (case side14 => exact Nat.le_refl _); (case side15 => exact Kd.C_below HR1.out (bp9 HB.out)); (case side16 => exact HC1.out); rintro e w14 ⟨v104, rfl, ho0, hb⟩; have n0_ := Aside0.mk (Kd.S_lower ho0 (below_size (bp9 HB.out))); have n1_ := Aside0.mk (blk_below (g := gb102) (o := .cells #[.slice A0 l0.length c0, .slice none 0 0, .slice none 0 0, .slice none 0 0, .slice none 0 0, .slice none 0 0, .slice none 0 0] 31 (0, 0)) (by (with_reducible repeat (first | refine blk_drewN ?_ _ | refine blk_drew ?_ | refine blk_alloc ?_ _)); refine blk_put (cs := #[.slice A0 l0.length c0, .slice none 0 0, .slice none 0 0, .slice none 0 0, .slice none 0 0, .slice none 0 0, .slice none 0 0]) ?_ 6 _ rfl; (with_reducible repeat (first | refine blk_drewN ?_ _ | refine blk_drew ?_ | refine blk_alloc ?_ _)); refine blk_put (cs := #[.slice A0 l0.length c0, .slice none 0 0, .slice none 0 0, .slice none 0 0, .slice none 0 0, .slice none 0 0, .slice none 0 0]) ?_ 5 _ rfl; (with_reducible repeat (first | refine blk_drewN ?_ _ | refine blk_drew ?_ | refine blk_alloc ?_ _)); refine blk_put (cs := #[.slice A0 l0.length c0, .slice none 0 0, .slice none 0 0, .slice none 0 0, .slice none 0 0, .slice none 0 0, .slice none 0 0]) ?_ 4 _ rfl; (with_reducible repeat (first | refine blk_drewN ?_ _ | refine blk_drew ?_ | refine blk_alloc ?_ _)); refine blk_put (cs := #[.slice A0 l0.length c0, .slice none 0 0, .slice none 0 0, .slice none 0 0, .slice none 0 0, .slice none 0 0, .slice none 0 0]) ?_ 3 _ rfl; (with_reducible repeat (first | refine blk_drewN ?_ _ | refine blk_drew ?_ | refine blk_alloc ?_ _)); refine blk_put (cs := #[.slice A0 l0.length c0, .slice none 0 0, .slice none 0 0, .slice none 0 0, .slice none 0 0, .slice none 0 0, .slice none 0 0]) ?_ 2 _ rfl; (with_reducible repeat (first | refine blk_drewN ?_ _ | refine blk_drew ?_ | refine blk_alloc ?_ _)); refine blk_put (cs := #[.slice A0 l0.length c0, .slice none 0 0, .slice none 0 0, .slice none 0 0, .slice none 0 0, .slice none 0 0, .slice none 0 0]) ?_ 1 _ rfl; (with_reducible repeat (first | refine blk_drewN ?_ _ | refine blk_drew ?_ | refine blk_alloc ?_ _)); refine blk_put (cs := #[.slice none 0 0, .slice none 0 0, .slice none 0 0, .slice none 0 0, .slice none 0 0, .slice none 0 0, .slice none 0 0]) ?_ 0 _ rfl; (with_reducible repeat (first | refine blk_drewN ?_ _ | refine blk_drew ?_ | refine blk_alloc ?_ _)); exact BK102.out) hb); have n2_ := Aside0.mk (below_step (bp9 HB.out) hb); clear BK102; clear HB; have HO105 := n0_; have BK102 := n1_; have HB := n2_; clear n0_ n1_ n2_; (try clear hb); (try clear hb2); (try clear hk); (try clear hi); (try clear ho0); obtain ⟨Ao15, co15, eo15⟩ := Kd.S_slice HO105.out; subst eo15))
   repeat (go_quiet (first | (go_at_call 30; (with_reducible refine (cupolalaw11_shown.calls k  t101 _ A4.out).mono ?_); rintro e w10 ⟨rfl, hb⟩; have n0_ := Aside0.mk (below_step (bp9 HB.out) hb); clear HB; have HB := n0_; clear n0_; (try clear hb); (try clear hb2); (try clear hk); (try clear hi)) | (go_at_call 31; (with_reducible refine (cupolalaw11_made.calls _ _ l0  _ ?side1 ?side2 A7.out).mono ?_); (case side1 => exact cp9 HR0.out HB.out); (case side2 => exact HC0.out); rintro e w11 ⟨rfl, hb⟩; have n0_ := Aside0.mk (below_step (bp9 HB.out) hb); clear HB; have HB := n0_; clear n0_; (try clear hb); (try clear hb2); (try clear hk); (try clear hi)) | ((with_reducible refine gate_dst (N := 8) rfl ?_); refine box_event ?hg (N := 8) ?hd (cs := #[.slice none 0 0, .slice none 0 0, .slice none 0 0, .slice none 0 0, .slice none 0 0, .slice none 0 0, .slice none 0 0]) (t := 31) ?hr ?_; (case hd => rfl); (case hg => rfl); (case hr => first | (go_simp; done) | (go_simp; rfl)); intro gb102 hg w12 hbox hb; have n0_ := Aside0.mk (below_step (bp9 HB.out) hb); have n1_ := Aside0.mk (hbox); have n2_ := Aside0.mk ((by rw [hg]; exact (below_size (bp9 HB.out)) : w.heap.size ≤ gb102)); have n3_ := n2_; clear HB; have HB := n0_; have BK102 := n1_; have GW102 := n2_; have GE102 := n3_; clear n0_ n1_ n2_ n3_; clear hb hbox hg; obtain ⟨hcz13_0, hcz13_1, hcz13_2, hcz13_3, hcz13_4, hcz13_5, hcz13_6, hfz13_0, hfz13_1, hfz13_2, hfz13_3, hfz13_4, hfz13_5, hfz13_6⟩ := cz7 BK102.out) | (go_at_call 33; (refine (source_All.calls k _ _ l0 _ _ ([] : List Int) _ _ ([] : List Int) _ _ ([] : List Int) _ _ ([] : List Int) _ _ ([] : List Int) _ _ ([] : List (List Int)) _ _ l1 t103 _ ?side1 ?side2 ?side3 ?side4 ?side5 ?side6 ?side7 ?side8 ?side9 ?side10 ?side11 ?side12 ?side13 ?side14 ?side15 ?side16 A8.out).mono ?_); (case side1 => exact Kd.C_below HR0.out (bp9 HB.out)); (case side2 => exact HC0.out); (case side3 => exact Kd.C_nil _ _); (case side4 => exact Nat.le_refl _); (case side5 => exact Kd.C_nil _ _); (case side6 => exact Nat.le_refl _); (case side7 => exact Kd.C_nil _ _); (case side8 => exact Nat.le_refl _); (case side9 => exact Kd.C_nil _ _); (case side10 => exact Nat.le_refl _); (case side11 => exact Kd.C_nil _ _); (case side12 => exact Nat.le_refl _); (case side13 => exact Kd.C_nil _ _); (case side14 => exact Nat.le_refl _); (case side15 => exact Kd.C_below HR1.out (bp9 HB.out)); (case side16 => exact HC1.out); rintro e w14 ⟨v104, rfl, ho0, hb⟩; have n0_ := Aside0.mk (Kd.S_lower ho0 (below_size (bp9 HB.out))); have n1_ := Aside0.mk (blk_below (g := gb102) (o := .cells #[.slice A0 l0.length c0, .slice none 0 0, .slice none 0 0, .slice none 0 0, .slice none 0 0, .slice none 0 0, .slice none 0 0] 31 (0, 0)) (by (with_reducible repeat (first | refine blk_drewN ?_ _ | refine blk_drew ?_ | refine blk_alloc ?_ _)); refine blk_put (cs := #[.slice A0 l0.length c0, .slice none 0 0, .slice none 0 0, .slice none 0 0, .slice none 0 0, .slice none 0 0, .slice none 0 0]) ?_ 6 _ rfl; (with_reducible repeat (first | refine blk_drewN ?_ _ | refine blk_drew ?_ | refine blk_alloc ?_ _)); refine blk_put (cs := #[.slice A0 l0.length c0, .slice none 0 0, .slice none 0 0, .slice none 0 0, .slice none 0 0, .slice none 0 0, .slice none 0 0]) ?_ 5 _ rfl; (with_reducible repeat (first | refine blk_drewN ?_ _ | refine blk_drew ?_ | refine blk_alloc ?_ _)); refine blk_put (cs := #[.slice A0 l0.length c0, .slice none 0 0, .slice none 0 0, .slice none 0 0, .slice none 0 0, .slice none 0 0, .slice none 0 0]) ?_ 4 _ rfl; (with_reducible repeat (first | refine blk_drewN ?_ _ | refine blk_drew ?_ | refine blk_alloc ?_ _)); refine blk_put (cs := #[.slice A0 l0.length c0, .slice none 0 0, .slice none 0 0, .slice none 0 0, .slice none 0 0, .slice none 0 0, .slice none 0 0]) ?_ 3 _ rfl; (with_reducible repeat (first | refine blk_drewN ?_ _ | refine blk_drew ?_ | refine blk_alloc ?_ _)); refine blk_put (cs := #[.slice A0 l0.length c0, .slice none 0 0, .slice none 0 0, .slice none 0 0, .slice none 0 0, .slice none 0 0, .slice none 0 0]) ?_ 2 _ rfl; (with_reducible repeat (first | refine blk_drewN ?_ _ | refine blk_drew ?_ | refine blk_alloc ?_ _)); refine blk_put (cs := #[.slice A0 l0.length c0, .slice none 0 0, .slice none 0 0, .slice none 0 0, .slice none 0 0, .slice none 0 0, .slice none 0 0]) ?_ 1 _ rfl; (with_reducible repeat (first | refine blk_drewN ?_ _ | refine blk_drew ?_ | refine blk_alloc ?_ _)); refine blk_put (cs := #[.slice none 0 0, .slice none 0 0, .slice none 0 0, .slice none 0 0, .slice none 0 0, .slice none 0 0, .slice none 0 0]) ?_ 0 _ rfl; (with_reducible repeat (first | refine blk_drewN ?_ _ | refine blk_drew ?_ | refine blk_alloc ?_ _)); exact BK102.out) hb); have n2_ := Aside0.mk (below_step (bp9 HB.out) hb); clear BK102; clear HB; have HO105 := n0_; have BK102 := n1_; have HB := n2_; clear n0_ n1_ n2_; (try clear hb); (try clear hb2); (try clear hk); (try clear hi); (try clear ho0); obtain ⟨Ao15, co15, eo15⟩ := Kd.S_slice HO105.out; subst eo15)); try go_wp2_with (first | (go_at_call 30; (with_reducible refine (cupolalaw11_shown.calls k  t101 _ A4.out).mono ?_); rintro e w10 ⟨rfl, hb⟩; have n0_ := Aside0.mk (below_step (bp9 HB.out) hb); clear HB; have HB := n0_; clear n0_; (try clear hb); (try clear hb2); (try clear hk); (try clear hi)) | (go_at_call 31; (with_reducible refine (cupolalaw11_made.calls _ _ l0  _ ?side1 ?side2 A7.out).mono ?_); (case side1 => exact cp9 HR0.out HB.out); (case side2 => exact HC0.out); rintro e w11 ⟨rfl, hb⟩; have n0_ := Aside0.mk (below_step (bp9 HB.out) hb); clear HB; have HB := n0_; clear n0_; (try clear hb); (try clear hb2); (try clear hk); (try clear hi)) | ((with_reducible refine gate_dst (N := 8) rfl ?_); refine box_event ?hg (N := 8) ?hd (cs := #[.slice none 0 0, .slice none 0 0, .slice none 0 0, .slice none 0 0, .slice none 0 0, .slice none 0 0, .slice none 0 0]) (t := 31) ?hr ?_; (case hd => rfl); (case hg => rfl); (case hr => first | (go_simp; done) | (go_simp; rfl)); intro gb102 hg w12 hbox hb; have n0_ := Aside0.mk (below_step (bp9 HB.out) hb); have n1_ := Aside0.mk (hbox); have n2_ := Aside0.mk ((by rw [hg]; exact (below_size (bp9 HB.out)) : w.heap.size ≤ gb102)); have n3_ := n2_; clear HB; have HB := n0_; have BK102 := n1_; have GW102 := n2_; have GE102 := n3_; clear n0_ n1_ n2_ n3_; clear hb hbox hg; obtain ⟨hcz13_0, hcz13_1, hcz13_2, hcz13_3, hcz13_4, hcz13_5, hcz13_6, hfz13_0, hfz13_1, hfz13_2, hfz13_3, hfz13_4, hfz13_5, hfz13_6⟩ := cz7 BK102.out) | (go_at_call 33; (refine (source_All.calls k _ _ l0 _ _ ([] : List Int) _ _ ([] : List Int) _ _ ([] : List Int) _ _ ([] : List Int) _ _ ([] : List Int) _ _ ([] : List (List Int)) _ _ l1 t103 _ ?side1 ?side2 ?side3 ?side4 ?side5 ?side6 ?side7 ?side8 ?side9 ?side10 ?side11 ?side12 ?side13 ?side14 ?side15 ?side16 A8.out).mono ?_); (case side1 => exact Kd.C_below HR0.out (bp9 HB.out)); (case side2 => exact HC0.out); (case side3 => exact Kd.C_nil _ _); (case side4 => exact Nat.le_refl _); (case side5 => exact Kd.C_nil _ _); (case side6 => exact Nat.le_refl _); (case side7 => exact Kd.C_nil _ _); (case side8 => exact Nat.le_refl _); (case side9 => exact Kd.C_nil _ _); (case side10 => exact Nat.le_refl _); (case side11 => exact Kd.C_nil _ _); (case side12 => exact Nat.le_refl _); (case side13 => exact Kd.C_nil _ _); (case side14 => exact Nat.le_refl _); (case side15 => exact Kd.C_below HR1.out (bp9 HB.out)); (case side16 => exact HC1.out); rintro e w14 ⟨v104, rfl, ho0, hb⟩; have n0_ := Aside0.mk (Kd.S_lower ho0 (below_size (bp9 HB.out))); have n1_ := Aside0.mk (blk_below (g := gb102) (o := .cells #[.slice A0 l0.length c0, .slice none 0 0, .slice none 0 0, .slice none 0 0, .slice none 0 0, .slice none 0 0, .slice none 0 0] 31 (0, 0)) (by (with_reducible repeat (first | refine blk_drewN ?_ _ | refine blk_drew ?_ | refine blk_alloc ?_ _)); refine blk_put (cs := #[.slice A0 l0.length c0, .slice none 0 0, .slice none 0 0, .slice none 0 0, .slice none 0 0, .slice none 0 0, .slice none 0 0]) ?_ 6 _ rfl; (with_reducible repeat (first | refine blk_drewN ?_ _ | refine blk_drew ?_ | refine blk_alloc ?_ _)); refine blk_put (cs := #[.slice A0 l0.length c0, .slice none 0 0, .slice none 0 0, .slice none 0 0, .slice none 0 0, .slice none 0 0, .slice none 0 0]) ?_ 5 _ rfl; (with_reducible repeat (first | refine blk_drewN ?_ _ | refine blk_drew ?_ | refine blk_alloc ?_ _)); refine blk_put (cs := #[.slice A0 l0.length c0, .slice none 0 0, .slice none 0 0, .slice none 0 0, .slice none 0 0, .slice none 0 0, .slice none 0 0]) ?_ 4 _ rfl; (with_reducible repeat (first | refine blk_drewN ?_ _ | refine blk_drew ?_ | refine blk_alloc ?_ _)); refine blk_put (cs := #[.slice A0 l0.length c0, .slice none 0 0, .slice none 0 0, .slice none 0 0, .slice none 0 0, .slice none 0 0, .slice none 0 0]) ?_ 3 _ rfl; (with_reducible repeat (first | refine blk_drewN ?_ _ | refine blk_drew ?_ | refine blk_alloc ?_ _)); refine blk_put (cs := #[.slice A0 l0.length c0, .slice none 0 0, .slice none 0 0, .slice none 0 0, .slice none 0 0, .slice none 0 0, .slice none 0 0]) ?_ 2 _ rfl; (with_reducible repeat (first | refine blk_drewN ?_ _ | refine blk_drew ?_ | refine blk_alloc ?_ _)); refine blk_put (cs := #[.slice A0 l0.length c0, .slice none 0 0, .slice none 0 0, .slice none 0 0, .slice none 0 0, .slice none 0 0, .slice none 0 0]) ?_ 1 _ rfl; (with_reducible repeat (first | refine blk_drewN ?_ _ | refine blk_drew ?_ | refine blk_alloc ?_ _)); refine blk_put (cs := #[.slice none 0 0, .slice none 0 0, .slice none 0 0, .slice none 0 0, .slice none 0 0, .slice none 0 0, .slice none 0 0]) ?_ 0 _ rfl; (with_reducible repeat (first | refine blk_drewN ?_ _ | refine blk_drew ?_ | refine blk_alloc ?_ _)); exact BK102.out) hb); have n2_ := Aside0.mk (below_step (bp9 HB.out) hb); clear BK102; clear HB; have HO105 := n0_; have BK102 := n1_; have HB := n2_; clear n0_ n1_ n2_; (try clear hb); (try clear hb2); (try clear hk); (try clear hi); (try clear ho0); obtain ⟨Ao15, co15, eo15⟩ := Kd.S_slice HO105.out; subst eo15)))
   go_ret
   exact ⟨by first | rfl | (simp [errW_none, errW_some] <;> rfl) | (simp [*, errW_none, errW_some] <;> rfl), bp9 HB.out⟩
  ·rw [if_neg c9] at H
   have c9b0 : ((t103.length : Int) == 0) = false := beq_eq_false_iff_ne.mpr c9
   have c9b1 : ((t103.length : Int) != 0) = true := bne_iff_ne.mpr c9
   have c9b2 : ¬ (t103 = []) := fun h_ => c9 (by rw [h_]; rfl)
   obtain ⟨ji16, hji16⟩ : ∃ j_ : Int, (Int.tmod (wrap64 (a2)) (t103.length : Int)) = j_ := ⟨_, rfl⟩
   replace H : (if 0 ≤ (ji16) then (if (ji16) < (t103.length : Int) then ((source_Rf.f k l0 ([] : List Int) ([] : List Int) ([] : List Int) ([] : List Int) ([] : List Int) ([] : List (List Int)) (rd_L5 t103 (ji16))).bind fun t107 => ((rel_Pairs.f k t107).bind fun t110 => (cupolalaw11_SourceRf.l0 k l0 t101 (rd_L5 t103 (ji16)) t110 (List.replicate 24 0) 0))) else (none)) else (none)) = some r := by first | (rw [hji16] at H; exact H) | (simp only [hji16] at H ⊢; exact H)
   (try rw [hji16] at A4)
   (try rw [hji16] at A7)
   (try rw [hji16] at A8)
   by_cases c17 : 0 ≤ (ji16)
   ·rw [if_pos c17] at H
    have c17b0 : decide (0 ≤ (ji16)) = true := decide_eq_true c17
    clear c17
    by_cases c18 : (ji16) < (t103.length : Int)
    ·rw [if_pos c18] at H
     have c18b0 : decide ((ji16) < (t103.length : Int)) = true := decide_eq_true c18
     clear c18
     replace H := Option.bind_eq_some_iff.mp H
     obtain ⟨t107, A190, H⟩ := H
     have A19 := Aside0.mk A190
     clear A190
     replace H := Option.bind_eq_some_iff.mp H
     obtain ⟨t110, A200, H⟩ := H
     have A20 := Aside0.mk A200
     clear A200
     obtain ⟨y113, hy113⟩ : ∃ y_ : List Int, y_ = (List.replicate 24 0) := ⟨_, rfl⟩
     replace H : (cupolalaw11_SourceRf.l0 k l0 t101 (rd_L5 t103 (ji16)) t110 y113 0) = some r := by first | (rw [hy113]; with_reducible exact H) | (have H2_ := (Option.bind_some _ _).symm.trans H; rw [hy113]; with_reducible exact H2_) | (have H2_ := (Option.bind_some _ _).symm.trans H; with_reducible exact H2_) | with_reducible exact H | (rw [hy113]; exact H) | exact H
     have Ny113 := Aside0.mk hy113
     clear hy113
     have H' := Aside0.mk H
     clear H
     go_enter Try.func10, Try.ntmps10
     go_wp2_with (first | (go_at_call 30; (with_reducible refine (cupolalaw11_shown.calls k  t101 _ A4.out).mono ?_); rintro e w21 ⟨rfl, hb⟩; have n0_ := Aside0.mk (below_step (bp9 HB.out) hb); clear HB; have HB := n0_; clear n0_; (try clear hb); (try clear hb2); (try clear hk); (try clear hi)) | (go_at_call 31; (with_reducible refine (cupolalaw11_made.calls _ _ l0  _ ?side1 ?side2 A7.out).mono ?_); (case side1 => exact cp9 HR0.out HB.out); (case side2 => exact HC0.out); rintro e w22 ⟨rfl, hb⟩; have n0_ := Aside0.mk (below_step (bp9 HB.out) hb); clear HB; have HB := n0_; clear n0_; (try clear hb); (try clear hb2); (try clear hk); (try clear hi)) | ((with_reducible refine gate_dst (N := 8) rfl ?_); refine box_event ?hg (N := 8) ?hd (cs := #[.slice none 0 0, .slice none 0 0, .slice none 0 0, .slice none 0 0, .slice none 0 0, .slice none 0 0, .slice none 0 0]) (t := 31) ?hr ?_; (case hd => rfl); (case hg => rfl); (case hr => first | (go_simp; done) | (go_simp; rfl)); intro gb102 hg w23 hbox hb; have n0_ := Aside0.mk (below_step (bp9 HB.out) hb); have n1_ := Aside0.mk (hbox); have n2_ := Aside0.mk ((by rw [hg]; exact (below_size (bp9 HB.out)) : w.heap.size ≤ gb102)); have n3_ := n2_; clear HB; have HB := n0_; have BK102 := n1_; have GW102 := n2_; have GE102 := n3_; clear n0_ n1_ n2_ n3_; clear hb hbox hg; obtain ⟨hcz24_0, hcz24_1, hcz24_2, hcz24_3, hcz24_4, hcz24_5, hcz24_6, hfz24_0, hfz24_1, hfz24_2, hfz24_3, hfz24_4, hfz24_5, hfz24_6⟩ := cz7 BK102.out) | (go_at_call 33; (refine (source_All.calls k _ _ l0 _ _ ([] : List Int) _ _ ([] : List Int) _ _ ([] : List Int) _ _ ([] : List Int) _ _ ([] : List Int) _ _ ([] : List (List Int)) _ _ l1 t103 _ ?side1 ?side2 ?side3 ?side4 ?side5 ?side6 ?side7 ?side8 ?side9 ?side10 ?side11 ?side12 ?side13 ?side14 ?side15 ?side16 A8.out).mono ?_); (case side1 => exact Kd.C_below HR0.out (bp9 HB.out)); (case side2 => exact HC0.out); (case side3 => exact Kd.C_nil _ _); (case side4 => exact Nat.le_refl _); (case side5 => exact Kd.C_nil _ _); (case side6 => exact Nat.le_refl _); (case side7 => exact Kd.C_nil _ _); (case side8 => exact Nat.le_refl _); (case side9 => exact Kd.C_nil _ _); (case side10 => exact Nat.le_refl _); (case side11 => exact Kd.C_nil _ _); (case side12 => exact Nat.le_refl _); (case side13 => exact Kd.C_nil _ _); (case side14 => exact Nat.le_refl _); (case side15 => exact Kd.C_below HR1.out (bp9 HB.out)); (case side16 => exact HC1.out); rintro e w25 ⟨v104, rfl, ho0, hb⟩; have n0_ := Aside0.mk (Kd.S_lower ho0 (below_size (bp9 HB.out))); have n1_ := Aside0.mk (blk_below (g := gb102) (o := .cells #[.slice A0 l0.length c0, .slice none 0 0, .slice none 0 0, .slice none 0 0, .slice none 0 0, .slice none 0 0, .slice none 0 0] 31 (0, 0)) (by (with_reducible repeat (first | refine blk_drewN ?_ _ | refine blk_drew ?_ | refine blk_alloc ?_ _)); refine blk_put (cs := #[.slice A0 l0.length c0, .slice none 0 0, .slice none 0 0, .slice none 0 0, .slice none 0 0, .slice none 0 0, .slice none 0 0]) ?_ 6 _ rfl; (with_reducible repeat (first | refine blk_drewN ?_ _ | refine blk_drew ?_ | refine blk_alloc ?_ _)); refine blk_put (cs := #[.slice A0 l0.length c0, .slice none 0 0, .slice none 0 0, .slice none 0 0, .slice none 0 0, .slice none 0 0, .slice none 0 0]) ?_ 5 _ rfl; (with_reducible repeat (first | refine blk_drewN ?_ _ | refine blk_drew ?_ | refine blk_alloc ?_ _)); refine blk_put (cs := #[.slice A0 l0.length c0, .slice none 0 0, .slice none 0 0, .slice none 0 0, .slice none 0 0, .slice none 0 0, .slice none 0 0]) ?_ 4 _ rfl; (with_reducible repeat (first | refine blk_drewN ?_ _ | refine blk_drew ?_ | refine blk_alloc ?_ _)); refine blk_put (cs := #[.slice A0 l0.length c0, .slice none 0 0, .slice none 0 0, .slice none 0 0, .slice none 0 0, .slice none 0 0, .slice none 0 0]) ?_ 3 _ rfl; (with_reducible repeat (first | refine blk_drewN ?_ _ | refine blk_drew ?_ | refine blk_alloc ?_ _)); refine blk_put (cs := #[.slice A0 l0.length c0, .slice none 0 0, .slice none 0 0, .slice none 0 0, .slice none 0 0, .slice none 0 0, .slice none 0 0]) ?_ 2 _ rfl; (with_reducible repeat (first | refine blk_drewN ?_ _ | refine blk_drew ?_ | refine blk_alloc ?_ _)); refine blk_put (cs := #[.slice A0 l0.length c0, .slice none 0 0, .slice none 0 0, .slice none 0 0, .slice none 0 0, .slice none 0 0, .slice none 0 0]) ?_ 1 _ rfl; (with_reducible repeat (first | refine blk_drewN ?_ _ | refine blk_drew ?_ | refine blk_alloc ?_ _)); refine blk_put (cs := #[.slice none 0 0, .slice none 0 0, .slice none 0 0, .slice none 0 0, .slice none 0 0, .slice none 0 0, .slice none 0 0]) ?_ 0 _ rfl; (with_reducible repeat (first | refine blk_drewN ?_ _ | refine blk_drew ?_ | refine blk_alloc ?_ _)); exact BK102.out) hb); have n2_ := Aside0.mk (below_step (bp9 HB.out) hb); clear BK102; clear HB; have HO105 := n0_; have BK102 := n1_; have HB := n2_; clear n0_ n1_ n2_; (try clear hb); (try clear hb2); (try clear hk); (try clear hi); (try clear ho0); obtain ⟨Ao26, co26, eo26⟩ := Kd.S_slice HO105.out; subst eo26; have p106 : 0 ≤ ((ji16) : Int) := of_decide_eq_true (by first | (with_reducible assumption) | assumption); have q106 : (ji16) < (t103.length : Int) := of_decide_eq_true (by first | (with_reducible assumption) | assumption); obtain ⟨ad106, A106_0, c106_0, e106, hx106_0, hl106_0, hi106_0⟩ := at_L5 (Kd.S_reads' HO105.out).2.2 (ji16) p106 q106; cases e106; obtain ⟨ce106, hce106, hMe106, hcc106⟩ := Kd.S_get HO105.out [] (ji16) p106 (by first | exact q106 | exact of_decide_eq_true (by first | (with_reducible assumption) | assumption) | (have e_ := (Kd.S_reads' HO105.out).1; omega)); obtain ⟨ve106_0, rfl, ge106_0⟩ := hMe106; have hv106_0 := hcc106 0 _ rfl; rw [Nat.add_zero, show ((Kd.slice 3 (Kd.int .i64))).sz = 1 from rfl, Nat.mul_one] at hv106_0; replace hv106_0 := Option.some.inj (hv106_0.symm.trans hx106_0); rw [hv106_0] at ge106_0; have HL106_0 := Aside0.mk (show Kd.R (Kd.int .i64) 3 _ _ _ _ (rd_L5 t103 (ji16)) from ge106_0); clear hv106_0 ge106_0; clear hcc106 hce106; have HR106_0 := Aside0.mk hi106_0; have HC106_0 := Aside0.mk hl106_0; clear hi106_0 hl106_0; replace p106 := eq_true p106; replace q106 := eq_true q106; obtain ⟨hcz27_0, hcz27_1, hcz27_2, hcz27_3, hcz27_4, hcz27_5, hcz27_6, hfz27_0, hfz27_1, hfz27_2, hfz27_3, hfz27_4, hfz27_5, hfz27_6⟩ := cz7 BK102.out) | (go_at_call 64; (refine (source_Rf.calls k _ _ l0 _ _ ([] : List Int) _ _ ([] : List Int) _ _ ([] : List Int) _ _ ([] : List Int) _ _ ([] : List Int) _ _ ([] : List (List Int)) _ _ (rd_L5 t103 (ji16)) t107 _ ?side1 ?side2 ?side3 ?side4 ?side5 ?side6 ?side7 ?side8 ?side9 ?side10 ?side11 ?side12 ?side13 ?side14 ?side15 ?side16 A19.out).mono ?_); (case side1 => exact cp9 HR0.out HB.out); (case side2 => exact HC0.out); (case side3 => exact Kd.C_nil _ _); (case side4 => exact Nat.le_refl _); (case side5 => exact Kd.C_nil _ _); (case side6 => exact Nat.le_refl _); (case side7 => exact Kd.C_nil _ _); (case side8 => exact Nat.le_refl _); (case side9 => exact Kd.C_nil _ _); (case side10 => exact Nat.le_refl _); (case side11 => exact Kd.C_nil _ _); (case side12 => exact Nat.le_refl _); (case side13 => exact Kd.C_nil _ _); (case side14 => exact Nat.le_refl _); (case side15 => repeat (first | exact (by repeat (first | (with_reducible exact HR106_0.out) | (with_reducible refine Kd.C_alloc ?_ _) | (with_reducible refine Kd.C_drewN ?_ _) | (with_reducible refine Kd.C_drew ?_) | exact HR106_0.out)) | (with_reducible refine Kd.C_alloc ?_ _) | (with_reducible refine Kd.C_drewN ?_ _) | (with_reducible refine Kd.C_drew ?_))); (case side16 => exact HC106_0.out); rintro e w28 ⟨v108, rfl, ho0, hb⟩; have n0_ := Aside0.mk (Kd.S_below (by (with_reducible repeat (first | apply Kd.S_alloc | apply Kd.S_drewN | apply Kd.S_drew)); exact HO105.out) hb); have n1_ := Aside0.mk (Kd.R_below (by (with_reducible repeat (first | apply Kd.R_alloc | apply Kd.R_drewN | apply Kd.R_drew)); exact HL106_0.out) hb); have n2_ := Aside0.mk (Kd.R_lower ho0 (below_size (bp9 HB.out))); have n3_ := Aside0.mk (blk_below (kp9 BK102.out) hb); have n4_ := Aside0.mk (Kd.C_below (by repeat (first | (with_reducible exact HR106_0.out) | (with_reducible refine Kd.C_alloc ?_ _) | (with_reducible refine Kd.C_drewN ?_ _) | (with_reducible refine Kd.C_drew ?_) | exact HR106_0.out)) hb); have n5_ := Aside0.mk (below_step (bp9 HB.out) hb); clear HO105; clear HL106_0; clear BK102; clear HR106_0; clear HB; have HO105 := n0_; have HL106_0 := n1_; have HO109 := n2_; have BK102 := n3_; have HR106_0 := n4_; have HB := n5_; clear n0_ n1_ n2_ n3_ n4_ n5_; (try clear hb); (try clear hb2); (try clear hk); (try clear hi); (try clear ho0); obtain ⟨Ao29, co29, eo29⟩ := Kd.R_slice HO109.out; subst eo29) | (go_at_call 38; (with_reducible refine (rel_Pairs.calls k _ _ t107 t110 _ ?side1 ?side2 A20.out).mono ?_); (case side1 => exact lp9 (Kd.R_reads' HO109.out).2.2); (case side2 => exact (Kd.R_reads' HO109.out).2.1); rintro e w30 ⟨v111, rfl, ho0, hb⟩; have n0_ := Aside0.mk (Kd.S_below (by (with_reducible repeat (first | apply Kd.S_alloc | apply Kd.S_drewN | apply Kd.S_drew)); exact HO105.out) hb); have n1_ := Aside0.mk (Kd.R_below (by (with_reducible repeat (first | apply Kd.R_alloc | apply Kd.R_drewN | apply Kd.R_drew)); exact HL106_0.out) hb); have n2_ := Aside0.mk (Kd.R_below (rp9 HO109.out) hb); have n3_ := Aside0.mk (Kd.R_lower ho0 (below_size (bp9 HB.out))); have n4_ := Aside0.mk (blk_below (kp9 BK102.out) hb); have n5_ := Aside0.mk (Kd.C_below (by repeat (first | (with_reducible exact HR106_0.out) | (with_reducible refine Kd.C_alloc ?_ _) | (with_reducible refine Kd.C_drewN ?_ _) | (with_reducible refine Kd.C_drew ?_) | exact HR106_0.out)) hb); have n6_ := Aside0.mk (below_step (bp9 HB.out) hb); clear HO105; clear HL106_0; clear HO109; clear BK102; clear HR106_0; clear HB; have HO105 := n0_; have HL106_0 := n1_; have HO109 := n2_; have HO112 := n3_; have BK102 := n4_; have HR106_0 := n5_; have HB := n6_; clear n0_ n1_ n2_ n3_ n4_ n5_ n6_; (try clear hb); (try clear hb2); (try clear hk); (try clear hi); (try clear ho0)) | ((with_reducible refine gate_dst (N := 12) rfl ?_); refine box_event ?hg (N := 12) ?hd (cs := #[.int .i64 0, .int .i64 0, .int .i64 0, .int .i64 0, .int .i64 0, .int .i64 0, .int .i64 0, .int .i64 0, .int .i64 0, .int .i64 0, .int .i64 0, .int .i64 0, .int .i64 0, .int .i64 0, .int .i64 0, .int .i64 0, .int .i64 0, .int .i64 0, .int .i64 0, .int .i64 0, .int .i64 0, .int .i64 0, .int .i64 0, .int .i64 0]) (t := 71) ?hr ?_; (case hd => rfl); (case hg => rfl); (case hr => first | (go_simp; done) | (go_simp; rfl)); intro gb12 hg_ w31 hbox_ hb; have ho32 := cupolalaw11_SourceRf.row (l := y113) hbox_ (Nat.le_of_eq hg_.symm) Ny113.out; obtain ⟨v114, hv114⟩ : ∃ v_, v_ = Value.slice (some ⟨gb12, 0, none⟩) 24 24 := ⟨_, rfl⟩; rw [← hv114] at ho32; have HV12 := Aside0.mk hv114; clear hv114 hg_ hbox_; have n0_ := Aside0.mk (Kd.S_below (by (with_reducible repeat (first | apply Kd.S_alloc | apply Kd.S_drewN | apply Kd.S_drew)); exact HO105.out) hb); have n1_ := Aside0.mk (Kd.R_below (by (with_reducible repeat (first | apply Kd.R_alloc | apply Kd.R_drewN | apply Kd.R_drew)); exact HL106_0.out) hb); have n2_ := Aside0.mk (Kd.R_below (rp9 HO109.out) hb); have n3_ := Aside0.mk (Kd.R_below (rp9 HO112.out) hb); have n4_ := Aside0.mk (Kd.R_lower ho32 (below_size (bp9 HB.out))); have n5_ := Aside0.mk (blk_below (kp9 BK102.out) hb); have n6_ := Aside0.mk (Kd.C_below (by repeat (first | (with_reducible exact HR106_0.out) | (with_reducible refine Kd.C_alloc ?_ _) | (with_reducible refine Kd.C_drewN ?_ _) | (with_reducible refine Kd.C_drew ?_) | exact HR106_0.out)) hb); have n7_ := Aside0.mk (below_step (bp9 HB.out) hb); clear HO105; clear HL106_0; clear HO109; clear HO112; clear BK102; clear HR106_0; clear HB; have HO105 := n0_; have HL106_0 := n1_; have HO109 := n2_; have HO112 := n3_; have HO115 := n4_; have BK102 := n5_; have HR106_0 := n6_; have HB := n7_; clear n0_ n1_ n2_ n3_ n4_ n5_ n6_ n7_; clear hb ho32))
     repeat (go_quiet (first | (go_at_call 30; (with_reducible refine (cupolalaw11_shown.calls k  t101 _ A4.out).mono ?_); rintro e w21 ⟨rfl, hb⟩; have n0_ := Aside0.mk (below_step (bp9 HB.out) hb); clear HB; have HB := n0_; clear n0_; (try clear hb); (try clear hb2); (try clear hk); (try clear hi)) | (go_at_call 31; (with_reducible refine (cupolalaw11_made.calls _ _ l0  _ ?side1 ?side2 A7.out).mono ?_); (case side1 => exact cp9 HR0.out HB.out); (case side2 => exact HC0.out); rintro e w22 ⟨rfl, hb⟩; have n0_ := Aside0.mk (below_step (bp9 HB.out) hb); clear HB; have HB := n0_; clear n0_; (try clear hb); (try clear hb2); (try clear hk); (try clear hi)) | ((with_reducible refine gate_dst (N := 8) rfl ?_); refine box_event ?hg (N := 8) ?hd (cs := #[.slice none 0 0, .slice none 0 0, .slice none 0 0, .slice none 0 0, .slice none 0 0, .slice none 0 0, .slice none 0 0]) (t := 31) ?hr ?_; (case hd => rfl); (case hg => rfl); (case hr => first | (go_simp; done) | (go_simp; rfl)); intro gb102 hg w23 hbox hb; have n0_ := Aside0.mk (below_step (bp9 HB.out) hb); have n1_ := Aside0.mk (hbox); have n2_ := Aside0.mk ((by rw [hg]; exact (below_size (bp9 HB.out)) : w.heap.size ≤ gb102)); have n3_ := n2_; clear HB; have HB := n0_; have BK102 := n1_; have GW102 := n2_; have GE102 := n3_; clear n0_ n1_ n2_ n3_; clear hb hbox hg; obtain ⟨hcz24_0, hcz24_1, hcz24_2, hcz24_3, hcz24_4, hcz24_5, hcz24_6, hfz24_0, hfz24_1, hfz24_2, hfz24_3, hfz24_4, hfz24_5, hfz24_6⟩ := cz7 BK102.out) | (go_at_call 33; (refine (source_All.calls k _ _ l0 _ _ ([] : List Int) _ _ ([] : List Int) _ _ ([] : List Int) _ _ ([] : List Int) _ _ ([] : List Int) _ _ ([] : List (List Int)) _ _ l1 t103 _ ?side1 ?side2 ?side3 ?side4 ?side5 ?side6 ?side7 ?side8 ?side9 ?side10 ?side11 ?side12 ?side13 ?side14 ?side15 ?side16 A8.out).mono ?_); (case side1 => exact Kd.C_below HR0.out (bp9 HB.out)); (case side2 => exact HC0.out); (case side3 => exact Kd.C_nil _ _); (case side4 => exact Nat.le_refl _); (case side5 => exact Kd.C_nil _ _); (case side6 => exact Nat.le_refl _); (case side7 => exact Kd.C_nil _ _); (case side8 => exact Nat.le_refl _); (case side9 => exact Kd.C_nil _ _); (case side10 => exact Nat.le_refl _); (case side11 => exact Kd.C_nil _ _); (case side12 => exact Nat.le_refl _); (case side13 => exact Kd.C_nil _ _); (case side14 => exact Nat.le_refl _); (case side15 => exact Kd.C_below HR1.out (bp9 HB.out)); (case side16 => exact HC1.out); rintro e w25 ⟨v104, rfl, ho0, hb⟩; have n0_ := Aside0.mk (Kd.S_lower ho0 (below_size (bp9 HB.out))); have n1_ := Aside0.mk (blk_below (g := gb102) (o := .cells #[.slice A0 l0.length c0, .slice none 0 0, .slice none 0 0, .slice none 0 0, .slice none 0 0, .slice none 0 0, .slice none 0 0] 31 (0, 0)) (by (with_reducible repeat (first | refine blk_drewN ?_ _ | refine blk_drew ?_ | refine blk_alloc ?_ _)); refine blk_put (cs := #[.slice A0 l0.length c0, .slice none 0 0, .slice none 0 0, .slice none 0 0, .slice none 0 0, .slice none 0 0, .slice none 0 0]) ?_ 6 _ rfl; (with_reducible repeat (first | refine blk_drewN ?_ _ | refine blk_drew ?_ | refine blk_alloc ?_ _)); refine blk_put (cs := #[.slice A0 l0.length c0, .slice none 0 0, .slice none 0 0, .slice none 0 0, .slice none 0 0, .slice none 0 0, .slice none 0 0]) ?_ 5 _ rfl; (with_reducible repeat (first | refine blk_drewN ?_ _ | refine blk_drew ?_ | refine blk_alloc ?_ _)); refine blk_put (cs := #[.slice A0 l0.length c0, .slice none 0 0, .slice none 0 0, .slice none 0 0, .slice none 0 0, .slice none 0 0, .slice none 0 0]) ?_ 4 _ rfl; (with_reducible repeat (first | refine blk_drewN ?_ _ | refine blk_drew ?_ | refine blk_alloc ?_ _)); refine blk_put (cs := #[.slice A0 l0.length c0, .slice none 0 0, .slice none 0 0, .slice none 0 0, .slice none 0 0, .slice none 0 0, .slice none 0 0]) ?_ 3 _ rfl; (with_reducible repeat (first | refine blk_drewN ?_ _ | refine blk_drew ?_ | refine blk_alloc ?_ _)); refine blk_put (cs := #[.slice A0 l0.length c0, .slice none 0 0, .slice none 0 0, .slice none 0 0, .slice none 0 0, .slice none 0 0, .slice none 0 0]) ?_ 2 _ rfl; (with_reducible repeat (first | refine blk_drewN ?_ _ | refine blk_drew ?_ | refine blk_alloc ?_ _)); refine blk_put (cs := #[.slice A0 l0.length c0, .slice none 0 0, .slice none 0 0, .slice none 0 0, .slice none 0 0, .slice none 0 0, .slice none 0 0]) ?_ 1 _ rfl; (with_reducible repeat (first | refine blk_drewN ?_ _ | refine blk_drew ?_ | refine blk_alloc ?_ _)); refine blk_put (cs := #[.slice none 0 0, .slice none 0 0, .slice none 0 0, .slice none 0 0, .slice none 0 0, .slice none 0 0, .slice none 0 0]) ?_ 0 _ rfl; (with_reducible repeat (first | refine blk_drewN ?_ _ | refine blk_drew ?_ | refine blk_alloc ?_ _)); exact BK102.out) hb); have n2_ := Aside0.mk (below_step (bp9 HB.out) hb); clear BK102; clear HB; have HO105 := n0_; have BK102 := n1_; have HB := n2_; clear n0_ n1_ n2_; (try clear hb); (try clear hb2); (try clear hk); (try clear hi); (try clear ho0); obtain ⟨Ao26, co26, eo26⟩ := Kd.S_slice HO105.out; subst eo26; have p106 : 0 ≤ ((ji16) : Int) := of_decide_eq_true (by first | (with_reducible assumption) | assumption); have q106 : (ji16) < (t103.length : Int) := of_decide_eq_true (by first | (with_reducible assumption) | assumption); obtain ⟨ad106, A106_0, c106_0, e106, hx106_0, hl106_0, hi106_0⟩ := at_L5 (Kd.S_reads' HO105.out).2.2 (ji16) p106 q106; cases e106; obtain ⟨ce106, hce106, hMe106, hcc106⟩ := Kd.S_get HO105.out [] (ji16) p106 (by first | exact q106 | exact of_decide_eq_true (by first | (with_reducible assumption) | assumption) | (have e_ := (Kd.S_reads' HO105.out).1; omega)); obtain ⟨ve106_0, rfl, ge106_0⟩ := hMe106; have hv106_0 := hcc106 0 _ rfl; rw [Nat.add_zero, show ((Kd.slice 3 (Kd.int .i64))).sz = 1 from rfl, Nat.mul_one] at hv106_0; replace hv106_0 := Option.some.inj (hv106_0.symm.trans hx106_0); rw [hv106_0] at ge106_0; have HL106_0 := Aside0.mk (show Kd.R (Kd.int .i64) 3 _ _ _ _ (rd_L5 t103 (ji16)) from ge106_0); clear hv106_0 ge106_0; clear hcc106 hce106; have HR106_0 := Aside0.mk hi106_0; have HC106_0 := Aside0.mk hl106_0; clear hi106_0 hl106_0; replace p106 := eq_true p106; replace q106 := eq_true q106; obtain ⟨hcz27_0, hcz27_1, hcz27_2, hcz27_3, hcz27_4, hcz27_5, hcz27_6, hfz27_0, hfz27_1, hfz27_2, hfz27_3, hfz27_4, hfz27_5, hfz27_6⟩ := cz7 BK102.out) | (go_at_call 64; (refine (source_Rf.calls k _ _ l0 _ _ ([] : List Int) _ _ ([] : List Int) _ _ ([] : List Int) _ _ ([] : List Int) _ _ ([] : List Int) _ _ ([] : List (List Int)) _ _ (rd_L5 t103 (ji16)) t107 _ ?side1 ?side2 ?side3 ?side4 ?side5 ?side6 ?side7 ?side8 ?side9 ?side10 ?side11 ?side12 ?side13 ?side14 ?side15 ?side16 A19.out).mono ?_); (case side1 => exact cp9 HR0.out HB.out); (case side2 => exact HC0.out); (case side3 => exact Kd.C_nil _ _); (case side4 => exact Nat.le_refl _); (case side5 => exact Kd.C_nil _ _); (case side6 => exact Nat.le_refl _); (case side7 => exact Kd.C_nil _ _); (case side8 => exact Nat.le_refl _); (case side9 => exact Kd.C_nil _ _); (case side10 => exact Nat.le_refl _); (case side11 => exact Kd.C_nil _ _); (case side12 => exact Nat.le_refl _); (case side13 => exact Kd.C_nil _ _); (case side14 => exact Nat.le_refl _); (case side15 => repeat (first | exact (by repeat (first | (with_reducible exact HR106_0.out) | (with_reducible refine Kd.C_alloc ?_ _) | (with_reducible refine Kd.C_drewN ?_ _) | (with_reducible refine Kd.C_drew ?_) | exact HR106_0.out)) | (with_reducible refine Kd.C_alloc ?_ _) | (with_reducible refine Kd.C_drewN ?_ _) | (with_reducible refine Kd.C_drew ?_))); (case side16 => exact HC106_0.out); rintro e w28 ⟨v108, rfl, ho0, hb⟩; have n0_ := Aside0.mk (Kd.S_below (by (with_reducible repeat (first | apply Kd.S_alloc | apply Kd.S_drewN | apply Kd.S_drew)); exact HO105.out) hb); have n1_ := Aside0.mk (Kd.R_below (by (with_reducible repeat (first | apply Kd.R_alloc | apply Kd.R_drewN | apply Kd.R_drew)); exact HL106_0.out) hb); have n2_ := Aside0.mk (Kd.R_lower ho0 (below_size (bp9 HB.out))); have n3_ := Aside0.mk (blk_below (kp9 BK102.out) hb); have n4_ := Aside0.mk (Kd.C_below (by repeat (first | (with_reducible exact HR106_0.out) | (with_reducible refine Kd.C_alloc ?_ _) | (with_reducible refine Kd.C_drewN ?_ _) | (with_reducible refine Kd.C_drew ?_) | exact HR106_0.out)) hb); have n5_ := Aside0.mk (below_step (bp9 HB.out) hb); clear HO105; clear HL106_0; clear BK102; clear HR106_0; clear HB; have HO105 := n0_; have HL106_0 := n1_; have HO109 := n2_; have BK102 := n3_; have HR106_0 := n4_; have HB := n5_; clear n0_ n1_ n2_ n3_ n4_ n5_; (try clear hb); (try clear hb2); (try clear hk); (try clear hi); (try clear ho0); obtain ⟨Ao29, co29, eo29⟩ := Kd.R_slice HO109.out; subst eo29) | (go_at_call 38; (with_reducible refine (rel_Pairs.calls k _ _ t107 t110 _ ?side1 ?side2 A20.out).mono ?_); (case side1 => exact lp9 (Kd.R_reads' HO109.out).2.2); (case side2 => exact (Kd.R_reads' HO109.out).2.1); rintro e w30 ⟨v111, rfl, ho0, hb⟩; have n0_ := Aside0.mk (Kd.S_below (by (with_reducible repeat (first | apply Kd.S_alloc | apply Kd.S_drewN | apply Kd.S_drew)); exact HO105.out) hb); have n1_ := Aside0.mk (Kd.R_below (by (with_reducible repeat (first | apply Kd.R_alloc | apply Kd.R_drewN | apply Kd.R_drew)); exact HL106_0.out) hb); have n2_ := Aside0.mk (Kd.R_below (rp9 HO109.out) hb); have n3_ := Aside0.mk (Kd.R_lower ho0 (below_size (bp9 HB.out))); have n4_ := Aside0.mk (blk_below (kp9 BK102.out) hb); have n5_ := Aside0.mk (Kd.C_below (by repeat (first | (with_reducible exact HR106_0.out) | (with_reducible refine Kd.C_alloc ?_ _) | (with_reducible refine Kd.C_drewN ?_ _) | (with_reducible refine Kd.C_drew ?_) | exact HR106_0.out)) hb); have n6_ := Aside0.mk (below_step (bp9 HB.out) hb); clear HO105; clear HL106_0; clear HO109; clear BK102; clear HR106_0; clear HB; have HO105 := n0_; have HL106_0 := n1_; have HO109 := n2_; have HO112 := n3_; have BK102 := n4_; have HR106_0 := n5_; have HB := n6_; clear n0_ n1_ n2_ n3_ n4_ n5_ n6_; (try clear hb); (try clear hb2); (try clear hk); (try clear hi); (try clear ho0)) | ((with_reducible refine gate_dst (N := 12) rfl ?_); refine box_event ?hg (N := 12) ?hd (cs := #[.int .i64 0, .int .i64 0, .int .i64 0, .int .i64 0, .int .i64 0, .int .i64 0, .int .i64 0, .int .i64 0, .int .i64 0, .int .i64 0, .int .i64 0, .int .i64 0, .int .i64 0, .int .i64 0, .int .i64 0, .int .i64 0, .int .i64 0, .int .i64 0, .int .i64 0, .int .i64 0, .int .i64 0, .int .i64 0, .int .i64 0, .int .i64 0]) (t := 71) ?hr ?_; (case hd => rfl); (case hg => rfl); (case hr => first | (go_simp; done) | (go_simp; rfl)); intro gb12 hg_ w31 hbox_ hb; have ho32 := cupolalaw11_SourceRf.row (l := y113) hbox_ (Nat.le_of_eq hg_.symm) Ny113.out; obtain ⟨v114, hv114⟩ : ∃ v_, v_ = Value.slice (some ⟨gb12, 0, none⟩) 24 24 := ⟨_, rfl⟩; rw [← hv114] at ho32; have HV12 := Aside0.mk hv114; clear hv114 hg_ hbox_; have n0_ := Aside0.mk (Kd.S_below (by (with_reducible repeat (first | apply Kd.S_alloc | apply Kd.S_drewN | apply Kd.S_drew)); exact HO105.out) hb); have n1_ := Aside0.mk (Kd.R_below (by (with_reducible repeat (first | apply Kd.R_alloc | apply Kd.R_drewN | apply Kd.R_drew)); exact HL106_0.out) hb); have n2_ := Aside0.mk (Kd.R_below (rp9 HO109.out) hb); have n3_ := Aside0.mk (Kd.R_below (rp9 HO112.out) hb); have n4_ := Aside0.mk (Kd.R_lower ho32 (below_size (bp9 HB.out))); have n5_ := Aside0.mk (blk_below (kp9 BK102.out) hb); have n6_ := Aside0.mk (Kd.C_below (by repeat (first | (with_reducible exact HR106_0.out) | (with_reducible refine Kd.C_alloc ?_ _) | (with_reducible refine Kd.C_drewN ?_ _) | (with_reducible refine Kd.C_drew ?_) | exact HR106_0.out)) hb); have n7_ := Aside0.mk (below_step (bp9 HB.out) hb); clear HO105; clear HL106_0; clear HO109; clear HO112; clear BK102; clear HR106_0; clear HB; have HO105 := n0_; have HL106_0 := n1_; have HO109 := n2_; have HO112 := n3_; have HO115 := n4_; have BK102 := n5_; have HR106_0 := n6_; have HB := n7_; clear n0_ n1_ n2_ n3_ n4_ n5_ n6_ n7_; clear hb ho32)); try go_wp2_with (first | (go_at_call 30; (with_reducible refine (cupolalaw11_shown.calls k  t101 _ A4.out).mono ?_); rintro e w21 ⟨rfl, hb⟩; have n0_ := Aside0.mk (below_step (bp9 HB.out) hb); clear HB; have HB := n0_; clear n0_; (try clear hb); (try clear hb2); (try clear hk); (try clear hi)) | (go_at_call 31; (with_reducible refine (cupolalaw11_made.calls _ _ l0  _ ?side1 ?side2 A7.out).mono ?_); (case side1 => exact cp9 HR0.out HB.out); (case side2 => exact HC0.out); rintro e w22 ⟨rfl, hb⟩; have n0_ := Aside0.mk (below_step (bp9 HB.out) hb); clear HB; have HB := n0_; clear n0_; (try clear hb); (try clear hb2); (try clear hk); (try clear hi)) | ((with_reducible refine gate_dst (N := 8) rfl ?_); refine box_event ?hg (N := 8) ?hd (cs := #[.slice none 0 0, .slice none 0 0, .slice none 0 0, .slice none 0 0, .slice none 0 0, .slice none 0 0, .slice none 0 0]) (t := 31) ?hr ?_; (case hd => rfl); (case hg => rfl); (case hr => first | (go_simp; done) | (go_simp; rfl)); intro gb102 hg w23 hbox hb; have n0_ := Aside0.mk (below_step (bp9 HB.out) hb); have n1_ := Aside0.mk (hbox); have n2_ := Aside0.mk ((by rw [hg]; exact (below_size (bp9 HB.out)) : w.heap.size ≤ gb102)); have n3_ := n2_; clear HB; have HB := n0_; have BK102 := n1_; have GW102 := n2_; have GE102 := n3_; clear n0_ n1_ n2_ n3_; clear hb hbox hg; obtain ⟨hcz24_0, hcz24_1, hcz24_2, hcz24_3, hcz24_4, hcz24_5, hcz24_6, hfz24_0, hfz24_1, hfz24_2, hfz24_3, hfz24_4, hfz24_5, hfz24_6⟩ := cz7 BK102.out) | (go_at_call 33; (refine (source_All.calls k _ _ l0 _ _ ([] : List Int) _ _ ([] : List Int) _ _ ([] : List Int) _ _ ([] : List Int) _ _ ([] : List Int) _ _ ([] : List (List Int)) _ _ l1 t103 _ ?side1 ?side2 ?side3 ?side4 ?side5 ?side6 ?side7 ?side8 ?side9 ?side10 ?side11 ?side12 ?side13 ?side14 ?side15 ?side16 A8.out).mono ?_); (case side1 => exact Kd.C_below HR0.out (bp9 HB.out)); (case side2 => exact HC0.out); (case side3 => exact Kd.C_nil _ _); (case side4 => exact Nat.le_refl _); (case side5 => exact Kd.C_nil _ _); (case side6 => exact Nat.le_refl _); (case side7 => exact Kd.C_nil _ _); (case side8 => exact Nat.le_refl _); (case side9 => exact Kd.C_nil _ _); (case side10 => exact Nat.le_refl _); (case side11 => exact Kd.C_nil _ _); (case side12 => exact Nat.le_refl _); (case side13 => exact Kd.C_nil _ _); (case side14 => exact Nat.le_refl _); (case side15 => exact Kd.C_below HR1.out (bp9 HB.out)); (case side16 => exact HC1.out); rintro e w25 ⟨v104, rfl, ho0, hb⟩; have n0_ := Aside0.mk (Kd.S_lower ho0 (below_size (bp9 HB.out))); have n1_ := Aside0.mk (blk_below (g := gb102) (o := .cells #[.slice A0 l0.length c0, .slice none 0 0, .slice none 0 0, .slice none 0 0, .slice none 0 0, .slice none 0 0, .slice none 0 0] 31 (0, 0)) (by (with_reducible repeat (first | refine blk_drewN ?_ _ | refine blk_drew ?_ | refine blk_alloc ?_ _)); refine blk_put (cs := #[.slice A0 l0.length c0, .slice none 0 0, .slice none 0 0, .slice none 0 0, .slice none 0 0, .slice none 0 0, .slice none 0 0]) ?_ 6 _ rfl; (with_reducible repeat (first | refine blk_drewN ?_ _ | refine blk_drew ?_ | refine blk_alloc ?_ _)); refine blk_put (cs := #[.slice A0 l0.length c0, .slice none 0 0, .slice none 0 0, .slice none 0 0, .slice none 0 0, .slice none 0 0, .slice none 0 0]) ?_ 5 _ rfl; (with_reducible repeat (first | refine blk_drewN ?_ _ | refine blk_drew ?_ | refine blk_alloc ?_ _)); refine blk_put (cs := #[.slice A0 l0.length c0, .slice none 0 0, .slice none 0 0, .slice none 0 0, .slice none 0 0, .slice none 0 0, .slice none 0 0]) ?_ 4 _ rfl; (with_reducible repeat (first | refine blk_drewN ?_ _ | refine blk_drew ?_ | refine blk_alloc ?_ _)); refine blk_put (cs := #[.slice A0 l0.length c0, .slice none 0 0, .slice none 0 0, .slice none 0 0, .slice none 0 0, .slice none 0 0, .slice none 0 0]) ?_ 3 _ rfl; (with_reducible repeat (first | refine blk_drewN ?_ _ | refine blk_drew ?_ | refine blk_alloc ?_ _)); refine blk_put (cs := #[.slice A0 l0.length c0, .slice none 0 0, .slice none 0 0, .slice none 0 0, .slice none 0 0, .slice none 0 0, .slice none 0 0]) ?_ 2 _ rfl; (with_reducible repeat (first | refine blk_drewN ?_ _ | refine blk_drew ?_ | refine blk_alloc ?_ _)); refine blk_put (cs := #[.slice A0 l0.length c0, .slice none 0 0, .slice none 0 0, .slice none 0 0, .slice none 0 0, .slice none 0 0, .slice none 0 0]) ?_ 1 _ rfl; (with_reducible repeat (first | refine blk_drewN ?_ _ | refine blk_drew ?_ | refine blk_alloc ?_ _)); refine blk_put (cs := #[.slice none 0 0, .slice none 0 0, .slice none 0 0, .slice none 0 0, .slice none 0 0, .slice none 0 0, .slice none 0 0]) ?_ 0 _ rfl; (with_reducible repeat (first | refine blk_drewN ?_ _ | refine blk_drew ?_ | refine blk_alloc ?_ _)); exact BK102.out) hb); have n2_ := Aside0.mk (below_step (bp9 HB.out) hb); clear BK102; clear HB; have HO105 := n0_; have BK102 := n1_; have HB := n2_; clear n0_ n1_ n2_; (try clear hb); (try clear hb2); (try clear hk); (try clear hi); (try clear ho0); obtain ⟨Ao26, co26, eo26⟩ := Kd.S_slice HO105.out; subst eo26; have p106 : 0 ≤ ((ji16) : Int) := of_decide_eq_true (by first | (with_reducible assumption) | assumption); have q106 : (ji16) < (t103.length : Int) := of_decide_eq_true (by first | (with_reducible assumption) | assumption); obtain ⟨ad106, A106_0, c106_0, e106, hx106_0, hl106_0, hi106_0⟩ := at_L5 (Kd.S_reads' HO105.out).2.2 (ji16) p106 q106; cases e106; obtain ⟨ce106, hce106, hMe106, hcc106⟩ := Kd.S_get HO105.out [] (ji16) p106 (by first | exact q106 | exact of_decide_eq_true (by first | (with_reducible assumption) | assumption) | (have e_ := (Kd.S_reads' HO105.out).1; omega)); obtain ⟨ve106_0, rfl, ge106_0⟩ := hMe106; have hv106_0 := hcc106 0 _ rfl; rw [Nat.add_zero, show ((Kd.slice 3 (Kd.int .i64))).sz = 1 from rfl, Nat.mul_one] at hv106_0; replace hv106_0 := Option.some.inj (hv106_0.symm.trans hx106_0); rw [hv106_0] at ge106_0; have HL106_0 := Aside0.mk (show Kd.R (Kd.int .i64) 3 _ _ _ _ (rd_L5 t103 (ji16)) from ge106_0); clear hv106_0 ge106_0; clear hcc106 hce106; have HR106_0 := Aside0.mk hi106_0; have HC106_0 := Aside0.mk hl106_0; clear hi106_0 hl106_0; replace p106 := eq_true p106; replace q106 := eq_true q106; obtain ⟨hcz27_0, hcz27_1, hcz27_2, hcz27_3, hcz27_4, hcz27_5, hcz27_6, hfz27_0, hfz27_1, hfz27_2, hfz27_3, hfz27_4, hfz27_5, hfz27_6⟩ := cz7 BK102.out) | (go_at_call 64; (refine (source_Rf.calls k _ _ l0 _ _ ([] : List Int) _ _ ([] : List Int) _ _ ([] : List Int) _ _ ([] : List Int) _ _ ([] : List Int) _ _ ([] : List (List Int)) _ _ (rd_L5 t103 (ji16)) t107 _ ?side1 ?side2 ?side3 ?side4 ?side5 ?side6 ?side7 ?side8 ?side9 ?side10 ?side11 ?side12 ?side13 ?side14 ?side15 ?side16 A19.out).mono ?_); (case side1 => exact cp9 HR0.out HB.out); (case side2 => exact HC0.out); (case side3 => exact Kd.C_nil _ _); (case side4 => exact Nat.le_refl _); (case side5 => exact Kd.C_nil _ _); (case side6 => exact Nat.le_refl _); (case side7 => exact Kd.C_nil _ _); (case side8 => exact Nat.le_refl _); (case side9 => exact Kd.C_nil _ _); (case side10 => exact Nat.le_refl _); (case side11 => exact Kd.C_nil _ _); (case side12 => exact Nat.le_refl _); (case side13 => exact Kd.C_nil _ _); (case side14 => exact Nat.le_refl _); (case side15 => repeat (first | exact (by repeat (first | (with_reducible exact HR106_0.out) | (with_reducible refine Kd.C_alloc ?_ _) | (with_reducible refine Kd.C_drewN ?_ _) | (with_reducible refine Kd.C_drew ?_) | exact HR106_0.out)) | (with_reducible refine Kd.C_alloc ?_ _) | (with_reducible refine Kd.C_drewN ?_ _) | (with_reducible refine Kd.C_drew ?_))); (case side16 => exact HC106_0.out); rintro e w28 ⟨v108, rfl, ho0, hb⟩; have n0_ := Aside0.mk (Kd.S_below (by (with_reducible repeat (first | apply Kd.S_alloc | apply Kd.S_drewN | apply Kd.S_drew)); exact HO105.out) hb); have n1_ := Aside0.mk (Kd.R_below (by (with_reducible repeat (first | apply Kd.R_alloc | apply Kd.R_drewN | apply Kd.R_drew)); exact HL106_0.out) hb); have n2_ := Aside0.mk (Kd.R_lower ho0 (below_size (bp9 HB.out))); have n3_ := Aside0.mk (blk_below (kp9 BK102.out) hb); have n4_ := Aside0.mk (Kd.C_below (by repeat (first | (with_reducible exact HR106_0.out) | (with_reducible refine Kd.C_alloc ?_ _) | (with_reducible refine Kd.C_drewN ?_ _) | (with_reducible refine Kd.C_drew ?_) | exact HR106_0.out)) hb); have n5_ := Aside0.mk (below_step (bp9 HB.out) hb); clear HO105; clear HL106_0; clear BK102; clear HR106_0; clear HB; have HO105 := n0_; have HL106_0 := n1_; have HO109 := n2_; have BK102 := n3_; have HR106_0 := n4_; have HB := n5_; clear n0_ n1_ n2_ n3_ n4_ n5_; (try clear hb); (try clear hb2); (try clear hk); (try clear hi); (try clear ho0); obtain ⟨Ao29, co29, eo29⟩ := Kd.R_slice HO109.out; subst eo29) | (go_at_call 38; (with_reducible refine (rel_Pairs.calls k _ _ t107 t110 _ ?side1 ?side2 A20.out).mono ?_); (case side1 => exact lp9 (Kd.R_reads' HO109.out).2.2); (case side2 => exact (Kd.R_reads' HO109.out).2.1); rintro e w30 ⟨v111, rfl, ho0, hb⟩; have n0_ := Aside0.mk (Kd.S_below (by (with_reducible repeat (first | apply Kd.S_alloc | apply Kd.S_drewN | apply Kd.S_drew)); exact HO105.out) hb); have n1_ := Aside0.mk (Kd.R_below (by (with_reducible repeat (first | apply Kd.R_alloc | apply Kd.R_drewN | apply Kd.R_drew)); exact HL106_0.out) hb); have n2_ := Aside0.mk (Kd.R_below (rp9 HO109.out) hb); have n3_ := Aside0.mk (Kd.R_lower ho0 (below_size (bp9 HB.out))); have n4_ := Aside0.mk (blk_below (kp9 BK102.out) hb); have n5_ := Aside0.mk (Kd.C_below (by repeat (first | (with_reducible exact HR106_0.out) | (with_reducible refine Kd.C_alloc ?_ _) | (with_reducible refine Kd.C_drewN ?_ _) | (with_reducible refine Kd.C_drew ?_) | exact HR106_0.out)) hb); have n6_ := Aside0.mk (below_step (bp9 HB.out) hb); clear HO105; clear HL106_0; clear HO109; clear BK102; clear HR106_0; clear HB; have HO105 := n0_; have HL106_0 := n1_; have HO109 := n2_; have HO112 := n3_; have BK102 := n4_; have HR106_0 := n5_; have HB := n6_; clear n0_ n1_ n2_ n3_ n4_ n5_ n6_; (try clear hb); (try clear hb2); (try clear hk); (try clear hi); (try clear ho0)) | ((with_reducible refine gate_dst (N := 12) rfl ?_); refine box_event ?hg (N := 12) ?hd (cs := #[.int .i64 0, .int .i64 0, .int .i64 0, .int .i64 0, .int .i64 0, .int .i64 0, .int .i64 0, .int .i64 0, .int .i64 0, .int .i64 0, .int .i64 0, .int .i64 0, .int .i64 0, .int .i64 0, .int .i64 0, .int .i64 0, .int .i64 0, .int .i64 0, .int .i64 0, .int .i64 0, .int .i64 0, .int .i64 0, .int .i64 0, .int .i64 0]) (t := 71) ?hr ?_; (case hd => rfl); (case hg => rfl); (case hr => first | (go_simp; done) | (go_simp; rfl)); intro gb12 hg_ w31 hbox_ hb; have ho32 := cupolalaw11_SourceRf.row (l := y113) hbox_ (Nat.le_of_eq hg_.symm) Ny113.out; obtain ⟨v114, hv114⟩ : ∃ v_, v_ = Value.slice (some ⟨gb12, 0, none⟩) 24 24 := ⟨_, rfl⟩; rw [← hv114] at ho32; have HV12 := Aside0.mk hv114; clear hv114 hg_ hbox_; have n0_ := Aside0.mk (Kd.S_below (by (with_reducible repeat (first | apply Kd.S_alloc | apply Kd.S_drewN | apply Kd.S_drew)); exact HO105.out) hb); have n1_ := Aside0.mk (Kd.R_below (by (with_reducible repeat (first | apply Kd.R_alloc | apply Kd.R_drewN | apply Kd.R_drew)); exact HL106_0.out) hb); have n2_ := Aside0.mk (Kd.R_below (rp9 HO109.out) hb); have n3_ := Aside0.mk (Kd.R_below (rp9 HO112.out) hb); have n4_ := Aside0.mk (Kd.R_lower ho32 (below_size (bp9 HB.out))); have n5_ := Aside0.mk (blk_below (kp9 BK102.out) hb); have n6_ := Aside0.mk (Kd.C_below (by repeat (first | (with_reducible exact HR106_0.out) | (with_reducible refine Kd.C_alloc ?_ _) | (with_reducible refine Kd.C_drewN ?_ _) | (with_reducible refine Kd.C_drew ?_) | exact HR106_0.out)) hb); have n7_ := Aside0.mk (below_step (bp9 HB.out) hb); clear HO105; clear HL106_0; clear HO109; clear HO112; clear BK102; clear HR106_0; clear HB; have HO105 := n0_; have HL106_0 := n1_; have HO109 := n2_; have HO112 := n3_; have HO115 := n4_; have BK102 := n5_; have HR106_0 := n6_; have HB := n7_; clear n0_ n1_ n2_ n3_ n4_ n5_ n6_ n7_; clear hb ho32)))
     go_loopg [13] k (fun kq v13 w' => ∃ (x12_1 : List Int) (x13_1 : Int), v13 = .int .i64 x13_1 ∧ Aside0 (cupolalaw11_SourceRf.l0 kq l0 t101 (rd_L5 t103 (ji16)) t110 x12_1 x13_1 = some r) ∧ Aside0 (kq ≤ k) ∧ Aside0 (Kd.R k46 46 w' w.heap.size (fun _ => True) v111 t110) ∧ Aside0 (Kd.R (Kd.int .i64) 71 w' w.heap.size (fun _ => True) v114 x12_1) ∧ Aside0 (w'.heap[gb102]? = some (.cells #[(.slice A0 l0.length c0), (.slice none 0 0), (.slice none 0 0), (.slice none 0 0), (.slice none 0 0), (.slice none 0 0), (.slice none 0 0)] 31 (0, 0))) ∧ Aside0 (Below w.heap.size w w') ∧ Aside0 (Kd.R (Kd.int .i64) 3 w' w.heap.size (fun _ => True) (.slice A106_0 (rd_L5 t103 (ji16)).length c106_0) (rd_L5 t103 (ji16))))
     case atStart => exact ⟨(y113), (0), (by first | rfl | (simp; done) | (simp [*]; done)), H', ⟨Nat.le_refl _⟩, ⟨rp9 HO112.out⟩, ⟨rp9 HO115.out⟩, ⟨kp9 BK102.out⟩, ⟨bp9 HB.out⟩, ⟨Kd.R_mono (rp9 HL106_0.out) (fun _ _ => trivial)⟩⟩
     case round =>
      clear H'
      try clear c1
      try clear p1
      try clear q1
      try clear hx1
      try clear p2
      try clear c5
      try clear c5b0
      try clear c5b1
      try clear p6
      try clear c9
      try clear c9b0
      try clear c9b1
      try clear c9b2
      try clear c10
      try clear p10
      try clear q10
      try clear hx10
      try clear c17
      try clear c17b0
      try clear c18
      try clear c18b0
      try clear hcz13_0 hcz13_1 hcz13_2 hcz13_3 hcz13_4 hcz13_5 hcz13_6
      try clear hcz24_0 hcz24_1 hcz24_2 hcz24_3 hcz24_4 hcz24_5 hcz24_6
      try clear hcz27_0 hcz27_1 hcz27_2 hcz27_3 hcz27_4 hcz27_5 hcz27_6
      try clear hfz13_0 hfz13_1 hfz13_2 hfz13_3 hfz13_4 hfz13_5 hfz13_6
      try clear hfz24_0 hfz24_1 hfz24_2 hfz24_3 hfz24_4 hfz24_5 hfz24_6
      try clear hfz27_0 hfz27_1 hfz27_2 hfz27_3 hfz27_4 hfz27_5 hfz27_6
      try clear hx106_0
      try clear p106
      try clear q106
      obtain ⟨x12_1, x13_1, rfl, HA, HK1, HO_11, HO_12, BK102, HB, HL⟩ := hrel
      cases gk with
      | zero => exact absurd HA.out (by simp [cupolalaw11_SourceRf.l0])
      | succ k1 =>
       have H := HA.out
       clear HA
       simp only [cupolalaw11_SourceRf.l0] at H
       by_cases c33 : x13_1 < (t110.length : Int)
       ·rw [if_pos c33] at H
        have c33b0 : decide (x13_1 < (t110.length : Int)) = true := decide_eq_true c33
        clear c33
        by_cases c34 : 0 ≤ x13_1
        ·rw [if_pos c34] at H
         have c34b0 : decide (0 ≤ x13_1) = true := decide_eq_true c34
         clear c34
         have HC35 := Aside0.mk H
         clear H
         obtain ⟨Ao36, co36, eo36⟩ := Kd.R_slice HO_11.out
         subst eo36
         have p116 : 0 ≤ (x13_1 : Int) := of_decide_eq_true (by first | (with_reducible assumption) | assumption)
         have q116 : x13_1 < (t110.length : Int) := of_decide_eq_true (by first | (with_reducible assumption) | assumption)
         obtain ⟨ad116, e116, hx116_0, hx116_1⟩ := at_T46 (Kd.R_reads' HO_11.out).2.2 x13_1 p116 q116
         cases e116
         replace p116 := eq_true p116
         replace q116 := eq_true q116
         have p117 : 0 ≤ (x13_1 : Int) := of_decide_eq_true (by first | (with_reducible assumption) | assumption)
         have q117 : x13_1 < (t110.length : Int) := of_decide_eq_true (by first | (with_reducible assumption) | assumption)
         obtain ⟨ad117, e117, hx117_0, hx117_1⟩ := at_T46 (Kd.R_reads' HO_11.out).2.2 x13_1 p117 q117
         obtain rfl : ad116 = ad117 := (by injection e117)
         replace p117 := eq_true p117
         replace q117 := eq_true q117
         go_upto_region 16 with (fail)
         repeat (go_quiet (fail); go_upto_region 16 with (fail))
         go_cut [99] (fun v99 wc => ∃ (kq : Nat) (x99_34 : Bool), v99 = .bool x99_34 ∧ Aside0 (cupolalaw11_SourceRf.j1 kq l0 t101 (rd_L5 t103 (ji16)) t110 x12_1 x13_1 ((rd_T46 t110 x13_1).f1) x99_34 = some r) ∧ Aside0 (kq ≤ k1) ∧ Aside0 (Kd.R k46 46 wc w.heap.size (fun _ => True) (.slice (some ad116) t110.length co36) t110) ∧ Aside0 (Kd.R (Kd.int .i64) 71 wc w.heap.size (fun _ => True) v114 x12_1) ∧ Aside0 (wc.heap[gb102]? = some (.cells #[(.slice A0 l0.length c0), (.slice none 0 0), (.slice none 0 0), (.slice none 0 0), (.slice none 0 0), (.slice none 0 0), (.slice none 0 0)] 31 (0, 0))) ∧ Aside0 (Below w.heap.size w wc) ∧ Aside0 (Kd.R (Kd.int .i64) 3 wc w.heap.size (fun _ => True) (.slice A106_0 (rd_L5 t103 (ji16)).length c106_0) (rd_L5 t103 (ji16))))
         case first =>
          have H := HC35.out
          clear HC35
          by_cases c37 : 0 ≤ ((rd_T46 t110 x13_1).f0)
          ·rw [if_pos c37] at H
           have c37b0 : decide (0 ≤ ((rd_T46 t110 x13_1).f0)) = true := decide_eq_true c37
           clear c37
           (first | rw [c37b0] | (simp only [i64_w, i32_w]; rw [c37b0]) | skip)
           by_cases c38 : ((rd_T46 t110 x13_1).f0) < (l0.length : Int)
           ·rw [if_pos c38] at H
            have c38b0 : decide (((rd_T46 t110 x13_1).f0) < (l0.length : Int)) = true := decide_eq_true c38
            clear c38
            by_cases c39 : ((rd_T26 l0 ((rd_T46 t110 x13_1).f0)).f1) = 2
            ·rw [if_pos c39] at H
             have c39b0 : (((rd_T26 l0 ((rd_T46 t110 x13_1).f0)).f1) == 2) = true := beq_iff_eq.mpr c39
             have c39b1 : (((rd_T26 l0 ((rd_T46 t110 x13_1).f0)).f1) != 2) = false := bne_eq_false_iff_eq.mpr c39
             clear c39
             by_cases c40 : 0 ≤ ((rd_T46 t110 x13_1).f1)
             ·rw [if_pos c40] at H
              have c40b0 : decide (0 ≤ ((rd_T46 t110 x13_1).f1)) = true := decide_eq_true c40
              clear c40
              by_cases c41 : ((rd_T46 t110 x13_1).f1) < (l0.length : Int)
              ·rw [if_pos c41] at H
               have c41b0 : decide (((rd_T46 t110 x13_1).f1) < (l0.length : Int)) = true := decide_eq_true c41
               clear c41
               by_cases c42 : ((rd_T26 l0 ((rd_T46 t110 x13_1).f1)).f1) = 1
               ·rw [if_pos c42] at H
                have c42b0 : (((rd_T26 l0 ((rd_T46 t110 x13_1).f1)).f1) == 1) = true := beq_iff_eq.mpr c42
                have c42b1 : (((rd_T26 l0 ((rd_T46 t110 x13_1).f1)).f1) != 1) = false := bne_eq_false_iff_eq.mpr c42
                clear c42
                by_cases c43 : ((rd_T26 l0 ((rd_T46 t110 x13_1).f0)).f2) = ((rd_T26 l0 ((rd_T46 t110 x13_1).f1)).f2)
                ·rw [if_pos c43] at H
                 have c43b0 : (((rd_T26 l0 ((rd_T46 t110 x13_1).f0)).f2) == ((rd_T26 l0 ((rd_T46 t110 x13_1).f1)).f2)) = true := beq_iff_eq.mpr c43
                 have c43b1 : (((rd_T26 l0 ((rd_T46 t110 x13_1).f0)).f2) != ((rd_T26 l0 ((rd_T46 t110 x13_1).f1)).f2)) = false := bne_eq_false_iff_eq.mpr c43
                 clear c43
                 have H' := Aside0.mk H
                 clear H
                 have p118 : 0 ≤ (((rd_T46 t110 x13_1).f0) : Int) := of_decide_eq_true (by first | (with_reducible assumption) | assumption)
                 have q118 : ((rd_T46 t110 x13_1).f0) < (l0.length : Int) := of_decide_eq_true (by first | (with_reducible assumption) | assumption)
                 obtain ⟨ad118, e118, hx118_0, hx118_1, hx118_2, hx118_3, hx118_4, hx118_5, hx118_6⟩ := at_T26 HR0.out ((rd_T46 t110 x13_1).f0) p118 q118
                 cases e118
                 replace hx118_0 := (HB.out.cell (World.block_lt_of_cell? w _ hx118_0)).trans hx118_0
                 replace hx118_1 := (HB.out.cell (World.block_lt_of_cell? w _ hx118_1)).trans hx118_1
                 replace hx118_2 := (HB.out.cell (World.block_lt_of_cell? w _ hx118_2)).trans hx118_2
                 replace hx118_3 := (HB.out.cell (World.block_lt_of_cell? w _ hx118_3)).trans hx118_3
                 replace hx118_4 := (HB.out.cell (World.block_lt_of_cell? w _ hx118_4)).trans hx118_4
                 replace hx118_5 := (HB.out.cell (World.block_lt_of_cell? w _ hx118_5)).trans hx118_5
                 replace hx118_6 := (HB.out.cell (World.block_lt_of_cell? w _ hx118_6)).trans hx118_6
                 replace p118 := eq_true p118
                 replace q118 := eq_true q118
                 have p119 : 0 ≤ (((rd_T46 t110 x13_1).f1) : Int) := of_decide_eq_true (by first | (with_reducible assumption) | assumption)
                 have q119 : ((rd_T46 t110 x13_1).f1) < (l0.length : Int) := of_decide_eq_true (by first | (with_reducible assumption) | assumption)
                 obtain ⟨ad119, e119, hx119_0, hx119_1, hx119_2, hx119_3, hx119_4, hx119_5, hx119_6⟩ := at_T26 HR0.out ((rd_T46 t110 x13_1).f1) p119 q119
                 obtain rfl : ad118 = ad119 := (by injection e119)
                 replace hx119_0 := (HB.out.cell (World.block_lt_of_cell? w _ hx119_0)).trans hx119_0
                 replace hx119_1 := (HB.out.cell (World.block_lt_of_cell? w _ hx119_1)).trans hx119_1
                 replace hx119_2 := (HB.out.cell (World.block_lt_of_cell? w _ hx119_2)).trans hx119_2
                 replace hx119_3 := (HB.out.cell (World.block_lt_of_cell? w _ hx119_3)).trans hx119_3
                 replace hx119_4 := (HB.out.cell (World.block_lt_of_cell? w _ hx119_4)).trans hx119_4
                 replace hx119_5 := (HB.out.cell (World.block_lt_of_cell? w _ hx119_5)).trans hx119_5
                 replace hx119_6 := (HB.out.cell (World.block_lt_of_cell? w _ hx119_6)).trans hx119_6
                 replace p119 := eq_true p119
                 replace q119 := eq_true q119
                 have p120 : 0 ≤ (((rd_T46 t110 x13_1).f0) : Int) := of_decide_eq_true (by first | (with_reducible assumption) | assumption)
                 have q120 : ((rd_T46 t110 x13_1).f0) < (l0.length : Int) := of_decide_eq_true (by first | (with_reducible assumption) | assumption)
                 obtain ⟨ad120, e120, hx120_0, hx120_1, hx120_2, hx120_3, hx120_4, hx120_5, hx120_6⟩ := at_T26 HR0.out ((rd_T46 t110 x13_1).f0) p120 q120
                 obtain rfl : ad118 = ad120 := (by injection e120)
                 replace hx120_0 := (HB.out.cell (World.block_lt_of_cell? w _ hx120_0)).trans hx120_0
                 replace hx120_1 := (HB.out.cell (World.block_lt_of_cell? w _ hx120_1)).trans hx120_1
                 replace hx120_2 := (HB.out.cell (World.block_lt_of_cell? w _ hx120_2)).trans hx120_2
                 replace hx120_3 := (HB.out.cell (World.block_lt_of_cell? w _ hx120_3)).trans hx120_3
                 replace hx120_4 := (HB.out.cell (World.block_lt_of_cell? w _ hx120_4)).trans hx120_4
                 replace hx120_5 := (HB.out.cell (World.block_lt_of_cell? w _ hx120_5)).trans hx120_5
                 replace hx120_6 := (HB.out.cell (World.block_lt_of_cell? w _ hx120_6)).trans hx120_6
                 replace p120 := eq_true p120
                 replace q120 := eq_true q120
                 have p121 : 0 ≤ (((rd_T46 t110 x13_1).f1) : Int) := of_decide_eq_true (by first | (with_reducible assumption) | assumption)
                 have q121 : ((rd_T46 t110 x13_1).f1) < (l0.length : Int) := of_decide_eq_true (by first | (with_reducible assumption) | assumption)
                 obtain ⟨ad121, e121, hx121_0, hx121_1, hx121_2, hx121_3, hx121_4, hx121_5, hx121_6⟩ := at_T26 HR0.out ((rd_T46 t110 x13_1).f1) p121 q121
                 obtain rfl : ad118 = ad121 := (by injection e121)
                 replace hx121_0 := (HB.out.cell (World.block_lt_of_cell? w _ hx121_0)).trans hx121_0
                 replace hx121_1 := (HB.out.cell (World.block_lt_of_cell? w _ hx121_1)).trans hx121_1
                 replace hx121_2 := (HB.out.cell (World.block_lt_of_cell? w _ hx121_2)).trans hx121_2
                 replace hx121_3 := (HB.out.cell (World.block_lt_of_cell? w _ hx121_3)).trans hx121_3
                 replace hx121_4 := (HB.out.cell (World.block_lt_of_cell? w _ hx121_4)).trans hx121_4
                 replace hx121_5 := (HB.out.cell (World.block_lt_of_cell? w _ hx121_5)).trans hx121_5
                 replace hx121_6 := (HB.out.cell (World.block_lt_of_cell? w _ hx121_6)).trans hx121_6
                 replace p121 := eq_true p121
                 replace q121 := eq_true q121
                 have p122 : 0 ≤ (((rd_T46 t110 x13_1).f0) : Int) := of_decide_eq_true (by first | (with_reducible assumption) | assumption)
                 have q122 : ((rd_T46 t110 x13_1).f0) < (l0.length : Int) := of_decide_eq_true (by first | (with_reducible assumption) | assumption)
                 obtain ⟨ad122, e122, hx122_0, hx122_1, hx122_2, hx122_3, hx122_4, hx122_5, hx122_6⟩ := at_T26 HR0.out ((rd_T46 t110 x13_1).f0) p122 q122
                 obtain rfl : ad118 = ad122 := (by injection e122)
                 replace hx122_0 := (HB.out.cell (World.block_lt_of_cell? w _ hx122_0)).trans hx122_0
                 replace hx122_1 := (HB.out.cell (World.block_lt_of_cell? w _ hx122_1)).trans hx122_1
                 replace hx122_2 := (HB.out.cell (World.block_lt_of_cell? w _ hx122_2)).trans hx122_2
                 replace hx122_3 := (HB.out.cell (World.block_lt_of_cell? w _ hx122_3)).trans hx122_3
                 replace hx122_4 := (HB.out.cell (World.block_lt_of_cell? w _ hx122_4)).trans hx122_4
                 replace hx122_5 := (HB.out.cell (World.block_lt_of_cell? w _ hx122_5)).trans hx122_5
                 replace hx122_6 := (HB.out.cell (World.block_lt_of_cell? w _ hx122_6)).trans hx122_6
                 replace p122 := eq_true p122
                 replace q122 := eq_true q122
                 have p123 : 0 ≤ (((rd_T46 t110 x13_1).f1) : Int) := of_decide_eq_true (by first | (with_reducible assumption) | assumption)
                 have q123 : ((rd_T46 t110 x13_1).f1) < (l0.length : Int) := of_decide_eq_true (by first | (with_reducible assumption) | assumption)
                 obtain ⟨ad123, e123, hx123_0, hx123_1, hx123_2, hx123_3, hx123_4, hx123_5, hx123_6⟩ := at_T26 HR0.out ((rd_T46 t110 x13_1).f1) p123 q123
                 obtain rfl : ad118 = ad123 := (by injection e123)
                 replace hx123_0 := (HB.out.cell (World.block_lt_of_cell? w _ hx123_0)).trans hx123_0
                 replace hx123_1 := (HB.out.cell (World.block_lt_of_cell? w _ hx123_1)).trans hx123_1
                 replace hx123_2 := (HB.out.cell (World.block_lt_of_cell? w _ hx123_2)).trans hx123_2
                 replace hx123_3 := (HB.out.cell (World.block_lt_of_cell? w _ hx123_3)).trans hx123_3
                 replace hx123_4 := (HB.out.cell (World.block_lt_of_cell? w _ hx123_4)).trans hx123_4
                 replace hx123_5 := (HB.out.cell (World.block_lt_of_cell? w _ hx123_5)).trans hx123_5
                 replace hx123_6 := (HB.out.cell (World.block_lt_of_cell? w _ hx123_6)).trans hx123_6
                 replace p123 := eq_true p123
                 replace q123 := eq_true q123
                 go_wp2
                 repeat (go_quiet (fail); try go_wp2)
                 go_meet
                 case rel => exact ⟨_, ((((rd_T26 l0 ((rd_T46 t110 x13_1).f0)).f3) != ((rd_T26 l0 ((rd_T46 t110 x13_1).f1)).f3))), (by first | rfl | (simp; done) | (simp [*]; done)), H', ⟨by have := HK1.out; first | omega | exact Nat.le_refl _⟩, ⟨rp9 HO_11.out⟩, ⟨rp9 HO_12.out⟩, ⟨kp9 BK102.out⟩, ⟨bp9 HB.out⟩, ⟨rp9 HL.out⟩⟩
                ·rw [if_neg c43] at H
                 have c43b0 : (((rd_T26 l0 ((rd_T46 t110 x13_1).f0)).f2) == ((rd_T26 l0 ((rd_T46 t110 x13_1).f1)).f2)) = false := beq_eq_false_iff_ne.mpr c43
                 have c43b1 : (((rd_T26 l0 ((rd_T46 t110 x13_1).f0)).f2) != ((rd_T26 l0 ((rd_T46 t110 x13_1).f1)).f2)) = true := bne_iff_ne.mpr c43
                 have H' := Aside0.mk H
                 clear H
                 have p118 : 0 ≤ (((rd_T46 t110 x13_1).f0) : Int) := of_decide_eq_true (by first | (with_reducible assumption) | assumption)
                 have q118 : ((rd_T46 t110 x13_1).f0) < (l0.length : Int) := of_decide_eq_true (by first | (with_reducible assumption) | assumption)
                 obtain ⟨ad118, e118, hx118_0, hx118_1, hx118_2, hx118_3, hx118_4, hx118_5, hx118_6⟩ := at_T26 HR0.out ((rd_T46 t110 x13_1).f0) p118 q118
                 cases e118
                 replace hx118_0 := (HB.out.cell (World.block_lt_of_cell? w _ hx118_0)).trans hx118_0
                 replace hx118_1 := (HB.out.cell (World.block_lt_of_cell? w _ hx118_1)).trans hx118_1
                 replace hx118_2 := (HB.out.cell (World.block_lt_of_cell? w _ hx118_2)).trans hx118_2
                 replace hx118_3 := (HB.out.cell (World.block_lt_of_cell? w _ hx118_3)).trans hx118_3
                 replace hx118_4 := (HB.out.cell (World.block_lt_of_cell? w _ hx118_4)).trans hx118_4
                 replace hx118_5 := (HB.out.cell (World.block_lt_of_cell? w _ hx118_5)).trans hx118_5
                 replace hx118_6 := (HB.out.cell (World.block_lt_of_cell? w _ hx118_6)).trans hx118_6
                 replace p118 := eq_true p118
                 replace q118 := eq_true q118
                 have p119 : 0 ≤ (((rd_T46 t110 x13_1).f1) : Int) := of_decide_eq_true (by first | (with_reducible assumption) | assumption)
                 have q119 : ((rd_T46 t110 x13_1).f1) < (l0.length : Int) := of_decide_eq_true (by first | (with_reducible assumption) | assumption)
                 obtain ⟨ad119, e119, hx119_0, hx119_1, hx119_2, hx119_3, hx119_4, hx119_5, hx119_6⟩ := at_T26 HR0.out ((rd_T46 t110 x13_1).f1) p119 q119
                 obtain rfl : ad118 = ad119 := (by injection e119)
                 replace hx119_0 := (HB.out.cell (World.block_lt_of_cell? w _ hx119_0)).trans hx119_0
                 replace hx119_1 := (HB.out.cell (World.block_lt_of_cell? w _ hx119_1)).trans hx119_1
                 replace hx119_2 := (HB.out.cell (World.block_lt_of_cell? w _ hx119_2)).trans hx119_2
                 replace hx119_3 := (HB.out.cell (World.block_lt_of_cell? w _ hx119_3)).trans hx119_3
                 replace hx119_4 := (HB.out.cell (World.block_lt_of_cell? w _ hx119_4)).trans hx119_4
                 replace hx119_5 := (HB.out.cell (World.block_lt_of_cell? w _ hx119_5)).trans hx119_5
                 replace hx119_6 := (HB.out.cell (World.block_lt_of_cell? w _ hx119_6)).trans hx119_6
                 replace p119 := eq_true p119
                 replace q119 := eq_true q119
                 have p120 : 0 ≤ (((rd_T46 t110 x13_1).f0) : Int) := of_decide_eq_true (by first | (with_reducible assumption) | assumption)
                 have q120 : ((rd_T46 t110 x13_1).f0) < (l0.length : Int) := of_decide_eq_true (by first | (with_reducible assumption) | assumption)
                 obtain ⟨ad120, e120, hx120_0, hx120_1, hx120_2, hx120_3, hx120_4, hx120_5, hx120_6⟩ := at_T26 HR0.out ((rd_T46 t110 x13_1).f0) p120 q120
                 obtain rfl : ad118 = ad120 := (by injection e120)
                 replace hx120_0 := (HB.out.cell (World.block_lt_of_cell? w _ hx120_0)).trans hx120_0
                 replace hx120_1 := (HB.out.cell (World.block_lt_of_cell? w _ hx120_1)).trans hx120_1
                 replace hx120_2 := (HB.out.cell (World.block_lt_of_cell? w _ hx120_2)).trans hx120_2
                 replace hx120_3 := (HB.out.cell (World.block_lt_of_cell? w _ hx120_3)).trans hx120_3
                 replace hx120_4 := (HB.out.cell (World.block_lt_of_cell? w _ hx120_4)).trans hx120_4
                 replace hx120_5 := (HB.out.cell (World.block_lt_of_cell? w _ hx120_5)).trans hx120_5
                 replace hx120_6 := (HB.out.cell (World.block_lt_of_cell? w _ hx120_6)).trans hx120_6
                 replace p120 := eq_true p120
                 replace q120 := eq_true q120
                 have p121 : 0 ≤ (((rd_T46 t110 x13_1).f1) : Int) := of_decide_eq_true (by first | (with_reducible assumption) | assumption)
                 have q121 : ((rd_T46 t110 x13_1).f1) < (l0.length : Int) := of_decide_eq_true (by first | (with_reducible assumption) | assumption)
                 obtain ⟨ad121, e121, hx121_0, hx121_1, hx121_2, hx121_3, hx121_4, hx121_5, hx121_6⟩ := at_T26 HR0.out ((rd_T46 t110 x13_1).f1) p121 q121
                 obtain rfl : ad118 = ad121 := (by injection e121)
                 replace hx121_0 := (HB.out.cell (World.block_lt_of_cell? w _ hx121_0)).trans hx121_0
                 replace hx121_1 := (HB.out.cell (World.block_lt_of_cell? w _ hx121_1)).trans hx121_1
                 replace hx121_2 := (HB.out.cell (World.block_lt_of_cell? w _ hx121_2)).trans hx121_2
                 replace hx121_3 := (HB.out.cell (World.block_lt_of_cell? w _ hx121_3)).trans hx121_3
                 replace hx121_4 := (HB.out.cell (World.block_lt_of_cell? w _ hx121_4)).trans hx121_4
                 replace hx121_5 := (HB.out.cell (World.block_lt_of_cell? w _ hx121_5)).trans hx121_5
                 replace hx121_6 := (HB.out.cell (World.block_lt_of_cell? w _ hx121_6)).trans hx121_6
                 replace p121 := eq_true p121
                 replace q121 := eq_true q121
                 go_wp2
                 repeat (go_quiet (fail); try go_wp2)
                 go_meet
                 case rel => exact ⟨_, (true), (by first | rfl | (simp; done) | (simp [*]; done)), H', ⟨by have := HK1.out; first | omega | exact Nat.le_refl _⟩, ⟨rp9 HO_11.out⟩, ⟨rp9 HO_12.out⟩, ⟨kp9 BK102.out⟩, ⟨bp9 HB.out⟩, ⟨rp9 HL.out⟩⟩
               ·rw [if_neg c42] at H
                have c42b0 : (((rd_T26 l0 ((rd_T46 t110 x13_1).f1)).f1) == 1) = false := beq_eq_false_iff_ne.mpr c42
                have c42b1 : (((rd_T26 l0 ((rd_T46 t110 x13_1).f1)).f1) != 1) = true := bne_iff_ne.mpr c42
                have H' := Aside0.mk H
                clear H
                have p118 : 0 ≤ (((rd_T46 t110 x13_1).f0) : Int) := of_decide_eq_true (by first | (with_reducible assumption) | assumption)
                have q118 : ((rd_T46 t110 x13_1).f0) < (l0.length : Int) := of_decide_eq_true (by first | (with_reducible assumption) | assumption)
                obtain ⟨ad118, e118, hx118_0, hx118_1, hx118_2, hx118_3, hx118_4, hx118_5, hx118_6⟩ := at_T26 HR0.out ((rd_T46 t110 x13_1).f0) p118 q118
                cases e118
                replace hx118_0 := (HB.out.cell (World.block_lt_of_cell? w _ hx118_0)).trans hx118_0
                replace hx118_1 := (HB.out.cell (World.block_lt_of_cell? w _ hx118_1)).trans hx118_1
                replace hx118_2 := (HB.out.cell (World.block_lt_of_cell? w _ hx118_2)).trans hx118_2
                replace hx118_3 := (HB.out.cell (World.block_lt_of_cell? w _ hx118_3)).trans hx118_3
                replace hx118_4 := (HB.out.cell (World.block_lt_of_cell? w _ hx118_4)).trans hx118_4
                replace hx118_5 := (HB.out.cell (World.block_lt_of_cell? w _ hx118_5)).trans hx118_5
                replace hx118_6 := (HB.out.cell (World.block_lt_of_cell? w _ hx118_6)).trans hx118_6
                replace p118 := eq_true p118
                replace q118 := eq_true q118
                have p119 : 0 ≤ (((rd_T46 t110 x13_1).f1) : Int) := of_decide_eq_true (by first | (with_reducible assumption) | assumption)
                have q119 : ((rd_T46 t110 x13_1).f1) < (l0.length : Int) := of_decide_eq_true (by first | (with_reducible assumption) | assumption)
                obtain ⟨ad119, e119, hx119_0, hx119_1, hx119_2, hx119_3, hx119_4, hx119_5, hx119_6⟩ := at_T26 HR0.out ((rd_T46 t110 x13_1).f1) p119 q119
                obtain rfl : ad118 = ad119 := (by injection e119)
                replace hx119_0 := (HB.out.cell (World.block_lt_of_cell? w _ hx119_0)).trans hx119_0
                replace hx119_1 := (HB.out.cell (World.block_lt_of_cell? w _ hx119_1)).trans hx119_1
                replace hx119_2 := (HB.out.cell (World.block_lt_of_cell? w _ hx119_2)).trans hx119_2
                replace hx119_3 := (HB.out.cell (World.block_lt_of_cell? w _ hx119_3)).trans hx119_3
                replace hx119_4 := (HB.out.cell (World.block_lt_of_cell? w _ hx119_4)).trans hx119_4
                replace hx119_5 := (HB.out.cell (World.block_lt_of_cell? w _ hx119_5)).trans hx119_5
                replace hx119_6 := (HB.out.cell (World.block_lt_of_cell? w _ hx119_6)).trans hx119_6
                replace p119 := eq_true p119
                replace q119 := eq_true q119
                go_wp2
                repeat (go_quiet (fail); try go_wp2)
                go_meet
                case rel => exact ⟨_, (true), (by first | rfl | (simp; done) | (simp [*]; done)), H', ⟨by have := HK1.out; first | omega | exact Nat.le_refl _⟩, ⟨rp9 HO_11.out⟩, ⟨rp9 HO_12.out⟩, ⟨kp9 BK102.out⟩, ⟨bp9 HB.out⟩, ⟨rp9 HL.out⟩⟩
              ·rw [if_neg c41] at H
               exact absurd H (by simp)
             ·rw [if_neg c40] at H
              exact absurd H (by simp)
            ·rw [if_neg c39] at H
             have c39b0 : (((rd_T26 l0 ((rd_T46 t110 x13_1).f0)).f1) == 2) = false := beq_eq_false_iff_ne.mpr c39
             have c39b1 : (((rd_T26 l0 ((rd_T46 t110 x13_1).f0)).f1) != 2) = true := bne_iff_ne.mpr c39
             have H' := Aside0.mk H
             clear H
             have p118 : 0 ≤ (((rd_T46 t110 x13_1).f0) : Int) := of_decide_eq_true (by first | (with_reducible assumption) | assumption)
             have q118 : ((rd_T46 t110 x13_1).f0) < (l0.length : Int) := of_decide_eq_true (by first | (with_reducible assumption) | assumption)
             obtain ⟨ad118, e118, hx118_0, hx118_1, hx118_2, hx118_3, hx118_4, hx118_5, hx118_6⟩ := at_T26 HR0.out ((rd_T46 t110 x13_1).f0) p118 q118
             cases e118
             replace hx118_0 := (HB.out.cell (World.block_lt_of_cell? w _ hx118_0)).trans hx118_0
             replace hx118_1 := (HB.out.cell (World.block_lt_of_cell? w _ hx118_1)).trans hx118_1
             replace hx118_2 := (HB.out.cell (World.block_lt_of_cell? w _ hx118_2)).trans hx118_2
             replace hx118_3 := (HB.out.cell (World.block_lt_of_cell? w _ hx118_3)).trans hx118_3
             replace hx118_4 := (HB.out.cell (World.block_lt_of_cell? w _ hx118_4)).trans hx118_4
             replace hx118_5 := (HB.out.cell (World.block_lt_of_cell? w _ hx118_5)).trans hx118_5
             replace hx118_6 := (HB.out.cell (World.block_lt_of_cell? w _ hx118_6)).trans hx118_6
             replace p118 := eq_true p118
             replace q118 := eq_true q118
             go_wp2
             repeat (go_quiet (fail); try go_wp2)
             go_meet
             case rel => exact ⟨_, (true), (by first | rfl | (simp; done) | (simp [*]; done)), H', ⟨by have := HK1.out; first | omega | exact Nat.le_refl _⟩, ⟨rp9 HO_11.out⟩, ⟨rp9 HO_12.out⟩, ⟨kp9 BK102.out⟩, ⟨bp9 HB.out⟩, ⟨rp9 HL.out⟩⟩
           ·rw [if_neg c38] at H
            exact absurd H (by simp)
          ·rw [if_neg c37] at H
           exact absurd H (by simp)
         case rest =>
          clear HC35
          try clear c1
          try clear p1
          try clear q1
          try clear hx1
          try clear p2
          try clear c3
          try clear c4
          try clear c5
          try clear c5b0
          try clear c5b1
          try clear p6
          try clear c9
          try clear c9b0
          try clear c9b1
          try clear c9b2
          try clear c10
          try clear p10
          try clear q10
          try clear hx10
          try clear p11
          try clear q11
          try clear hx11
          try clear p12
          try clear q12
          try clear hx12
          try clear c17
          try clear c17b0
          try clear c18
          try clear c18b0
          try clear c33
          try clear c33b0
          try clear c34
          try clear c34b0
          try clear c37
          try clear c37b0
          try clear c38
          try clear c38b0
          try clear c39
          try clear c39b0
          try clear c39b1
          try clear c40
          try clear c40b0
          try clear c41
          try clear c41b0
          try clear c42
          try clear c42b0
          try clear c42b1
          try clear c43
          try clear c43b0
          try clear c43b1
          try clear hcz13_0 hcz13_1 hcz13_2 hcz13_3 hcz13_4 hcz13_5 hcz13_6
          try clear hcz24_0 hcz24_1 hcz24_2 hcz24_3 hcz24_4 hcz24_5 hcz24_6
          try clear hcz27_0 hcz27_1 hcz27_2 hcz27_3 hcz27_4 hcz27_5 hcz27_6
          try clear hfz13_0 hfz13_1 hfz13_2 hfz13_3 hfz13_4 hfz13_5 hfz13_6
          try clear hfz24_0 hfz24_1 hfz24_2 hfz24_3 hfz24_4 hfz24_5 hfz24_6
          try clear hfz27_0 hfz27_1 hfz27_2 hfz27_3 hfz27_4 hfz27_5 hfz27_6
          try clear hx106_0
          try clear hx116_0
          try clear hx116_1
          try clear hx117_0
          try clear hx117_1
          try clear hx118_0
          try clear hx118_1
          try clear hx118_2
          try clear hx118_3
          try clear hx118_4
          try clear hx118_5
          try clear hx118_6
          try clear hx119_0
          try clear hx119_1
          try clear hx119_2
          try clear hx119_3
          try clear hx119_4
          try clear hx119_5
          try clear hx119_6
          try clear hx120_0
          try clear hx120_1
          try clear hx120_2
          try clear hx120_3
          try clear hx120_4
          try clear hx120_5
          try clear hx120_6
          try clear hx121_0
          try clear hx121_1
          try clear hx121_2
          try clear hx121_3
          try clear hx121_4
          try clear hx121_5
          try clear hx121_6
          try clear hx122_0
          try clear hx122_1
          try clear hx122_2
          try clear hx122_3
          try clear hx122_4
          try clear hx122_5
          try clear hx122_6
          try clear hx123_0
          try clear hx123_1
          try clear hx123_2
          try clear hx123_3
          try clear hx123_4
          try clear hx123_5
          try clear hx123_6
          try clear p1
          try clear p10
          try clear p106
          try clear p116
          try clear p117
          try clear p118
          try clear p119
          try clear p120
          try clear p121
          try clear p122
          try clear p123
          try clear p2
          try clear p6
          try clear q1
          try clear q10
          try clear q106
          try clear q116
          try clear q117
          try clear q118
          try clear q119
          try clear q120
          try clear q121
          try clear q122
          try clear q123
          obtain ⟨kq, x99_34, rfl, HA, HJ34, HO_11, HO_12, BK102, HB, HL⟩ := hcut
          cases kq with
          | zero => exact absurd HA.out (by simp [cupolalaw11_SourceRf.j1])
          | succ kj34 =>
           have H := HA.out
           clear HA
           simp only [cupolalaw11_SourceRf.j1] at H
           by_cases c44 : x99_34 = true
           ·subst c44
            rw [if_pos rfl] at H
            exact absurd ((Option.some.inj H).trans HT9.out) (by decide)
           ·replace c44 := Bool.eq_false_iff.mpr c44
            subst c44
            rw [if_neg (show ¬ (false = true) by decide)] at H
            by_cases c45 : 0 ≤ ((rd_T46 t110 x13_1).f1)
            ·rw [if_pos c45] at H
             have c45b0 : decide (0 ≤ ((rd_T46 t110 x13_1).f1)) = true := decide_eq_true c45
             clear c45
             by_cases c46 : ((rd_T46 t110 x13_1).f1) < (x12_1.length : Int)
             ·rw [if_pos c46] at H
              have c46b0 : decide (((rd_T46 t110 x13_1).f1) < (x12_1.length : Int)) = true := decide_eq_true c46
              clear c46
              obtain ⟨y125, hy125⟩ : ∃ y_ : List Int, y_ = (x12_1.set (((rd_T46 t110 x13_1).f1) : Int).toNat (wrap64 ((rd x12_1 ((rd_T46 t110 x13_1).f1)) + 1))) := ⟨_, rfl⟩
              replace H : (cupolalaw11_SourceRf.l0 kj34 l0 t101 (rd_L5 t103 (ji16)) t110 y125 (wrap64 (x13_1 + 1))) = some r := by first | (rw [hy125]; with_reducible exact H) | (have H2_ := (Option.bind_some _ _).symm.trans H; rw [hy125]; with_reducible exact H2_) | (have H2_ := (Option.bind_some _ _).symm.trans H; with_reducible exact H2_) | with_reducible exact H | (rw [hy125]; exact H) | exact H
              have Ny125 := Aside0.mk hy125
              clear hy125
              have H' := Aside0.mk H
              clear H
              obtain ⟨Ao48, co48, eo48⟩ := Kd.R_slice HO_12.out
              subst eo48
              have hz_ := HV12.out
              injection hz_ with za_ zn_ zc_
              subst za_
              subst zc_
              have ZN := Aside0.mk zn_
              clear zn_
              have p124 : 0 ≤ (((rd_T46 t110 x13_1).f1) : Int) := of_decide_eq_true (by first | (with_reducible assumption) | assumption)
              have q124 : ((rd_T46 t110 x13_1).f1) < (x12_1.length : Int) := of_decide_eq_true (by first | (with_reducible assumption) | assumption)
              obtain ⟨ad124, e124, hx124_0⟩ := Kd.at_int (Kd.R_reads' HO_12.out).2.2 ((rd_T46 t110 x13_1).f1) p124 q124
              cases e124
              replace p124 := eq_true p124
              replace q124 := eq_true q124
              have q124a : ((((rd_T46 t110 x13_1).f1) : Int) < 24) = True := eq_true (by have h1_ := ZN.out; have h2_ := of_eq_true q124; omega)
              (first | simp only [add_plain] at hx124_0 | skip)
              have p47 : 0 ≤ (((rd_T46 t110 x13_1).f1) : Int) := of_decide_eq_true (by first | (with_reducible assumption) | assumption)
              have q47 : (((rd_T46 t110 x13_1).f1) : Int) < ((x12_1.length : Int) : Int) := of_decide_eq_true (by first | (with_reducible assumption) | assumption)
              obtain ⟨gx_, cx_, eo47, gb47, gl47, cl47, HG47⟩ := Kd.R_form HO_12.out (by omega)
              injection eo47 with ea_ en_ ec_
              injection ea_ with ea_
              injection ea_ with ea_ _ _
              subst ea_
              clear en_ ec_
              have GB47 := Aside0.mk gb47
              have GG47 := Aside0.mk HG47
              clear gb47 gl47 HG47
              (first | simp only [add_plain] at hx124_0 | skip)
              obtain ⟨hx47_0, hf47_0⟩ := Kd.R_celln 0 HO_12.out (((rd_T46 t110 x13_1).f1) : Int) p47 q47
              replace p47 := eq_true p47
              replace q47 := eq_true q47
              have HP49 := Kd.R_putg HO_12.out (((rd_T46 t110 x13_1).f1) : Int) (wrap64 ((rd x12_1 ((rd_T46 t110 x13_1).f1)) + 1))
              go_wp2_with (first | ((with_reducible refine gate_store (t := 3) (p := 104) rfl ?_); (try (rw [drewN_self wc]; generalize hq_ : World.drewN wc _ = wc; have n0_ := Aside0.mk (Kd.R_at hq_ HO_11.out); have n1_ := Aside0.mk (Kd.R_at hq_ HO_12.out); have n2_ := Aside0.mk (blk_at hq_ BK102.out); have n3_ := Aside0.mk (below_at hq_ HB.out); have n8_ := Aside0.mk (Kd.R_at hq_ HL.out); clear HL; have HL := n8_; clear n8_; clear hq_ HO_11 HO_12 BK102 HB; have HO_11 := n0_; have HO_12 := n1_; have BK102 := n2_; have HB := n3_; clear n0_ n1_ n2_ n3_; (try (have HP49 := Kd.R_putg HO_12.out (((rd_T46 t110 x13_1).f1) : Int) (wrap64 ((rd x12_1 ((rd_T46 t110 x13_1).f1)) + 1)))))); refine store_event (t := 3) (p := 104) (v := ?vo_w50) (w1 := (wc.setCell ⟨gb12, (((rd_T46 t110 x13_1).f1) : Int).toNat, none⟩ (.int .i64 (wrap64 ((rd x12_1 ((rd_T46 t110 x13_1).f1)) + 1))))) ?hg ?ho ?hn ?hr ?_; (case ho => rfl); (case hg => rfl); (case hn => rfl); (case hr => first | (go_simp; done) | (go_simp; rfl)); intro w50 hw; have hg : wc.grownBy w50 (some gb12) := (by rw [hw]; exact HP49.2); have hp_ : Kd.R (Kd.int .i64) 71 w50 w.heap.size (fun _ => True) (.slice (some ⟨gb12, 0, none⟩) x12_1.length 24) y125 := (by rw [hw, Ny125.out]; exact HP49.1); clear HP49; have n0_ := Aside0.mk (Kd.R_over' (v := (.slice (some ⟨gb12, 0, none⟩) x12_1.length 24)) (rp9 HO_11.out) (Kd.R_typed HO_12.out) (by decide) hg); have n1_ := Aside0.mk (hp_); have n2_ := Aside0.mk (blk_grown (g := gb102) (o := .cells #[.slice A0 l0.length c0, .slice none 0 0, .slice none 0 0, .slice none 0 0, .slice none 0 0, .slice none 0 0, .slice none 0 0] 31 (0, 0)) (kp9 BK102.out) hg (Kd.R_ne HO_12.out BK102.out (by decide))); have n3_ := Aside0.mk ((by rw [hw]; exact below_set (HB.out) GB47.out : Below w.heap.size w w50)); have n8_ := Aside0.mk (Kd.R_over' (v := (.slice (some ⟨gb12, 0, none⟩) x12_1.length 24)) (rp9 HL.out) (Kd.R_typed HO_12.out) (by decide) hg); clear HL; have HL := n8_; clear n8_; clear HO_11; clear HO_12; clear BK102; clear HB; have HO_11 := n0_; have HO_12 := n1_; have BK102 := n2_; have HB := n3_; clear n0_ n1_ n2_ n3_; clear hg hw hp_))
              go_roundg kj34
              case measure => have := HK1.out; have := HJ34.out; omega
              case rel => exact ⟨(y125), (wrap64 (x13_1 + 1)), (by first | rfl | (simp; done) | (simp [*]; done)), H', ⟨by have := HK1.out; have := HJ34.out; omega⟩, ⟨rp9 HO_11.out⟩, ⟨rp9 HO_12.out⟩, ⟨kp9 BK102.out⟩, ⟨bp9 HB.out⟩, ⟨rp9 HL.out⟩⟩
             ·rw [if_neg c46] at H
              exact absurd H (by simp)
            ·rw [if_neg c45] at H
             exact absurd H (by simp)
        ·rw [if_neg c34] at H
         exact absurd H (by simp)
       ·rw [if_neg c33] at H
        have c33b0 : decide (x13_1 < (t110.length : Int)) = false := decide_eq_false c33
        clear c33
        have H' := Aside0.mk H
        clear H
        obtain ⟨Ao51, co51, eo51⟩ := Kd.R_slice HO_11.out
        subst eo51
        go_wp2
        repeat (go_quiet (fail); try go_wp2)
        go_loopg [16] k1 (fun kq v16 w' => ∃ (x16_2 : Int), v16 = .int .i64 x16_2 ∧ Aside0 (cupolalaw11_SourceRf.l1 kq l0 t101 (rd_L5 t103 (ji16)) x12_1 x16_2 = some r) ∧ Aside0 (kq ≤ k1) ∧ Aside0 (Kd.R (Kd.int .i64) 71 w' w.heap.size (fun _ => True) v114 x12_1) ∧ Aside0 (w'.heap[gb102]? = some (.cells #[(.slice A0 l0.length c0), (.slice none 0 0), (.slice none 0 0), (.slice none 0 0), (.slice none 0 0), (.slice none 0 0), (.slice none 0 0)] 31 (0, 0))) ∧ Aside0 (Below w.heap.size w w') ∧ Aside0 (Kd.R (Kd.int .i64) 3 w' w.heap.size (fun _ => True) (.slice A106_0 (rd_L5 t103 (ji16)).length c106_0) (rd_L5 t103 (ji16))))
        case atStart => exact ⟨(0), (by first | rfl | (simp; done) | (simp [*]; done)), H', ⟨Nat.le_refl _⟩, ⟨rp9 HO_12.out⟩, ⟨kp9 BK102.out⟩, ⟨bp9 HB.out⟩, ⟨rp9 HL.out⟩⟩
        case round =>
         clear H'
         try clear c1
         try clear p1
         try clear q1
         try clear hx1
         try clear p2
         try clear c3
         try clear c4
         try clear p4
         try clear q4
         try clear hx4
         try clear hf4
         try clear c5
         try clear c5b0
         try clear c5b1
         try clear p6
         try clear c9
         try clear c9b0
         try clear c9b1
         try clear c9b2
         try clear c10
         try clear p10
         try clear q10
         try clear hx10
         try clear p11
         try clear q11
         try clear hx11
         try clear p12
         try clear q12
         try clear hx12
         try clear c17
         try clear c17b0
         try clear c18
         try clear c18b0
         try clear c33
         try clear c33b0
         try clear c34
         try clear c34b0
         try clear c37
         try clear c37b0
         try clear c38
         try clear c38b0
         try clear c39
         try clear c39b0
         try clear c39b1
         try clear c40
         try clear c40b0
         try clear c41
         try clear c41b0
         try clear c42
         try clear c42b0
         try clear c42b1
         try clear c43
         try clear c43b0
         try clear c43b1
         try clear c44
         try clear c45
         try clear c45b0
         try clear c46
         try clear c46b0
         try clear p47
         try clear q47
         try clear hx47
         try clear hf47
         try clear hcz13_0 hcz13_1 hcz13_2 hcz13_3 hcz13_4 hcz13_5 hcz13_6
         try clear hcz24_0 hcz24_1 hcz24_2 hcz24_3 hcz24_4 hcz24_5 hcz24_6
         try clear hcz27_0 hcz27_1 hcz27_2 hcz27_3 hcz27_4 hcz27_5 hcz27_6
         try clear hfz13_0 hfz13_1 hfz13_2 hfz13_3 hfz13_4 hfz13_5 hfz13_6
         try clear hfz24_0 hfz24_1 hfz24_2 hfz24_3 hfz24_4 hfz24_5 hfz24_6
         try clear hfz27_0 hfz27_1 hfz27_2 hfz27_3 hfz27_4 hfz27_5 hfz27_6
         try clear hx106_0
         try clear hx116_0
         try clear hx116_1
         try clear hx117_0
         try clear hx117_1
         try clear hx118_0
         try clear hx118_1
         try clear hx118_2
         try clear hx118_3
         try clear hx118_4
         try clear hx118_5
         try clear hx118_6
         try clear hx119_0
         try clear hx119_1
         try clear hx119_2
         try clear hx119_3
         try clear hx119_4
         try clear hx119_5
         try clear hx119_6
         try clear hx120_0
         try clear hx120_1
         try clear hx120_2
         try clear hx120_3
         try clear hx120_4
         try clear hx120_5
         try clear hx120_6
         try clear hx121_0
         try clear hx121_1
         try clear hx121_2
         try clear hx121_3
         try clear hx121_4
         try clear hx121_5
         try clear hx121_6
         try clear hx122_0
         try clear hx122_1
         try clear hx122_2
         try clear hx122_3
         try clear hx122_4
         try clear hx122_5
         try clear hx122_6
         try clear hx123_0
         try clear hx123_1
         try clear hx123_2
         try clear hx123_3
         try clear hx123_4
         try clear hx123_5
         try clear hx123_6
         try clear hx124_0
         try clear hx47_0
         try clear p1
         try clear p10
         try clear p106
         try clear p11
         try clear p116
         try clear p117
         try clear p118
         try clear p119
         try clear p12
         try clear p120
         try clear p121
         try clear p122
         try clear p123
         try clear p124
         try clear p2
         try clear p47
         try clear p6
         try clear q1
         try clear q10
         try clear q106
         try clear q11
         try clear q116
         try clear q117
         try clear q118
         try clear q119
         try clear q12
         try clear q120
         try clear q121
         try clear q122
         try clear q123
         try clear q124
         try clear q47
         obtain ⟨x16_2, rfl, HA, HK2, HO_12, BK102, HB, HL⟩ := hrel
         cases gk with
         | zero => exact absurd HA.out (by simp [cupolalaw11_SourceRf.l1])
         | succ k2 =>
          have H := HA.out
          clear HA
          simp only [cupolalaw11_SourceRf.l1] at H
          by_cases c52 : x16_2 < (l0.length : Int)
          ·rw [if_pos c52] at H
           have c52b0 : decide (x16_2 < (l0.length : Int)) = true := decide_eq_true c52
           clear c52
           by_cases c53 : 0 ≤ x16_2
           ·rw [if_pos c53] at H
            have c53b0 : decide (0 ≤ x16_2) = true := decide_eq_true c53
            clear c53
            have HC54 := Aside0.mk H
            clear H
            have p126 : 0 ≤ (x16_2 : Int) := of_decide_eq_true (by first | (with_reducible assumption) | assumption)
            have q126 : x16_2 < (l0.length : Int) := of_decide_eq_true (by first | (with_reducible assumption) | assumption)
            obtain ⟨ad126, e126, hx126_0, hx126_1, hx126_2, hx126_3, hx126_4, hx126_5, hx126_6⟩ := at_T26 HR0.out x16_2 p126 q126
            cases e126
            replace hx126_0 := (HB.out.cell (World.block_lt_of_cell? w _ hx126_0)).trans hx126_0
            replace hx126_1 := (HB.out.cell (World.block_lt_of_cell? w _ hx126_1)).trans hx126_1
            replace hx126_2 := (HB.out.cell (World.block_lt_of_cell? w _ hx126_2)).trans hx126_2
            replace hx126_3 := (HB.out.cell (World.block_lt_of_cell? w _ hx126_3)).trans hx126_3
            replace hx126_4 := (HB.out.cell (World.block_lt_of_cell? w _ hx126_4)).trans hx126_4
            replace hx126_5 := (HB.out.cell (World.block_lt_of_cell? w _ hx126_5)).trans hx126_5
            replace hx126_6 := (HB.out.cell (World.block_lt_of_cell? w _ hx126_6)).trans hx126_6
            replace p126 := eq_true p126
            replace q126 := eq_true q126
            go_upto_region 23 with (fail)
            repeat (go_quiet (fail); go_upto_region 23 with (fail))
            generalize hb17_ : (((rd_T26 l0 x16_2).f1) == 1) = b17
            have HB17 := Aside0.mk hb17_
            clear hb17_
            go_cut [152] (fun v152 wc => ∃ (kq : Nat) (x152_53 : Bool), v152 = .bool x152_53 ∧ Aside0 (cupolalaw11_SourceRf.j3 kq l0 t101 (rd_L5 t103 (ji16)) x12_1 x16_2 x152_53 = some r) ∧ Aside0 (kq ≤ k2) ∧ Aside0 (Kd.R (Kd.int .i64) 71 wc w.heap.size (fun _ => True) v114 x12_1) ∧ Aside0 (wc.heap[gb102]? = some (.cells #[(.slice (some ad126) l0.length c0), (.slice none 0 0), (.slice none 0 0), (.slice none 0 0), (.slice none 0 0), (.slice none 0 0), (.slice none 0 0)] 31 (0, 0))) ∧ Aside0 (Below w.heap.size w wc) ∧ Aside0 (Kd.R (Kd.int .i64) 3 wc w.heap.size (fun _ => True) (.slice A106_0 (rd_L5 t103 (ji16)).length c106_0) (rd_L5 t103 (ji16))))
            case first =>
             have H := HC54.out
             clear HC54
             by_cases c55 : x16_2 < (x12_1.length : Int)
             ·rw [if_pos c55] at H
              have c55b0 : decide (x16_2 < (x12_1.length : Int)) = true := decide_eq_true c55
              clear c55
              (first | rw [c55b0] | (simp only [i64_w, i32_w]; rw [c55b0]) | skip)
              by_cases c56 : (rd x12_1 x16_2) > 1
              ·rw [if_pos c56] at H
               have c56b0 : decide (1 < (rd x12_1 x16_2)) = true := decide_eq_true c56
               clear c56
               have H' := Aside0.mk H
               clear H
               obtain ⟨Ao57, co57, eo57⟩ := Kd.R_slice HO_12.out
               subst eo57
               have hz_ := HV12.out
               injection hz_ with za_ zn_ zc_
               subst za_
               subst zc_
               have ZN := Aside0.mk zn_
               clear zn_
               have p127 : 0 ≤ (x16_2 : Int) := of_decide_eq_true (by first | (with_reducible assumption) | assumption)
               have q127 : x16_2 < (x12_1.length : Int) := of_decide_eq_true (by first | (with_reducible assumption) | assumption)
               obtain ⟨ad127, e127, hx127_0⟩ := Kd.at_int (Kd.R_reads' HO_12.out).2.2 x16_2 p127 q127
               cases e127
               replace p127 := eq_true p127
               replace q127 := eq_true q127
               have q127a : ((x16_2 : Int) < 24) = True := eq_true (by have h1_ := ZN.out; have h2_ := of_eq_true q127; omega)
               (first | simp only [add_plain] at hx127_0 | skip)
               go_wp2
               repeat (go_quiet (fail); try go_wp2)
               go_meet
               case rel => exact ⟨_, (true), (by first | rfl | (simp; done) | (simp [*]; done)), H', ⟨by have := HK1.out; have := HK2.out; first | omega | exact Nat.le_refl _⟩, ⟨rp9 HO_12.out⟩, ⟨kp9 BK102.out⟩, ⟨bp9 HB.out⟩, ⟨rp9 HL.out⟩⟩
              ·rw [if_neg c56] at H
               have c56b0 : decide (1 < (rd x12_1 x16_2)) = false := decide_eq_false c56
               clear c56
               by_cases c58 : ((rd_T26 l0 x16_2).f1) = 1
               ·rw [if_pos c58] at H
                have c58b0 : (((rd_T26 l0 x16_2).f1) == 1) = true := beq_iff_eq.mpr c58
                (try (have e17_ : b17 = true := HB17.out.symm.trans c58b0; subst e17_))
                have c58b1 : (((rd_T26 l0 x16_2).f1) != 1) = false := bne_eq_false_iff_eq.mpr c58
                clear c58
                by_cases c59 : x16_2 < ((rd_L5 t103 (ji16)).length : Int)
                ·rw [if_pos c59] at H
                 have c59b0 : decide (x16_2 < ((rd_L5 t103 (ji16)).length : Int)) = true := decide_eq_true c59
                 clear c59
                 by_cases c60 : (((rd x12_1 x16_2) == 0) != ((rd (rd_L5 t103 (ji16)) x16_2) == (-1))) = true
                 ·rw [if_pos c60] at H
                  have c60b0 : (((rd x12_1 x16_2) == 0) != ((rd (rd_L5 t103 (ji16)) x16_2) == (-1))) = true := c60
                  (try (have c60b1 : decide (((rd x12_1 x16_2) == 0) = ((rd (rd_L5 t103 (ji16)) x16_2) == (-1))) = false := by simpa using c60))
                  (try (have c60b2 : (((rd x12_1 x16_2) == 0) == ((rd (rd_L5 t103 (ji16)) x16_2) == (-1))) = false := by simpa using c60))
                  (try (have c60b3 : ¬ (((rd x12_1 x16_2) == 0) = ((rd (rd_L5 t103 (ji16)) x16_2) == (-1))) := by simpa using c60))
                  clear c60
                  have H' := Aside0.mk H
                  clear H
                  obtain ⟨Ao61, co61, eo61⟩ := Kd.R_slice HO_12.out
                  subst eo61
                  have hz_ := HV12.out
                  injection hz_ with za_ zn_ zc_
                  subst za_
                  subst zc_
                  have ZN := Aside0.mk zn_
                  clear zn_
                  have p127 : 0 ≤ (x16_2 : Int) := of_decide_eq_true (by first | (with_reducible assumption) | assumption)
                  have q127 : x16_2 < (x12_1.length : Int) := of_decide_eq_true (by first | (with_reducible assumption) | assumption)
                  obtain ⟨ad127, e127, hx127_0⟩ := Kd.at_int (Kd.R_reads' HO_12.out).2.2 x16_2 p127 q127
                  cases e127
                  replace p127 := eq_true p127
                  replace q127 := eq_true q127
                  have q127a : ((x16_2 : Int) < 24) = True := eq_true (by have h1_ := ZN.out; have h2_ := of_eq_true q127; omega)
                  (first | simp only [add_plain] at hx127_0 | skip)
                  have p128 : 0 ≤ (x16_2 : Int) := of_decide_eq_true (by first | (with_reducible assumption) | assumption)
                  have q128 : x16_2 < (x12_1.length : Int) := of_decide_eq_true (by first | (with_reducible assumption) | assumption)
                  obtain ⟨ad128, e128, hx128_0⟩ := Kd.at_int (Kd.R_reads' HO_12.out).2.2 x16_2 p128 q128
                  cases e128
                  replace p128 := eq_true p128
                  replace q128 := eq_true q128
                  have q128a : ((x16_2 : Int) < 24) = True := eq_true (by have h1_ := ZN.out; have h2_ := of_eq_true q128; omega)
                  (first | simp only [add_plain] at hx128_0 | skip)
                  have p129 : 0 ≤ (x16_2 : Int) := of_decide_eq_true (by first | (with_reducible assumption) | assumption)
                  have q129 : x16_2 < ((rd_L5 t103 (ji16)).length : Int) := of_decide_eq_true (by first | (with_reducible assumption) | assumption)
                  obtain ⟨ad129, e129, hx129_0⟩ := Kd.at_int (Kd.R_reads' HL.out).2.2 x16_2 p129 q129
                  cases e129

                  replace p129 := eq_true p129
                  replace q129 := eq_true q129
                  go_wp2
                  repeat (go_quiet (fail); try go_wp2)
                  go_meet
                  case rel => exact ⟨_, (true), (by first | rfl | (simp; done) | (simp [*]; done)), H', ⟨by have := HK1.out; have := HK2.out; first | omega | exact Nat.le_refl _⟩, ⟨rp9 HO_12.out⟩, ⟨kp9 BK102.out⟩, ⟨bp9 HB.out⟩, ⟨rp9 HL.out⟩⟩
                 ·rw [if_neg c60] at H
                  have c60b0 : (((rd x12_1 x16_2) == 0) != ((rd (rd_L5 t103 (ji16)) x16_2) == (-1))) = false := by simpa using c60
                  (try (have c60b1 : decide (((rd x12_1 x16_2) == 0) = ((rd (rd_L5 t103 (ji16)) x16_2) == (-1))) = true := by simpa using c60))
                  (try (have c60b2 : (((rd x12_1 x16_2) == 0) == ((rd (rd_L5 t103 (ji16)) x16_2) == (-1))) = true := by simpa using c60))
                  clear c60
                  by_cases c62 : (((rd_T26 l0 x16_2).f1) = 1)
                  ·rw [if_pos c62] at H
                   have c62b0 : (((rd_T26 l0 x16_2).f1) == 1) = true := beq_iff_eq.mpr c62
                   (try (have e17_ : b17 = true := HB17.out.symm.trans c62b0; subst e17_))
                   have c62b1 : (((rd_T26 l0 x16_2).f1) != 1) = false := bne_eq_false_iff_eq.mpr c62
                   clear c62
                   have H' := Aside0.mk H
                   clear H
                   obtain ⟨Ao63, co63, eo63⟩ := Kd.R_slice HO_12.out
                   subst eo63
                   have hz_ := HV12.out
                   injection hz_ with za_ zn_ zc_
                   subst za_
                   subst zc_
                   have ZN := Aside0.mk zn_
                   clear zn_
                   have p127 : 0 ≤ (x16_2 : Int) := of_decide_eq_true (by first | (with_reducible assumption) | assumption)
                   have q127 : x16_2 < (x12_1.length : Int) := of_decide_eq_true (by first | (with_reducible assumption) | assumption)
                   obtain ⟨ad127, e127, hx127_0⟩ := Kd.at_int (Kd.R_reads' HO_12.out).2.2 x16_2 p127 q127
                   cases e127
                   replace p127 := eq_true p127
                   replace q127 := eq_true q127
                   have q127a : ((x16_2 : Int) < 24) = True := eq_true (by have h1_ := ZN.out; have h2_ := of_eq_true q127; omega)
                   (first | simp only [add_plain] at hx127_0 | skip)
                   have p128 : 0 ≤ (x16_2 : Int) := of_decide_eq_true (by first | (with_reducible assumption) | assumption)
                   have q128 : x16_2 < (x12_1.length : Int) := of_decide_eq_true (by first | (with_reducible assumption) | assumption)
                   obtain ⟨ad128, e128, hx128_0⟩ := Kd.at_int (Kd.R_reads' HO_12.out).2.2 x16_2 p128 q128
                   cases e128
                   replace p128 := eq_true p128
                   replace q128 := eq_true q128
                   have q128a : ((x16_2 : Int) < 24) = True := eq_true (by have h1_ := ZN.out; have h2_ := of_eq_true q128; omega)
                   (first | simp only [add_plain] at hx128_0 | skip)
                   have p129 : 0 ≤ (x16_2 : Int) := of_decide_eq_true (by first | (with_reducible assumption) | assumption)
                   have q129 : x16_2 < ((rd_L5 t103 (ji16)).length : Int) := of_decide_eq_true (by first | (with_reducible assumption) | assumption)
                   obtain ⟨ad129, e129, hx129_0⟩ := Kd.at_int (Kd.R_reads' HL.out).2.2 x16_2 p129 q129
                   cases e129

                   replace p129 := eq_true p129
                   replace q129 := eq_true q129
                   go_wp2
                   repeat (go_quiet (fail); try go_wp2)
                   go_meet
                   case rel => exact ⟨_, (false), (by first | rfl | (simp; done) | (simp [*]; done)), H', ⟨by have := HK1.out; have := HK2.out; first | omega | exact Nat.le_refl _⟩, ⟨rp9 HO_12.out⟩, ⟨kp9 BK102.out⟩, ⟨bp9 HB.out⟩, ⟨rp9 HL.out⟩⟩
                  ·exact absurd (beq_iff_eq.mp c58b0) c62
                ·rw [if_neg c59] at H
                 exact absurd H (by simp)
               ·rw [if_neg c58] at H
                have c58b0 : (((rd_T26 l0 x16_2).f1) == 1) = false := beq_eq_false_iff_ne.mpr c58
                (try (have e17_ : b17 = false := HB17.out.symm.trans c58b0; subst e17_))
                have c58b1 : (((rd_T26 l0 x16_2).f1) != 1) = true := bne_iff_ne.mpr c58
                by_cases c67 : (((rd_T26 l0 x16_2).f1) = 1)
                ·exact absurd ((beq_iff_eq.mpr c67).symm.trans c58b0) (by decide)
                ·rw [if_neg c67] at H
                 have c67b0 : (((rd_T26 l0 x16_2).f1) == 1) = false := beq_eq_false_iff_ne.mpr c67
                 (try (have e17_ : b17 = false := HB17.out.symm.trans c67b0; subst e17_))
                 have c67b1 : (((rd_T26 l0 x16_2).f1) != 1) = true := bne_iff_ne.mpr c67
                 by_cases c69 : (rd x12_1 x16_2) > 0
                 ·rw [if_pos c69] at H
                  have c69b0 : decide (0 < (rd x12_1 x16_2)) = true := decide_eq_true c69
                  clear c69
                  have H' := Aside0.mk H
                  clear H
                  obtain ⟨Ao70, co70, eo70⟩ := Kd.R_slice HO_12.out
                  subst eo70
                  have hz_ := HV12.out
                  injection hz_ with za_ zn_ zc_
                  subst za_
                  subst zc_
                  have ZN := Aside0.mk zn_
                  clear zn_
                  have p127 : 0 ≤ (x16_2 : Int) := of_decide_eq_true (by first | (with_reducible assumption) | assumption)
                  have q127 : x16_2 < (x12_1.length : Int) := of_decide_eq_true (by first | (with_reducible assumption) | assumption)
                  obtain ⟨ad127, e127, hx127_0⟩ := Kd.at_int (Kd.R_reads' HO_12.out).2.2 x16_2 p127 q127
                  cases e127
                  replace p127 := eq_true p127
                  replace q127 := eq_true q127
                  have q127a : ((x16_2 : Int) < 24) = True := eq_true (by have h1_ := ZN.out; have h2_ := of_eq_true q127; omega)
                  (first | simp only [add_plain] at hx127_0 | skip)
                  have p132 : 0 ≤ (x16_2 : Int) := of_decide_eq_true (by first | (with_reducible assumption) | assumption)
                  have q132 : x16_2 < (x12_1.length : Int) := of_decide_eq_true (by first | (with_reducible assumption) | assumption)
                  obtain ⟨ad132, e132, hx132_0⟩ := Kd.at_int (Kd.R_reads' HO_12.out).2.2 x16_2 p132 q132
                  cases e132
                  replace p132 := eq_true p132
                  replace q132 := eq_true q132
                  have q132a : ((x16_2 : Int) < 24) = True := eq_true (by have h1_ := ZN.out; have h2_ := of_eq_true q132; omega)
                  (first | simp only [add_plain] at hx132_0 | skip)
                  go_wp2
                  repeat (go_quiet (fail); try go_wp2)
                  go_meet
                  case rel => exact ⟨_, (true), (by first | rfl | (simp; done) | (simp [*]; done)), H', ⟨by have := HK1.out; have := HK2.out; first | omega | exact Nat.le_refl _⟩, ⟨rp9 HO_12.out⟩, ⟨kp9 BK102.out⟩, ⟨bp9 HB.out⟩, ⟨rp9 HL.out⟩⟩
                 ·rw [if_neg c69] at H
                  have c69b0 : decide (0 < (rd x12_1 x16_2)) = false := decide_eq_false c69
                  clear c69
                  by_cases c71 : x16_2 < ((rd_L5 t103 (ji16)).length : Int)
                  ·rw [if_pos c71] at H
                   have c71b0 : decide (x16_2 < ((rd_L5 t103 (ji16)).length : Int)) = true := decide_eq_true c71
                   clear c71
                   have H' := Aside0.mk H
                   clear H
                   obtain ⟨Ao72, co72, eo72⟩ := Kd.R_slice HO_12.out
                   subst eo72
                   have hz_ := HV12.out
                   injection hz_ with za_ zn_ zc_
                   subst za_
                   subst zc_
                   have ZN := Aside0.mk zn_
                   clear zn_
                   have p127 : 0 ≤ (x16_2 : Int) := of_decide_eq_true (by first | (with_reducible assumption) | assumption)
                   have q127 : x16_2 < (x12_1.length : Int) := of_decide_eq_true (by first | (with_reducible assumption) | assumption)
                   obtain ⟨ad127, e127, hx127_0⟩ := Kd.at_int (Kd.R_reads' HO_12.out).2.2 x16_2 p127 q127
                   cases e127
                   replace p127 := eq_true p127
                   replace q127 := eq_true q127
                   have q127a : ((x16_2 : Int) < 24) = True := eq_true (by have h1_ := ZN.out; have h2_ := of_eq_true q127; omega)
                   (first | simp only [add_plain] at hx127_0 | skip)
                   have p132 : 0 ≤ (x16_2 : Int) := of_decide_eq_true (by first | (with_reducible assumption) | assumption)
                   have q132 : x16_2 < (x12_1.length : Int) := of_decide_eq_true (by first | (with_reducible assumption) | assumption)
                   obtain ⟨ad132, e132, hx132_0⟩ := Kd.at_int (Kd.R_reads' HO_12.out).2.2 x16_2 p132 q132
                   cases e132
                   replace p132 := eq_true p132
                   replace q132 := eq_true q132
                   have q132a : ((x16_2 : Int) < 24) = True := eq_true (by have h1_ := ZN.out; have h2_ := of_eq_true q132; omega)
                   (first | simp only [add_plain] at hx132_0 | skip)
                   have p133 : 0 ≤ (x16_2 : Int) := of_decide_eq_true (by first | (with_reducible assumption) | assumption)
                   have q133 : x16_2 < ((rd_L5 t103 (ji16)).length : Int) := of_decide_eq_true (by first | (with_reducible assumption) | assumption)
                   obtain ⟨ad133, e133, hx133_0⟩ := Kd.at_int (Kd.R_reads' HL.out).2.2 x16_2 p133 q133
                   cases e133

                   replace p133 := eq_true p133
                   replace q133 := eq_true q133
                   go_wp2
                   repeat (go_quiet (fail); try go_wp2)
                   go_meet
                   case rel => exact ⟨_, (((rd (rd_L5 t103 (ji16)) x16_2) != (-2))), (by first | rfl | (simp; done) | (simp only [← hji16] <;> (first | rfl | simp)) | (simp [*]; done)), H', ⟨by have := HK1.out; have := HK2.out; first | omega | exact Nat.le_refl _⟩, ⟨rp9 HO_12.out⟩, ⟨kp9 BK102.out⟩, ⟨bp9 HB.out⟩, ⟨rp9 HL.out⟩⟩
                  ·rw [if_neg c71] at H
                   exact absurd H (by simp)
             ·rw [if_neg c55] at H
              exact absurd H (by simp)
            case rest =>
             clear HC54
             try clear c1
             try clear p1
             try clear q1
             try clear hx1
             try clear p2
             try clear c3
             try clear c4
             try clear p4
             try clear q4
             try clear hx4
             try clear hf4
             try clear c5
             try clear c5b0
             try clear c5b1
             try clear c6
             try clear p6
             try clear c7
             try clear c9
             try clear c9b0
             try clear c9b1
             try clear c9b2
             try clear c10
             try clear p10
             try clear q10
             try clear hx10
             try clear p11
             try clear q11
             try clear hx11
             try clear p12
             try clear q12
             try clear hx12
             try clear p13
             try clear q13
             try clear hx13
             try clear c17
             try clear c17b0
             try clear c18
             try clear c18b0
             try clear c33
             try clear c33b0
             try clear c34
             try clear c34b0
             try clear c37
             try clear c37b0
             try clear c38
             try clear c38b0
             try clear c39
             try clear c39b0
             try clear c39b1
             try clear c40
             try clear c40b0
             try clear c41
             try clear c41b0
             try clear c42
             try clear c42b0
             try clear c42b1
             try clear c43
             try clear c43b0
             try clear c43b1
             try clear c44
             try clear c45
             try clear c45b0
             try clear c46
             try clear c46b0
             try clear p47
             try clear q47
             try clear hx47
             try clear hf47
             try clear c52
             try clear c52b0
             try clear c53
             try clear c53b0
             try clear c55
             try clear c55b0
             try clear c56
             try clear c56b0
             try clear c58
             try clear c58b0
             try clear c58b1
             try clear c59
             try clear c59b0
             try clear c60
             try clear c60b0
             try clear c60b1
             try clear c60b2
             try clear c62
             try clear c62b0
             try clear c62b1
             try clear c64
             try clear c64b0
             try clear p64
             try clear c67
             try clear c67b0
             try clear c67b1
             try clear c69
             try clear c69b0
             try clear c71
             try clear c71b0
             try clear hcz13_0 hcz13_1 hcz13_2 hcz13_3 hcz13_4 hcz13_5 hcz13_6
             try clear hcz24_0 hcz24_1 hcz24_2 hcz24_3 hcz24_4 hcz24_5 hcz24_6
             try clear hcz27_0 hcz27_1 hcz27_2 hcz27_3 hcz27_4 hcz27_5 hcz27_6
             try clear hfz13_0 hfz13_1 hfz13_2 hfz13_3 hfz13_4 hfz13_5 hfz13_6
             try clear hfz24_0 hfz24_1 hfz24_2 hfz24_3 hfz24_4 hfz24_5 hfz24_6
             try clear hfz27_0 hfz27_1 hfz27_2 hfz27_3 hfz27_4 hfz27_5 hfz27_6
             try clear hx106_0
             try clear hx116_0
             try clear hx116_1
             try clear hx117_0
             try clear hx117_1
             try clear hx118_0
             try clear hx118_1
             try clear hx118_2
             try clear hx118_3
             try clear hx118_4
             try clear hx118_5
             try clear hx118_6
             try clear hx119_0
             try clear hx119_1
             try clear hx119_2
             try clear hx119_3
             try clear hx119_4
             try clear hx119_5
             try clear hx119_6
             try clear hx120_0
             try clear hx120_1
             try clear hx120_2
             try clear hx120_3
             try clear hx120_4
             try clear hx120_5
             try clear hx120_6
             try clear hx121_0
             try clear hx121_1
             try clear hx121_2
             try clear hx121_3
             try clear hx121_4
             try clear hx121_5
             try clear hx121_6
             try clear hx122_0
             try clear hx122_1
             try clear hx122_2
             try clear hx122_3
             try clear hx122_4
             try clear hx122_5
             try clear hx122_6
             try clear hx123_0
             try clear hx123_1
             try clear hx123_2
             try clear hx123_3
             try clear hx123_4
             try clear hx123_5
             try clear hx123_6
             try clear hx124_0
             try clear hx126_0
             try clear hx126_1
             try clear hx126_2
             try clear hx126_3
             try clear hx126_4
             try clear hx126_5
             try clear hx126_6
             try clear hx127_0
             try clear hx128_0
             try clear hx129_0
             try clear hx130_0
             try clear hx131_0
             try clear hx132_0
             try clear hx133_0
             try clear hx47_0
             try clear p1
             try clear p10
             try clear p106
             try clear p11
             try clear p116
             try clear p117
             try clear p118
             try clear p119
             try clear p12
             try clear p120
             try clear p121
             try clear p122
             try clear p123
             try clear p124
             try clear p126
             try clear p127
             try clear p128
             try clear p129
             try clear p130
             try clear p131
             try clear p132
             try clear p133
             try clear p2
             try clear p4
             try clear p47
             try clear p6
             try clear q1
             try clear q10
             try clear q106
             try clear q11
             try clear q116
             try clear q117
             try clear q118
             try clear q119
             try clear q12
             try clear q120
             try clear q121
             try clear q122
             try clear q123
             try clear q124
             try clear q126
             try clear q127
             try clear q128
             try clear q129
             try clear q130
             try clear q131
             try clear q132
             try clear q133
             try clear q4
             try clear q47
             obtain ⟨kq, x152_53, rfl, HA, HJ53, HO_12, BK102, HB, HL⟩ := hcut
             cases kq with
             | zero => exact absurd HA.out (by simp [cupolalaw11_SourceRf.j3])
             | succ kj53 =>
              have H := HA.out
              clear HA
              simp only [cupolalaw11_SourceRf.j3] at H
              by_cases c73 : x152_53 = true
              ·subst c73
               rw [if_pos rfl] at H
               exact absurd ((Option.some.inj H).trans HT9.out) (by decide)
              ·replace c73 := Bool.eq_false_iff.mpr c73
               subst c73
               rw [if_neg (show ¬ (false = true) by decide)] at H
               have H' := Aside0.mk H
               clear H
               go_wp2
               repeat (go_quiet (fail); try go_wp2)
               go_roundg kj53
               case measure => have := HK1.out; have := HK2.out; have := HJ53.out; omega
               case rel => exact ⟨(wrap64 (x16_2 + 1)), (by first | rfl | (simp; done) | (simp [*]; done)), H', ⟨by have := HK1.out; have := HK2.out; have := HJ53.out; omega⟩, ⟨rp9 HO_12.out⟩, ⟨kp9 BK102.out⟩, ⟨bp9 HB.out⟩, ⟨rp9 HL.out⟩⟩
           ·rw [if_neg c53] at H
            exact absurd H (by simp)
          ·rw [if_neg c52] at H
           have c52b0 : decide (x16_2 < (l0.length : Int)) = false := decide_eq_false c52
           clear c52
           obtain rfl := Option.some.inj H
           go_wp2
           repeat (go_quiet (fail); try go_wp2)
           go_ret
           exact ⟨by first | rfl | (simp [errW_none, errW_some] <;> rfl) | (simp only [← hji16]; first | rfl | (simp [errW_none, errW_some] <;> rfl)) | (simp [*, errW_none, errW_some] <;> rfl), bp9 HB.out⟩
    ·rw [if_neg c18] at H
     exact absurd H (by simp)
   ·rw [if_neg c17] at H
    exact absurd H (by simp)

end Go.Proofs.Ytbamkkdikeedoaa.G
