-- Written by drive.py, a program of this seat's session, out of the translation.
import Derived.Test.YtbamkkdikeedoaaG0
import Derived.Test.YtbamkkdikeedoaaGRel
import Derived.Test.YtbamkkdikeedoaaHandRel
import Derived.Test.YtbamkkdikeedoaaHandSlices
import Derived.Test.YtbamkkdikeedoaaHandCz
namespace Go.Proofs.Ytbamkkdikeedoaa.G
open Go.RowKit Go.Proofs.YtbamkkdikeedoaaW.PrintWords Go.Proofs.YtbamkkdikeedoaaW.PrintLast Go.Proofs.YtbamkkdikeedoaaW.PrintMore
attribute [local go_sem] max2_int min2_int max_two min_two max_three min_three max_four min_four   -- for this text's walks alone
set_option linter.unusedVariables false
set_option linter.unusedSimpArgs false

/-! ### order_size: function 138 -/
def order_size.f (l0 : List Int) : Option (Int) := (rel_Or.f l0 l0).bind fun t101 => (some (t101.length : Int))
set_option maxHeartbeats 8000000 in
set_option maxRecDepth 100000 in
theorem order_size.calls (A0 : Option Addr) (c0 : Nat) (l0 : List Int) (r : Int) (w : World) (hr0 : Kd.C (Kd.int .u32) w A0 l0.length l0) (hc0 : l0.length ≤ c0) (h : order_size.f l0 = some r) :
  Calls Try.prog 138 #[.slice A0 l0.length c0] w fun e w' => e = .returned (.int .i64 r) ∧ Below w.heap.size w w' := by
 have HR0 := Aside0.mk hr0
 have HC0 := Aside0.mk hc0
 clear hr0 hc0
 have HB := Aside0.mk (Below.refl w.heap.size w)
 have H : ((rel_Or.f l0 l0).bind fun t101 => (some (t101.length : Int))) = some r := h
 clear h
 replace H := Option.bind_eq_some_iff.mp H
 obtain ⟨t101, A20, H⟩ := H
 have A2 := Aside0.mk A20
 clear A20
 obtain rfl := Option.some.inj H
 go_enter Try.func138, Try.ntmps138
 go_wp2_with (first | ((with_reducible refine gate_callee (f := 58) rfl ?_); refine goesL9 (some 5) rfl rfl Try.func58 (by kernel_rfl) rfl #[.slice A0 l0.length c0, .slice A0 l0.length c0] rfl ?_; (with_reducible refine (rel_Or.calls _ _ l0 _ _ l0 t101 _ ?side1 ?side2 ?side3 ?side4 A2.out).mono ?_); (case side1 => repeat (first | exact HR0.out | (with_reducible refine Kd.C_alloc ?_ _) | (with_reducible refine Kd.C_drewN ?_ _) | (with_reducible refine Kd.C_drew ?_))); (case side2 => exact HC0.out); (case side3 => repeat (first | exact HR0.out | (with_reducible refine Kd.C_alloc ?_ _) | (with_reducible refine Kd.C_drewN ?_ _) | (with_reducible refine Kd.C_drew ?_))); (case side4 => exact HC0.out); rintro e w3 ⟨v102, rfl, ho0, hb⟩; refine ⟨_, rfl, ?_⟩; have n0_ := Aside0.mk (Kd.R_lower ho0 (below_size (bp9 HB.out))); have n1_ := Aside0.mk (below_step (bp9 HB.out) hb); clear HB; have HO103 := n0_; have HB := n1_; clear n0_ n1_; (try clear hb); (try clear hb2); (try clear hk); (try clear hi); (try clear ho0); obtain ⟨Ao4, co4, eo4⟩ := Kd.R_slice HO103.out; subst eo4))
 go_ret
 exact ⟨by first | rfl | (simp [errW_none, errW_some] <;> rfl) | (simp [*, errW_none, errW_some] <;> rfl), bp9 HB.out⟩

/-! ### order_free: function 140 -/
def order_free.l0 : Nat → List Int → Int → List Int → Int → Int → Option (List Int)
 | 0, _, _, _, _, _ => none
 | k + 1, x0, x1, x5, x9, x10 => if x10 < x9 then (if 0 ≤ (IntKind.u64.wrap (x10)) then ((rel_Only.f k x0 (Go.bits .xor .u32 4294967295 x1) (shl .u32 1 (IntKind.u64.wrap (x10)))).bind fun t102 => ((rel_Pairs.f k t102).bind fun t105 => (if (Go.bits .and .u32 (shr .u32 x1 (IntKind.u64.wrap (x10))) 1) = 0 then (if (t105.length : Int) = 0 then (if x5.length < 17592186044416 then (order_free.l0 k x0 x1 (x5 ++ [x10]) x9 (wrap64 (x10 + 1))) else (none)) else (order_free.l0 k x0 x1 x5 x9 (wrap64 (x10 + 1)))) else (order_free.l0 k x0 x1 x5 x9 (wrap64 (x10 + 1)))))) else (none)) else (some x5)
def order_free.f (k : Nat) (l0 : List Int) (a1 : Int) : Option (List Int) := (order_size.f l0).bind fun t101 => (order_free.l0 k l0 a1 ([] : List Int) t101 0)
theorem order_free.mono_l : ∀ k, (∀ y0 y1 y2 y3 y4, LeO (order_free.l0 k y0 y1 y2 y3 y4) (order_free.l0 (k + 1) y0 y1 y2 y3 y4))
 | 0 => fun _ _ _ _ _ r h => by simp [order_free.l0] at h
 | k + 1 => by
  have ih0 := order_free.mono_l k
  ·intro y0 y1 y2 y3 y4
   unfold order_free.l0
   repeat' (with_reducible first | exact ih0 _ _ _ _ _ | exact rel_Only.mono _ _ _ _ | exact rel_Pairs.mono _ _ | exact LeO.refl _ | exact LeO.none _ | refine LeO.ite ?_ ?_ | refine LeO.bind ?_ (fun _ => ?_))
theorem order_free.mono : ∀ a0 a1 k, LeO (order_free.f k a0 a1) (order_free.f (k + 1) a0 a1) := by
 intro a0 a1 k
 have ih0 := order_free.mono_l k
 unfold order_free.f
 repeat' (with_reducible first | exact ih0 _ _ _ _ _ | exact rel_Only.mono _ _ _ _ | exact rel_Pairs.mono _ _ | exact LeO.refl _ | exact LeO.none _ | refine LeO.ite ?_ ?_ | refine LeO.bind ?_ (fun _ => ?_))
set_option maxHeartbeats 8000000 in
set_option maxRecDepth 100000 in
theorem order_free.calls (k : Nat) (A0 : Option Addr) (c0 : Nat) (l0 : List Int) (a1 : Int) (r : List Int) (w : World) (hr0 : Kd.C (Kd.int .u32) w A0 l0.length l0) (hc0 : l0.length ≤ c0) (h : order_free.f k l0 a1 = some r) :
  Calls Try.prog 140 #[.slice A0 l0.length c0, .int .u32 a1] w fun e w' => ∃ v0_ : Value, e = .returned (v0_) ∧ Kd.R (Kd.int .i64) 3 w' w.heap.size (fun _ => True) v0_ r ∧ Below w.heap.size w w' := by
 have HR0 := Aside0.mk hr0
 have HC0 := Aside0.mk hc0
 clear hr0 hc0
 have HB := Aside0.mk (Below.refl w.heap.size w)
 have H : ((order_size.f l0).bind fun t101 => (order_free.l0 k l0 a1 ([] : List Int) t101 0)) = some r := h
 clear h
 replace H := Option.bind_eq_some_iff.mp H
 obtain ⟨t101, A30, H⟩ := H
 have A3 := Aside0.mk A30
 clear A30
 have H' := Aside0.mk H
 clear H
 go_enter Try.func140, Try.ntmps140
 go_wp2_with (first | ((with_reducible refine gate_callee (f := 138) rfl ?_); refine goesL9 (some 9) rfl rfl Try.func138 (by kernel_rfl) rfl #[.slice A0 l0.length c0] rfl ?_; (with_reducible refine (order_size.calls _ _ l0 t101 _ ?side1 ?side2 A3.out).mono ?_); (case side1 => repeat (first | exact HR0.out | (with_reducible refine Kd.C_alloc ?_ _) | (with_reducible refine Kd.C_drewN ?_ _) | (with_reducible refine Kd.C_drew ?_))); (case side2 => exact HC0.out); rintro e w4 ⟨rfl, hb⟩; refine ⟨_, rfl, ?_⟩; have n0_ := Aside0.mk (below_step (bp9 HB.out) hb); clear HB; have HB := n0_; clear n0_; (try clear hb); (try clear hb2); (try clear hk); (try clear hi)))
 go_loopg [5, 10] k (fun kq v5 v10 w' => ∃ (x5_1 : List Int) (x10_1 : Int), v10 = .int .i64 x10_1 ∧ Aside0 (order_free.l0 kq l0 a1 x5_1 t101 x10_1 = some r) ∧ Aside0 (kq ≤ k) ∧ Aside0 (Kd.R (Kd.int .i64) 3 w' w.heap.size (fun _ => True) v5 x5_1) ∧ Aside0 (Below w.heap.size w w'))
 case atStart => exact ⟨(([] : List Int)), (0), (by first | rfl | (simp; done) | (simp [*]; done)), H', ⟨Nat.le_refl _⟩, ⟨by first | exact Kd.R_nil _ _ _ _ _ | exact Kd.N_nil _ _ _ _ _ | exact Kd.V_nil _ _ _ _ _ | exact Kd.Q_nil _ _ _ _ _ | exact Kd.S_nil _ _ _ _ _⟩, ⟨bp9 HB.out⟩⟩
 case round =>
  clear H'
  try clear c1
  try clear p2
  obtain ⟨x5_1, x10_1, rfl, HA, HK1, HO_5, HB⟩ := hrel
  cases gk with
  | zero => exact absurd HA.out (by simp [order_free.l0])
  | succ k1 =>
   have H := HA.out
   clear HA
   simp only [order_free.l0] at H
   by_cases c5 : x10_1 < t101
   ·rw [if_pos c5] at H
    have c5b0 : decide (x10_1 < t101) = true := decide_eq_true c5
    clear c5
    obtain ⟨ji6, hji6⟩ : ∃ j_ : Int, (IntKind.u64.wrap (x10_1)) = j_ := ⟨_, rfl⟩
    replace H : (if 0 ≤ (ji6) then ((rel_Only.f k1 l0 (Go.bits .xor .u32 4294967295 a1) (shl .u32 1 (ji6))).bind fun t102 => ((rel_Pairs.f k1 t102).bind fun t105 => (if (Go.bits .and .u32 (shr .u32 a1 (ji6)) 1) = 0 then (if (t105.length : Int) = 0 then (if x5_1.length < 17592186044416 then (order_free.l0 k1 l0 a1 (x5_1 ++ [x10_1]) t101 (wrap64 (x10_1 + 1))) else (none)) else (order_free.l0 k1 l0 a1 x5_1 t101 (wrap64 (x10_1 + 1)))) else (order_free.l0 k1 l0 a1 x5_1 t101 (wrap64 (x10_1 + 1)))))) else (none)) = some r := by first | (rw [hji6] at H; exact H) | (simp only [hji6] at H ⊢; exact H)
    by_cases c7 : 0 ≤ (ji6)
    ·rw [if_pos c7] at H
     have c7b0 := eq_true c7
     have c7b1 : decide (0 ≤ (ji6)) = true := decide_eq_true c7
     clear c7
     obtain ⟨ji8, hji8⟩ : ∃ j_ : Int, (shl .u32 1 (ji6)) = j_ := ⟨_, rfl⟩
     replace H : ((rel_Only.f k1 l0 (Go.bits .xor .u32 4294967295 a1) (ji8)).bind fun t102 => ((rel_Pairs.f k1 t102).bind fun t105 => (if (Go.bits .and .u32 (shr .u32 a1 (ji6)) 1) = 0 then (if (t105.length : Int) = 0 then (if x5_1.length < 17592186044416 then (order_free.l0 k1 l0 a1 (x5_1 ++ [x10_1]) t101 (wrap64 (x10_1 + 1))) else (none)) else (order_free.l0 k1 l0 a1 x5_1 t101 (wrap64 (x10_1 + 1)))) else (order_free.l0 k1 l0 a1 x5_1 t101 (wrap64 (x10_1 + 1)))))) = some r := by first | (rw [hji8] at H; exact H) | (simp only [hji8] at H ⊢; exact H)
     have hji8_ : (IntKind.u32.wrap (1 * 2 ^ min (ji6).toNat 32)) = ji8 := hji8
     have hji8z : (ji6) ≤ 32 → (IntKind.u32.wrap (1 * 2 ^ (ji6).toNat)) = ji8 := shl_small hji8
     have hji8u : (IntKind.u32.wrap (2 ^ min (ji6).toNat 32)) = ji8 := by have h_ := hji8_; rw [Int.one_mul] at h_; exact h_
     have hji8v : (ji6) ≤ 32 → (IntKind.u32.wrap (2 ^ (ji6).toNat)) = ji8 := fun hle_ => by have h_ := hji8z hle_; rw [Int.one_mul] at h_; exact h_
     replace H := Option.bind_eq_some_iff.mp H
     obtain ⟨t102, A90, H⟩ := H
     have A9 := Aside0.mk A90
     clear A90
     replace H := Option.bind_eq_some_iff.mp H
     obtain ⟨t105, A100, H⟩ := H
     have A10 := Aside0.mk A100
     clear A100
     have c11b0 := eq_true (of_decide_eq_true (by first | (with_reducible assumption) | assumption) : 0 ≤ (ji6))
     obtain ⟨ji12, hji12⟩ : ∃ j_ : Int, (shr .u32 a1 (ji6)) = j_ := ⟨_, rfl⟩
     replace H : (if (Go.bits .and .u32 (ji12) 1) = 0 then (if (t105.length : Int) = 0 then (if x5_1.length < 17592186044416 then (order_free.l0 k1 l0 a1 (x5_1 ++ [x10_1]) t101 (wrap64 (x10_1 + 1))) else (none)) else (order_free.l0 k1 l0 a1 x5_1 t101 (wrap64 (x10_1 + 1)))) else (order_free.l0 k1 l0 a1 x5_1 t101 (wrap64 (x10_1 + 1)))) = some r := by first | (rw [hji12] at H; exact H) | (simp only [hji12] at H ⊢; exact H)
     (try rw [hji12] at A9)
     (try rw [hji12] at A10)
     have hji12_ : (a1 / 2 ^ min (ji6).toNat 32) = ji12 := hji12
     have hji12z : (ji6) ≤ 32 → (a1 / 2 ^ (ji6).toNat) = ji12 := shr_small hji12
     by_cases c13 : (Go.bits .and .u32 (ji12) 1) = 0
     ·rw [if_pos c13] at H
      have c13b0 : ((Go.bits .and .u32 (ji12) 1) == 0) = true := beq_iff_eq.mpr c13
      have c13b1 : ((Go.bits .and .u32 (ji12) 1) != 0) = false := bne_eq_false_iff_eq.mpr c13
      clear c13
      by_cases c14 : (t105.length : Int) = 0
      ·rw [if_pos c14] at H
       have c14b0 : ((t105.length : Int) == 0) = true := beq_iff_eq.mpr c14
       have c14b1 : ((t105.length : Int) != 0) = false := bne_eq_false_iff_eq.mpr c14
       clear c14
       by_cases c15 : x5_1.length < 17592186044416
       ·rw [if_pos c15] at H
        have LMc15 := Aside0.mk c15
        clear c15
        obtain ⟨y108, hy108⟩ : ∃ y_ : List Int, y_ = (x5_1 ++ [x10_1]) := ⟨_, rfl⟩
        replace H : (order_free.l0 k1 l0 a1 y108 t101 (wrap64 (x10_1 + 1))) = some r := by first | (rw [hy108]; with_reducible exact H) | (have H2_ := (Option.bind_some _ _).symm.trans H; rw [hy108]; with_reducible exact H2_) | (have H2_ := (Option.bind_some _ _).symm.trans H; with_reducible exact H2_) | with_reducible exact H | (rw [hy108]; exact H) | exact H
        have Ny108 := Aside0.mk hy108
        clear hy108
        have H' := Aside0.mk H
        clear H
        go_wp2_with (first | ((with_reducible refine gate_callee (f := 54) rfl ?_); refine goesL_ (some 19) rfl rfl Try.func54 (by kernel_rfl) rfl #[.slice A0 l0.length c0, .int .u32 (Go.bits .xor .u32 4294967295 a1), .int .u32 ji8] rfl (by (try simp only [List.map_toArray, List.map_cons, List.map_nil]); first | done | (simp only [hji8]; rfl) | rfl | (simp only [List.length_drop, List.length_take]; rfl)) ?_; (with_reducible refine (rel_Only.calls k1 _ _ l0 (Go.bits .xor .u32 4294967295 a1) ji8 t102 _ ?side1 ?side2 A9.out).mono ?_); (case side1 => exact cp9 HR0.out HB.out); (case side2 => exact HC0.out); rintro e w16 ⟨v103, rfl, ho0, hb⟩; refine ⟨_, rfl, ?_⟩; have n0_ := Aside0.mk (Kd.R_below (rp9 HO_5.out) hb); have n1_ := Aside0.mk (Kd.R_lower ho0 (below_size (bp9 HB.out))); have n2_ := Aside0.mk (below_step (bp9 HB.out) hb); clear HO_5; clear HB; have HO_5 := n0_; have HO104 := n1_; have HB := n2_; clear n0_ n1_ n2_; (try clear hb); (try clear hb2); (try clear hk); (try clear hi); (try clear ho0); obtain ⟨Ao17, co17, eo17⟩ := Kd.R_slice HO104.out; subst eo17) | ((with_reducible refine gate_callee (f := 38) rfl ?_); refine goesL9 (some 20) rfl rfl Try.func38 (by kernel_rfl) rfl #[.slice Ao17 t102.length co17] rfl ?_; (with_reducible refine (rel_Pairs.calls k1 _ _ t102 t105 _ ?side1 ?side2 A10.out).mono ?_); (case side1 => exact lp9 (Kd.R_reads' HO104.out).2.2); (case side2 => exact (Kd.R_reads' HO104.out).2.1); rintro e w18 ⟨v106, rfl, ho0, hb⟩; refine ⟨_, rfl, ?_⟩; have n0_ := Aside0.mk (Kd.R_below (rp9 HO_5.out) hb); have n1_ := Aside0.mk (Kd.R_below (rp9 HO104.out) hb); have n2_ := Aside0.mk (Kd.R_lower ho0 (below_size (bp9 HB.out))); have n3_ := Aside0.mk (below_step (bp9 HB.out) hb); clear HO_5; clear HO104; clear HB; have HO_5 := n0_; have HO104 := n1_; have HO107 := n2_; have HB := n3_; clear n0_ n1_ n2_ n3_; (try clear hb); (try clear hb2); (try clear hk); (try clear hi); (try clear ho0); obtain ⟨Ao19, co19, eo19⟩ := Kd.R_slice HO107.out; subst eo19) | ((with_reducible refine gate_builtin (b := .append) (xs := #[.tmp 32, .tmp 34]) rfl ?_); (try (refine gate_guard (by rfl) ?_; dsimp only)); at_builtin; refine Kd.R_append (Kd.int .i64) (w0 := w) w.heap.size rfl (.tmp 32) (.tmp 34) 33 3 (.int .i64 0) 8 rfl Try.underlying33 info3 rfl (by decide) (by omega) u5 x5_1 x10_1 [.int .i64 x10_1] (fun _ => True) (fun _ => False) rfl rfl ?aP (fun _ hk => hk.elim) ?aF ?aO ?aB ?aS ?aL ?_; (case aP => exact rfl); (case aB => exact (bp9 HB.out)); (case aF => exact (fun _ _ => trivial)); (case aO => exact (rp9 HO_5.out)); (case aS => exact (below_size (bp9 HB.out))); (case aL => have := LMc15.out; omega); intro v109 w20 ho hb hg hat; rw [← Ny108.out] at ho; have n0_ := Aside0.mk (Kd.R_over' (rp9 HO104.out) (Kd.R_typed (rp9 HO_5.out)) (by decide) hg); have n1_ := Aside0.mk (Kd.R_over' (rp9 HO107.out) (Kd.R_typed (rp9 HO_5.out)) (by decide) hg); have n2_ := Aside0.mk (hb); have n3_ := Aside0.mk (ho); clear HO104; clear HO107; clear HB; clear HO_5; have HO104 := n0_; have HO107 := n1_; have HB := n2_; have HO110 := n3_; clear n0_ n1_ n2_ n3_; clear ho hb hg hat))
        go_roundg k1
        case measure => have := HK1.out; omega
        case rel => exact ⟨(y108), (wrap64 (x10_1 + 1)), (by first | rfl | (simp; done) | (simp [*]; done)), H', ⟨by have := HK1.out; omega⟩, ⟨rp9 HO110.out⟩, ⟨bp9 HB.out⟩⟩
       ·rw [if_neg c15] at H
        exact absurd H (by simp)
      ·rw [if_neg c14] at H
       have c14b0 : ((t105.length : Int) == 0) = false := beq_eq_false_iff_ne.mpr c14
       have c14b1 : ((t105.length : Int) != 0) = true := bne_iff_ne.mpr c14
       have c14b2 : ¬ (t105 = []) := fun h_ => c14 (by rw [h_]; rfl)
       have H' := Aside0.mk H
       clear H
       go_wp2_with (first | ((with_reducible refine gate_callee (f := 54) rfl ?_); refine goesL_ (some 19) rfl rfl Try.func54 (by kernel_rfl) rfl #[.slice A0 l0.length c0, .int .u32 (Go.bits .xor .u32 4294967295 a1), .int .u32 ji8] rfl (by (try simp only [List.map_toArray, List.map_cons, List.map_nil]); first | done | (simp only [hji8]; rfl) | rfl | (simp only [List.length_drop, List.length_take]; rfl)) ?_; (with_reducible refine (rel_Only.calls k1 _ _ l0 (Go.bits .xor .u32 4294967295 a1) ji8 t102 _ ?side1 ?side2 A9.out).mono ?_); (case side1 => exact cp9 HR0.out HB.out); (case side2 => exact HC0.out); rintro e w21 ⟨v103, rfl, ho0, hb⟩; refine ⟨_, rfl, ?_⟩; have n0_ := Aside0.mk (Kd.R_below (rp9 HO_5.out) hb); have n1_ := Aside0.mk (Kd.R_lower ho0 (below_size (bp9 HB.out))); have n2_ := Aside0.mk (below_step (bp9 HB.out) hb); clear HO_5; clear HB; have HO_5 := n0_; have HO104 := n1_; have HB := n2_; clear n0_ n1_ n2_; (try clear hb); (try clear hb2); (try clear hk); (try clear hi); (try clear ho0); obtain ⟨Ao22, co22, eo22⟩ := Kd.R_slice HO104.out; subst eo22) | ((with_reducible refine gate_callee (f := 38) rfl ?_); refine goesL9 (some 20) rfl rfl Try.func38 (by kernel_rfl) rfl #[.slice Ao22 t102.length co22] rfl ?_; (with_reducible refine (rel_Pairs.calls k1 _ _ t102 t105 _ ?side1 ?side2 A10.out).mono ?_); (case side1 => exact lp9 (Kd.R_reads' HO104.out).2.2); (case side2 => exact (Kd.R_reads' HO104.out).2.1); rintro e w23 ⟨v106, rfl, ho0, hb⟩; refine ⟨_, rfl, ?_⟩; have n0_ := Aside0.mk (Kd.R_below (rp9 HO_5.out) hb); have n1_ := Aside0.mk (Kd.R_below (rp9 HO104.out) hb); have n2_ := Aside0.mk (Kd.R_lower ho0 (below_size (bp9 HB.out))); have n3_ := Aside0.mk (below_step (bp9 HB.out) hb); clear HO_5; clear HO104; clear HB; have HO_5 := n0_; have HO104 := n1_; have HO107 := n2_; have HB := n3_; clear n0_ n1_ n2_ n3_; (try clear hb); (try clear hb2); (try clear hk); (try clear hi); (try clear ho0); obtain ⟨Ao24, co24, eo24⟩ := Kd.R_slice HO107.out; subst eo24))
       go_roundg k1
       case measure => have := HK1.out; omega
       case rel => exact ⟨(x5_1), (wrap64 (x10_1 + 1)), (by first | rfl | (simp; done) | (simp [*]; done)), H', ⟨by have := HK1.out; omega⟩, ⟨rp9 HO_5.out⟩, ⟨bp9 HB.out⟩⟩
     ·rw [if_neg c13] at H
      have c13b0 : ((Go.bits .and .u32 (ji12) 1) == 0) = false := beq_eq_false_iff_ne.mpr c13
      have c13b1 : ((Go.bits .and .u32 (ji12) 1) != 0) = true := bne_iff_ne.mpr c13
      have H' := Aside0.mk H
      clear H
      go_wp2_with (first | ((with_reducible refine gate_callee (f := 54) rfl ?_); refine goesL_ (some 19) rfl rfl Try.func54 (by kernel_rfl) rfl #[.slice A0 l0.length c0, .int .u32 (Go.bits .xor .u32 4294967295 a1), .int .u32 ji8] rfl (by (try simp only [List.map_toArray, List.map_cons, List.map_nil]); first | done | (simp only [hji8]; rfl) | rfl | (simp only [List.length_drop, List.length_take]; rfl)) ?_; (with_reducible refine (rel_Only.calls k1 _ _ l0 (Go.bits .xor .u32 4294967295 a1) ji8 t102 _ ?side1 ?side2 A9.out).mono ?_); (case side1 => exact cp9 HR0.out HB.out); (case side2 => exact HC0.out); rintro e w25 ⟨v103, rfl, ho0, hb⟩; refine ⟨_, rfl, ?_⟩; have n0_ := Aside0.mk (Kd.R_below (rp9 HO_5.out) hb); have n1_ := Aside0.mk (Kd.R_lower ho0 (below_size (bp9 HB.out))); have n2_ := Aside0.mk (below_step (bp9 HB.out) hb); clear HO_5; clear HB; have HO_5 := n0_; have HO104 := n1_; have HB := n2_; clear n0_ n1_ n2_; (try clear hb); (try clear hb2); (try clear hk); (try clear hi); (try clear ho0); obtain ⟨Ao26, co26, eo26⟩ := Kd.R_slice HO104.out; subst eo26) | ((with_reducible refine gate_callee (f := 38) rfl ?_); refine goesL9 (some 20) rfl rfl Try.func38 (by kernel_rfl) rfl #[.slice Ao26 t102.length co26] rfl ?_; (with_reducible refine (rel_Pairs.calls k1 _ _ t102 t105 _ ?side1 ?side2 A10.out).mono ?_); (case side1 => exact lp9 (Kd.R_reads' HO104.out).2.2); (case side2 => exact (Kd.R_reads' HO104.out).2.1); rintro e w27 ⟨v106, rfl, ho0, hb⟩; refine ⟨_, rfl, ?_⟩; have n0_ := Aside0.mk (Kd.R_below (rp9 HO_5.out) hb); have n1_ := Aside0.mk (Kd.R_below (rp9 HO104.out) hb); have n2_ := Aside0.mk (Kd.R_lower ho0 (below_size (bp9 HB.out))); have n3_ := Aside0.mk (below_step (bp9 HB.out) hb); clear HO_5; clear HO104; clear HB; have HO_5 := n0_; have HO104 := n1_; have HO107 := n2_; have HB := n3_; clear n0_ n1_ n2_ n3_; (try clear hb); (try clear hb2); (try clear hk); (try clear hi); (try clear ho0)))
      go_roundg k1
      case measure => have := HK1.out; omega
      case rel => exact ⟨(x5_1), (wrap64 (x10_1 + 1)), (by first | rfl | (simp; done) | (simp [*]; done)), H', ⟨by have := HK1.out; omega⟩, ⟨rp9 HO_5.out⟩, ⟨bp9 HB.out⟩⟩
    ·rw [if_neg c7] at H
     exact absurd H (by simp)
   ·rw [if_neg c5] at H
    have c5b0 : decide (x10_1 < t101) = false := decide_eq_false c5
    clear c5
    obtain rfl := Option.some.inj H
    go_wp2
    go_ret
    exact ⟨_, by first | rfl | (simp [errW_none, errW_some] <;> rfl) | (simp [*, errW_none, errW_some] <;> rfl), by (with_reducible repeat (first | apply Kd.R_alloc | apply Kd.R_drewN | apply Kd.R_drew)); exact HO_5.out, bp9 HB.out⟩

/-! ### order_First: function 101 -/
def order_First.l0 : Nat → List Int → Int → List Int → Int → Int → Option (List Int × Bool)
 | 0, _, _, _, _, _ => none
 | k + 1, x0, x4, x5, x8, x9 => if x9 < x8 then ((order_free.f k x0 x4).bind fun t102 => (if (t102.length : Int) = 0 then (some (([] : List Int), false)) else (if 0 < (t102.length : Int) then (if x5.length < 17592186044416 then (if 0 ≤ (IntKind.u64.wrap (rd t102 0)) then (order_First.l0 k x0 (Go.bits .or .u32 x4 (shl .u32 1 (IntKind.u64.wrap (rd t102 0)))) (x5 ++ [rd t102 0]) x8 (wrap64 (x9 + 1))) else (none)) else (none)) else (none)))) else (some (x5, true))
def order_First.f (k : Nat) (l0 : List Int) : Option (List Int × Bool) := (order_size.f l0).bind fun t101 => (order_First.l0 k l0 0 ([] : List Int) t101 0)
theorem order_First.mono_l : ∀ k, (∀ y0 y1 y2 y3 y4, LeO (order_First.l0 k y0 y1 y2 y3 y4) (order_First.l0 (k + 1) y0 y1 y2 y3 y4))
 | 0 => fun _ _ _ _ _ r h => by simp [order_First.l0] at h
 | k + 1 => by
  have ih0 := order_First.mono_l k
  ·intro y0 y1 y2 y3 y4
   unfold order_First.l0
   repeat' (with_reducible first | exact ih0 _ _ _ _ _ | exact order_free.mono _ _ _ | exact LeO.refl _ | exact LeO.none _ | refine LeO.ite ?_ ?_ | refine LeO.bind ?_ (fun _ => ?_))
theorem order_First.mono : ∀ a0 k, LeO (order_First.f k a0) (order_First.f (k + 1) a0) := by
 intro a0 k
 have ih0 := order_First.mono_l k
 unfold order_First.f
 repeat' (with_reducible first | exact ih0 _ _ _ _ _ | exact order_free.mono _ _ _ | exact LeO.refl _ | exact LeO.none _ | refine LeO.ite ?_ ?_ | refine LeO.bind ?_ (fun _ => ?_))
set_option maxHeartbeats 8000000 in
set_option maxRecDepth 100000 in
theorem order_First.calls (k : Nat) (A0 : Option Addr) (c0 : Nat) (l0 : List Int) (r1 : List Int) (r2 : Bool) (w : World) (hr0 : Kd.C (Kd.int .u32) w A0 l0.length l0) (hc0 : l0.length ≤ c0) (h : order_First.f k l0 = some (r1, r2)) :
  Calls Try.prog 101 #[.slice A0 l0.length c0] w fun e w' => ∃ v0_ : Value, e = .returned (.tuple #[v0_, .bool r2]) ∧ Kd.R (Kd.int .i64) 3 w' w.heap.size (fun _ => True) v0_ r1 ∧ Below w.heap.size w w' := by
 have HR0 := Aside0.mk hr0
 have HC0 := Aside0.mk hc0
 clear hr0 hc0
 have HB := Aside0.mk (Below.refl w.heap.size w)
 have H : ((order_size.f l0).bind fun t101 => (order_First.l0 k l0 0 ([] : List Int) t101 0)) = some (r1, r2) := h
 clear h
 replace H := Option.bind_eq_some_iff.mp H
 obtain ⟨t101, A20, H⟩ := H
 replace H : (order_First.l0 k l0 0 ([] : List Int) t101 0) = some (r1, r2) := H
 have A2 := Aside0.mk A20
 clear A20
 have H' := Aside0.mk H
 clear H
 go_enter Try.func101, Try.ntmps101
 go_wp2_with (first | ((with_reducible refine gate_callee (f := 138) rfl ?_); refine goesL9 (some 8) rfl rfl Try.func138 (by kernel_rfl) rfl #[.slice A0 l0.length c0] rfl ?_; (with_reducible refine (order_size.calls _ _ l0 t101 _ ?side1 ?side2 A2.out).mono ?_); (case side1 => repeat (first | exact HR0.out | (with_reducible refine Kd.C_alloc ?_ _) | (with_reducible refine Kd.C_drewN ?_ _) | (with_reducible refine Kd.C_drew ?_))); (case side2 => exact HC0.out); rintro e w3 ⟨rfl, hb⟩; refine ⟨_, rfl, ?_⟩; have n0_ := Aside0.mk (below_step (bp9 HB.out) hb); clear HB; have HB := n0_; clear n0_; (try clear hb); (try clear hb2); (try clear hk); (try clear hi)))
 go_loopg [4, 5, 9] k (fun kq v4 v5 v9 w' => ∃ (x4_1 : Int) (x5_1 : List Int) (x9_1 : Int), v4 = .int .u32 x4_1 ∧ v9 = .int .i64 x9_1 ∧ Aside0 (order_First.l0 kq l0 x4_1 x5_1 t101 x9_1 = some (r1, r2)) ∧ Aside0 (kq ≤ k) ∧ Aside0 (Kd.R (Kd.int .i64) 3 w' w.heap.size (fun _ => True) v5 x5_1) ∧ Aside0 (Below w.heap.size w w'))
 case atStart => exact ⟨(0), (([] : List Int)), (0), (by first | rfl | (simp; done) | (simp [*]; done)), (by first | rfl | (simp; done) | (simp [*]; done)), H', ⟨Nat.le_refl _⟩, ⟨by first | exact Kd.R_nil _ _ _ _ _ | exact Kd.N_nil _ _ _ _ _ | exact Kd.V_nil _ _ _ _ _ | exact Kd.Q_nil _ _ _ _ _ | exact Kd.S_nil _ _ _ _ _⟩, ⟨bp9 HB.out⟩⟩
 case round =>
  clear H'
  try clear c1
  try clear p2
  obtain ⟨x4_1, x5_1, x9_1, rfl, rfl, HA, HK1, HO_5, HB⟩ := hrel
  cases gk with
  | zero => exact absurd HA.out (by simp [order_First.l0])
  | succ k1 =>
   have H := HA.out
   clear HA
   simp only [order_First.l0] at H
   by_cases c4 : x9_1 < t101
   ·rw [if_pos c4] at H
    have c4b0 : decide (x9_1 < t101) = true := decide_eq_true c4
    clear c4
    replace H := Option.bind_eq_some_iff.mp H
    obtain ⟨t102, A50, H⟩ := H
    replace H : (if (t102.length : Int) = 0 then (some (([] : List Int), false)) else (if 0 < (t102.length : Int) then (if x5_1.length < 17592186044416 then (if 0 ≤ (IntKind.u64.wrap (rd t102 0)) then (order_First.l0 k1 l0 (Go.bits .or .u32 x4_1 (shl .u32 1 (IntKind.u64.wrap (rd t102 0)))) (x5_1 ++ [rd t102 0]) t101 (wrap64 (x9_1 + 1))) else (none)) else (none)) else (none))) = some (r1, r2) := H
    have A5 := Aside0.mk A50
    clear A50
    by_cases c6 : (t102.length : Int) = 0
    ·rw [if_pos c6] at H
     have c6b0 : ((t102.length : Int) == 0) = true := beq_iff_eq.mpr c6
     have c6b1 : ((t102.length : Int) != 0) = false := bne_eq_false_iff_eq.mpr c6
     clear c6
     simp only [Option.some.injEq, Prod.mk.injEq] at H
     obtain ⟨rfl, rfl⟩ := H
     go_wp2_with (first | ((with_reducible refine gate_callee (f := 140) rfl ?_); refine goesL9 (some 13) rfl rfl Try.func140 (by kernel_rfl) rfl #[.slice A0 l0.length c0, .int .u32 x4_1] rfl ?_; (with_reducible refine (order_free.calls k1 _ _ l0 x4_1 t102 _ ?side1 ?side2 A5.out).mono ?_); (case side1 => exact cp9 HR0.out HB.out); (case side2 => exact HC0.out); rintro e w7 ⟨v103, rfl, ho0, hb⟩; refine ⟨_, rfl, ?_⟩; have n0_ := Aside0.mk (Kd.R_elder' (rp9 HO_5.out) (Kd.R_base ho0) hb); have n1_ := Aside0.mk (Kd.R_lower (Kd.R_new' ho0 (Kd.R_lt (rp9 HO_5.out))) (below_size (bp9 HB.out))); have n2_ := Aside0.mk (below_step (bp9 HB.out) hb); clear HO_5; clear HB; have HO_5 := n0_; have HO104 := n1_; have HB := n2_; clear n0_ n1_ n2_; (try clear hb); (try clear hb2); (try clear hk); (try clear hi); (try clear ho0); obtain ⟨Ao8, co8, eo8⟩ := Kd.R_slice HO104.out; subst eo8))
     go_ret2
     exact ⟨_, by first | rfl | (simp [errW_none, errW_some] <;> rfl) | (simp [*, errW_none, errW_some] <;> rfl), by first | exact Kd.R_nil _ _ _ _ _ | exact Kd.N_nil _ _ _ _ _ | exact Kd.V_nil _ _ _ _ _ | exact Kd.Q_nil _ _ _ _ _ | exact Kd.S_nil _ _ _ _ _, bp9 HB.out⟩
    ·rw [if_neg c6] at H
     have c6b0 : ((t102.length : Int) == 0) = false := beq_eq_false_iff_ne.mpr c6
     have c6b1 : ((t102.length : Int) != 0) = true := bne_iff_ne.mpr c6
     have c6b2 : ¬ (t102 = []) := fun h_ => c6 (by rw [h_]; rfl)
     by_cases c9 : 0 < (t102.length : Int)
     ·rw [if_pos c9] at H
      have c9b0 : decide (0 < (t102.length : Int)) = true := decide_eq_true c9
      have c9b1 : decide (0 < t102.length) = true := decide_eq_true (by omega)
      clear c9
      by_cases c10 : x5_1.length < 17592186044416
      ·rw [if_pos c10] at H
       have LMc10 := Aside0.mk c10
       clear c10
       obtain ⟨y106, hy106⟩ : ∃ y_ : List Int, y_ = (x5_1 ++ [rd t102 0]) := ⟨_, rfl⟩
       replace H : (if 0 ≤ (IntKind.u64.wrap (rd t102 0)) then (order_First.l0 k1 l0 (Go.bits .or .u32 x4_1 (shl .u32 1 (IntKind.u64.wrap (rd t102 0)))) y106 t101 (wrap64 (x9_1 + 1))) else (none)) = some (r1, r2) := by first | (rw [hy106]; with_reducible exact H) | (have H2_ := (Option.bind_some _ _).symm.trans H; rw [hy106]; with_reducible exact H2_) | (have H2_ := (Option.bind_some _ _).symm.trans H; with_reducible exact H2_) | with_reducible exact H | (rw [hy106]; exact H) | exact H
       have Ny106 := Aside0.mk hy106
       clear hy106
       obtain ⟨ji11, hji11⟩ : ∃ j_ : Int, (IntKind.u64.wrap (rd t102 0)) = j_ := ⟨_, rfl⟩
       replace H : (if 0 ≤ (ji11) then (order_First.l0 k1 l0 (Go.bits .or .u32 x4_1 (shl .u32 1 (ji11))) y106 t101 (wrap64 (x9_1 + 1))) else (none)) = some (r1, r2) := by first | (rw [hji11] at H; exact H) | (simp only [hji11] at H ⊢; exact H)
       (try rw [hji11] at A5)
       by_cases c12 : 0 ≤ (ji11)
       ·rw [if_pos c12] at H
        have c12b0 := eq_true c12
        have c12b1 : decide (0 ≤ (ji11)) = true := decide_eq_true c12
        clear c12
        obtain ⟨ji13, hji13⟩ : ∃ j_ : Int, (shl .u32 1 (ji11)) = j_ := ⟨_, rfl⟩
        replace H : (order_First.l0 k1 l0 (Go.bits .or .u32 x4_1 (ji13)) y106 t101 (wrap64 (x9_1 + 1))) = some (r1, r2) := by first | (rw [hji13] at H; exact H) | (simp only [hji13] at H ⊢; exact H)
        (try rw [hji13] at A5)
        have hji13_ : (IntKind.u32.wrap (1 * 2 ^ min (ji11).toNat 32)) = ji13 := hji13
        have hji13z : (ji11) ≤ 32 → (IntKind.u32.wrap (1 * 2 ^ (ji11).toNat)) = ji13 := shl_small hji13
        have hji13u : (IntKind.u32.wrap (2 ^ min (ji11).toNat 32)) = ji13 := by have h_ := hji13_; rw [Int.one_mul] at h_; exact h_
        have hji13v : (ji11) ≤ 32 → (IntKind.u32.wrap (2 ^ (ji11).toNat)) = ji13 := fun hle_ => by have h_ := hji13z hle_; rw [Int.one_mul] at h_; exact h_
        have H' := Aside0.mk H
        clear H
        go_wp2_with (first | ((with_reducible refine gate_callee (f := 140) rfl ?_); refine goesL9 (some 13) rfl rfl Try.func140 (by kernel_rfl) rfl #[.slice A0 l0.length c0, .int .u32 x4_1] rfl ?_; (with_reducible refine (order_free.calls k1 _ _ l0 x4_1 t102 _ ?side1 ?side2 A5.out).mono ?_); (case side1 => exact cp9 HR0.out HB.out); (case side2 => exact HC0.out); rintro e w14 ⟨v103, rfl, ho0, hb⟩; refine ⟨_, rfl, ?_⟩; have n0_ := Aside0.mk (Kd.R_elder' (rp9 HO_5.out) (Kd.R_base ho0) hb); have n1_ := Aside0.mk (Kd.R_lower (Kd.R_new' ho0 (Kd.R_lt (rp9 HO_5.out))) (below_size (bp9 HB.out))); have n2_ := Aside0.mk (below_step (bp9 HB.out) hb); clear HO_5; clear HB; have HO_5 := n0_; have HO104 := n1_; have HB := n2_; clear n0_ n1_ n2_; (try clear hb); (try clear hb2); (try clear hk); (try clear hi); (try clear ho0); obtain ⟨Ao15, co15, eo15⟩ := Kd.R_slice HO104.out; subst eo15; have p105 : 0 ≤ (0 : Int) := (by omega); have q105 : 0 < (t102.length : Int) := of_decide_eq_true (by first | (with_reducible assumption) | assumption); obtain ⟨ad105, e105, hx105_0⟩ := Kd.at_int (Kd.R_reads' HO104.out).2.2 0 p105 q105; cases e105; have qi105 : (0 < t102.length) = True := eq_true (by omega); (try rw [show ((0 : Int)).toNat = 0 from rfl] at hx105_0); (try rw [Addr.add_zero'] at hx105_0); replace p105 := eq_true p105; replace q105 := eq_true q105) | ((with_reducible refine gate_builtin (b := .append) (xs := #[.tmp 17, .tmp 21]) rfl ?_); at_builtin; refine Kd.R_append (Kd.int .i64) (w0 := w) w.heap.size rfl (.tmp 17) (.tmp 21) 33 3 (.int .i64 0) 8 rfl Try.underlying33 info3 rfl (by decide) (by omega) u5 x5_1 (rd t102 0) [.int .i64 (rd t102 0)] (fun k_ => some k_ ≠ (.slice (some ad105) t102.length co15 : Value).ownBlock) (fun _ => False) rfl rfl ?aP (fun _ hk => hk.elim) ?aF ?aO ?aB ?aS ?aL ?_; (case aP => exact rfl); (case aB => exact (bp9 HB.out)); (case aF => exact (fun k_ hk => Kd.fresh' (Kd.R_lt (rp9 HO104.out)) k_ hk)); (case aO => exact (by (with_reducible repeat (first | apply Kd.R_alloc | apply Kd.R_drewN | apply Kd.R_drew)); exact Kd.R_mono HO_5.out (fun _ hk => hk.2))); (case aS => exact (below_size (bp9 HB.out))); (case aL => have := LMc10.out; omega); intro v107 w16 ho hb hg hat; rw [← Ny106.out] at ho; have n0_ := Aside0.mk (Kd.R_after (ok := (fun _ => True)) (rp9 HO104.out) hg hat); have n1_ := Aside0.mk (hb); have n2_ := Aside0.mk (ho); clear HO104; clear HB; clear HO_5; have HO104 := n0_; have HB := n1_; have HO108 := n2_; clear n0_ n1_ n2_; clear ho hb hg hat; have p109 : 0 ≤ (0 : Int) := (by omega); have q109 : 0 < (t102.length : Int) := of_decide_eq_true (by first | (with_reducible assumption) | assumption); obtain ⟨ad109, e109, hx109_0⟩ := Kd.at_int (Kd.R_reads' HO104.out).2.2 0 p109 q109; obtain rfl : ad105 = ad109 := (by injection e109); have qi109 : (0 < t102.length) = True := eq_true (by omega); (try rw [show ((0 : Int)).toNat = 0 from rfl] at hx109_0); (try rw [Addr.add_zero'] at hx109_0); replace p109 := eq_true p109; replace q109 := eq_true q109))
        go_roundg k1
        case measure => have := HK1.out; omega
        case rel => exact ⟨(Go.bits .or .u32 x4_1 (ji13)), (y106), (wrap64 (x9_1 + 1)), (by first | rfl | (simp; done) | (simp only [← hji13] <;> (first | rfl | simp)) | (simp [*]; done)), (by first | rfl | (simp; done) | (simp [*]; done)), H', ⟨by have := HK1.out; omega⟩, ⟨by (with_reducible repeat (first | apply Kd.R_alloc | apply Kd.R_drewN | apply Kd.R_drew)); exact Kd.R_mono HO108.out (fun _ hk => trivial)⟩, ⟨bp9 HB.out⟩⟩
       ·rw [if_neg c12] at H
        exact absurd H (by simp)
      ·rw [if_neg c10] at H
       exact absurd H (by simp)
     ·rw [if_neg c9] at H
      exact absurd H (by simp)
   ·rw [if_neg c4] at H
    have c4b0 : decide (x9_1 < t101) = false := decide_eq_false c4
    clear c4
    simp only [Option.some.injEq, Prod.mk.injEq] at H
    obtain ⟨rfl, rfl⟩ := H
    go_wp2
    go_ret2
    exact ⟨_, by first | rfl | (simp [errW_none, errW_some] <;> rfl) | (simp [*, errW_none, errW_some] <;> rfl), by (with_reducible repeat (first | apply Kd.R_alloc | apply Kd.R_drewN | apply Kd.R_drew)); exact HO_5.out, bp9 HB.out⟩

/-! ### order_All: function 99 -/
/-! ### order_Of: function 106 -/
end Go.Proofs.Ytbamkkdikeedoaa.G
