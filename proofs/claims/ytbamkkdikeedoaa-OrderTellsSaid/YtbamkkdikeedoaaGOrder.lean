-- Written by drive.py, a program of this seat's session, out of the translation.
import Derived.Test.YtbamkkdikeedoaaG0
import Derived.Test.YtbamkkdikeedoaaGRel
import Derived.Test.YtbamkkdikeedoaaHandRel
import Derived.Test.YtbamkkdikeedoaaHandSlices
import Derived.Test.YtbamkkdikeedoaaHandCz
namespace Go.Proofs.Ytbamkkdikeedoaa.G
open Go.RowKit Go.Proofs.YtbamkkdikeedoaaW.PrintWords Go.Proofs.YtbamkkdikeedoaaW.PrintLast Go.Proofs.YtbamkkdikeedoaaW.PrintMore
attribute [local go_sem] max2_int min2_int max_two min_two max_three min_three max_four min_four   -- for this text's walks alone
set_option linter.unusedVariables false
set_option linter.unusedSimpArgs false

/-! ### order_size: function 138 -/
def order_size.f (l0 : List Int) : Option (Int) := (rel_Or.f l0 l0).bind fun t101 => (some (t101.length : Int))
set_option maxHeartbeats 8000000 in
set_option maxRecDepth 100000 in
theorem order_size.calls (A0 : Option Addr) (c0 : Nat) (l0 : List Int) (r : Int) (w : World) (hr0 : Kd.C (Kd.int .u32) w A0 l0.length l0) (hc0 : l0.length ≤ c0) (h : order_size.f l0 = some r) :
  Calls Try.prog 138 #[.slice A0 l0.length c0] w fun e w' => e = .returned (.int .i64 r) ∧ Below w.heap.size w w' := by
 have HR0 := Aside0.mk hr0
 have HC0 := Aside0.mk hc0
 clear hr0 hc0
 have HB := Aside0.mk (Below.refl w.heap.size w)
 have H : ((rel_Or.f l0 l0).bind fun t101 => (some (t101.length : Int))) = some r := h
 clear h
 replace H := Option.bind_eq_some_iff.mp H
 obtain ⟨t101, A20, H⟩ := H
 have A2 := Aside0.mk A20
 clear A20
 obtain rfl := Option.some.inj H
 go_enter Try.func138, Try.ntmps138
 go_wp2_with (first | ((with_reducible refine gate_callee (f := 58) rfl ?_); refine goesL9 (some 5) rfl rfl Try.func58 (by kernel_rfl) rfl #[.slice A0 l0.length c0, .slice A0 l0.length c0] rfl ?_; (with_reducible refine (rel_Or.calls _ _ l0 _ _ l0 t101 _ ?side1 ?side2 ?side3 ?side4 A2.out).mono ?_); (case side1 => repeat (first | exact HR0.out | (with_reducible refine Kd.C_alloc ?_ _) | (with_reducible refine Kd.C_drewN ?_ _) | (with_reducible refine Kd.C_drew ?_))); (case side2 => exact HC0.out); (case side3 => repeat (first | exact HR0.out | (with_reducible refine Kd.C_alloc ?_ _) | (with_reducible refine Kd.C_drewN ?_ _) | (with_reducible refine Kd.C_drew ?_))); (case side4 => exact HC0.out); rintro e w3 ⟨v102, rfl, ho0, hb⟩; refine ⟨_, rfl, ?_⟩; have n0_ := Aside0.mk (Kd.R_lower ho0 (below_size (bp9 HB.out))); have n1_ := Aside0.mk (below_step (bp9 HB.out) hb); clear HB; have HO103 := n0_; have HB := n1_; clear n0_ n1_; (try clear hb); (try clear hb2); (try clear hk); (try clear hi); (try clear ho0); obtain ⟨Ao4, co4, eo4⟩ := Kd.R_slice HO103.out; subst eo4))
 go_ret
 exact ⟨by first | rfl | (simp [errW_none, errW_some] <;> rfl) | (simp [*, errW_none, errW_some] <;> rfl), bp9 HB.out⟩

/-! ### order_free: function 140 -/
def order_free.l0 : Nat → List Int → Int → List Int → Int → Int → Option (List Int)
 | 0, _, _, _, _, _ => none
 | k + 1, x0, x1, x5, x9, x10 => if x10 < x9 then (if 0 ≤ (IntKind.u64.wrap (x10)) then ((rel_Only.f k x0 (Go.bits .xor .u32 4294967295 x1) (shl .u32 1 (IntKind.u64.wrap (x10)))).bind fun t102 => ((rel_Pairs.f k t102).bind fun t105 => (if (Go.bits .and .u32 (shr .u32 x1 (IntKind.u64.wrap (x10))) 1) = 0 then (if (t105.length : Int) = 0 then (if x5.length < 17592186044416 then (order_free.l0 k x0 x1 (x5 ++ [x10]) x9 (wrap64 (x10 + 1))) else (none)) else (order_free.l0 k x0 x1 x5 x9 (wrap64 (x10 + 1)))) else (order_free.l0 k x0 x1 x5 x9 (wrap64 (x10 + 1)))))) else (none)) else (some x5)
def order_free.f (k : Nat) (l0 : List Int) (a1 : Int) : Option (List Int) := (order_size.f l0).bind fun t101 => (order_free.l0 k l0 a1 ([] : List Int) t101 0)
theorem order_free.mono_l : ∀ k, (∀ y0 y1 y2 y3 y4, LeO (order_free.l0 k y0 y1 y2 y3 y4) (order_free.l0 (k + 1) y0 y1 y2 y3 y4))
 | 0 => fun _ _ _ _ _ r h => by simp [order_free.l0] at h
 | k + 1 => by
  have ih0 := order_free.mono_l k
  ·intro y0 y1 y2 y3 y4
   unfold order_free.l0
   repeat' (with_reducible first | exact ih0 _ _ _ _ _ | exact rel_Only.mono _ _ _ _ | exact rel_Pairs.mono _ _ | exact LeO.refl _ | exact LeO.none _ | refine LeO.ite ?_ ?_ | refine LeO.bind ?_ (fun _ => ?_))
theorem order_free.mono : ∀ a0 a1 k, LeO (order_free.f k a0 a1) (order_free.f (k + 1) a0 a1) := by
 intro a0 a1 k
 have ih0 := order_free.mono_l k
 unfold order_free.f
 repeat' (with_reducible first | exact ih0 _ _ _ _ _ | exact rel_Only.mono _ _ _ _ | exact rel_Pairs.mono _ _ | exact LeO.refl _ | exact LeO.none _ | refine LeO.ite ?_ ?_ | refine LeO.bind ?_ (fun _ => ?_))
set_option maxHeartbeats 8000000 in
set_option maxRecDepth 100000 in
theorem order_free.calls (k : Nat) (A0 : Option Addr) (c0 : Nat) (l0 : List Int) (a1 : Int) (r : List Int) (w : World) (hr0 : Kd.C (Kd.int .u32) w A0 l0.length l0) (hc0 : l0.length ≤ c0) (h : order_free.f k l0 a1 = some r) :
  Calls Try.prog 140 #[.slice A0 l0.length c0, .int .u32 a1] w fun e w' => ∃ v0_ : Value, e = .returned (v0_) ∧ Kd.R (Kd.int .i64) 3 w' w.heap.size (fun _ => True) v0_ r ∧ Below w.heap.size w w' := by
 have HR0 := Aside0.mk hr0
 have HC0 := Aside0.mk hc0
 clear hr0 hc0
 have HB := Aside0.mk (Below.refl w.heap.size w)
 have H : ((order_size.f l0).bind fun t101 => (order_free.l0 k l0 a1 ([] : List Int) t101 0)) = some r := h
 clear h
 replace H := Option.bind_eq_some_iff.mp H
 obtain ⟨t101, A30, H⟩ := H
 have A3 := Aside0.mk A30
 clear A30
 have H' := Aside0.mk H
 clear H
 go_enter Try.func140, Try.ntmps140
 go_wp2_with (first | ((with_reducible refine gate_callee (f := 138) rfl ?_); refine goesL9 (some 9) rfl rfl Try.func138 (by kernel_rfl) rfl #[.slice A0 l0.length c0] rfl ?_; (with_reducible refine (order_size.calls _ _ l0 t101 _ ?side1 ?side2 A3.out).mono ?_); (case side1 => repeat (first | exact HR0.out | (with_reducible refine Kd.C_alloc ?_ _) | (with_reducible refine Kd.C_drewN ?_ _) | (with_reducible refine Kd.C_drew ?_))); (case side2 => exact HC0.out); rintro e w4 ⟨rfl, hb⟩; refine ⟨_, rfl, ?_⟩; have n0_ := Aside0.mk (below_step (bp9 HB.out) hb); clear HB; have HB := n0_; clear n0_; (try clear hb); (try clear hb2); (try clear hk); (try clear hi)))
 go_loopg [5, 10] k (fun kq v5 v10 w' => ∃ (x5_1 : List Int) (x10_1 : Int), v10 = .int .i64 x10_1 ∧ Aside0 (order_free.l0 kq l0 a1 x5_1 t101 x10_1 = some r) ∧ Aside0 (kq ≤ k) ∧ Aside0 (Kd.R (Kd.int .i64) 3 w' w.heap.size (fun _ => True) v5 x5_1) ∧ Aside0 (Below w.heap.size w w'))
 case atStart => exact ⟨(([] : List Int)), (0), (by first | rfl | (simp; done) | (simp [*]; done)), H', ⟨Nat.le_refl _⟩, ⟨by first | exact Kd.R_nil _ _ _ _ _ | exact Kd.N_nil _ _ _ _ _ | exact Kd.V_nil _ _ _ _ _ | exact Kd.Q_nil _ _ _ _ _ | exact Kd.S_nil _ _ _ _ _⟩, ⟨bp9 HB.out⟩⟩
 case round =>
  clear H'
  try clear c1
  try clear p2
  obtain ⟨x5_1, x10_1, rfl, HA, HK1, HO_5, HB⟩ := hrel
  cases gk with
  | zero => exact absurd HA.out (by simp [order_free.l0])
  | succ k1 =>
   have H := HA.out
   clear HA
   simp only [order_free.l0] at H
   by_cases c5 : x10_1 < t101
   ·rw [if_pos c5] at H
    have c5b0 : decide (x10_1 < t101) = true := decide_eq_true c5
    clear c5
    obtain ⟨ji6, hji6⟩ : ∃ j_ : Int, (IntKind.u64.wrap (x10_1)) = j_ := ⟨_, rfl⟩
    replace H : (if 0 ≤ (ji6) then ((rel_Only.f k1 l0 (Go.bits .xor .u32 4294967295 a1) (shl .u32 1 (ji6))).bind fun t102 => ((rel_Pairs.f k1 t102).bind fun t105 => (if (Go.bits .and .u32 (shr .u32 a1 (ji6)) 1) = 0 then (if (t105.length : Int) = 0 then (if x5_1.length < 17592186044416 then (order_free.l0 k1 l0 a1 (x5_1 ++ [x10_1]) t101 (wrap64 (x10_1 + 1))) else (none)) else (order_free.l0 k1 l0 a1 x5_1 t101 (wrap64 (x10_1 + 1)))) else (order_free.l0 k1 l0 a1 x5_1 t101 (wrap64 (x10_1 + 1)))))) else (none)) = some r := by first | (rw [hji6] at H; exact H) | (simp only [hji6] at H ⊢; exact H)
    by_cases c7 : 0 ≤ (ji6)
    ·rw [if_pos c7] at H
     have c7b0 := eq_true c7
     have c7b1 : decide (0 ≤ (ji6)) = true := decide_eq_true c7
     clear c7
     obtain ⟨ji8, hji8⟩ : ∃ j_ : Int, (shl .u32 1 (ji6)) = j_ := ⟨_, rfl⟩
     replace H : ((rel_Only.f k1 l0 (Go.bits .xor .u32 4294967295 a1) (ji8)).bind fun t102 => ((rel_Pairs.f k1 t102).bind fun t105 => (if (Go.bits .and .u32 (shr .u32 a1 (ji6)) 1) = 0 then (if (t105.length : Int) = 0 then (if x5_1.length < 17592186044416 then (order_free.l0 k1 l0 a1 (x5_1 ++ [x10_1]) t101 (wrap64 (x10_1 + 1))) else (none)) else (order_free.l0 k1 l0 a1 x5_1 t101 (wrap64 (x10_1 + 1)))) else (order_free.l0 k1 l0 a1 x5_1 t101 (wrap64 (x10_1 + 1)))))) = some r := by first | (rw [hji8] at H; exact H) | (simp only [hji8] at H ⊢; exact H)
     have hji8_ : (IntKind.u32.wrap (1 * 2 ^ min (ji6).toNat 32)) = ji8 := hji8
     have hji8z : (ji6) ≤ 32 → (IntKind.u32.wrap (1 * 2 ^ (ji6).toNat)) = ji8 := shl_small hji8
     have hji8u : (IntKind.u32.wrap (2 ^ min (ji6).toNat 32)) = ji8 := by have h_ := hji8_; rw [Int.one_mul] at h_; exact h_
     have hji8v : (ji6) ≤ 32 → (IntKind.u32.wrap (2 ^ (ji6).toNat)) = ji8 := fun hle_ => by have h_ := hji8z hle_; rw [Int.one_mul] at h_; exact h_
     replace H := Option.bind_eq_some_iff.mp H
     obtain ⟨t102, A90, H⟩ := H
     have A9 := Aside0.mk A90
     clear A90
     replace H := Option.bind_eq_some_iff.mp H
     obtain ⟨t105, A100, H⟩ := H
     have A10 := Aside0.mk A100
     clear A100
     have c11b0 := eq_true (of_decide_eq_true (by first | (with_reducible assumption) | assumption) : 0 ≤ (ji6))
     obtain ⟨ji12, hji12⟩ : ∃ j_ : Int, (shr .u32 a1 (ji6)) = j_ := ⟨_, rfl⟩
     replace H : (if (Go.bits .and .u32 (ji12) 1) = 0 then (if (t105.length : Int) = 0 then (if x5_1.length < 17592186044416 then (order_free.l0 k1 l0 a1 (x5_1 ++ [x10_1]) t101 (wrap64 (x10_1 + 1))) else (none)) else (order_free.l0 k1 l0 a1 x5_1 t101 (wrap64 (x10_1 + 1)))) else (order_free.l0 k1 l0 a1 x5_1 t101 (wrap64 (x10_1 + 1)))) = some r := by first | (rw [hji12] at H; exact H) | (simp only [hji12] at H ⊢; exact H)
     (try rw [hji12] at A9)
     (try rw [hji12] at A10)
     have hji12_ : (a1 / 2 ^ min (ji6).toNat 32) = ji12 := hji12
     have hji12z : (ji6) ≤ 32 → (a1 / 2 ^ (ji6).toNat) = ji12 := shr_small hji12
     by_cases c13 : (Go.bits .and .u32 (ji12) 1) = 0
     ·rw [if_pos c13] at H
      have c13b0 : ((Go.bits .and .u32 (ji12) 1) == 0) = true := beq_iff_eq.mpr c13
      have c13b1 : ((Go.bits .and .u32 (ji12) 1) != 0) = false := bne_eq_false_iff_eq.mpr c13
      clear c13
      by_cases c14 : (t105.length : Int) = 0
      ·rw [if_pos c14] at H
       have c14b0 : ((t105.length : Int) == 0) = true := beq_iff_eq.mpr c14
       have c14b1 : ((t105.length : Int) != 0) = false := bne_eq_false_iff_eq.mpr c14
       clear c14
       by_cases c15 : x5_1.length < 17592186044416
       ·rw [if_pos c15] at H
        have LMc15 := Aside0.mk c15
        clear c15
        obtain ⟨y108, hy108⟩ : ∃ y_ : List Int, y_ = (x5_1 ++ [x10_1]) := ⟨_, rfl⟩
        replace H : (order_free.l0 k1 l0 a1 y108 t101 (wrap64 (x10_1 + 1))) = some r := by first | (rw [hy108]; with_reducible exact H) | (have H2_ := (Option.bind_some _ _).symm.trans H; rw [hy108]; with_reducible exact H2_) | (have H2_ := (Option.bind_some _ _).symm.trans H; with_reducible exact H2_) | with_reducible exact H | (rw [hy108]; exact H) | exact H
        have Ny108 := Aside0.mk hy108
        clear hy108
        have H' := Aside0.mk H
        clear H
        go_wp2_with (first | ((with_reducible refine gate_callee (f := 54) rfl ?_); refine goesL_ (some 19) rfl rfl Try.func54 (by kernel_rfl) rfl #[.slice A0 l0.length c0, .int .u32 (Go.bits .xor .u32 4294967295 a1), .int .u32 ji8] rfl (by (try simp only [List.map_toArray, List.map_cons, List.map_nil]); first | done | (simp only [hji8]; rfl) | rfl | (simp only [List.length_drop, List.length_take]; rfl)) ?_; (with_reducible refine (rel_Only.calls k1 _ _ l0 (Go.bits .xor .u32 4294967295 a1) ji8 t102 _ ?side1 ?side2 A9.out).mono ?_); (case side1 => exact cp9 HR0.out HB.out); (case side2 => exact HC0.out); rintro e w16 ⟨v103, rfl, ho0, hb⟩; refine ⟨_, rfl, ?_⟩; have n0_ := Aside0.mk (Kd.R_below (rp9 HO_5.out) hb); have n1_ := Aside0.mk (Kd.R_lower ho0 (below_size (bp9 HB.out))); have n2_ := Aside0.mk (below_step (bp9 HB.out) hb); clear HO_5; clear HB; have HO_5 := n0_; have HO104 := n1_; have HB := n2_; clear n0_ n1_ n2_; (try clear hb); (try clear hb2); (try clear hk); (try clear hi); (try clear ho0); obtain ⟨Ao17, co17, eo17⟩ := Kd.R_slice HO104.out; subst eo17) | ((with_reducible refine gate_callee (f := 38) rfl ?_); refine goesL9 (some 20) rfl rfl Try.func38 (by kernel_rfl) rfl #[.slice Ao17 t102.length co17] rfl ?_; (with_reducible refine (rel_Pairs.calls k1 _ _ t102 t105 _ ?side1 ?side2 A10.out).mono ?_); (case side1 => exact lp9 (Kd.R_reads' HO104.out).2.2); (case side2 => exact (Kd.R_reads' HO104.out).2.1); rintro e w18 ⟨v106, rfl, ho0, hb⟩; refine ⟨_, rfl, ?_⟩; have n0_ := Aside0.mk (Kd.R_below (rp9 HO_5.out) hb); have n1_ := Aside0.mk (Kd.R_below (rp9 HO104.out) hb); have n2_ := Aside0.mk (Kd.R_lower ho0 (below_size (bp9 HB.out))); have n3_ := Aside0.mk (below_step (bp9 HB.out) hb); clear HO_5; clear HO104; clear HB; have HO_5 := n0_; have HO104 := n1_; have HO107 := n2_; have HB := n3_; clear n0_ n1_ n2_ n3_; (try clear hb); (try clear hb2); (try clear hk); (try clear hi); (try clear ho0); obtain ⟨Ao19, co19, eo19⟩ := Kd.R_slice HO107.out; subst eo19) | ((with_reducible refine gate_builtin (b := .append) (xs := #[.tmp 32, .tmp 34]) rfl ?_); (try (refine gate_guard (by rfl) ?_; dsimp only)); at_builtin; refine Kd.R_append (Kd.int .i64) (w0 := w) w.heap.size rfl (.tmp 32) (.tmp 34) 33 3 (.int .i64 0) 8 rfl Try.underlying33 info3 rfl (by decide) (by omega) u5 x5_1 x10_1 [.int .i64 x10_1] (fun _ => True) (fun _ => False) rfl rfl ?aP (fun _ hk => hk.elim) ?aF ?aO ?aB ?aS ?aL ?_; (case aP => exact rfl); (case aB => exact (bp9 HB.out)); (case aF => exact (fun _ _ => trivial)); (case aO => exact (rp9 HO_5.out)); (case aS => exact (below_size (bp9 HB.out))); (case aL => have := LMc15.out; omega); intro v109 w20 ho hb hg hat; rw [← Ny108.out] at ho; have n0_ := Aside0.mk (Kd.R_over' (rp9 HO104.out) (Kd.R_typed (rp9 HO_5.out)) (by decide) hg); have n1_ := Aside0.mk (Kd.R_over' (rp9 HO107.out) (Kd.R_typed (rp9 HO_5.out)) (by decide) hg); have n2_ := Aside0.mk (hb); have n3_ := Aside0.mk (ho); clear HO104; clear HO107; clear HB; clear HO_5; have HO104 := n0_; have HO107 := n1_; have HB := n2_; have HO110 := n3_; clear n0_ n1_ n2_ n3_; clear ho hb hg hat))
        go_roundg k1
        case measure => have := HK1.out; omega
        case rel => exact ⟨(y108), (wrap64 (x10_1 + 1)), (by first | rfl | (simp; done) | (simp [*]; done)), H', ⟨by have := HK1.out; omega⟩, ⟨rp9 HO110.out⟩, ⟨bp9 HB.out⟩⟩
       ·rw [if_neg c15] at H
        exact absurd H (by simp)
      ·rw [if_neg c14] at H
       have c14b0 : ((t105.length : Int) == 0) = false := beq_eq_false_iff_ne.mpr c14
       have c14b1 : ((t105.length : Int) != 0) = true := bne_iff_ne.mpr c14
       have c14b2 : ¬ (t105 = []) := fun h_ => c14 (by rw [h_]; rfl)
       have H' := Aside0.mk H
       clear H
       go_wp2_with (first | ((with_reducible refine gate_callee (f := 54) rfl ?_); refine goesL_ (some 19) rfl rfl Try.func54 (by kernel_rfl) rfl #[.slice A0 l0.length c0, .int .u32 (Go.bits .xor .u32 4294967295 a1), .int .u32 ji8] rfl (by (try simp only [List.map_toArray, List.map_cons, List.map_nil]); first | done | (simp only [hji8]; rfl) | rfl | (simp only [List.length_drop, List.length_take]; rfl)) ?_; (with_reducible refine (rel_Only.calls k1 _ _ l0 (Go.bits .xor .u32 4294967295 a1) ji8 t102 _ ?side1 ?side2 A9.out).mono ?_); (case side1 => exact cp9 HR0.out HB.out); (case side2 => exact HC0.out); rintro e w21 ⟨v103, rfl, ho0, hb⟩; refine ⟨_, rfl, ?_⟩; have n0_ := Aside0.mk (Kd.R_below (rp9 HO_5.out) hb); have n1_ := Aside0.mk (Kd.R_lower ho0 (below_size (bp9 HB.out))); have n2_ := Aside0.mk (below_step (bp9 HB.out) hb); clear HO_5; clear HB; have HO_5 := n0_; have HO104 := n1_; have HB := n2_; clear n0_ n1_ n2_; (try clear hb); (try clear hb2); (try clear hk); (try clear hi); (try clear ho0); obtain ⟨Ao22, co22, eo22⟩ := Kd.R_slice HO104.out; subst eo22) | ((with_reducible refine gate_callee (f := 38) rfl ?_); refine goesL9 (some 20) rfl rfl Try.func38 (by kernel_rfl) rfl #[.slice Ao22 t102.length co22] rfl ?_; (with_reducible refine (rel_Pairs.calls k1 _ _ t102 t105 _ ?side1 ?side2 A10.out).mono ?_); (case side1 => exact lp9 (Kd.R_reads' HO104.out).2.2); (case side2 => exact (Kd.R_reads' HO104.out).2.1); rintro e w23 ⟨v106, rfl, ho0, hb⟩; refine ⟨_, rfl, ?_⟩; have n0_ := Aside0.mk (Kd.R_below (rp9 HO_5.out) hb); have n1_ := Aside0.mk (Kd.R_below (rp9 HO104.out) hb); have n2_ := Aside0.mk (Kd.R_lower ho0 (below_size (bp9 HB.out))); have n3_ := Aside0.mk (below_step (bp9 HB.out) hb); clear HO_5; clear HO104; clear HB; have HO_5 := n0_; have HO104 := n1_; have HO107 := n2_; have HB := n3_; clear n0_ n1_ n2_ n3_; (try clear hb); (try clear hb2); (try clear hk); (try clear hi); (try clear ho0); obtain ⟨Ao24, co24, eo24⟩ := Kd.R_slice HO107.out; subst eo24))
       go_roundg k1
       case measure => have := HK1.out; omega
       case rel => exact ⟨(x5_1), (wrap64 (x10_1 + 1)), (by first | rfl | (simp; done) | (simp [*]; done)), H', ⟨by have := HK1.out; omega⟩, ⟨rp9 HO_5.out⟩, ⟨bp9 HB.out⟩⟩
     ·rw [if_neg c13] at H
      have c13b0 : ((Go.bits .and .u32 (ji12) 1) == 0) = false := beq_eq_false_iff_ne.mpr c13
      have c13b1 : ((Go.bits .and .u32 (ji12) 1) != 0) = true := bne_iff_ne.mpr c13
      have H' := Aside0.mk H
      clear H
      go_wp2_with (first | ((with_reducible refine gate_callee (f := 54) rfl ?_); refine goesL_ (some 19) rfl rfl Try.func54 (by kernel_rfl) rfl #[.slice A0 l0.length c0, .int .u32 (Go.bits .xor .u32 4294967295 a1), .int .u32 ji8] rfl (by (try simp only [List.map_toArray, List.map_cons, List.map_nil]); first | done | (simp only [hji8]; rfl) | rfl | (simp only [List.length_drop, List.length_take]; rfl)) ?_; (with_reducible refine (rel_Only.calls k1 _ _ l0 (Go.bits .xor .u32 4294967295 a1) ji8 t102 _ ?side1 ?side2 A9.out).mono ?_); (case side1 => exact cp9 HR0.out HB.out); (case side2 => exact HC0.out); rintro e w25 ⟨v103, rfl, ho0, hb⟩; refine ⟨_, rfl, ?_⟩; have n0_ := Aside0.mk (Kd.R_below (rp9 HO_5.out) hb); have n1_ := Aside0.mk (Kd.R_lower ho0 (below_size (bp9 HB.out))); have n2_ := Aside0.mk (below_step (bp9 HB.out) hb); clear HO_5; clear HB; have HO_5 := n0_; have HO104 := n1_; have HB := n2_; clear n0_ n1_ n2_; (try clear hb); (try clear hb2); (try clear hk); (try clear hi); (try clear ho0); obtain ⟨Ao26, co26, eo26⟩ := Kd.R_slice HO104.out; subst eo26) | ((with_reducible refine gate_callee (f := 38) rfl ?_); refine goesL9 (some 20) rfl rfl Try.func38 (by kernel_rfl) rfl #[.slice Ao26 t102.length co26] rfl ?_; (with_reducible refine (rel_Pairs.calls k1 _ _ t102 t105 _ ?side1 ?side2 A10.out).mono ?_); (case side1 => exact lp9 (Kd.R_reads' HO104.out).2.2); (case side2 => exact (Kd.R_reads' HO104.out).2.1); rintro e w27 ⟨v106, rfl, ho0, hb⟩; refine ⟨_, rfl, ?_⟩; have n0_ := Aside0.mk (Kd.R_below (rp9 HO_5.out) hb); have n1_ := Aside0.mk (Kd.R_below (rp9 HO104.out) hb); have n2_ := Aside0.mk (Kd.R_lower ho0 (below_size (bp9 HB.out))); have n3_ := Aside0.mk (below_step (bp9 HB.out) hb); clear HO_5; clear HO104; clear HB; have HO_5 := n0_; have HO104 := n1_; have HO107 := n2_; have HB := n3_; clear n0_ n1_ n2_ n3_; (try clear hb); (try clear hb2); (try clear hk); (try clear hi); (try clear ho0)))
      go_roundg k1
      case measure => have := HK1.out; omega
      case rel => exact ⟨(x5_1), (wrap64 (x10_1 + 1)), (by first | rfl | (simp; done) | (simp [*]; done)), H', ⟨by have := HK1.out; omega⟩, ⟨rp9 HO_5.out⟩, ⟨bp9 HB.out⟩⟩
    ·rw [if_neg c7] at H
     exact absurd H (by simp)
   ·rw [if_neg c5] at H
    have c5b0 : decide (x10_1 < t101) = false := decide_eq_false c5
    clear c5
    obtain rfl := Option.some.inj H
    go_wp2
    go_ret
    exact ⟨_, by first | rfl | (simp [errW_none, errW_some] <;> rfl) | (simp [*, errW_none, errW_some] <;> rfl), by (with_reducible repeat (first | apply Kd.R_alloc | apply Kd.R_drewN | apply Kd.R_drew)); exact HO_5.out, bp9 HB.out⟩

/-! ### order_First: function 101 -/
def order_First.l0 : Nat → List Int → Int → List Int → Int → Int → Option (List Int × Bool)
 | 0, _, _, _, _, _ => none
 | k + 1, x0, x4, x5, x8, x9 => if x9 < x8 then ((order_free.f k x0 x4).bind fun t102 => (if (t102.length : Int) = 0 then (some (([] : List Int), false)) else (if 0 < (t102.length : Int) then (if x5.length < 17592186044416 then (if 0 ≤ (IntKind.u64.wrap (rd t102 0)) then (order_First.l0 k x0 (Go.bits .or .u32 x4 (shl .u32 1 (IntKind.u64.wrap (rd t102 0)))) (x5 ++ [rd t102 0]) x8 (wrap64 (x9 + 1))) else (none)) else (none)) else (none)))) else (some (x5, true))
def order_First.f (k : Nat) (l0 : List Int) : Option (List Int × Bool) := (order_size.f l0).bind fun t101 => (order_First.l0 k l0 0 ([] : List Int) t101 0)
theorem order_First.mono_l : ∀ k, (∀ y0 y1 y2 y3 y4, LeO (order_First.l0 k y0 y1 y2 y3 y4) (order_First.l0 (k + 1) y0 y1 y2 y3 y4))
 | 0 => fun _ _ _ _ _ r h => by simp [order_First.l0] at h
 | k + 1 => by
  have ih0 := order_First.mono_l k
  ·intro y0 y1 y2 y3 y4
   unfold order_First.l0
   repeat' (with_reducible first | exact ih0 _ _ _ _ _ | exact order_free.mono _ _ _ | exact LeO.refl _ | exact LeO.none _ | refine LeO.ite ?_ ?_ | refine LeO.bind ?_ (fun _ => ?_))
theorem order_First.mono : ∀ a0 k, LeO (order_First.f k a0) (order_First.f (k + 1) a0) := by
 intro a0 k
 have ih0 := order_First.mono_l k
 unfold order_First.f
 repeat' (with_reducible first | exact ih0 _ _ _ _ _ | exact order_free.mono _ _ _ | exact LeO.refl _ | exact LeO.none _ | refine LeO.ite ?_ ?_ | refine LeO.bind ?_ (fun _ => ?_))
set_option maxHeartbeats 8000000 in
set_option maxRecDepth 100000 in
theorem order_First.calls (k : Nat) (A0 : Option Addr) (c0 : Nat) (l0 : List Int) (r1 : List Int) (r2 : Bool) (w : World) (hr0 : Kd.C (Kd.int .u32) w A0 l0.length l0) (hc0 : l0.length ≤ c0) (h : order_First.f k l0 = some (r1, r2)) :
  Calls Try.prog 101 #[.slice A0 l0.length c0] w fun e w' => ∃ v0_ : Value, e = .returned (.tuple #[v0_, .bool r2]) ∧ Kd.R (Kd.int .i64) 3 w' w.heap.size (fun _ => True) v0_ r1 ∧ Below w.heap.size w w' := by
 have HR0 := Aside0.mk hr0
 have HC0 := Aside0.mk hc0
 clear hr0 hc0
 have HB := Aside0.mk (Below.refl w.heap.size w)
 have H : ((order_size.f l0).bind fun t101 => (order_First.l0 k l0 0 ([] : List Int) t101 0)) = some (r1, r2) := h
 clear h
 replace H := Option.bind_eq_some_iff.mp H
 obtain ⟨t101, A20, H⟩ := H
 replace H : (order_First.l0 k l0 0 ([] : List Int) t101 0) = some (r1, r2) := H
 have A2 := Aside0.mk A20
 clear A20
 have H' := Aside0.mk H
 clear H
 go_enter Try.func101, Try.ntmps101
 go_wp2_with (first | ((with_reducible refine gate_callee (f := 138) rfl ?_); refine goesL9 (some 8) rfl rfl Try.func138 (by kernel_rfl) rfl #[.slice A0 l0.length c0] rfl ?_; (with_reducible refine (order_size.calls _ _ l0 t101 _ ?side1 ?side2 A2.out).mono ?_); (case side1 => repeat (first | exact HR0.out | (with_reducible refine Kd.C_alloc ?_ _) | (with_reducible refine Kd.C_drewN ?_ _) | (with_reducible refine Kd.C_drew ?_))); (case side2 => exact HC0.out); rintro e w3 ⟨rfl, hb⟩; refine ⟨_, rfl, ?_⟩; have n0_ := Aside0.mk (below_step (bp9 HB.out) hb); clear HB; have HB := n0_; clear n0_; (try clear hb); (try clear hb2); (try clear hk); (try clear hi)))
 go_loopg [4, 5, 9] k (fun kq v4 v5 v9 w' => ∃ (x4_1 : Int) (x5_1 : List Int) (x9_1 : Int), v4 = .int .u32 x4_1 ∧ v9 = .int .i64 x9_1 ∧ Aside0 (order_First.l0 kq l0 x4_1 x5_1 t101 x9_1 = some (r1, r2)) ∧ Aside0 (kq ≤ k) ∧ Aside0 (Kd.R (Kd.int .i64) 3 w' w.heap.size (fun _ => True) v5 x5_1) ∧ Aside0 (Below w.heap.size w w'))
 case atStart => exact ⟨(0), (([] : List Int)), (0), (by first | rfl | (simp; done) | (simp [*]; done)), (by first | rfl | (simp; done) | (simp [*]; done)), H', ⟨Nat.le_refl _⟩, ⟨by first | exact Kd.R_nil _ _ _ _ _ | exact Kd.N_nil _ _ _ _ _ | exact Kd.V_nil _ _ _ _ _ | exact Kd.Q_nil _ _ _ _ _ | exact Kd.S_nil _ _ _ _ _⟩, ⟨bp9 HB.out⟩⟩
 case round =>
  clear H'
  try clear c1
  try clear p2
  obtain ⟨x4_1, x5_1, x9_1, rfl, rfl, HA, HK1, HO_5, HB⟩ := hrel
  cases gk with
  | zero => exact absurd HA.out (by simp [order_First.l0])
  | succ k1 =>
   have H := HA.out
   clear HA
   simp only [order_First.l0] at H
   by_cases c4 : x9_1 < t101
   ·rw [if_pos c4] at H
    have c4b0 : decide (x9_1 < t101) = true := decide_eq_true c4
    clear c4
    replace H := Option.bind_eq_some_iff.mp H
    obtain ⟨t102, A50, H⟩ := H
    replace H : (if (t102.length : Int) = 0 then (some (([] : List Int), false)) else (if 0 < (t102.length : Int) then (if x5_1.length < 17592186044416 then (if 0 ≤ (IntKind.u64.wrap (rd t102 0)) then (order_First.l0 k1 l0 (Go.bits .or .u32 x4_1 (shl .u32 1 (IntKind.u64.wrap (rd t102 0)))) (x5_1 ++ [rd t102 0]) t101 (wrap64 (x9_1 + 1))) else (none)) else (none)) else (none))) = some (r1, r2) := H
    have A5 := Aside0.mk A50
    clear A50
    by_cases c6 : (t102.length : Int) = 0
    ·rw [if_pos c6] at H
     have c6b0 : ((t102.length : Int) == 0) = true := beq_iff_eq.mpr c6
     have c6b1 : ((t102.length : Int) != 0) = false := bne_eq_false_iff_eq.mpr c6
     clear c6
     simp only [Option.some.injEq, Prod.mk.injEq] at H
     obtain ⟨rfl, rfl⟩ := H
     go_wp2_with (first | ((with_reducible refine gate_callee (f := 140) rfl ?_); refine goesL9 (some 13) rfl rfl Try.func140 (by kernel_rfl) rfl #[.slice A0 l0.length c0, .int .u32 x4_1] rfl ?_; (with_reducible refine (order_free.calls k1 _ _ l0 x4_1 t102 _ ?side1 ?side2 A5.out).mono ?_); (case side1 => exact cp9 HR0.out HB.out); (case side2 => exact HC0.out); rintro e w7 ⟨v103, rfl, ho0, hb⟩; refine ⟨_, rfl, ?_⟩; have n0_ := Aside0.mk (Kd.R_elder' (rp9 HO_5.out) (Kd.R_base ho0) hb); have n1_ := Aside0.mk (Kd.R_lower (Kd.R_new' ho0 (Kd.R_lt (rp9 HO_5.out))) (below_size (bp9 HB.out))); have n2_ := Aside0.mk (below_step (bp9 HB.out) hb); clear HO_5; clear HB; have HO_5 := n0_; have HO104 := n1_; have HB := n2_; clear n0_ n1_ n2_; (try clear hb); (try clear hb2); (try clear hk); (try clear hi); (try clear ho0); obtain ⟨Ao8, co8, eo8⟩ := Kd.R_slice HO104.out; subst eo8))
     go_ret2
     exact ⟨_, by first | rfl | (simp [errW_none, errW_some] <;> rfl) | (simp [*, errW_none, errW_some] <;> rfl), by first | exact Kd.R_nil _ _ _ _ _ | exact Kd.N_nil _ _ _ _ _ | exact Kd.V_nil _ _ _ _ _ | exact Kd.Q_nil _ _ _ _ _ | exact Kd.S_nil _ _ _ _ _, bp9 HB.out⟩
    ·rw [if_neg c6] at H
     have c6b0 : ((t102.length : Int) == 0) = false := beq_eq_false_iff_ne.mpr c6
     have c6b1 : ((t102.length : Int) != 0) = true := bne_iff_ne.mpr c6
     have c6b2 : ¬ (t102 = []) := fun h_ => c6 (by rw [h_]; rfl)
     by_cases c9 : 0 < (t102.length : Int)
     ·rw [if_pos c9] at H
      have c9b0 : decide (0 < (t102.length : Int)) = true := decide_eq_true c9
      have c9b1 : decide (0 < t102.length) = true := decide_eq_true (by omega)
      clear c9
      by_cases c10 : x5_1.length < 17592186044416
      ·rw [if_pos c10] at H
       have LMc10 := Aside0.mk c10
       clear c10
       obtain ⟨y106, hy106⟩ : ∃ y_ : List Int, y_ = (x5_1 ++ [rd t102 0]) := ⟨_, rfl⟩
       replace H : (if 0 ≤ (IntKind.u64.wrap (rd t102 0)) then (order_First.l0 k1 l0 (Go.bits .or .u32 x4_1 (shl .u32 1 (IntKind.u64.wrap (rd t102 0)))) y106 t101 (wrap64 (x9_1 + 1))) else (none)) = some (r1, r2) := by first | (rw [hy106]; with_reducible exact H) | (have H2_ := (Option.bind_some _ _).symm.trans H; rw [hy106]; with_reducible exact H2_) | (have H2_ := (Option.bind_some _ _).symm.trans H; with_reducible exact H2_) | with_reducible exact H | (rw [hy106]; exact H) | exact H
       have Ny106 := Aside0.mk hy106
       clear hy106
       obtain ⟨ji11, hji11⟩ : ∃ j_ : Int, (IntKind.u64.wrap (rd t102 0)) = j_ := ⟨_, rfl⟩
       replace H : (if 0 ≤ (ji11) then (order_First.l0 k1 l0 (Go.bits .or .u32 x4_1 (shl .u32 1 (ji11))) y106 t101 (wrap64 (x9_1 + 1))) else (none)) = some (r1, r2) := by first | (rw [hji11] at H; exact H) | (simp only [hji11] at H ⊢; exact H)
       (try rw [hji11] at A5)
       by_cases c12 : 0 ≤ (ji11)
       ·rw [if_pos c12] at H
        have c12b0 := eq_true c12
        have c12b1 : decide (0 ≤ (ji11)) = true := decide_eq_true c12
        clear c12
        obtain ⟨ji13, hji13⟩ : ∃ j_ : Int, (shl .u32 1 (ji11)) = j_ := ⟨_, rfl⟩
        replace H : (order_First.l0 k1 l0 (Go.bits .or .u32 x4_1 (ji13)) y106 t101 (wrap64 (x9_1 + 1))) = some (r1, r2) := by first | (rw [hji13] at H; exact H) | (simp only [hji13] at H ⊢; exact H)
        (try rw [hji13] at A5)
        have hji13_ : (IntKind.u32.wrap (1 * 2 ^ min (ji11).toNat 32)) = ji13 := hji13
        have hji13z : (ji11) ≤ 32 → (IntKind.u32.wrap (1 * 2 ^ (ji11).toNat)) = ji13 := shl_small hji13
        have hji13u : (IntKind.u32.wrap (2 ^ min (ji11).toNat 32)) = ji13 := by have h_ := hji13_; rw [Int.one_mul] at h_; exact h_
        have hji13v : (ji11) ≤ 32 → (IntKind.u32.wrap (2 ^ (ji11).toNat)) = ji13 := fun hle_ => by have h_ := hji13z hle_; rw [Int.one_mul] at h_; exact h_
        have H' := Aside0.mk H
        clear H
        go_wp2_with (first | ((with_reducible refine gate_callee (f := 140) rfl ?_); refine goesL9 (some 13) rfl rfl Try.func140 (by kernel_rfl) rfl #[.slice A0 l0.length c0, .int .u32 x4_1] rfl ?_; (with_reducible refine (order_free.calls k1 _ _ l0 x4_1 t102 _ ?side1 ?side2 A5.out).mono ?_); (case side1 => exact cp9 HR0.out HB.out); (case side2 => exact HC0.out); rintro e w14 ⟨v103, rfl, ho0, hb⟩; refine ⟨_, rfl, ?_⟩; have n0_ := Aside0.mk (Kd.R_elder' (rp9 HO_5.out) (Kd.R_base ho0) hb); have n1_ := Aside0.mk (Kd.R_lower (Kd.R_new' ho0 (Kd.R_lt (rp9 HO_5.out))) (below_size (bp9 HB.out))); have n2_ := Aside0.mk (below_step (bp9 HB.out) hb); clear HO_5; clear HB; have HO_5 := n0_; have HO104 := n1_; have HB := n2_; clear n0_ n1_ n2_; (try clear hb); (try clear hb2); (try clear hk); (try clear hi); (try clear ho0); obtain ⟨Ao15, co15, eo15⟩ := Kd.R_slice HO104.out; subst eo15; have p105 : 0 ≤ (0 : Int) := (by omega); have q105 : 0 < (t102.length : Int) := of_decide_eq_true (by first | (with_reducible assumption) | assumption); obtain ⟨ad105, e105, hx105_0⟩ := Kd.at_int (Kd.R_reads' HO104.out).2.2 0 p105 q105; cases e105; have qi105 : (0 < t102.length) = True := eq_true (by omega); (try rw [show ((0 : Int)).toNat = 0 from rfl] at hx105_0); (try rw [Addr.add_zero'] at hx105_0); replace p105 := eq_true p105; replace q105 := eq_true q105) | ((with_reducible refine gate_builtin (b := .append) (xs := #[.tmp 17, .tmp 21]) rfl ?_); at_builtin; refine Kd.R_append (Kd.int .i64) (w0 := w) w.heap.size rfl (.tmp 17) (.tmp 21) 33 3 (.int .i64 0) 8 rfl Try.underlying33 info3 rfl (by decide) (by omega) u5 x5_1 (rd t102 0) [.int .i64 (rd t102 0)] (fun k_ => some k_ ≠ (.slice (some ad105) t102.length co15 : Value).ownBlock) (fun _ => False) rfl rfl ?aP (fun _ hk => hk.elim) ?aF ?aO ?aB ?aS ?aL ?_; (case aP => exact rfl); (case aB => exact (bp9 HB.out)); (case aF => exact (fun k_ hk => Kd.fresh' (Kd.R_lt (rp9 HO104.out)) k_ hk)); (case aO => exact (by (with_reducible repeat (first | apply Kd.R_alloc | apply Kd.R_drewN | apply Kd.R_drew)); exact Kd.R_mono HO_5.out (fun _ hk => hk.2))); (case aS => exact (below_size (bp9 HB.out))); (case aL => have := LMc10.out; omega); intro v107 w16 ho hb hg hat; rw [← Ny106.out] at ho; have n0_ := Aside0.mk (Kd.R_after (ok := (fun _ => True)) (rp9 HO104.out) hg hat); have n1_ := Aside0.mk (hb); have n2_ := Aside0.mk (ho); clear HO104; clear HB; clear HO_5; have HO104 := n0_; have HB := n1_; have HO108 := n2_; clear n0_ n1_ n2_; clear ho hb hg hat; have p109 : 0 ≤ (0 : Int) := (by omega); have q109 : 0 < (t102.length : Int) := of_decide_eq_true (by first | (with_reducible assumption) | assumption); obtain ⟨ad109, e109, hx109_0⟩ := Kd.at_int (Kd.R_reads' HO104.out).2.2 0 p109 q109; obtain rfl : ad105 = ad109 := (by injection e109); have qi109 : (0 < t102.length) = True := eq_true (by omega); (try rw [show ((0 : Int)).toNat = 0 from rfl] at hx109_0); (try rw [Addr.add_zero'] at hx109_0); replace p109 := eq_true p109; replace q109 := eq_true q109))
        go_roundg k1
        case measure => have := HK1.out; omega
        case rel => exact ⟨(Go.bits .or .u32 x4_1 (ji13)), (y106), (wrap64 (x9_1 + 1)), (by first | rfl | (simp; done) | (simp only [← hji13] <;> (first | rfl | simp)) | (simp [*]; done)), (by first | rfl | (simp; done) | (simp [*]; done)), H', ⟨by have := HK1.out; omega⟩, ⟨by (with_reducible repeat (first | apply Kd.R_alloc | apply Kd.R_drewN | apply Kd.R_drew)); exact Kd.R_mono HO108.out (fun _ hk => trivial)⟩, ⟨bp9 HB.out⟩⟩
       ·rw [if_neg c12] at H
        exact absurd H (by simp)
      ·rw [if_neg c10] at H
       exact absurd H (by simp)
     ·rw [if_neg c9] at H
      exact absurd H (by simp)
   ·rw [if_neg c4] at H
    have c4b0 : decide (x9_1 < t101) = false := decide_eq_false c4
    clear c4
    simp only [Option.some.injEq, Prod.mk.injEq] at H
    obtain ⟨rfl, rfl⟩ := H
    go_wp2
    go_ret2
    exact ⟨_, by first | rfl | (simp [errW_none, errW_some] <;> rfl) | (simp [*, errW_none, errW_some] <;> rfl), by (with_reducible repeat (first | apply Kd.R_alloc | apply Kd.R_drewN | apply Kd.R_drew)); exact HO_5.out, bp9 HB.out⟩

/-! ### order_All: function 99 -/
mutual
def order_All.l0 : Nat → List Int → List (List Int) → List Int → Int → Int → Option ((List (List Int)))
 | 0, _, _, _, _, _ => none
 | k + 1, x0, x3, x16, x17, x18 => if x18 < x17 then (if 0 ≤ x18 then (if x18 < (x16.length : Int) then ((slices_Clone_int_int.f x0).bind fun t108 => ((slices_Delete_int_int.f t108 x18 (wrap64 (x18 + 1))).bind fun t111 => ((order_All.f k t111).bind fun t114 => (order_All.l1 k x0 x3 (rd x16 x18) x16 x17 x18 t114 (t114.length : Int) 0)))) else (none)) else (none)) else (some x3)
def order_All.l1 : Nat → List Int → List (List Int) → Int → List Int → Int → Int → List (List Int) → Int → Int → Option ((List (List Int)))
 | 0, _, _, _, _, _, _, _, _, _ => none
 | k + 1, x0, x3, x5, x16, x17, x18, x29, x30, x31 => if x31 < x30 then (if 0 ≤ x31 then (if x31 < (x29.length : Int) then ((some (([x5] : List Int) : List Int)).bind fun y118 => (if y118.length + (rd_L4 x29 x31).length < 17592186044416 then (if x3.length < 5864062014805 then (order_All.l1 k x0 (x3 ++ [(y118 ++ (rd_L4 x29 x31))]) x5 x16 x17 x18 x29 x30 (wrap64 (x31 + 1))) else (none)) else (none))) else (none)) else (none)) else (order_All.l0 k x0 x3 x16 x17 (wrap64 (x18 + 1)))
def order_All.f : Nat → List Int → Option ((List (List Int)))
 | 0, _ => none
 | k + 1, l0 => if (l0.length : Int) > 6 then (some ([] : List (List Int))) else (if (l0.length : Int) = 0 then (some (([(([] : List Int))] : List (List Int)))) else (order_All.l0 k l0 ([] : List (List Int)) l0 (l0.length : Int) 0))
end
set_option maxHeartbeats 8000000 in
set_option maxRecDepth 100000 in
theorem order_All.calls (k : Nat) : ∀ (A0 : Option Addr) (c0 : Nat) (l0 : List Int) (r : List (List Int)) (w : World) (hr0 : Kd.C (Kd.int .i64) w A0 l0.length l0) (hc0 : l0.length ≤ c0) (h : order_All.f k l0 = some r),
  Calls Try.prog 99 #[.slice A0 l0.length c0] w fun e w' => ∃ v0_ : Value, e = .returned (v0_) ∧ Kd.N (Kd.slice 3 (Kd.int .i64)) 33 w' w.heap.size (fun k_ => (w.heap.size ≤ k_)) v0_ r ∧ Below w.heap.size w w' := by
 induction k using Nat.strongRecOn with
 | _ k ih =>
 intro A0 c0 l0 r w hr0 hc0 h
 cases k with
 | zero => exact absurd h (by simp [order_All.f])
 | succ k =>
 simp only [order_All.f] at h
 have HR0 := Aside0.mk hr0
 have HC0 := Aside0.mk hc0
 clear hr0 hc0
 have HB := Aside0.mk (Below.refl w.heap.size w)
 have H : (if (l0.length : Int) > 6 then (some ([] : List (List Int))) else (if (l0.length : Int) = 0 then (some (([(([] : List Int))] : List (List Int)))) else (order_All.l0 k l0 ([] : List (List Int)) l0 (l0.length : Int) 0))) = some r := h
 clear h
 by_cases c2 : (l0.length : Int) > 6
 ·rw [if_pos c2] at H
  have c2b0 : decide (6 < (l0.length : Int)) = true := decide_eq_true c2
  have c2b1 : decide (6 < l0.length) = true := decide_eq_true (by omega)
  clear c2
  obtain rfl := Option.some.inj H
  go_enter Try.func99, Try.ntmps99
  go_wp2
  go_ret
  exact ⟨_, by first | rfl | (simp [errW_none, errW_some] <;> rfl) | (simp [*, errW_none, errW_some] <;> rfl), by first | exact Kd.S_nil _ _ _ _ _ | exact Kd.N_nil _ _ _ _ _ | exact Kd.V_nil _ _ _ _ _ | exact Kd.Q_nil _ _ _ _ _ | exact Kd.R_nil _ _ _ _ _, bp9 HB.out⟩
 ·rw [if_neg c2] at H
  have c2b0 : decide (6 < (l0.length : Int)) = false := decide_eq_false c2
  have c2b1 : decide (6 < l0.length) = false := decide_eq_false (by omega)
  clear c2
  by_cases c3 : (l0.length : Int) = 0
  ·rw [if_pos c3] at H
   have c3b0 : ((l0.length : Int) == 0) = true := beq_iff_eq.mpr c3
   have c3b1 : ((l0.length : Int) != 0) = false := bne_eq_false_iff_eq.mpr c3
   clear c3
   obtain ⟨y101, hy101⟩ : ∃ y_ : List Int, y_ = (([] : List Int)) := ⟨_, rfl⟩
   replace H : (some (([y101] : List (List Int)))) = some r := by first | (rw [hy101]; with_reducible exact H) | (have H2_ := (Option.bind_some _ _).symm.trans H; rw [hy101]; with_reducible exact H2_) | (have H2_ := (Option.bind_some _ _).symm.trans H; with_reducible exact H2_) | with_reducible exact H | (rw [hy101]; exact H) | exact H
   have Ny101 := Aside0.mk hy101
   clear hy101
   obtain ⟨y104, hy104⟩ : ∃ y_ : List (List Int), y_ = (([y101] : List (List Int))) := ⟨_, rfl⟩
   replace H : (some y104) = some r := by first | (rw [hy104]; with_reducible exact H) | (have H2_ := (Option.bind_some _ _).symm.trans H; rw [hy104]; with_reducible exact H2_) | (have H2_ := (Option.bind_some _ _).symm.trans H; with_reducible exact H2_) | with_reducible exact H | (rw [hy104]; exact H) | exact H
   have Ny104 := Aside0.mk hy104
   clear hy104
   obtain rfl := Option.some.inj H
   go_enter Try.func99, Try.ntmps99
   go_wp2_with (first | ((with_reducible refine gate_dst (N := 14) rfl ?_); refine Kd.R_lit (Kd.int .i64) _ 3 ?hg (N := 14) ?hd (xs := ([] : List Int)) (inner := []) (ok := fun _ => True) (okp := fun _ => True) ?hr ?hp (fun _ hk => hk) trivial (Below.refl _ _) (Nat.le_refl _) (by simp) ?_; (case hd => rfl); (case hg => rfl); (case hr => first | (go_simp; done) | (go_simp; rfl)); (case hp => exact (Reps.none _ _)); intro v102 w4 ho5 hb hg_ hnew_; clear hg_ hnew_; (first | rw [← Ny101.out] at ho5 | (simp only [Int.reduceToNat] at ho5; rw [← Ny101.out] at ho5)); have n0_ := Aside0.mk (Kd.R_lower (Kd.R_newM (M := fun k_ => (w.heap.size ≤ k_)) ho5 (below_size (bp9 HB.out)) (fun k_ h_ => h_)) (below_size (bp9 HB.out))); have n1_ := Aside0.mk (below_step (bp9 HB.out) hb); clear HB; have HO103 := n0_; have HB := n1_; clear n0_ n1_; clear hb ho5; obtain ⟨Ao6, co6, eo6⟩ := Kd.R_slice HO103.out; subst eo6) | ((with_reducible refine gate_dst (N := 15) rfl ?_); refine Kd.N_lit (Kd.slice 3 (Kd.int .i64)) _ 33 ?hg (N' := 15) ?hd (xs := ([y101] : List (List Int))) (inner := [.slice Ao6 y101.length co6]) (ok := (fun k_ => (w.heap.size ≤ k_))) (okp := (fun k_ => (w.heap.size ≤ k_))) ?hr ?hp (fun _ hk => hk) ((show ∀ k_, w4.heap.size ≤ k_ → (fun k_ => (w.heap.size ≤ k_)) k_ from fun k_ hk => (Nat.le_trans (below_size (bp9 HB.out)) hk)) _ (Nat.le_refl _)) (Below.refl _ _) (Nat.le_refl _) (by simp) ?_; (case hd => rfl); (case hg => rfl); (case hr => first | (go_simp; done) | (go_simp; rfl)); (case hp => exact (Reps.one (show Kd.FK (Kd.slice 3 (Kd.int .i64)) _ _ y101 [.slice Ao6 y101.length co6] from (Kd.FK_slice_mk (Kd.R_reads' (Kd.R_mono (ok' := (fun k_ => (w.heap.size ≤ k_))) (HO103.out) (fun k_ hk => hk.1))).2.1 (Kd.R_F (Kd.R_mono (ok' := (fun k_ => (w.heap.size ≤ k_))) (HO103.out) (fun k_ hk => hk.1))))) (Reps.none _ _))); intro v105 w7 ho8 hb hg_ hnew_; clear hg_ hnew_; (first | rw [← Ny104.out] at ho8 | (simp only [Int.reduceToNat] at ho8; rw [← Ny104.out] at ho8)); have n0_ := Aside0.mk (Kd.N_lower ho8 (below_size (bp9 HB.out))); have n1_ := Aside0.mk (below_step (bp9 HB.out) hb); clear HB; clear HO103; have HO106 := n0_; have HB := n1_; clear n0_ n1_; clear hb ho8))
   go_ret
   exact ⟨_, by first | rfl | (simp [errW_none, errW_some] <;> rfl) | (simp [*, errW_none, errW_some] <;> rfl), by (with_reducible repeat (first | apply Kd.N_alloc | apply Kd.N_drewN | apply Kd.N_drew)); exact HO106.out, bp9 HB.out⟩
  ·rw [if_neg c3] at H
   have c3b0 : ((l0.length : Int) == 0) = false := beq_eq_false_iff_ne.mpr c3
   have c3b1 : ((l0.length : Int) != 0) = true := bne_iff_ne.mpr c3
   have c3b2 : ¬ (l0 = []) := fun h_ => c3 (by rw [h_]; rfl)
   have H' := Aside0.mk H
   clear H
   go_enter Try.func99, Try.ntmps99
   go_wp2
   go_loopg [3, 18] k (fun kq v3 v18 w' => ∃ (x3_1 : List (List Int)) (x18_1 : Int), v18 = .int .i64 x18_1 ∧ Aside0 (order_All.l0 kq l0 x3_1 l0 (l0.length : Int) x18_1 = some r) ∧ Aside0 (kq ≤ k) ∧ Aside0 (Kd.N (Kd.slice 3 (Kd.int .i64)) 33 w' w.heap.size (fun k_ => (w.heap.size ≤ k_)) v3 x3_1) ∧ Aside0 (Below w.heap.size w w'))
   case atStart => exact ⟨(([] : List (List Int))), (0), (by first | rfl | (simp; done) | (simp [*]; done)), H', ⟨Nat.le_refl _⟩, ⟨by first | exact Kd.S_nil _ _ _ _ _ | exact Kd.N_nil _ _ _ _ _ | exact Kd.V_nil _ _ _ _ _ | exact Kd.Q_nil _ _ _ _ _ | exact Kd.R_nil _ _ _ _ _⟩, ⟨bp9 HB.out⟩⟩
   case round =>
    clear H'
    try clear c2
    try clear c2b0
    try clear c2b1
    try clear p2
    try clear c3
    try clear c3b0
    try clear c3b1
    try clear c3b2
    obtain ⟨x3_1, x18_1, rfl, HA, HK1, HO_3, HB⟩ := hrel
    cases gk with
    | zero => exact absurd HA.out (by simp [order_All.l0])
    | succ k1 =>
     have H := HA.out
     clear HA
     simp only [order_All.l0] at H
     by_cases c9 : x18_1 < (l0.length : Int)
     ·rw [if_pos c9] at H
      have c9b0 : decide (x18_1 < (l0.length : Int)) = true := decide_eq_true c9
      clear c9
      by_cases c10 : 0 ≤ x18_1
      ·rw [if_pos c10] at H
       have c10b0 : decide (0 ≤ x18_1) = true := decide_eq_true c10
       clear c10
       by_cases c11 : x18_1 < (l0.length : Int)
       ·rw [if_pos c11] at H
        have c11b0 : decide (x18_1 < (l0.length : Int)) = true := decide_eq_true c11
        clear c11
        replace H := Option.bind_eq_some_iff.mp H
        obtain ⟨t108, A120, H⟩ := H
        have A12 := Aside0.mk A120
        clear A120
        replace H := Option.bind_eq_some_iff.mp H
        obtain ⟨t111, A130, H⟩ := H
        have A13 := Aside0.mk A130
        clear A130
        replace H := Option.bind_eq_some_iff.mp H
        obtain ⟨t114, A140, H⟩ := H
        have A14 := Aside0.mk A140
        clear A140
        have H' := Aside0.mk H
        clear H
        have p107 : 0 ≤ (x18_1 : Int) := of_decide_eq_true (by first | (with_reducible assumption) | assumption)
        have q107 : x18_1 < (l0.length : Int) := of_decide_eq_true (by first | (with_reducible assumption) | assumption)
        obtain ⟨ad107, e107, hx107_0⟩ := Kd.at_int HR0.out x18_1 p107 q107
        cases e107
        replace hx107_0 := (HB.out.cell (World.block_lt_of_cell? w _ hx107_0)).trans hx107_0
        replace p107 := eq_true p107
        replace q107 := eq_true q107
        go_wp2_with (first | ((with_reducible refine gate_callee (f := 147) rfl ?_); refine goesL9 (some 24) rfl rfl Try.func147 (by kernel_rfl) rfl #[.slice (some ad107) l0.length c0] rfl ?_; (with_reducible refine (slices_Clone_int_int.calls _ _ l0 t108 _ ?side1 ?side2 A12.out).mono ?_); (case side1 => exact cp9 HR0.out HB.out); (case side2 => exact HC0.out); rintro e w15 ⟨v109, rfl, ho0, hb⟩; refine ⟨_, rfl, ?_⟩; have n0_ := Aside0.mk (Kd.N_elder' (by (with_reducible repeat (first | apply Kd.N_alloc | apply Kd.N_drewN | apply Kd.N_drew)); exact HO_3.out) (Kd.R_base ho0) hb); have n1_ := Aside0.mk (Kd.R_lower (Kd.R_newM (M := fun k_ => (w.heap.size ≤ k_)) ho0 (below_size (bp9 HB.out)) (fun k_ h_ => h_)) (below_size (bp9 HB.out))); have n2_ := Aside0.mk (below_step (bp9 HB.out) hb); clear HO_3; clear HB; have HO_3 := n0_; have HO110 := n1_; have HB := n2_; clear n0_ n1_ n2_; (try clear hb); (try clear hb2); (try clear hk); (try clear hi); (try clear ho0); obtain ⟨Ao16, co16, eo16⟩ := Kd.R_slice HO110.out; subst eo16) | ((with_reducible refine gate_callee (f := 146) rfl ?_); refine goesL9 (some 28) rfl rfl Try.func146 (by kernel_rfl) rfl #[.slice Ao16 t108.length co16, .int .i64 x18_1, .int .i64 (wrap64 (x18_1 + 1))] rfl ?_; (with_reducible refine (slices_Delete_int_int.own _ _ t108 x18_1 (wrap64 (x18_1 + 1)) t111 _ HO110.out A13.out).mono ?_); rintro e w17 ⟨v112, rfl, ho0, hg, hat⟩; refine ⟨_, rfl, ?_⟩; have n0_ := Aside0.mk (Kd.N_mono (ok' := fun k_ => ((w.heap.size ≤ k_) ∧ some k_ ≠ (.slice Ao16 t108.length co16 : Value).ownBlock) ∧ some k_ ≠ (v112 : Value).ownBlock) (Kd.N_after (u1 := v112) HO_3.out hg (.inl hat)) (fun k_ hk => ⟨⟨hk.1, by rw [← hat]; exact hk.2⟩, hk.2⟩)); have n1_ := Aside0.mk (HB.out.grown hg (below_size (bp9 HB.out)) (fun k_ hk => Kd.R_base HO110.out k_ hk)); clear HO_3 HO110 HB; have HO_3 := n0_; have HB := n1_; have HO110 := Aside0.mk ho0; have HO113 := Aside0.mk ho0; clear n0_ n1_ hg hat; (try clear hb); (try clear hb2); (try clear hk); (try clear hi); (try clear ho0); obtain ⟨Ao18, co18, eo18⟩ := Kd.R_slice HO113.out; subst eo18) | ((with_reducible refine gate_callee (f := 99) rfl ?_); refine goesL9 (some 29) rfl rfl Try.func99 (by kernel_rfl) rfl #[.slice Ao18 t111.length co18] rfl ?_; (with_reducible refine (ih k1 (by have := HK1.out; omega) _ _ t111 t114 _ ?side1 ?side2 A14.out).mono ?_); (case side1 => exact lp9 (Kd.R_reads' HO113.out).2.2); (case side2 => exact (Kd.R_reads' HO113.out).2.1); rintro e w19 ⟨v115, rfl, ho0, hb⟩; refine ⟨_, rfl, ?_⟩; have n0_ := Aside0.mk (Kd.N_elder' (by (with_reducible repeat (first | apply Kd.N_alloc | apply Kd.N_drewN | apply Kd.N_drew)); exact HO_3.out) (Kd.N_base ho0) hb); have n1_ := Aside0.mk (Kd.R_below (rp9 HO110.out) hb); have n2_ := Aside0.mk (Kd.R_below (rp9 HO113.out) hb); have n3_ := Aside0.mk (Kd.N_lower (Kd.N_mono (ok' := fun k_ => (w.heap.size ≤ k_) ∧ some k_ ≠ (u3 : Value).ownBlock ∧ some k_ ≠ (.slice Ao18 t111.length co18 : Value).ownBlock ∧ some k_ ≠ (.slice Ao18 t111.length co18 : Value).ownBlock) ho0 (fun k_ hk_ => ⟨(Nat.le_trans (below_size (bp9 HB.out)) hk_), (Kd.fresh' (Kd.N_lt (by (with_reducible repeat (first | apply Kd.N_alloc | apply Kd.N_drewN | apply Kd.N_drew)); exact HO_3.out)) k_ hk_), (Kd.fresh' (Kd.R_lt (rp9 HO110.out)) k_ hk_), (Kd.fresh' (Kd.R_lt (rp9 HO113.out)) k_ hk_)⟩)) (below_size (bp9 HB.out))); have n4_ := Aside0.mk (below_step (bp9 HB.out) hb); clear HO_3; clear HO110; clear HO113; clear HB; have HO_3 := n0_; have HO110 := n1_; have HO113 := n2_; have HO116 := n3_; have HB := n4_; clear n0_ n1_ n2_ n3_ n4_; (try clear hb); (try clear hb2); (try clear hk); (try clear hi); (try clear ho0); obtain ⟨Ao20, co20, eo20⟩ := Kd.N_slice HO116.out; subst eo20))
        go_loopg [3, 31] k1 (fun kq v3 v31 w' => ∃ (x3_2 : List (List Int)) (x31_2 : Int), v31 = .int .i64 x31_2 ∧ Aside0 (order_All.l1 kq l0 x3_2 (rd l0 x18_1) l0 (l0.length : Int) x18_1 t114 (t114.length : Int) x31_2 = some r) ∧ Aside0 (kq ≤ k1) ∧ Aside0 (Kd.N (Kd.slice 3 (Kd.int .i64)) 33 w' w.heap.size (fun k_ => (w.heap.size ≤ k_) ∧ some k_ ≠ ((.slice Ao20 t114.length co20) : Value).ownBlock) v3 x3_2) ∧ Aside0 (Kd.N (Kd.slice 3 (Kd.int .i64)) 33 w' w.heap.size (fun k_ => (w.heap.size ≤ k_) ∧ some k_ ≠ (v3 : Value).ownBlock) (.slice Ao20 t114.length co20) t114) ∧ Aside0 (Below w.heap.size w w'))
        case atStart => exact ⟨(x3_1), (0), (by first | rfl | (simp; done) | (simp [*]; done)), H', ⟨Nat.le_refl _⟩, ⟨by (with_reducible repeat (first | apply Kd.N_alloc | apply Kd.N_drewN | apply Kd.N_drew)); exact Kd.N_mono HO_3.out (fun _ hk => ⟨hk.1.1.1, hk.2⟩)⟩, ⟨by (with_reducible repeat (first | apply Kd.N_alloc | apply Kd.N_drewN | apply Kd.N_drew)); exact Kd.N_mono HO116.out (fun _ hk => ⟨hk.1, hk.2.1⟩)⟩, ⟨bp9 HB.out⟩⟩
        case round =>
         clear H'
         try clear c1
         try clear p1
         try clear q1
         try clear hx1
         try clear c2
         try clear c2b0
         try clear c2b1
         try clear p2
         try clear c3
         try clear c3b0
         try clear c3b1
         try clear c3b2
         try clear p6
         try clear c9
         try clear c9b0
         try clear c10
         try clear c10b0
         try clear p10
         try clear q10
         try clear hx10
         try clear c11
         try clear c11b0
         try clear c14
         try clear hx107_0
         try clear p107
         try clear p2
         try clear q107
         obtain ⟨x3_2, x31_2, rfl, HA, HK2, HO_3, HO_29, HB⟩ := hrel
         cases gk with
         | zero => exact absurd HA.out (by simp [order_All.l1])
         | succ k2 =>
          have H := HA.out
          clear HA
          simp only [order_All.l1] at H
          by_cases c21 : x31_2 < (t114.length : Int)
          ·rw [if_pos c21] at H
           have c21b0 : decide (x31_2 < (t114.length : Int)) = true := decide_eq_true c21
           clear c21
           by_cases c22 : 0 ≤ x31_2
           ·rw [if_pos c22] at H
            have c22b0 : decide (0 ≤ x31_2) = true := decide_eq_true c22
            clear c22
            by_cases c23 : x31_2 < (t114.length : Int)
            ·rw [if_pos c23] at H
             have c23b0 : decide (x31_2 < (t114.length : Int)) = true := decide_eq_true c23
             clear c23
             obtain ⟨y118, hy118⟩ : ∃ y_ : List Int, y_ = (([(rd l0 x18_1)] : List Int)) := ⟨_, rfl⟩
             replace H : (if y118.length + (rd_L4 t114 x31_2).length < 17592186044416 then (if x3_2.length < 5864062014805 then (order_All.l1 k2 l0 (x3_2 ++ [(y118 ++ (rd_L4 t114 x31_2))]) (rd l0 x18_1) l0 (l0.length : Int) x18_1 t114 (t114.length : Int) (wrap64 (x31_2 + 1))) else (none)) else (none)) = some r := by first | (rw [hy118]; with_reducible exact H) | (have H2_ := (Option.bind_some _ _).symm.trans H; rw [hy118]; with_reducible exact H2_) | (have H2_ := (Option.bind_some _ _).symm.trans H; with_reducible exact H2_) | with_reducible exact H | (rw [hy118]; exact H) | exact H
             have Ny118 := Aside0.mk hy118
             clear hy118
             by_cases c24 : y118.length + (rd_L4 t114 x31_2).length < 17592186044416
             ·rw [if_pos c24] at H
              have LMc24 := Aside0.mk c24
              clear c24
              obtain ⟨y121, hy121⟩ : ∃ y_ : List Int, y_ = (y118 ++ (rd_L4 t114 x31_2)) := ⟨_, rfl⟩
              replace H : (if x3_2.length < 5864062014805 then (order_All.l1 k2 l0 (x3_2 ++ [y121]) (rd l0 x18_1) l0 (l0.length : Int) x18_1 t114 (t114.length : Int) (wrap64 (x31_2 + 1))) else (none)) = some r := by first | (rw [hy121]; with_reducible exact H) | (have H2_ := (Option.bind_some _ _).symm.trans H; rw [hy121]; with_reducible exact H2_) | (have H2_ := (Option.bind_some _ _).symm.trans H; with_reducible exact H2_) | with_reducible exact H | (rw [hy121]; exact H) | exact H
              have Ny121 := Aside0.mk hy121
              clear hy121
              by_cases c25 : x3_2.length < 5864062014805
              ·rw [if_pos c25] at H
               have LMc25 := Aside0.mk c25
               clear c25
               obtain ⟨y124, hy124⟩ : ∃ y_ : List (List Int), y_ = (x3_2 ++ [y121]) := ⟨_, rfl⟩
               replace H : (order_All.l1 k2 l0 y124 (rd l0 x18_1) l0 (l0.length : Int) x18_1 t114 (t114.length : Int) (wrap64 (x31_2 + 1))) = some r := by first | (rw [hy124]; with_reducible exact H) | (have H2_ := (Option.bind_some _ _).symm.trans H; rw [hy124]; with_reducible exact H2_) | (have H2_ := (Option.bind_some _ _).symm.trans H; with_reducible exact H2_) | with_reducible exact H | (rw [hy124]; exact H) | exact H
               have Ny124 := Aside0.mk hy124
               clear hy124
               have H' := Aside0.mk H
               clear H
               have p117 : 0 ≤ (x31_2 : Int) := of_decide_eq_true (by first | (with_reducible assumption) | assumption)
               have q117 : x31_2 < (t114.length : Int) := of_decide_eq_true (by first | (with_reducible assumption) | assumption)
               obtain ⟨ad117, A117_0, c117_0, e117, hx117_0, hl117_0, hi117_0⟩ := at_L4 (Kd.N_reads' HO_29.out).2.2 x31_2 p117 q117
               cases e117
               obtain ⟨ce117, hce117, hMe117, hcc117⟩ := Kd.N_get HO_29.out [] x31_2 p117 (by first | exact q117 | exact of_decide_eq_true (by first | (with_reducible assumption) | assumption) | (have e_ := (Kd.N_reads' HO_29.out).1; omega))
               obtain ⟨ua117_0, uc117_0, rfl, ul117_0, ge117_0⟩ := Kd.FK_slice_open hMe117
               have hv117_0 := hcc117 0 _ rfl
               rw [Nat.add_zero, show ((Kd.slice 3 (Kd.int .i64))).sz = 1 from rfl, Nat.mul_one] at hv117_0
               replace hv117_0 := Option.some.inj (hv117_0.symm.trans hx117_0)
               injection hv117_0 with hva_ hvn_ hvc_
               rw [hva_] at ge117_0
               rw [hvc_] at ul117_0
               have HL117_0 := Aside0.mk (show Kd.V (Kd.int .i64) 3 _ w.heap.size _ _ (rd_L4 t114 x31_2) from Kd.V_mk ul117_0 ge117_0)
               clear hva_ hvn_ hvc_ ge117_0 ul117_0
               clear hcc117 hce117
               have HR117_0 := Aside0.mk hi117_0
               have HC117_0 := Aside0.mk hl117_0
               clear hi117_0 hl117_0
               replace p117 := eq_true p117
               replace q117 := eq_true q117
               go_wp2_with (first | ((with_reducible refine gate_dst (N := 37) rfl ?_); refine Kd.R_lit (Kd.int .i64) _ 3 ?hg (N := 37) ?hd (xs := ([(rd l0 x18_1)] : List Int)) (inner := [.int .i64 (rd l0 x18_1)]) (ok := fun _ => True) (okp := fun _ => True) ?hr ?hp (fun _ hk => hk) trivial (Below.refl _ _) (Nat.le_refl _) (by simp) ?_; (case hd => rfl); (case hg => rfl); (case hr => first | (go_simp; done) | (go_simp; rfl)); (case hp => exact (Reps.one (show Kd.M (Kd.int .i64) _ _ _ (rd l0 x18_1) [.int .i64 (rd l0 x18_1)] from rfl) (Reps.none _ _))); intro v119 w26 ho27 hb hg_ hnew_; clear hg_ hnew_; (first | rw [← Ny118.out] at ho27 | (simp only [Int.reduceToNat] at ho27; rw [← Ny118.out] at ho27)); have n0_ := Aside0.mk (Kd.N_elder' (by (with_reducible repeat (first | apply Kd.N_alloc | apply Kd.N_drewN | apply Kd.N_drew)); exact HO_3.out) (Kd.R_base ho27) hb); have n1_ := Aside0.mk (Kd.N_elder' (by (with_reducible repeat (first | apply Kd.N_alloc | apply Kd.N_drewN | apply Kd.N_drew)); exact HO_29.out) (Kd.R_base ho27) hb); have n2_ := Aside0.mk (Kd.V_elder' (by (with_reducible repeat (first | apply Kd.V_alloc | apply Kd.V_drewN | apply Kd.V_drew)); exact HL117_0.out) (Kd.R_base ho27) hb); have n3_ := Aside0.mk (Kd.R_lower (Kd.R_newM (M := fun k_ => (w.heap.size ≤ k_)) ho27 (below_size (bp9 HB.out)) (fun k_ h_ => h_)) (below_size (bp9 HB.out))); have n4_ := Aside0.mk (Kd.C_below (by repeat (first | (with_reducible exact HR117_0.out) | (with_reducible refine Kd.C_alloc ?_ _) | (with_reducible refine Kd.C_drewN ?_ _) | (with_reducible refine Kd.C_drew ?_) | exact HR117_0.out)) hb); have n5_ := Aside0.mk (below_step (bp9 HB.out) hb); clear HO_3; clear HO_29; clear HL117_0; clear HR117_0; clear HB; have HO_3 := n0_; have HO_29 := n1_; have HL117_0 := n2_; have HO120 := n3_; have HR117_0 := n4_; have HB := n5_; clear n0_ n1_ n2_ n3_ n4_ n5_; clear hb ho27) | ((with_reducible refine gate_builtin (b := .append) (xs := #[.tmp 37, .tmp 38]) rfl ?_); at_builtin; refine Kd.R_append_rows (Kd.int .i64) (w0 := w) w.heap.size rfl (.tmp 37) (.tmp 38) 33 3 (.int .i64 0) 8 rfl Try.underlying33 info3 rfl (by decide) (by omega) v119 y118 (rd_L4 t114 x31_2) _ _ _ (fun k_ => (w.heap.size ≤ k_)) (fun _ => False) rfl rfl ?aO ?aR (fun _ _ h => h) (fun _ h => h.elim) ?aF ?aB ?aS ?aL ?_; (case aR => repeat (first | exact (by repeat (first | (with_reducible exact HR117_0.out) | (with_reducible refine Kd.C_alloc ?_ _) | (with_reducible refine Kd.C_drewN ?_ _) | (with_reducible refine Kd.C_drew ?_) | exact HR117_0.out)) | (with_reducible refine Kd.C_alloc ?_ _) | (with_reducible refine Kd.C_drewN ?_ _) | (with_reducible refine Kd.C_drew ?_))); (case aB => exact (bp9 HB.out)); (case aF => exact (fun k_ hk => (Nat.le_trans (below_size (bp9 HB.out)) hk))); (case aO => exact (by (with_reducible repeat (first | apply Kd.R_alloc | apply Kd.R_drewN | apply Kd.R_drew)); exact Kd.R_mono HO120.out (fun _ hk => hk.1))); (case aS => exact (below_size (bp9 HB.out))); (case aL => have := LMc24.out; omega); intro v122 w28 ho hb hg hat; rw [← Ny121.out] at ho; have n0_ := Aside0.mk (Kd.N_afterv (ok := (fun k_ => (w.heap.size ≤ k_) ∧ some k_ ≠ (.slice (some ad117) t114.length co20 : Value).ownBlock)) (by (with_reducible repeat (first | apply Kd.N_alloc | apply Kd.N_drewN | apply Kd.N_drew)); exact HO_3.out) hg hat); have n1_ := Aside0.mk (Kd.N_afterv (ok := (fun k_ => (w.heap.size ≤ k_) ∧ some k_ ≠ (u3 : Value).ownBlock)) (by (with_reducible repeat (first | apply Kd.N_alloc | apply Kd.N_drewN | apply Kd.N_drew)); exact HO_29.out) hg hat); have n2_ := Aside0.mk (Kd.V_afterv (ok := (fun k_ => (w.heap.size ≤ k_) ∧ some k_ ≠ (u3 : Value).ownBlock ∧ some k_ ≠ (.slice (some ad117) t114.length co20 : Value).ownBlock)) (by (with_reducible repeat (first | apply Kd.V_alloc | apply Kd.V_drewN | apply Kd.V_drew)); exact Kd.V_mono HL117_0.out (fun _ hk => ⟨⟨hk.1.1.1, ⟨hk.1.1.2, hk.1.2⟩⟩, hk.2⟩)) hg hat); have n3_ := Aside0.mk (hb); have n4_ := Aside0.mk (ho); clear HO_3; clear HO_29; clear HL117_0; clear HB; clear HO120; have HO_3 := n0_; have HO_29 := n1_; have HL117_0 := n2_; have HB := n3_; have HO123 := n4_; clear n0_ n1_ n2_ n3_ n4_; clear ho hb hg hat; obtain ⟨Ao30, co30, eo30⟩ := Kd.R_slice HO123.out; subst eo30) | ((with_reducible refine gate_builtin (b := .append) (xs := #[.tmp 35, .tmp 40]) rfl ?_); at_builtin; refine Kd.N_append (Kd.slice 3 (Kd.int .i64)) (w0 := w) w.heap.size rfl (.tmp 35) (.tmp 40) 35 33 (.slice none 0 0) 24 rfl Try.underlying35 info33 rfl (by decide) (by omega) u3 x3_2 y121 [.slice Ao30 y121.length co30] (fun k_ => (w.heap.size ≤ k_) ∧ some k_ ≠ (.slice (some ad117) t114.length co20 : Value).ownBlock) (fun k_ => ((fun k_ => (w.heap.size ≤ k_) ∧ some k_ ≠ (.slice (some ad117) t114.length co20 : Value).ownBlock)) k_ ∧ some k_ ≠ (u3 : Value).ownBlock) rfl rfl ?aP (fun _ hk => hk) ?aF ?aO ?aB ?aS ?aL ?_; (case aP => exact (Kd.FK_slice_mk (Kd.R_reads' (Kd.R_mono (ok' := (fun k_ => ((fun k_ => (w.heap.size ≤ k_) ∧ some k_ ≠ (.slice (some ad117) t114.length co20 : Value).ownBlock)) k_ ∧ some k_ ≠ (u3 : Value).ownBlock)) (Kd.R_apart' (Kd.R_apart' (HO123.out) (Kd.N_typed HO_29.out) (by decide)) (Kd.N_typed HO_3.out) (by decide)) (fun k_ hk => ⟨⟨hk.1.1, hk.1.2⟩, hk.2⟩))).2.1 (Kd.R_F (Kd.R_mono (ok' := (fun k_ => ((fun k_ => (w.heap.size ≤ k_) ∧ some k_ ≠ (.slice (some ad117) t114.length co20 : Value).ownBlock)) k_ ∧ some k_ ≠ (u3 : Value).ownBlock)) (Kd.R_apart' (Kd.R_apart' (HO123.out) (Kd.N_typed HO_29.out) (by decide)) (Kd.N_typed HO_3.out) (by decide)) (fun k_ hk => ⟨⟨hk.1.1, hk.1.2⟩, hk.2⟩))))); (case aB => exact (bp9 HB.out)); (case aF => exact (fun k_ hk => ⟨(Nat.le_trans (below_size (bp9 HB.out)) hk), Kd.fresh' (Kd.N_lt (by (with_reducible repeat (first | apply Kd.N_alloc | apply Kd.N_drewN | apply Kd.N_drew)); exact HO_29.out)) k_ hk⟩)); (case aO => exact (by (with_reducible repeat (first | apply Kd.N_alloc | apply Kd.N_drewN | apply Kd.N_drew)); exact Kd.N_mono HO_3.out (fun _ hk => ⟨hk.1.1, hk.1.2⟩))); (case aS => exact (below_size (bp9 HB.out))); (case aL => have := LMc25.out; omega); intro v125 w29 ho hb hg hat; rw [← Ny124.out] at ho; have n0_ := Aside0.mk (Kd.N_afterv (ok := (fun k_ => (w.heap.size ≤ k_) ∧ some k_ ≠ (.slice Ao30 y121.length co30 : Value).ownBlock)) (by (with_reducible repeat (first | apply Kd.N_alloc | apply Kd.N_drewN | apply Kd.N_drew)); exact Kd.N_mono HO_29.out (fun _ hk => ⟨⟨hk.1.1, hk.2⟩, hk.1.2⟩)) hg hat); have n1_ := Aside0.mk (Kd.V_afterv (ok := (fun k_ => (w.heap.size ≤ k_) ∧ some k_ ≠ (.slice (some ad117) t114.length co20 : Value).ownBlock ∧ some k_ ≠ (.slice Ao30 y121.length co30 : Value).ownBlock)) (by (with_reducible repeat (first | apply Kd.V_alloc | apply Kd.V_drewN | apply Kd.V_drew)); exact Kd.V_mono HL117_0.out (fun _ hk => ⟨⟨hk.1.1, ⟨hk.1.2.2, hk.2⟩⟩, hk.1.2.1⟩)) hg hat); have n2_ := Aside0.mk (hb); have n3_ := Aside0.mk (ho); clear HO_29; clear HL117_0; clear HB; clear HO_3; clear HO123; have HO_29 := n0_; have HL117_0 := n1_; have HB := n2_; have HO126 := n3_; clear n0_ n1_ n2_ n3_; clear ho hb hg hat))
               go_roundg k2
               case measure => have := HK1.out; have := HK2.out; omega
               case rel => exact ⟨(y124), (wrap64 (x31_2 + 1)), (by first | rfl | (simp; done) | (simp [*]; done)), H', ⟨by have := HK1.out; have := HK2.out; omega⟩, ⟨by (with_reducible repeat (first | apply Kd.N_alloc | apply Kd.N_drewN | apply Kd.N_drew)); exact HO126.out⟩, ⟨by (with_reducible repeat (first | apply Kd.N_alloc | apply Kd.N_drewN | apply Kd.N_drew)); exact Kd.N_mono HO_29.out (fun _ hk => ⟨hk.1.1, hk.2⟩)⟩, ⟨bp9 HB.out⟩⟩
              ·rw [if_neg c25] at H
               exact absurd H (by simp)
             ·rw [if_neg c24] at H
              exact absurd H (by simp)
            ·rw [if_neg c23] at H
             exact absurd H (by simp)
           ·rw [if_neg c22] at H
            exact absurd H (by simp)
          ·rw [if_neg c21] at H
           have c21b0 : decide (x31_2 < (t114.length : Int)) = false := decide_eq_false c21
           clear c21
           have H' := Aside0.mk H
           clear H
           go_wp2
           go_roundg k2
           case measure => have := HK1.out; have := HK2.out; omega
           case rel => exact ⟨(x3_2), (wrap64 (x18_1 + 1)), (by first | rfl | (simp; done) | (simp [*]; done)), H', ⟨by have := HK1.out; have := HK2.out; omega⟩, ⟨by (with_reducible repeat (first | apply Kd.N_alloc | apply Kd.N_drewN | apply Kd.N_drew)); exact Kd.N_mono HO_3.out (fun _ hk => hk.1)⟩, ⟨bp9 HB.out⟩⟩
       ·rw [if_neg c11] at H
        exact absurd H (by simp)
      ·rw [if_neg c10] at H
       exact absurd H (by simp)
     ·rw [if_neg c9] at H
      have c9b0 : decide (x18_1 < (l0.length : Int)) = false := decide_eq_false c9
      clear c9
      obtain rfl := Option.some.inj H
      go_wp2
      go_ret
      exact ⟨_, by first | rfl | (simp [errW_none, errW_some] <;> rfl) | (simp [*, errW_none, errW_some] <;> rfl), by (with_reducible repeat (first | apply Kd.N_alloc | apply Kd.N_drewN | apply Kd.N_drew)); exact HO_3.out, bp9 HB.out⟩

/-! ### order_Of: function 106 -/
mutual
def order_Of.l0 : Nat → List Int → List Int → List Int → Int → Int → Option (List Int)
 | 0, _, _, _, _, _ => none
 | k + 1, x1, x5, x12, x13, x14 => if x14 < x13 then (if 0 ≤ x14 then (if x14 < (x12.length : Int) then (if 0 ≤ (wrap64 (x14 + 1)) then (if (wrap64 (x14 + 1)) ≤ (x1.length : Int) then (order_Of.l1 k x1 x5 (rd x12 x14) x12 x13 x14 (x1.drop ((wrap64 (x14 + 1)) : Int).toNat) ((x1.drop ((wrap64 (x14 + 1)) : Int).toNat).length : Int) 0) else (none)) else (none)) else (none)) else (none)) else (some x5)
def order_Of.l1 : Nat → List Int → List Int → Int → List Int → Int → Int → List Int → Int → Int → Option (List Int)
 | 0, _, _, _, _, _, _, _, _, _ => none
 | k + 1, x1, x5, x7, x12, x13, x14, x22, x23, x24 => if x24 < x23 then (if 0 ≤ x24 then (if x24 < (x22.length : Int) then ((rel_Put.f k x5 x7 (rd x22 x24)).bind fun t107 => (order_Of.l1 k x1 t107 x7 x12 x13 x14 x22 x23 (wrap64 (x24 + 1)))) else (none)) else (none)) else (order_Of.l0 k x1 x5 x12 x13 (wrap64 (x14 + 1)))
end
def order_Of.f (k : Nat) (a0 : Int) (l1 : List Int) : Option (List Int) := (rel_New.f a0).bind fun t101 => (order_Of.l0 k l1 t101 l1 (l1.length : Int) 0)
set_option maxHeartbeats 8000000 in
set_option maxRecDepth 100000 in
theorem order_Of.calls (k : Nat) (a0 : Int) (A1 : Option Addr) (c1 : Nat) (l1 : List Int) (r : List Int) (w : World) (hr1 : Kd.C (Kd.int .i64) w A1 l1.length l1) (hc1 : l1.length ≤ c1) (h : order_Of.f k a0 l1 = some r) :
  Calls Try.prog 106 #[.int .i64 a0, .slice A1 l1.length c1] w fun e w' => ∃ v0_ : Value, e = .returned (v0_) ∧ Kd.R (Kd.int .u32) 52 w' w.heap.size (fun _ => True) v0_ r ∧ Below w.heap.size w w' := by
 have HR1 := Aside0.mk hr1
 have HC1 := Aside0.mk hc1
 clear hr1 hc1
 have HB := Aside0.mk (Below.refl w.heap.size w)
 have H : ((rel_New.f a0).bind fun t101 => (order_Of.l0 k l1 t101 l1 (l1.length : Int) 0)) = some r := h
 clear h
 replace H := Option.bind_eq_some_iff.mp H
 obtain ⟨t101, A30, H⟩ := H
 have A3 := Aside0.mk A30
 clear A30
 have H' := Aside0.mk H
 clear H
 go_enter Try.func106, Try.ntmps106
 go_wp2_with (first | ((with_reducible refine gate_callee (f := 37) rfl ?_); refine goesL9 (some 11) rfl rfl Try.func37 (by kernel_rfl) rfl #[.int .i64 a0] rfl ?_; (with_reducible refine (rel_New.calls a0 t101 _ A3.out).mono ?_); rintro e w4 ⟨v102, rfl, ho0, hb⟩; refine ⟨_, rfl, ?_⟩; have n0_ := Aside0.mk (Kd.R_lower ho0 (below_size (bp9 HB.out))); have n1_ := Aside0.mk (below_step (bp9 HB.out) hb); clear HB; have HO103 := n0_; have HB := n1_; clear n0_ n1_; (try clear hb); (try clear hb2); (try clear hk); (try clear hi); (try clear ho0)))
 go_loopg [5, 14] k (fun kq v5 v14 w' => ∃ (x5_1 : List Int) (x14_1 : Int), v14 = .int .i64 x14_1 ∧ Aside0 (order_Of.l0 kq l1 x5_1 l1 (l1.length : Int) x14_1 = some r) ∧ Aside0 (kq ≤ k) ∧ Aside0 (Kd.R (Kd.int .u32) 52 w' w.heap.size (fun _ => True) v5 x5_1) ∧ Aside0 (Below w.heap.size w w'))
 case atStart => exact ⟨(t101), (0), (by first | rfl | (simp; done) | (simp [*]; done)), H', ⟨Nat.le_refl _⟩, ⟨rp9 HO103.out⟩, ⟨bp9 HB.out⟩⟩
 case round =>
  clear H'
  try clear c1
  try clear p2
  try clear c3
  obtain ⟨x5_1, x14_1, rfl, HA, HK1, HO_5, HB⟩ := hrel
  cases gk with
  | zero => exact absurd HA.out (by simp [order_Of.l0])
  | succ k1 =>
   have H := HA.out
   clear HA
   simp only [order_Of.l0] at H
   by_cases c5 : x14_1 < (l1.length : Int)
   ·rw [if_pos c5] at H
    have c5b0 : decide (x14_1 < (l1.length : Int)) = true := decide_eq_true c5
    clear c5
    by_cases c6 : 0 ≤ x14_1
    ·rw [if_pos c6] at H
     have c6b0 : decide (0 ≤ x14_1) = true := decide_eq_true c6
     clear c6
     by_cases c7 : x14_1 < (l1.length : Int)
     ·rw [if_pos c7] at H
      have c7b0 : decide (x14_1 < (l1.length : Int)) = true := decide_eq_true c7
      clear c7
      obtain ⟨ji8, hji8⟩ : ∃ j_ : Int, (wrap64 (x14_1 + 1)) = j_ := ⟨_, rfl⟩
      replace H : (if 0 ≤ (ji8) then (if (ji8) ≤ (l1.length : Int) then (order_Of.l1 k1 l1 x5_1 (rd l1 x14_1) l1 (l1.length : Int) x14_1 (l1.drop ((ji8) : Int).toNat) ((l1.drop ((ji8) : Int).toNat).length : Int) 0) else (none)) else (none)) = some r := by first | (rw [hji8] at H; exact H) | (simp only [hji8] at H ⊢; exact H)
      have hji8w : (IntKind.i64.wrap (x14_1 + 1)) = ji8 := (i64_w _).trans hji8
      by_cases c9 : 0 ≤ (ji8)
      ·rw [if_pos c9] at H
       have c9b0 := eq_true c9
       have c9b1 : decide (0 ≤ (ji8)) = true := decide_eq_true c9
       clear c9
       by_cases c10 : (ji8) ≤ (l1.length : Int)
       ·rw [if_pos c10] at H
        have c10b0 := eq_true c10
        have c10b1 : decide ((ji8) ≤ (l1.length : Int)) = true := decide_eq_true c10
        clear c10
        have H' := Aside0.mk H
        clear H
        have p104 : 0 ≤ (x14_1 : Int) := of_decide_eq_true (by first | (with_reducible assumption) | assumption)
        have q104 : x14_1 < (l1.length : Int) := of_decide_eq_true (by first | (with_reducible assumption) | assumption)
        obtain ⟨ad104, e104, hx104_0⟩ := Kd.at_int HR1.out x14_1 p104 q104
        cases e104
        replace hx104_0 := (HB.out.cell (World.block_lt_of_cell? w _ hx104_0)).trans hx104_0
        replace p104 := eq_true p104
        replace q104 := eq_true q104
        obtain ⟨i011, hi011, _, hsz11, _⟩ := info_parts info3
        obtain ⟨A11, hcut11, hA11, hC11⟩ := print_drop_of (P := Try.prog) (Value.int .i64) 0 33 3 .i64 Try.underlying33 hi011 hsz11 (some ad104) c1 l1 (ji8) (of_decide_eq_true (by first | (with_reducible assumption) | assumption)) (of_decide_eq_true (by first | (with_reducible assumption) | assumption)) HC1.out
        have HR105 := Aside0.mk (Kd.C_of_reads (h1 := fun _ => rfl) (hA11 _ (Kd.reads_of_C HR1.out)))
        have HC105 := Aside0.mk hC11
        clear hA11 hC11 hi011 hsz11
        go_wp2
        go_loopg [5, 24] k1 (fun kq v5 v24 w' => ∃ (x5_2 : List Int) (x24_2 : Int), v24 = .int .i64 x24_2 ∧ Aside0 (order_Of.l1 kq l1 x5_2 (rd l1 x14_1) l1 (l1.length : Int) x14_1 (l1.drop ((ji8) : Int).toNat) ((l1.drop ((ji8) : Int).toNat).length : Int) x24_2 = some r) ∧ Aside0 (kq ≤ k1) ∧ Aside0 (Kd.R (Kd.int .u32) 52 w' w.heap.size (fun _ => True) v5 x5_2) ∧ Aside0 (Below w.heap.size w w'))
        case atStart => exact ⟨(x5_1), (0), (by first | rfl | (simp; done) | (simp [*]; done)), H', ⟨Nat.le_refl _⟩, ⟨rp9 HO_5.out⟩, ⟨bp9 HB.out⟩⟩
        case round =>
         clear H'
         try clear c1
         try clear p1
         try clear q1
         try clear hx1
         try clear p2
         try clear c3
         try clear c5
         try clear c5b0
         try clear c6
         try clear c6b0
         try clear p6
         try clear c7
         try clear c7b0
         try clear c9
         try clear c9b0
         try clear c9b1
         try clear c10
         try clear c10b0
         try clear c10b1
         try clear p10
         try clear q10
         try clear hx10
         try clear hx104_0
         try clear p104
         try clear p2
         try clear q104
         obtain ⟨x5_2, x24_2, rfl, HA, HK2, HO_5, HB⟩ := hrel
         cases gk with
         | zero => exact absurd HA.out (by simp [order_Of.l1])
         | succ k2 =>
          have H := HA.out
          clear HA
          simp only [order_Of.l1] at H
          by_cases c12 : x24_2 < ((l1.drop ((ji8) : Int).toNat).length : Int)
          ·rw [if_pos c12] at H
           have c12b0 : decide (x24_2 < ((l1.drop ((ji8) : Int).toNat).length : Int)) = true := decide_eq_true c12
           have c12b0z := c12b0
           simp only [List.length_drop] at c12b0z
           clear c12
           by_cases c13 : 0 ≤ x24_2
           ·rw [if_pos c13] at H
            have c13b0 : decide (0 ≤ x24_2) = true := decide_eq_true c13
            clear c13
            by_cases c14 : x24_2 < ((l1.drop ((ji8) : Int).toNat).length : Int)
            ·rw [if_pos c14] at H
             have c14b0 : decide (x24_2 < ((l1.drop ((ji8) : Int).toNat).length : Int)) = true := decide_eq_true c14
             have c14b0z := c14b0
             simp only [List.length_drop] at c14b0z
             clear c14
             replace H := Option.bind_eq_some_iff.mp H
             obtain ⟨t107, A150, H⟩ := H
             have A15 := Aside0.mk A150
             clear A150
             have H' := Aside0.mk H
             clear H
             have p106 : 0 ≤ (x24_2 : Int) := of_decide_eq_true (by first | (with_reducible assumption) | assumption)
             have q106 : x24_2 < ((l1.drop ((ji8) : Int).toNat).length : Int) := of_decide_eq_true (by first | (with_reducible assumption) | assumption)
             obtain ⟨ad106, e106, hx106_0⟩ := Kd.at_int HR105.out x24_2 p106 q106
             cases e106
             replace hx106_0 := (HB.out.cell (World.block_lt_of_cell? w _ hx106_0)).trans hx106_0
             replace p106 := eq_true p106
             replace q106 := eq_true q106
             have q106z := q106
             simp only [List.length_drop] at q106z
             obtain ⟨Ao16, co16, eo16⟩ := Kd.R_slice HO_5.out
             subst eo16
             go_wp2_with (first | ((with_reducible refine gate_callee (f := 40) rfl ?_); refine goesL_ (some 31) rfl rfl Try.func40 (by kernel_rfl) rfl #[.slice Ao16 x5_2.length co16, .int .i64 (rd l1 x14_1), .int .i64 (rd (l1.drop ((ji8) : Int).toNat) x24_2)] rfl (by (try simp only [List.map_toArray, List.map_cons, List.map_nil]); first | done | (simp only [hji8]; rfl) | rfl | (simp only [List.length_drop, List.length_take]; rfl)) ?_; (with_reducible refine (rel_Put.calls k2 _ _ x5_2 (rd l1 x14_1) (rd (l1.drop ((ji8) : Int).toNat) x24_2) t107 _ ?side1 ?side2 A15.out).mono ?_); (case side1 => exact lp9 (Kd.R_reads' HO_5.out).2.2); (case side2 => exact (Kd.R_reads' HO_5.out).2.1); rintro e w17 ⟨v108, rfl, ho0, hb⟩; refine ⟨_, rfl, ?_⟩; have n0_ := Aside0.mk (Kd.R_elder' (rp9 HO_5.out) (Kd.R_base ho0) hb); have n1_ := Aside0.mk (Kd.R_lower (Kd.R_new' ho0 (Kd.R_lt (rp9 HO_5.out))) (below_size (bp9 HB.out))); have n2_ := Aside0.mk (below_step (bp9 HB.out) hb); clear HO_5; clear HB; have HO_5 := n0_; have HO109 := n1_; have HB := n2_; clear n0_ n1_ n2_; (try clear hb); (try clear hb2); (try clear hk); (try clear hi); (try clear ho0)))
             go_roundg k2
             case measure => have := HK1.out; have := HK2.out; omega
             case rel => exact ⟨(t107), (wrap64 (x24_2 + 1)), (by first | rfl | (simp; done) | (simp [*]; done)), H', ⟨by have := HK1.out; have := HK2.out; omega⟩, ⟨by (with_reducible repeat (first | apply Kd.R_alloc | apply Kd.R_drewN | apply Kd.R_drew)); exact Kd.R_mono HO109.out (fun _ hk => trivial)⟩, ⟨bp9 HB.out⟩⟩
            ·rw [if_neg c14] at H
             exact absurd H (by simp)
           ·rw [if_neg c13] at H
            exact absurd H (by simp)
          ·rw [if_neg c12] at H
           have c12b0 : decide (x24_2 < ((l1.drop ((ji8) : Int).toNat).length : Int)) = false := decide_eq_false c12
           have c12b0z := c12b0
           simp only [List.length_drop] at c12b0z
           clear c12
           have H' := Aside0.mk H
           clear H
           go_wp2
           go_roundg k2
           case measure => have := HK1.out; have := HK2.out; omega
           case rel => exact ⟨(x5_2), (wrap64 (x14_1 + 1)), (by first | rfl | (simp; done) | (simp [*]; done)), H', ⟨by have := HK1.out; have := HK2.out; omega⟩, ⟨rp9 HO_5.out⟩, ⟨bp9 HB.out⟩⟩
       ·rw [if_neg c10] at H
        exact absurd H (by simp)
      ·rw [if_neg c9] at H
       exact absurd H (by simp)
     ·rw [if_neg c7] at H
      exact absurd H (by simp)
    ·rw [if_neg c6] at H
     exact absurd H (by simp)
   ·rw [if_neg c5] at H
    have c5b0 : decide (x14_1 < (l1.length : Int)) = false := decide_eq_false c5
    clear c5
    obtain rfl := Option.some.inj H
    go_wp2
    go_ret
    exact ⟨_, by first | rfl | (simp [errW_none, errW_some] <;> rfl) | (simp [*, errW_none, errW_some] <;> rfl), by (with_reducible repeat (first | apply Kd.R_alloc | apply Kd.R_drewN | apply Kd.R_drew)); exact HO_5.out, bp9 HB.out⟩

end Go.Proofs.Ytbamkkdikeedoaa.G
