/- By hand over printed lines: exec.Mask at any function value that computes; exec.Kinds, bob.Acquires, bob.Releases; exec.pairs, exec.Inner. -/
import Derived.Test.YtbamkkdikeedoaaGRel
import Derived.Test.YtbamkkdikeedoaaGSlices
import Derived.Test.YtbamkkdikeedoaaHandTell
import Derived.Test.YtbamkkdikeedoaaPlainRel
namespace Go.Proofs.Ytbamkkdikeedoaa.G
open Go.RowKit Go.Proofs.YtbamkkdikeedoaaW.PrintWords Go.Proofs.YtbamkkdikeedoaaW.PrintLast Go.Proofs.YtbamkkdikeedoaaW.PrintMore
set_option maxHeartbeats 8000000
set_option maxRecDepth 100000
set_option linter.unusedVariables false
set_option linter.unusedSimpArgs false
def exec_Kinds_1.f (k : Nat) (a0_0 : Int) (a0_1 : Int) (a0_2 : Int) (a0_3 : Int) (a0_4 : Bool) (a0_5 : Bool) (a0_6 : Bool) (l1 : List Int) : Option (Bool) := (slices_Contains_int_int.f k l1 a0_1).bind fun t102 => (some t102)
theorem exec_Kinds_1.calls (k : Nat) (a0_0 : Int) (a0_1 : Int) (a0_2 : Int) (a0_3 : Int) (a0_4 : Bool) (a0_5 : Bool) (a0_6 : Bool) (g1 : Nat) (A1 : Option Addr) (c1 : Nat) (l1 : List Int) (r : Bool) (w : World) (hg1 : w.cell? ⟨g1, 0, none⟩ = some (.slice A1 l1.length c1)) (hr1 : Kd.C (Kd.int .i64) w A1 l1.length l1) (hc1 : l1.length ≤ c1) (h : exec_Kinds_1.f k a0_0 a0_1 a0_2 a0_3 a0_4 a0_5 a0_6 l1 = some r) :
    Calls Try.prog 129 #[.agg #[.int .i64 a0_0, .int .i64 a0_1, .int .i64 a0_2, .int .i64 a0_3, .bool a0_4, .bool a0_5, .bool a0_6], .pointer (some ⟨g1, 0, none⟩)] w fun e w' => e = .returned (.bool r) ∧ Below w.heap.size w w' := by
  have hu26 := Try.underlying26
  have HR1 := Aside0.mk hr1
  have HC1 := Aside0.mk hc1
  clear hr1 hc1
  have HB := Aside0.mk (Below.refl w.heap.size w)
  have H : ((slices_Contains_int_int.f k l1 a0_1).bind fun t102 => (some t102)) = some r := h
  clear h
  replace H := Option.bind_eq_some_iff.mp H
  obtain ⟨t102, A30, H⟩ := H
  replace H : (some t102) = some r := H
  have A3 := Aside0.mk A30
  clear A30
  obtain rfl := Option.some.inj H
  go_enter Try.func129, Try.ntmps129
  go_wp2_with (first | ((with_reducible refine gate_dst (N := 2) rfl ?_); refine box9 (N := 2) (cs := #[.int .i64 a0_0, .int .i64 a0_1, .int .i64 a0_2, .int .i64 a0_3, .bool a0_4, .bool a0_5, .bool a0_6]) (t := 26) ?_; intro gb101 hg w4 hbox hb; have n0_ := Aside0.mk (below_step (by repeat (first | (with_reducible first | exact HB.out | apply below_alloc | apply pw_below_drewN | apply below_drew1) | exact HB.out)) hb); have n1_ := Aside0.mk (hbox); have n2_ := Aside0.mk ((by rw [hg]; exact (below_size (by repeat (first | (with_reducible first | exact HB.out | apply below_alloc | apply pw_below_drewN | apply below_drew1) | exact HB.out))) : w.heap.size ≤ gb101)); have n3_ := Aside0.mk ((by rw [hg]; exact (below_size (by repeat (first | (with_reducible first | exact HB.out | apply below_alloc | apply pw_below_drewN | apply below_drew1) | exact HB.out))) : w.heap.size ≤ gb101)); clear HB; have HB := n0_; have hg1b := pw_cell_below HB.out hg1; have BK101 := n1_; have GW101 := n2_; have GE101 := n3_; clear n0_ n1_ n2_ n3_; clear hb hbox hg; have hcz5_0 : w4.cell? ⟨gb101, 0, none⟩ = some (.int .i64 a0_0) := (blk_cell BK101.out 0).trans rfl; have hcz5_1 : w4.cell? ⟨gb101, 1, none⟩ = some (.int .i64 a0_1) := (blk_cell BK101.out 1).trans rfl; have hcz5_2 : w4.cell? ⟨gb101, 2, none⟩ = some (.int .i64 a0_2) := (blk_cell BK101.out 2).trans rfl; have hcz5_3 : w4.cell? ⟨gb101, 3, none⟩ = some (.int .i64 a0_3) := (blk_cell BK101.out 3).trans rfl; have hcz5_4 : w4.cell? ⟨gb101, 4, none⟩ = some (.bool a0_4) := (blk_cell BK101.out 4).trans rfl; have hcz5_5 : w4.cell? ⟨gb101, 5, none⟩ = some (.bool a0_5) := (blk_cell BK101.out 5).trans rfl; have hcz5_6 : w4.cell? ⟨gb101, 6, none⟩ = some (.bool a0_6) := (blk_cell BK101.out 6).trans rfl; have hfz5_0 := blk_frozen BK101.out 0; have hfz5_1 := blk_frozen BK101.out 1; have hfz5_2 := blk_frozen BK101.out 2; have hfz5_3 := blk_frozen BK101.out 3; have hfz5_4 := blk_frozen BK101.out 4; have hfz5_5 := blk_frozen BK101.out 5; have hfz5_6 := blk_frozen BK101.out 6) | ((with_reducible refine gate_callee (f := 115) rfl ?_); refine goesL_ (some 7) rfl rfl Try.func115 (by kernel_rfl) rfl #[.slice A1 l1.length c1, .int .i64 a0_1] rfl (by (try simp only [List.map_toArray, List.map_cons, List.map_nil]); first | done | rfl | (simp only [List.length_drop, List.length_take]; rfl)) ?_; (with_reducible refine (slices_Contains_int_int.calls k _ _ l1 a0_1 t102 _ ?side1 ?side2 A3.out).mono ?_); (case side1 => repeat (first | exact (Kd.C_below HR1.out HB.out) | (with_reducible refine Kd.C_alloc ?_ _) | (with_reducible refine Kd.C_drewN ?_ _) | (with_reducible refine Kd.C_drew ?_))); (case side2 => exact HC1.out); rintro e w' ⟨rfl, ⟨nd, rfl⟩⟩; refine ⟨_, rfl, ?_⟩))
  go_ret
  exact ⟨by first | rfl | (simp [errW_none, errW_some] <;> rfl) | (simp [*, errW_none, errW_some] <;> rfl), by repeat (first | (with_reducible first | exact HB.out | apply below_alloc | apply pw_below_drewN | apply below_drew1 | refine below_set ?_ GE101.out) | exact HB.out)⟩
def exec_Mask.l0 (φ : Int → Int → Int → Int → Bool → Bool → Bool → Option Bool) : Nat → Int → List (S26) → Int → Int → Option (Int)
  | 0, _, _, _, _ => none
  | k + 1, x5, x9, x10, x11 => if x11 < x10 then (if 0 ≤ x11 then (if x11 < (x9.length : Int) then ((φ ((rd_T26 x9 x11).f0) ((rd_T26 x9 x11).f1) ((rd_T26 x9 x11).f2) ((rd_T26 x9 x11).f3) ((rd_T26 x9 x11).f4) ((rd_T26 x9 x11).f5) ((rd_T26 x9 x11).f6)).bind fun t104 => (if t104 = true then (if 0 ≤ (IntKind.u64.wrap (x11)) then (exec_Mask.l0 φ k (Go.bits .or .u32 x5 (shl .u32 1 (IntKind.u64.wrap (x11)))) x9 x10 (wrap64 (x11 + 1))) else (none)) else (exec_Mask.l0 φ k x5 x9 x10 (wrap64 (x11 + 1))))) else (none)) else (none)) else (some x5)
def exec_Mask.f (φ : Int → Int → Int → Int → Bool → Bool → Bool → Option Bool) (k : Nat) (l0_0 : List (S26)) (l0_1 : List Int) (l0_2 : List Int) (l0_3 : List Int) (l0_4 : List Int) (l0_5 : List Int) (l0_6 : List (List Int)) : Option (Int) := exec_Mask.l0 φ k 0 l0_0 (l0_0.length : Int) 0
theorem exec_Mask.calls (φ : Int → Int → Int → Int → Bool → Bool → Bool → Option Bool) (f : FuncId) (F : Func) (hF : Try.prog.funcs[f]? = some F) (hFn : (F.name == "runtime.NumGoroutine") = false) (hFb : F.body.isSome = true) (cap : Array Value) (k : Nat) (A0_0 : Option Addr) (c0_0 : Nat) (l0_0 : List (S26)) (A0_1 : Option Addr) (c0_1 : Nat) (l0_1 : List Int) (A0_2 : Option Addr) (c0_2 : Nat) (l0_2 : List Int) (A0_3 : Option Addr) (c0_3 : Nat) (l0_3 : List Int) (A0_4 : Option Addr) (c0_4 : Nat) (l0_4 : List Int) (A0_5 : Option Addr) (c0_5 : Nat) (l0_5 : List Int) (A0_6 : Option Addr) (c0_6 : Nat) (l0_6 : List (List Int)) (r : Int) (w : World) (hr0_0 : Kd.C k26 w A0_0 l0_0.length l0_0) (hc0_0 : l0_0.length ≤ c0_0) (hr0_1 : Kd.C (Kd.int .u32) w A0_1 l0_1.length l0_1) (hc0_1 : l0_1.length ≤ c0_1) (hr0_2 : Kd.C (Kd.int .u32) w A0_2 l0_2.length l0_2) (hc0_2 : l0_2.length ≤ c0_2) (hr0_3 : Kd.C (Kd.int .u32) w A0_3 l0_3.length l0_3) (hc0_3 : l0_3.length ≤ c0_3) (hr0_4 : Kd.C (Kd.int .u32) w A0_4 l0_4.length l0_4) (hc0_4 : l0_4.length ≤ c0_4) (hr0_5 : Kd.C (Kd.int .u32) w A0_5 l0_5.length l0_5) (hc0_5 : l0_5.length ≤ c0_5) (hr0_6 : Kd.C (Kd.slice 2 (Kd.int .i64)) w A0_6 l0_6.length l0_6) (hc0_6 : l0_6.length ≤ c0_6) (HF : ∀ w1, Below w.heap.size w w1 → ∀ a0 a1 a2 a3 a4 a5 a6 q, φ a0 a1 a2 a3 a4 a5 a6 = some q → Calls Try.prog f (#[.agg #[.int .i64 a0, .int .i64 a1, .int .i64 a2, .int .i64 a3, .bool a4, .bool a5, .bool a6]] ++ cap) w1 fun e w' => e = .returned (.bool q) ∧ Below w1.heap.size w1 w') (h : exec_Mask.f φ k l0_0 l0_1 l0_2 l0_3 l0_4 l0_5 l0_6 = some r) :
    Calls Try.prog 128 #[.agg #[.slice A0_0 l0_0.length c0_0, .slice A0_1 l0_1.length c0_1, .slice A0_2 l0_2.length c0_2, .slice A0_3 l0_3.length c0_3, .slice A0_4 l0_4.length c0_4, .slice A0_5 l0_5.length c0_5, .slice A0_6 l0_6.length c0_6], .func (.func f) #[] cap] w fun e w' => e = .returned (.int .u32 r) ∧ Below w.heap.size w w' := by
  have hu31 := Try.underlying31
  have hu26 := Try.underlying26
  have HFF := Aside0.mk hF
  have HFN := Aside0.mk hFn
  have HFB := Aside0.mk hFb
  have HFC := Aside0.mk HF
  clear hF hFn hFb HF
  have HR0_0 := Aside0.mk hr0_0
  have HC0_0 := Aside0.mk hc0_0
  clear hr0_0 hc0_0
  have HR0_1 := Aside0.mk hr0_1
  have HC0_1 := Aside0.mk hc0_1
  clear hr0_1 hc0_1
  have HR0_2 := Aside0.mk hr0_2
  have HC0_2 := Aside0.mk hc0_2
  clear hr0_2 hc0_2
  have HR0_3 := Aside0.mk hr0_3
  have HC0_3 := Aside0.mk hc0_3
  clear hr0_3 hc0_3
  have HR0_4 := Aside0.mk hr0_4
  have HC0_4 := Aside0.mk hc0_4
  clear hr0_4 hc0_4
  have HR0_5 := Aside0.mk hr0_5
  have HC0_5 := Aside0.mk hc0_5
  clear hr0_5 hc0_5
  have HR0_6 := Aside0.mk hr0_6
  have HC0_6 := Aside0.mk hc0_6
  clear hr0_6 hc0_6
  have HB := Aside0.mk (Below.refl w.heap.size w)
  have H : (exec_Mask.l0 φ k 0 l0_0 (l0_0.length : Int) 0) = some r := h
  clear h
  have H' := Aside0.mk H
  clear H
  go_enter Try.func128, Try.ntmps128
  go_wp2_with (first | ((with_reducible refine gate_dst (N := 2) rfl ?_); refine box9 (N := 2) (cs := #[.slice A0_0 l0_0.length c0_0, .slice A0_1 l0_1.length c0_1, .slice A0_2 l0_2.length c0_2, .slice A0_3 l0_3.length c0_3, .slice A0_4 l0_4.length c0_4, .slice A0_5 l0_5.length c0_5, .slice A0_6 l0_6.length c0_6]) (t := 31) ?_; intro gb101 hg w2 hbox hb; have n0_ := Aside0.mk (below_step (by repeat (first | (with_reducible first | exact HB.out | apply below_alloc | apply pw_below_drewN | apply below_drew1) | exact HB.out)) hb); have n1_ := Aside0.mk (hbox); have n2_ := Aside0.mk ((by rw [hg]; exact (below_size (by repeat (first | (with_reducible first | exact HB.out | apply below_alloc | apply pw_below_drewN | apply below_drew1) | exact HB.out))) : w.heap.size ≤ gb101)); have n3_ := Aside0.mk ((by rw [hg]; exact (below_size (by repeat (first | (with_reducible first | exact HB.out | apply below_alloc | apply pw_below_drewN | apply below_drew1) | exact HB.out))) : w.heap.size ≤ gb101)); clear HB; have HB := n0_; have BK101 := n1_; have GW101 := n2_; have GE101 := n3_; clear n0_ n1_ n2_ n3_; clear hb hbox hg; have hcz3_0 : w2.cell? ⟨gb101, 0, none⟩ = some (.slice A0_0 l0_0.length c0_0) := (blk_cell BK101.out 0).trans rfl; have hcz3_1 : w2.cell? ⟨gb101, 1, none⟩ = some (.slice A0_1 l0_1.length c0_1) := (blk_cell BK101.out 1).trans rfl; have hcz3_2 : w2.cell? ⟨gb101, 2, none⟩ = some (.slice A0_2 l0_2.length c0_2) := (blk_cell BK101.out 2).trans rfl; have hcz3_3 : w2.cell? ⟨gb101, 3, none⟩ = some (.slice A0_3 l0_3.length c0_3) := (blk_cell BK101.out 3).trans rfl; have hcz3_4 : w2.cell? ⟨gb101, 4, none⟩ = some (.slice A0_4 l0_4.length c0_4) := (blk_cell BK101.out 4).trans rfl; have hcz3_5 : w2.cell? ⟨gb101, 5, none⟩ = some (.slice A0_5 l0_5.length c0_5) := (blk_cell BK101.out 5).trans rfl; have hcz3_6 : w2.cell? ⟨gb101, 6, none⟩ = some (.slice A0_6 l0_6.length c0_6) := (blk_cell BK101.out 6).trans rfl; have hfz3_0 := blk_frozen BK101.out 0; have hfz3_1 := blk_frozen BK101.out 1; have hfz3_2 := blk_frozen BK101.out 2; have hfz3_3 := blk_frozen BK101.out 3; have hfz3_4 := blk_frozen BK101.out 4; have hfz3_5 := blk_frozen BK101.out 5; have hfz3_6 := blk_frozen BK101.out 6))
  go_loopg [5, 11] k (fun kq v5 v11 w' => ∃ (x5_1 : Int) (x11_1 : Int), v5 = .int .u32 x5_1 ∧ v11 = .int .i64 x11_1 ∧ Aside0 (exec_Mask.l0 φ kq x5_1 l0_0 (l0_0.length : Int) x11_1 = some r) ∧ Aside0 (kq ≤ k) ∧ Aside0 (w'.heap[gb101]? = some (.cells #[(.slice A0_0 l0_0.length c0_0), (.slice A0_1 l0_1.length c0_1), (.slice A0_2 l0_2.length c0_2), (.slice A0_3 l0_3.length c0_3), (.slice A0_4 l0_4.length c0_4), (.slice A0_5 l0_5.length c0_5), (.slice A0_6 l0_6.length c0_6)] 31 (0, 0))) ∧ Aside0 (Below w.heap.size w w'))
  case atStart => exact ⟨(0), (0), rs9, rs9, H', ⟨Nat.le_refl _⟩, ⟨by (with_reducible repeat (first | refine blk_drewN ?_ _ | refine blk_drew ?_ | refine blk_alloc ?_ _)); exact BK101.out⟩, ⟨by repeat (first | (with_reducible first | exact HB.out | apply below_alloc | apply pw_below_drewN | apply below_drew1 | refine below_set ?_ GE101.out) | exact HB.out)⟩⟩
  case round =>
    clear H'
    try clear c1
    try clear p2
    try clear hcz3_0
    try clear hcz3_1
    try clear hcz3_2
    try clear hcz3_3
    try clear hcz3_4
    try clear hcz3_5
    try clear hcz3_6
    try clear hfz3_0
    try clear hfz3_1
    try clear hfz3_2
    try clear hfz3_3
    try clear hfz3_4
    try clear hfz3_5
    try clear hfz3_6
    obtain ⟨x5_1, x11_1, rfl, rfl, HA, HK1, BK101, HB⟩ := hrel
    cases gk with
    | zero => exact absurd HA.out (by simp [exec_Mask.l0])
    | succ k1 =>
      have H := HA.out
      clear HA
      simp only [exec_Mask.l0] at H
      by_cases c4 : x11_1 < (l0_0.length : Int)
      · rw [if_pos c4] at H
        have c4b0 : decide (x11_1 < (l0_0.length : Int)) = true := decide_eq_true c4
        clear c4
        by_cases c5 : 0 ≤ x11_1
        · rw [if_pos c5] at H
          have c5b0 : decide (0 ≤ x11_1) = true := decide_eq_true c5
          clear c5
          by_cases c6 : x11_1 < (l0_0.length : Int)
          · rw [if_pos c6] at H
            have c6b0 : decide (x11_1 < (l0_0.length : Int)) = true := decide_eq_true c6
            clear c6
            replace H := Option.bind_eq_some_iff.mp H
            obtain ⟨t104, A70, H⟩ := H
            replace H : (if t104 = true then (if 0 ≤ (IntKind.u64.wrap (x11_1)) then (exec_Mask.l0 φ k1 (Go.bits .or .u32 x5_1 (shl .u32 1 (IntKind.u64.wrap (x11_1)))) l0_0 (l0_0.length : Int) (wrap64 (x11_1 + 1))) else (none)) else (exec_Mask.l0 φ k1 x5_1 l0_0 (l0_0.length : Int) (wrap64 (x11_1 + 1)))) = some r := H
            have A7 := Aside0.mk A70
            clear A70
            by_cases c8 : t104 = true
            · subst c8
              have H1 : (if 0 ≤ (IntKind.u64.wrap (x11_1)) then (exec_Mask.l0 φ k1 (Go.bits .or .u32 x5_1 (shl .u32 1 (IntKind.u64.wrap (x11_1)))) l0_0 (l0_0.length : Int) (wrap64 (x11_1 + 1))) else (none)) = some r := by rw [if_pos rfl] at H; exact H
              clear H
              have H := H1
              clear H1
              obtain ⟨ji9, hji9⟩ : ∃ j_ : Int, (IntKind.u64.wrap (x11_1)) = j_ := ⟨_, rfl⟩
              replace H : (if 0 ≤ (ji9) then (exec_Mask.l0 φ k1 (Go.bits .or .u32 x5_1 (shl .u32 1 (ji9))) l0_0 (l0_0.length : Int) (wrap64 (x11_1 + 1))) else (none)) = some r := by first | (rw [hji9] at H; exact H) | (simp only [hji9] at H ⊢; exact H)
              (try rw [hji9] at A7)
              by_cases c10 : 0 ≤ (ji9)
              · rw [if_pos c10] at H
                have c10b0 := eq_true c10
                have c10b1 : decide (0 ≤ (ji9)) = true := decide_eq_true c10
                clear c10
                obtain ⟨ji11, hji11⟩ : ∃ j_ : Int, (shl .u32 1 (ji9)) = j_ := ⟨_, rfl⟩
                replace H : (exec_Mask.l0 φ k1 (Go.bits .or .u32 x5_1 (ji11)) l0_0 (l0_0.length : Int) (wrap64 (x11_1 + 1))) = some r := by first | (rw [hji11] at H; exact H) | (simp only [hji11] at H ⊢; exact H)
                (try rw [hji11] at A7)
                have hji11_ : (IntKind.u32.wrap (1 * 2 ^ min (ji9).toNat 32)) = ji11 := hji11
                have hji11z : (ji9) ≤ 32 → (IntKind.u32.wrap (1 * 2 ^ (ji9).toNat)) = ji11 := shl_small hji11
                have hji11u : (IntKind.u32.wrap (2 ^ min (ji9).toNat 32)) = ji11 := by have h_ := hji11_; rw [Int.one_mul] at h_; exact h_
                have hji11v : (ji9) ≤ 32 → (IntKind.u32.wrap (2 ^ (ji9).toNat)) = ji11 := fun hle_ => by have h_ := hji11z hle_; rw [Int.one_mul] at h_; exact h_
                have H' := Aside0.mk H
                clear H
                have p102 : 0 ≤ (x11_1 : Int) := of_decide_eq_true (by first | (with_reducible assumption) | assumption)
                have q102 : x11_1 < (l0_0.length : Int) := of_decide_eq_true (by first | (with_reducible assumption) | assumption)
                obtain ⟨ad102, e102, hx102_0, hx102_1, hx102_2, hx102_3, hx102_4, hx102_5, hx102_6⟩ := at_T26 HR0_0.out x11_1 p102 q102
                cases e102
                replace hx102_0 := hb9 HB.out hx102_0
                replace hx102_1 := hb9 HB.out hx102_1
                replace hx102_2 := hb9 HB.out hx102_2
                replace hx102_3 := hb9 HB.out hx102_3
                replace hx102_4 := hb9 HB.out hx102_4
                replace hx102_5 := hb9 HB.out hx102_5
                replace hx102_6 := hb9 HB.out hx102_6
                replace p102 := eq_true p102
                replace q102 := eq_true q102
                go_wp2_with (first | ((with_reducible refine gate_dst (N := 7) rfl ?_); refine box9 (N := 7) (cs := #[.int .i64 0, .int .i64 0, .int .i64 0, .int .i64 0, .bool false, .bool false, .bool false]) (t := 26) ?_; intro gb103 hg w12 hbox hb; have n0_ := Aside0.mk (blk_below (g := gb101) (o := .cells #[.slice (some ad102) l0_0.length c0_0, .slice A0_1 l0_1.length c0_1, .slice A0_2 l0_2.length c0_2, .slice A0_3 l0_3.length c0_3, .slice A0_4 l0_4.length c0_4, .slice A0_5 l0_5.length c0_5, .slice A0_6 l0_6.length c0_6] 31 (0, 0)) (by (with_reducible repeat (first | refine blk_drewN ?_ _ | refine blk_drew ?_ | refine blk_alloc ?_ _)); exact BK101.out) hb); have n1_ := Aside0.mk (below_step (by repeat (first | (with_reducible first | exact HB.out | apply below_alloc | apply pw_below_drewN | apply below_drew1 | refine below_set ?_ GE101.out) | exact HB.out)) hb); have n2_ := Aside0.mk (hbox); have n3_ := Aside0.mk ((by rw [hg]; exact (below_size (by repeat (first | (with_reducible first | exact HB.out | apply below_alloc | apply pw_below_drewN | apply below_drew1 | refine below_set ?_ GE101.out) | exact HB.out))) : w.heap.size ≤ gb103)); have n4_ := Aside0.mk ((by rw [hg]; exact (below_size (by repeat (first | (with_reducible first | exact HB.out | apply below_alloc | apply pw_below_drewN | apply below_drew1 | refine below_set ?_ GE101.out) | exact HB.out))) : w.heap.size ≤ gb103)); have n5_ := Aside0.mk ((by rw [hg]; exact Nat.ne_of_lt (blk_lt (g := gb101) (o := .cells #[.slice (some ad102) l0_0.length c0_0, .slice A0_1 l0_1.length c0_1, .slice A0_2 l0_2.length c0_2, .slice A0_3 l0_3.length c0_3, .slice A0_4 l0_4.length c0_4, .slice A0_5 l0_5.length c0_5, .slice A0_6 l0_6.length c0_6] 31 (0, 0)) (by (with_reducible repeat (first | refine blk_drewN ?_ _ | refine blk_drew ?_ | refine blk_alloc ?_ _)); exact BK101.out)) : gb101 ≠ gb103)); have n6_ := Aside0.mk ((by rw [hg]; exact Nat.ne_of_gt (blk_lt (g := gb101) (o := .cells #[.slice (some ad102) l0_0.length c0_0, .slice A0_1 l0_1.length c0_1, .slice A0_2 l0_2.length c0_2, .slice A0_3 l0_3.length c0_3, .slice A0_4 l0_4.length c0_4, .slice A0_5 l0_5.length c0_5, .slice A0_6 l0_6.length c0_6] 31 (0, 0)) (by (with_reducible repeat (first | refine blk_drewN ?_ _ | refine blk_drew ?_ | refine blk_alloc ?_ _)); exact BK101.out)) : gb103 ≠ gb101)); clear BK101; clear HB; have BK101 := n0_; have HB := n1_; have BK103 := n2_; have GW103 := n3_; have GE103 := n4_; have NB101_103 := n5_; have NB103_101 := n6_; clear n0_ n1_ n2_ n3_ n4_ n5_ n6_; clear hb hbox hg; have hnb13 := NB103_101.out; have hnc13 := NB101_103.out; have hcz14_0 : w12.cell? ⟨gb103, 0, none⟩ = some (.int .i64 0) := (blk_cell BK103.out 0).trans rfl; have hcz14_1 : w12.cell? ⟨gb103, 1, none⟩ = some (.int .i64 0) := (blk_cell BK103.out 1).trans rfl; have hcz14_2 : w12.cell? ⟨gb103, 2, none⟩ = some (.int .i64 0) := (blk_cell BK103.out 2).trans rfl; have hcz14_3 : w12.cell? ⟨gb103, 3, none⟩ = some (.int .i64 0) := (blk_cell BK103.out 3).trans rfl; have hcz14_4 : w12.cell? ⟨gb103, 4, none⟩ = some (.bool false) := (blk_cell BK103.out 4).trans rfl; have hcz14_5 : w12.cell? ⟨gb103, 5, none⟩ = some (.bool false) := (blk_cell BK103.out 5).trans rfl; have hcz14_6 : w12.cell? ⟨gb103, 6, none⟩ = some (.bool false) := (blk_cell BK103.out 6).trans rfl; have hfz14_0 := blk_frozen BK103.out 0; have hfz14_1 := blk_frozen BK103.out 1; have hfz14_2 := blk_frozen BK103.out 2; have hfz14_3 := blk_frozen BK103.out 3; have hfz14_4 := blk_frozen BK103.out 4; have hfz14_5 := blk_frozen BK103.out 5; have hfz14_6 := blk_frozen BK103.out 6) | ((with_reducible refine gate_dst (N := 18) rfl ?_); refine goesV_ (some 18) rfl rfl HFF.out HFN.out HFB.out #[.agg #[.int .i64 ((rd_T26 l0_0 x11_1).f0), .int .i64 ((rd_T26 l0_0 x11_1).f1), .int .i64 ((rd_T26 l0_0 x11_1).f2), .int .i64 ((rd_T26 l0_0 x11_1).f3), .bool ((rd_T26 l0_0 x11_1).f4), .bool ((rd_T26 l0_0 x11_1).f5), .bool ((rd_T26 l0_0 x11_1).f6)]] rfl (by first | rfl | (go_simp; rfl)) (by (try simp only [List.map_toArray, List.map_cons, List.map_nil]); first | done | rfl | (simp only [List.length_drop, List.length_take]; rfl)) ?_; (refine (HFC.out _ (by repeat (first | (with_reducible first | exact HB.out | apply below_alloc | apply pw_below_drewN | apply below_drew1 | refine below_set ?_ GE101.out | refine below_set ?_ GE103.out) | exact HB.out)) _ _ _ _ _ _ _ _ A7.out).mono ?_); rintro e w15 ⟨rfl, hb⟩; refine ⟨_, rfl, ?_⟩; have n0_ := Aside0.mk (blk_below (g := gb101) (o := .cells #[.slice (some ad102) l0_0.length c0_0, .slice A0_1 l0_1.length c0_1, .slice A0_2 l0_2.length c0_2, .slice A0_3 l0_3.length c0_3, .slice A0_4 l0_4.length c0_4, .slice A0_5 l0_5.length c0_5, .slice A0_6 l0_6.length c0_6] 31 (0, 0)) (by (with_reducible repeat (first | refine blk_drewN ?_ _ | refine blk_drew ?_ | refine blk_alloc ?_ _)); refine blk_far ?_ NB101_103.out _; (with_reducible repeat (first | refine blk_drewN ?_ _ | refine blk_drew ?_ | refine blk_alloc ?_ _)); refine blk_far ?_ NB101_103.out _; (with_reducible repeat (first | refine blk_drewN ?_ _ | refine blk_drew ?_ | refine blk_alloc ?_ _)); refine blk_far ?_ NB101_103.out _; (with_reducible repeat (first | refine blk_drewN ?_ _ | refine blk_drew ?_ | refine blk_alloc ?_ _)); refine blk_far ?_ NB101_103.out _; (with_reducible repeat (first | refine blk_drewN ?_ _ | refine blk_drew ?_ | refine blk_alloc ?_ _)); refine blk_far ?_ NB101_103.out _; (with_reducible repeat (first | refine blk_drewN ?_ _ | refine blk_drew ?_ | refine blk_alloc ?_ _)); refine blk_far ?_ NB101_103.out _; (with_reducible repeat (first | refine blk_drewN ?_ _ | refine blk_drew ?_ | refine blk_alloc ?_ _)); refine blk_far ?_ NB101_103.out _; (with_reducible repeat (first | refine blk_drewN ?_ _ | refine blk_drew ?_ | refine blk_alloc ?_ _)); exact BK101.out) hb); have n1_ := Aside0.mk (blk_below (g := gb103) (o := .cells #[.int .i64 ((rd_T26 l0_0 x11_1).f0), .int .i64 ((rd_T26 l0_0 x11_1).f1), .int .i64 ((rd_T26 l0_0 x11_1).f2), .int .i64 ((rd_T26 l0_0 x11_1).f3), .bool ((rd_T26 l0_0 x11_1).f4), .bool ((rd_T26 l0_0 x11_1).f5), .bool ((rd_T26 l0_0 x11_1).f6)] 26 (0, 0)) (by (with_reducible repeat (first | refine blk_drewN ?_ _ | refine blk_drew ?_ | refine blk_alloc ?_ _)); refine blk_put (cs := #[.int .i64 ((rd_T26 l0_0 x11_1).f0), .int .i64 ((rd_T26 l0_0 x11_1).f1), .int .i64 ((rd_T26 l0_0 x11_1).f2), .int .i64 ((rd_T26 l0_0 x11_1).f3), .bool ((rd_T26 l0_0 x11_1).f4), .bool ((rd_T26 l0_0 x11_1).f5), .bool false]) ?_ 6 _ rfl; (with_reducible repeat (first | refine blk_drewN ?_ _ | refine blk_drew ?_ | refine blk_alloc ?_ _)); refine blk_put (cs := #[.int .i64 ((rd_T26 l0_0 x11_1).f0), .int .i64 ((rd_T26 l0_0 x11_1).f1), .int .i64 ((rd_T26 l0_0 x11_1).f2), .int .i64 ((rd_T26 l0_0 x11_1).f3), .bool ((rd_T26 l0_0 x11_1).f4), .bool false, .bool false]) ?_ 5 _ rfl; (with_reducible repeat (first | refine blk_drewN ?_ _ | refine blk_drew ?_ | refine blk_alloc ?_ _)); refine blk_put (cs := #[.int .i64 ((rd_T26 l0_0 x11_1).f0), .int .i64 ((rd_T26 l0_0 x11_1).f1), .int .i64 ((rd_T26 l0_0 x11_1).f2), .int .i64 ((rd_T26 l0_0 x11_1).f3), .bool false, .bool false, .bool false]) ?_ 4 _ rfl; (with_reducible repeat (first | refine blk_drewN ?_ _ | refine blk_drew ?_ | refine blk_alloc ?_ _)); refine blk_put (cs := #[.int .i64 ((rd_T26 l0_0 x11_1).f0), .int .i64 ((rd_T26 l0_0 x11_1).f1), .int .i64 ((rd_T26 l0_0 x11_1).f2), .int .i64 0, .bool false, .bool false, .bool false]) ?_ 3 _ rfl; (with_reducible repeat (first | refine blk_drewN ?_ _ | refine blk_drew ?_ | refine blk_alloc ?_ _)); refine blk_put (cs := #[.int .i64 ((rd_T26 l0_0 x11_1).f0), .int .i64 ((rd_T26 l0_0 x11_1).f1), .int .i64 0, .int .i64 0, .bool false, .bool false, .bool false]) ?_ 2 _ rfl; (with_reducible repeat (first | refine blk_drewN ?_ _ | refine blk_drew ?_ | refine blk_alloc ?_ _)); refine blk_put (cs := #[.int .i64 ((rd_T26 l0_0 x11_1).f0), .int .i64 0, .int .i64 0, .int .i64 0, .bool false, .bool false, .bool false]) ?_ 1 _ rfl; (with_reducible repeat (first | refine blk_drewN ?_ _ | refine blk_drew ?_ | refine blk_alloc ?_ _)); refine blk_put (cs := #[.int .i64 0, .int .i64 0, .int .i64 0, .int .i64 0, .bool false, .bool false, .bool false]) ?_ 0 _ rfl; (with_reducible repeat (first | refine blk_drewN ?_ _ | refine blk_drew ?_ | refine blk_alloc ?_ _)); exact BK103.out) hb); have n2_ := Aside0.mk (below_step (by repeat (first | (with_reducible first | exact HB.out | apply below_alloc | apply pw_below_drewN | apply below_drew1 | refine below_set ?_ GE101.out | refine below_set ?_ GE103.out) | exact HB.out)) hb); clear BK101; clear BK103; clear HB; have BK101 := n0_; have BK103 := n1_; have HB := n2_; clear n0_ n1_ n2_; (try clear hb); (try clear hi)))
                go_roundg k1
                case measure => have := HK1.out; omega
                case rel => exact ⟨(Go.bits .or .u32 x5_1 (ji11)), (wrap64 (x11_1 + 1)), (by first | rfl | (simp; done) | (simp only [← hji11] <;> (first | rfl | simp)) | (simp [*]; done)), rs9, H', ⟨by have := HK1.out; omega⟩, ⟨by (with_reducible repeat (first | refine blk_drewN ?_ _ | refine blk_drew ?_ | refine blk_alloc ?_ _)); exact BK101.out⟩, ⟨by repeat (first | (with_reducible first | exact HB.out | apply below_alloc | apply pw_below_drewN | apply below_drew1 | refine below_set ?_ GE101.out | refine below_set ?_ GE103.out) | exact HB.out)⟩⟩
              · rw [if_neg c10] at H
                exact absurd H (by simp)
            · replace c8 := Bool.eq_false_iff.mpr c8
              subst c8
              have H1 : (exec_Mask.l0 φ k1 x5_1 l0_0 (l0_0.length : Int) (wrap64 (x11_1 + 1))) = some r := by rw [if_neg (show ¬ (false = true) by decide)] at H; exact H
              clear H
              have H := H1
              clear H1
              have H' := Aside0.mk H
              clear H
              have p102 : 0 ≤ (x11_1 : Int) := of_decide_eq_true (by first | (with_reducible assumption) | assumption)
              have q102 : x11_1 < (l0_0.length : Int) := of_decide_eq_true (by first | (with_reducible assumption) | assumption)
              obtain ⟨ad102, e102, hx102_0, hx102_1, hx102_2, hx102_3, hx102_4, hx102_5, hx102_6⟩ := at_T26 HR0_0.out x11_1 p102 q102
              cases e102
              replace hx102_0 := hb9 HB.out hx102_0
              replace hx102_1 := hb9 HB.out hx102_1
              replace hx102_2 := hb9 HB.out hx102_2
              replace hx102_3 := hb9 HB.out hx102_3
              replace hx102_4 := hb9 HB.out hx102_4
              replace hx102_5 := hb9 HB.out hx102_5
              replace hx102_6 := hb9 HB.out hx102_6
              replace p102 := eq_true p102
              replace q102 := eq_true q102
              go_wp2_with (first | ((with_reducible refine gate_dst (N := 7) rfl ?_); refine box9 (N := 7) (cs := #[.int .i64 0, .int .i64 0, .int .i64 0, .int .i64 0, .bool false, .bool false, .bool false]) (t := 26) ?_; intro gb103 hg w16 hbox hb; have n0_ := Aside0.mk (blk_below (g := gb101) (o := .cells #[.slice (some ad102) l0_0.length c0_0, .slice A0_1 l0_1.length c0_1, .slice A0_2 l0_2.length c0_2, .slice A0_3 l0_3.length c0_3, .slice A0_4 l0_4.length c0_4, .slice A0_5 l0_5.length c0_5, .slice A0_6 l0_6.length c0_6] 31 (0, 0)) (by (with_reducible repeat (first | refine blk_drewN ?_ _ | refine blk_drew ?_ | refine blk_alloc ?_ _)); exact BK101.out) hb); have n1_ := Aside0.mk (below_step (by repeat (first | (with_reducible first | exact HB.out | apply below_alloc | apply pw_below_drewN | apply below_drew1 | refine below_set ?_ GE101.out) | exact HB.out)) hb); have n2_ := Aside0.mk (hbox); have n3_ := Aside0.mk ((by rw [hg]; exact (below_size (by repeat (first | (with_reducible first | exact HB.out | apply below_alloc | apply pw_below_drewN | apply below_drew1 | refine below_set ?_ GE101.out) | exact HB.out))) : w.heap.size ≤ gb103)); have n4_ := Aside0.mk ((by rw [hg]; exact (below_size (by repeat (first | (with_reducible first | exact HB.out | apply below_alloc | apply pw_below_drewN | apply below_drew1 | refine below_set ?_ GE101.out) | exact HB.out))) : w.heap.size ≤ gb103)); have n5_ := Aside0.mk ((by rw [hg]; exact Nat.ne_of_lt (blk_lt (g := gb101) (o := .cells #[.slice (some ad102) l0_0.length c0_0, .slice A0_1 l0_1.length c0_1, .slice A0_2 l0_2.length c0_2, .slice A0_3 l0_3.length c0_3, .slice A0_4 l0_4.length c0_4, .slice A0_5 l0_5.length c0_5, .slice A0_6 l0_6.length c0_6] 31 (0, 0)) (by (with_reducible repeat (first | refine blk_drewN ?_ _ | refine blk_drew ?_ | refine blk_alloc ?_ _)); exact BK101.out)) : gb101 ≠ gb103)); have n6_ := Aside0.mk ((by rw [hg]; exact Nat.ne_of_gt (blk_lt (g := gb101) (o := .cells #[.slice (some ad102) l0_0.length c0_0, .slice A0_1 l0_1.length c0_1, .slice A0_2 l0_2.length c0_2, .slice A0_3 l0_3.length c0_3, .slice A0_4 l0_4.length c0_4, .slice A0_5 l0_5.length c0_5, .slice A0_6 l0_6.length c0_6] 31 (0, 0)) (by (with_reducible repeat (first | refine blk_drewN ?_ _ | refine blk_drew ?_ | refine blk_alloc ?_ _)); exact BK101.out)) : gb103 ≠ gb101)); clear BK101; clear HB; have BK101 := n0_; have HB := n1_; have BK103 := n2_; have GW103 := n3_; have GE103 := n4_; have NB101_103 := n5_; have NB103_101 := n6_; clear n0_ n1_ n2_ n3_ n4_ n5_ n6_; clear hb hbox hg; have hnb17 := NB103_101.out; have hnc17 := NB101_103.out; have hcz18_0 : w16.cell? ⟨gb103, 0, none⟩ = some (.int .i64 0) := (blk_cell BK103.out 0).trans rfl; have hcz18_1 : w16.cell? ⟨gb103, 1, none⟩ = some (.int .i64 0) := (blk_cell BK103.out 1).trans rfl; have hcz18_2 : w16.cell? ⟨gb103, 2, none⟩ = some (.int .i64 0) := (blk_cell BK103.out 2).trans rfl; have hcz18_3 : w16.cell? ⟨gb103, 3, none⟩ = some (.int .i64 0) := (blk_cell BK103.out 3).trans rfl; have hcz18_4 : w16.cell? ⟨gb103, 4, none⟩ = some (.bool false) := (blk_cell BK103.out 4).trans rfl; have hcz18_5 : w16.cell? ⟨gb103, 5, none⟩ = some (.bool false) := (blk_cell BK103.out 5).trans rfl; have hcz18_6 : w16.cell? ⟨gb103, 6, none⟩ = some (.bool false) := (blk_cell BK103.out 6).trans rfl; have hfz18_0 := blk_frozen BK103.out 0; have hfz18_1 := blk_frozen BK103.out 1; have hfz18_2 := blk_frozen BK103.out 2; have hfz18_3 := blk_frozen BK103.out 3; have hfz18_4 := blk_frozen BK103.out 4; have hfz18_5 := blk_frozen BK103.out 5; have hfz18_6 := blk_frozen BK103.out 6) | ((with_reducible refine gate_dst (N := 18) rfl ?_); refine goesV_ (some 18) rfl rfl HFF.out HFN.out HFB.out #[.agg #[.int .i64 ((rd_T26 l0_0 x11_1).f0), .int .i64 ((rd_T26 l0_0 x11_1).f1), .int .i64 ((rd_T26 l0_0 x11_1).f2), .int .i64 ((rd_T26 l0_0 x11_1).f3), .bool ((rd_T26 l0_0 x11_1).f4), .bool ((rd_T26 l0_0 x11_1).f5), .bool ((rd_T26 l0_0 x11_1).f6)]] rfl (by first | rfl | (go_simp; rfl)) (by (try simp only [List.map_toArray, List.map_cons, List.map_nil]); first | done | rfl | (simp only [List.length_drop, List.length_take]; rfl)) ?_; (refine (HFC.out _ (by repeat (first | (with_reducible first | exact HB.out | apply below_alloc | apply pw_below_drewN | apply below_drew1 | refine below_set ?_ GE101.out | refine below_set ?_ GE103.out) | exact HB.out)) _ _ _ _ _ _ _ _ A7.out).mono ?_); rintro e w19 ⟨rfl, hb⟩; refine ⟨_, rfl, ?_⟩; have n0_ := Aside0.mk (blk_below (g := gb101) (o := .cells #[.slice (some ad102) l0_0.length c0_0, .slice A0_1 l0_1.length c0_1, .slice A0_2 l0_2.length c0_2, .slice A0_3 l0_3.length c0_3, .slice A0_4 l0_4.length c0_4, .slice A0_5 l0_5.length c0_5, .slice A0_6 l0_6.length c0_6] 31 (0, 0)) (by (with_reducible repeat (first | refine blk_drewN ?_ _ | refine blk_drew ?_ | refine blk_alloc ?_ _)); refine blk_far ?_ NB101_103.out _; (with_reducible repeat (first | refine blk_drewN ?_ _ | refine blk_drew ?_ | refine blk_alloc ?_ _)); refine blk_far ?_ NB101_103.out _; (with_reducible repeat (first | refine blk_drewN ?_ _ | refine blk_drew ?_ | refine blk_alloc ?_ _)); refine blk_far ?_ NB101_103.out _; (with_reducible repeat (first | refine blk_drewN ?_ _ | refine blk_drew ?_ | refine blk_alloc ?_ _)); refine blk_far ?_ NB101_103.out _; (with_reducible repeat (first | refine blk_drewN ?_ _ | refine blk_drew ?_ | refine blk_alloc ?_ _)); refine blk_far ?_ NB101_103.out _; (with_reducible repeat (first | refine blk_drewN ?_ _ | refine blk_drew ?_ | refine blk_alloc ?_ _)); refine blk_far ?_ NB101_103.out _; (with_reducible repeat (first | refine blk_drewN ?_ _ | refine blk_drew ?_ | refine blk_alloc ?_ _)); refine blk_far ?_ NB101_103.out _; (with_reducible repeat (first | refine blk_drewN ?_ _ | refine blk_drew ?_ | refine blk_alloc ?_ _)); exact BK101.out) hb); have n1_ := Aside0.mk (blk_below (g := gb103) (o := .cells #[.int .i64 ((rd_T26 l0_0 x11_1).f0), .int .i64 ((rd_T26 l0_0 x11_1).f1), .int .i64 ((rd_T26 l0_0 x11_1).f2), .int .i64 ((rd_T26 l0_0 x11_1).f3), .bool ((rd_T26 l0_0 x11_1).f4), .bool ((rd_T26 l0_0 x11_1).f5), .bool ((rd_T26 l0_0 x11_1).f6)] 26 (0, 0)) (by (with_reducible repeat (first | refine blk_drewN ?_ _ | refine blk_drew ?_ | refine blk_alloc ?_ _)); refine blk_put (cs := #[.int .i64 ((rd_T26 l0_0 x11_1).f0), .int .i64 ((rd_T26 l0_0 x11_1).f1), .int .i64 ((rd_T26 l0_0 x11_1).f2), .int .i64 ((rd_T26 l0_0 x11_1).f3), .bool ((rd_T26 l0_0 x11_1).f4), .bool ((rd_T26 l0_0 x11_1).f5), .bool false]) ?_ 6 _ rfl; (with_reducible repeat (first | refine blk_drewN ?_ _ | refine blk_drew ?_ | refine blk_alloc ?_ _)); refine blk_put (cs := #[.int .i64 ((rd_T26 l0_0 x11_1).f0), .int .i64 ((rd_T26 l0_0 x11_1).f1), .int .i64 ((rd_T26 l0_0 x11_1).f2), .int .i64 ((rd_T26 l0_0 x11_1).f3), .bool ((rd_T26 l0_0 x11_1).f4), .bool false, .bool false]) ?_ 5 _ rfl; (with_reducible repeat (first | refine blk_drewN ?_ _ | refine blk_drew ?_ | refine blk_alloc ?_ _)); refine blk_put (cs := #[.int .i64 ((rd_T26 l0_0 x11_1).f0), .int .i64 ((rd_T26 l0_0 x11_1).f1), .int .i64 ((rd_T26 l0_0 x11_1).f2), .int .i64 ((rd_T26 l0_0 x11_1).f3), .bool false, .bool false, .bool false]) ?_ 4 _ rfl; (with_reducible repeat (first | refine blk_drewN ?_ _ | refine blk_drew ?_ | refine blk_alloc ?_ _)); refine blk_put (cs := #[.int .i64 ((rd_T26 l0_0 x11_1).f0), .int .i64 ((rd_T26 l0_0 x11_1).f1), .int .i64 ((rd_T26 l0_0 x11_1).f2), .int .i64 0, .bool false, .bool false, .bool false]) ?_ 3 _ rfl; (with_reducible repeat (first | refine blk_drewN ?_ _ | refine blk_drew ?_ | refine blk_alloc ?_ _)); refine blk_put (cs := #[.int .i64 ((rd_T26 l0_0 x11_1).f0), .int .i64 ((rd_T26 l0_0 x11_1).f1), .int .i64 0, .int .i64 0, .bool false, .bool false, .bool false]) ?_ 2 _ rfl; (with_reducible repeat (first | refine blk_drewN ?_ _ | refine blk_drew ?_ | refine blk_alloc ?_ _)); refine blk_put (cs := #[.int .i64 ((rd_T26 l0_0 x11_1).f0), .int .i64 0, .int .i64 0, .int .i64 0, .bool false, .bool false, .bool false]) ?_ 1 _ rfl; (with_reducible repeat (first | refine blk_drewN ?_ _ | refine blk_drew ?_ | refine blk_alloc ?_ _)); refine blk_put (cs := #[.int .i64 0, .int .i64 0, .int .i64 0, .int .i64 0, .bool false, .bool false, .bool false]) ?_ 0 _ rfl; (with_reducible repeat (first | refine blk_drewN ?_ _ | refine blk_drew ?_ | refine blk_alloc ?_ _)); exact BK103.out) hb); have n2_ := Aside0.mk (below_step (by repeat (first | (with_reducible first | exact HB.out | apply below_alloc | apply pw_below_drewN | apply below_drew1 | refine below_set ?_ GE101.out | refine below_set ?_ GE103.out) | exact HB.out)) hb); clear BK101; clear BK103; clear HB; have BK101 := n0_; have BK103 := n1_; have HB := n2_; clear n0_ n1_ n2_; (try clear hb); (try clear hi)))
              go_roundg k1
              case measure => have := HK1.out; omega
              case rel => exact ⟨(x5_1), (wrap64 (x11_1 + 1)), rs9, rs9, H', ⟨by have := HK1.out; omega⟩, ⟨by (with_reducible repeat (first | refine blk_drewN ?_ _ | refine blk_drew ?_ | refine blk_alloc ?_ _)); exact BK101.out⟩, ⟨by repeat (first | (with_reducible first | exact HB.out | apply below_alloc | apply pw_below_drewN | apply below_drew1 | refine below_set ?_ GE101.out | refine below_set ?_ GE103.out) | exact HB.out)⟩⟩
          · rw [if_neg c6] at H
            exact absurd H (by simp)
        · rw [if_neg c5] at H
          exact absurd H (by simp)
      · rw [if_neg c4] at H
        have c4b0 : decide (x11_1 < (l0_0.length : Int)) = false := decide_eq_false c4
        clear c4
        obtain rfl := Option.some.inj H
        go_wp2
        go_ret
        exact ⟨by first | rfl | (simp [errW_none, errW_some] <;> rfl) | (simp [*, errW_none, errW_some] <;> rfl), by repeat (first | (with_reducible first | exact HB.out | apply below_alloc | apply pw_below_drewN | apply below_drew1 | refine below_set ?_ GE101.out) | exact HB.out)⟩
def maskW (p : S26 → Bool) (l : List S26) : Int := word fun i => (l[i]?).any p
theorem mask_l0 (φ : Int → Int → Int → Int → Bool → Bool → Bool → Option Bool) (p : S26 → Bool) (hφ : ∀ y : S26, φ y.f0 y.f1 y.f2 y.f3 y.f4 y.f5 y.f6 = some (p y)) (l : List S26) (hl : l.length ≤ 9223372036854775807) : ∀ d i : Nat, i + d = l.length →
    Ev (fun k => exec_Mask.l0 φ k (word fun j => decide (j < i) && (l[j]?).any p) l (l.length : Int) (i : Int)) (maskW p l) := by
  intro d
  induction d with
  | zero =>
    intro i hi
    refine Ev.step (fun k => by rw [exec_Mask.l0]) ?_
    refine Ev.neg (by omega) ?_
    have e : (word fun j => decide (j < i) && (l[j]?).any p) = maskW p l := by
      unfold maskW
      congr 1
      funext j
      by_cases h : j < i
      · simp [h]
      · rw [List.getElem?_eq_none (by omega)]; simp
    rw [e]
    exact Ev.now _
  | succ d ih =>
    intro i hi
    have hlt : i < l.length := by omega
    have e26 : rd_T26 l (i : Int) = l[i] := by simp [rd_T26, List.getD_eq_getElem?_getD, List.getElem?_eq_getElem hlt]
    refine Ev.step (fun k => by rw [exec_Mask.l0]) ?_
    refine Ev.pos (by omega) (Ev.pos (by omega) (Ev.pos (by omega) ?_))
    rw [e26, wrap_u64_nat i (by omega), wrap64_succ i (by omega)]
    refine Ev.bindv (hφ _) ?_
    have h := ih (i + 1) (by omega)
    by_cases hb : p l[i] = true
    · refine Ev.pos hb (Ev.pos (by omega) ?_)
      have e : Go.bits .or .u32 (word fun j => decide (j < i) && (l[j]?).any p) (shl .u32 1 (i : Int)) = word fun j => decide (j < i + 1) && (l[j]?).any p := by
        apply u32_ext (bits_u32 _ _ _) (word_u32 _)
        intro k hk
        rw [tb_or, tb_word, tb_word, tb_shl_one]
        by_cases hki : k = i
        · subst hki; rw [List.getElem?_eq_getElem hlt]; simp [hk, hb]
        · by_cases hlt' : k < i
          · simp [hk, hki, hlt', show k < i + 1 by omega]
          · simp [hk, hki, hlt', show ¬ k < i + 1 by omega]
      rw [e]
      exact h
    · refine Ev.neg hb ?_
      have e : (word fun j => decide (j < i) && (l[j]?).any p) = word fun j => decide (j < i + 1) && (l[j]?).any p := by
        congr 1
        funext k
        by_cases hki : k = i
        · subst hki; rw [List.getElem?_eq_getElem hlt]; simp [hb]
        · by_cases hlt' : k < i
          · simp [hlt', show k < i + 1 by omega]
          · simp [hlt', show ¬ k < i + 1 by omega]
      rw [e]
      exact h
theorem mask_ev (φ : Int → Int → Int → Int → Bool → Bool → Bool → Option Bool) (p : S26 → Bool) (hφ : ∀ y : S26, φ y.f0 y.f1 y.f2 y.f3 y.f4 y.f5 y.f6 = some (p y)) (l : List S26) (hl : l.length ≤ 9223372036854775807) (n1 n2 n3 n4 n5 : List Int) (n6 : List (List Int)) : Ev (fun k => exec_Mask.f φ k l n1 n2 n3 n4 n5 n6) (maskW p l) := by
  unfold exec_Mask.f
  have h := mask_l0 φ p hφ l hl l.length 0 (by omega)
  have e : (word fun j => decide (j < 0) && (l[j]?).any p) = 0 := by
    apply u32_ext (word_u32 _) ⟨by decide, by decide⟩
    intro k hk
    rw [tb_word, tb_zero]; simp
  rw [e] at h
  exact h
theorem idx_loop (l : List Int) (hl : l.length ≤ 9223372036854775807) (x : Int) : ∀ d i : Nat, i + d = l.length → ∃ j : Int, (0 ≤ j ↔ x ∈ l.drop i) ∧ Ev (fun k => slices_Index_int_int.l0 k l x (l.length : Int) (i : Int)) j := by
  intro d
  induction d with
  | zero =>
    intro i hi
    refine ⟨-1, by rw [List.drop_of_length_le (by omega)]; simp, Ev.step (fun k => by rw [slices_Index_int_int.l0]) (Ev.neg (by omega) (Ev.now _))⟩
  | succ d ih =>
    intro i hi
    have hlt : i < l.length := by omega
    have e : rd l (i : Int) = l[i] := by simp [rd, List.getD_eq_getElem?_getD, List.getElem?_eq_getElem hlt]
    rw [List.drop_eq_getElem_cons hlt]
    by_cases hx : x = l[i]
    · refine ⟨i, ⟨fun _ => by rw [hx]; exact List.mem_cons_self .., fun _ => by omega⟩, Ev.step (fun k => by rw [slices_Index_int_int.l0]) (Ev.pos (by omega) (Ev.pos (by omega) (Ev.pos (by omega) (Ev.pos (by rw [e]; exact hx) (Ev.now _)))))⟩
    · obtain ⟨j, h1, h2⟩ := ih (i + 1) (by omega)
      refine ⟨j, by rw [List.mem_cons, h1]; simp [hx], Ev.step (fun k => by rw [slices_Index_int_int.l0]) (Ev.pos (by omega) (Ev.pos (by omega) (Ev.pos (by omega) (Ev.neg (by rw [e]; exact hx) ?_))))⟩
      rw [wrap64_succ i (by omega)]
      exact h2
theorem has_in (l : List Int) (hl : l.length ≤ 9223372036854775807) (x : Int) : Ev (fun k => slices_Contains_int_int.f k l x) (decide (x ∈ l)) := by
  unfold slices_Contains_int_int.f slices_Index_int_int.f
  obtain ⟨j, h1, h2⟩ := idx_loop l hl x l.length 0 (by omega)
  rw [List.drop_zero] at h1
  refine Ev.bind h2 ?_
  have e : decide (j ≥ 0) = decide (x ∈ l) := by rw [decide_eq_decide]; exact h1
  rw [e]
  exact Ev.now _
def isK (l : List Int) (y : S26) : Bool := decide (y.f1 ∈ l)
def exec_Kinds.f (l0_0 : List (S26)) (l0_1 : List Int) (l0_2 : List Int) (l0_3 : List Int) (l0_4 : List Int) (l0_5 : List Int) (l0_6 : List (List Int)) (l1 : List Int) : Option (Int) := some (maskW (isK l1) l0_0)
theorem exec_Kinds.calls (A0_0 : Option Addr) (c0_0 : Nat) (l0_0 : List (S26)) (A0_1 : Option Addr) (c0_1 : Nat) (l0_1 : List Int) (A0_2 : Option Addr) (c0_2 : Nat) (l0_2 : List Int) (A0_3 : Option Addr) (c0_3 : Nat) (l0_3 : List Int) (A0_4 : Option Addr) (c0_4 : Nat) (l0_4 : List Int) (A0_5 : Option Addr) (c0_5 : Nat) (l0_5 : List Int) (A0_6 : Option Addr) (c0_6 : Nat) (l0_6 : List (List Int)) (A1 : Option Addr) (c1 : Nat) (l1 : List Int) (r : Int) (w : World) (hr0_0 : Kd.C k26 w A0_0 l0_0.length l0_0) (hc0_0 : l0_0.length ≤ c0_0) (hr0_1 : Kd.C (Kd.int .u32) w A0_1 l0_1.length l0_1) (hc0_1 : l0_1.length ≤ c0_1) (hr0_2 : Kd.C (Kd.int .u32) w A0_2 l0_2.length l0_2) (hc0_2 : l0_2.length ≤ c0_2) (hr0_3 : Kd.C (Kd.int .u32) w A0_3 l0_3.length l0_3) (hc0_3 : l0_3.length ≤ c0_3) (hr0_4 : Kd.C (Kd.int .u32) w A0_4 l0_4.length l0_4) (hc0_4 : l0_4.length ≤ c0_4) (hr0_5 : Kd.C (Kd.int .u32) w A0_5 l0_5.length l0_5) (hc0_5 : l0_5.length ≤ c0_5) (hr0_6 : Kd.C (Kd.slice 2 (Kd.int .i64)) w A0_6 l0_6.length l0_6) (hc0_6 : l0_6.length ≤ c0_6) (hr1 : Kd.C (Kd.int .i64) w A1 l1.length l1) (hc1 : l1.length ≤ c1) (h : exec_Kinds.f l0_0 l0_1 l0_2 l0_3 l0_4 l0_5 l0_6 l1 = some r) :
    Calls Try.prog 74 #[.agg #[.slice A0_0 l0_0.length c0_0, .slice A0_1 l0_1.length c0_1, .slice A0_2 l0_2.length c0_2, .slice A0_3 l0_3.length c0_3, .slice A0_4 l0_4.length c0_4, .slice A0_5 l0_5.length c0_5, .slice A0_6 l0_6.length c0_6], .slice A1 l1.length c1] w fun e w' => e = .returned (.int .u32 r) ∧ Below w.heap.size w w' := by
  have hu31 := Try.underlying31
  have hu26 := Try.underlying26
  obtain ⟨k, hk⟩ := (mask_ev (fun _ a1 _ _ _ _ _ => some (decide (a1 ∈ l1))) (isK l1) (fun y => rfl) l0_0 hr0_0.2.1 l0_1 l0_2 l0_3 l0_4 l0_5 l0_6).rounds
  obtain rfl := Option.some.inj h
  clear h
  have HF0 : ∀ (a0 a1 a2 a3 : Int) (a4 a5 a6 : Bool) (q : Bool), (fun (_ a1 _ _ : Int) (_ _ _ : Bool) => some (decide (a1 ∈ l1))) a0 a1 a2 a3 a4 a5 a6 = some q → ∃ n, exec_Kinds_1.f n a0 a1 a2 a3 a4 a5 a6 l1 = some q := by
    intro a0 a1 a2 a3 a4 a5 a6 q hq
    obtain rfl := Option.some.inj hq
    have h9 : Ev (fun n => exec_Kinds_1.f n a0 a1 a2 a3 a4 a5 a6 l1) (decide (a1 ∈ l1)) := by
      unfold exec_Kinds_1.f
      exact Ev.bind (has_in l1 hr1.2.1 a1) (Ev.now _)
    exact h9.rounds
  generalize (fun (_ a1 _ _ : Int) (_ _ _ : Bool) => some (decide (a1 ∈ l1))) = φ at *
  have HF1 := Aside0.mk HF0
  have HK := Aside0.mk hk
  have HR1 := Aside0.mk hr1
  have HC1 := Aside0.mk hc1
  clear hk HF0 hr1 hc1
  have HR0_0 := Aside0.mk hr0_0
  have HC0_0 := Aside0.mk hc0_0
  clear hr0_0 hc0_0
  have HR0_1 := Aside0.mk hr0_1
  have HC0_1 := Aside0.mk hc0_1
  clear hr0_1 hc0_1
  have HR0_2 := Aside0.mk hr0_2
  have HC0_2 := Aside0.mk hc0_2
  clear hr0_2 hc0_2
  have HR0_3 := Aside0.mk hr0_3
  have HC0_3 := Aside0.mk hc0_3
  clear hr0_3 hc0_3
  have HR0_4 := Aside0.mk hr0_4
  have HC0_4 := Aside0.mk hc0_4
  clear hr0_4 hc0_4
  have HR0_5 := Aside0.mk hr0_5
  have HC0_5 := Aside0.mk hc0_5
  clear hr0_5 hc0_5
  have HR0_6 := Aside0.mk hr0_6
  have HC0_6 := Aside0.mk hc0_6
  clear hr0_6 hc0_6
  go_enter Try.func74, Try.ntmps74
  go_wp2_with (first
    | ((with_reducible refine gate_dst (N := 2) rfl ?_); refine box9 (N := 2) (cs := #[.slice A0_0 l0_0.length c0_0, .slice A0_1 l0_1.length c0_1, .slice A0_2 l0_2.length c0_2, .slice A0_3 l0_3.length c0_3, .slice A0_4 l0_4.length c0_4, .slice A0_5 l0_5.length c0_5, .slice A0_6 l0_6.length c0_6]) (t := 31) ?_; intro gb1 hg w1 hboxgb1 hb1; have HGgb1 := Aside0.mk hg; clear hg; skip)
    | ((with_reducible refine gate_dst (N := 3) rfl ?_); refine box9 (N := 3) (cs := #[.slice A1 l1.length c1]) (t := 33) ?_; intro gb2 hg w2 hboxgb2 hb2; have HGgb2 := Aside0.mk hg; clear hg; have hboxgb1' := blk_below hboxgb1 hb2; have HK2 := Aside0.mk ((blk_cell hboxgb2 0).trans (rfl : _ = some (Value.slice A1 l1.length c1))); have hcz0 := (blk_cell hboxgb1' 0).trans rfl; have hfz0 := blk_frozen hboxgb1' 0; have hcz1 := (blk_cell hboxgb1' 1).trans rfl; have hfz1 := blk_frozen hboxgb1' 1; have hcz2 := (blk_cell hboxgb1' 2).trans rfl; have hfz2 := blk_frozen hboxgb1' 2; have hcz3 := (blk_cell hboxgb1' 3).trans rfl; have hfz3 := blk_frozen hboxgb1' 3; have hcz4 := (blk_cell hboxgb1' 4).trans rfl; have hfz4 := blk_frozen hboxgb1' 4; have hcz5 := (blk_cell hboxgb1' 5).trans rfl; have hfz5 := blk_frozen hboxgb1' 5; have hcz6 := (blk_cell hboxgb1' 6).trans rfl; have hfz6 := blk_frozen hboxgb1' 6)
    | (go_at_call 128
       have hb12 := below_step hb1 hb2
       refine (exec_Mask.calls φ 129 Try.f129 Try.func129 (by kernel_rfl) rfl #[.pointer (some ⟨gb2, 0, none⟩)] k _ _ l0_0 _ _ l0_1 _ _ l0_2 _ _ l0_3 _ _ l0_4 _ _ l0_5 _ _ l0_6 _ _ (Kd.C_below HR0_0.out hb12) HC0_0.out (Kd.C_below HR0_1.out hb12) HC0_1.out (Kd.C_below HR0_2.out hb12) HC0_2.out (Kd.C_below HR0_3.out hb12) HC0_3.out (Kd.C_below HR0_4.out hb12) HC0_4.out (Kd.C_below HR0_5.out hb12) HC0_5.out (Kd.C_below HR0_6.out hb12) HC0_6.out (fun w9 hb9 a0 a1 a2 a3 a4 a5 a6 q hq => by
         obtain ⟨n, hn⟩ := HF1.out a0 a1 a2 a3 a4 a5 a6 q hq
         exact exec_Kinds_1.calls n a0 a1 a2 a3 a4 a5 a6 gb2 A1 c1 l1 q w9 (pw_cell_below hb9 HK2.out) (Kd.C_below (Kd.C_below HR1.out hb12) hb9) HC1.out hn) HK.out).mono ?_
       rintro e w3 ⟨rfl, hb3⟩))
  go_ret
  exact ⟨rfl, below_step hb12 hb3⟩
end Go.Proofs.Ytbamkkdikeedoaa.G
