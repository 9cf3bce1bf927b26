-- Written by drive.py, a program of this seat's session, out of the translation.
import Derived.Test.YtbamkkdikeedoaaG0
import Derived.Test.YtbamkkdikeedoaaGCupolaref01
import Derived.Test.YtbamkkdikeedoaaGCupolaref05
import Derived.Test.YtbamkkdikeedoaaHandCz
namespace Go.Proofs.Ytbamkkdikeedoaa.G
open Go.RowKit Go.Proofs.YtbamkkdikeedoaaW.PrintWords Go.Proofs.YtbamkkdikeedoaaW.PrintLast Go.Proofs.YtbamkkdikeedoaaW.PrintMore
attribute [local go_sem] max2_int min2_int max_two min_two max_three min_three max_four min_four   -- for this text's walks alone
set_option linter.unusedVariables false
set_option linter.unusedSimpArgs false

/-! ### cupolaref06_First: function 102 -/
mutual
def cupolaref06_First.l0 : Nat → List Int → Int → List Int → Option (List Int × Bool)
 | 0, _, _, _ => none
 | k + 1, x0, x4, x5 => if (x5.length : Int) < x4 then (cupolaref06_First.l1 k x0 x4 x5 (-1) (wrap64 (x4 - 1))) else (some (x5, true))
def cupolaref06_First.l1 : Nat → List Int → Int → List Int → Int → Int → Option (List Int × Bool)
 | 0, _, _, _, _, _ => none
 | k + 1, x0, x4, x5, x6, x7 => if x7 ≥ 0 then ((cupolaref01_In.f k x5 x7).bind fun t102 => (cupolaref06_First.l2 k x0 x4 x5 x6 x7 (!t102) 0)) else (if x6 < 0 then (some (([] : List Int), false)) else (if x5.length < 17592186044416 then (cupolaref06_First.l0 k x0 x4 (x5 ++ [x6])) else (none)))
def cupolaref06_First.l2 : Nat → List Int → Int → List Int → Int → Int → Bool → Int → Option (List Int × Bool)
 | 0, _, _, _, _, _, _, _ => none
 | k + 1, x0, x4, x5, x6, x7, x8, x9 => if x9 < x4 then (if x8 = true then ((cupolaref01_In.f k x5 x9).bind fun t103 => (if t103 = true then (cupolaref06_First.l2 k x0 x4 x5 x6 x7 true (wrap64 (x9 + 1))) else ((cupolaref05_Has.f k x0 x9 x7).bind fun t104 => (cupolaref06_First.l2 k x0 x4 x5 x6 x7 (!t104) (wrap64 (x9 + 1)))))) else (cupolaref06_First.l2 k x0 x4 x5 x6 x7 false (wrap64 (x9 + 1)))) else (if x8 = true then (cupolaref06_First.l1 k x0 x4 x5 x7 (wrap64 (x7 - 1))) else (cupolaref06_First.l1 k x0 x4 x5 x6 (wrap64 (x7 - 1))))
end
def cupolaref06_First.f (k : Nat) (l0 : List Int) : Option (List Int × Bool) := (cupolaref05_Size.f l0).bind fun t101 => (cupolaref06_First.l0 k l0 t101 ([] : List Int))
set_option maxHeartbeats 8000000 in
set_option maxRecDepth 100000 in
theorem cupolaref06_First.calls (k : Nat) (A0 : Option Addr) (c0 : Nat) (l0 : List Int) (r1 : List Int) (r2 : Bool) (w : World) (hr0 : Kd.C (Kd.int .u32) w A0 l0.length l0) (hc0 : l0.length ≤ c0) (h : cupolaref06_First.f k l0 = some (r1, r2)) :
  Calls Try.prog 102 #[.slice A0 l0.length c0] w fun e w' => ∃ v0_ : Value, e = .returned (.tuple #[v0_, .bool r2]) ∧ Kd.R (Kd.int .i64) 3 w' w.heap.size (fun _ => True) v0_ r1 ∧ Below w.heap.size w w' := by
 have HR0 := Aside0.mk hr0
 have HC0 := Aside0.mk hc0
 clear hr0 hc0
 have HB := Aside0.mk (Below.refl w.heap.size w)
 have H : ((cupolaref05_Size.f l0).bind fun t101 => (cupolaref06_First.l0 k l0 t101 ([] : List Int))) = some (r1, r2) := h
 clear h
 replace H := Option.bind_eq_some_iff.mp H
 obtain ⟨t101, A20, H⟩ := H
 replace H : (cupolaref06_First.l0 k l0 t101 ([] : List Int)) = some (r1, r2) := H
 have A2 := Aside0.mk A20
 clear A20
 have H' := Aside0.mk H
 clear H
 go_enter Try.func102, Try.ntmps102
 go_wp2_with (first | ((with_reducible refine gate_callee (f := 116) rfl ?_); refine goesL9 (some 11) rfl rfl Try.func116 (by kernel_rfl) rfl #[.slice A0 l0.length c0] rfl ?_; (with_reducible refine (cupolaref05_Size.calls _ _ l0 t101 _ ?side1 ?side2 A2.out).mono ?_); (case side1 => repeat (first | exact HR0.out | (with_reducible refine Kd.C_alloc ?_ _) | (with_reducible refine Kd.C_drewN ?_ _) | (with_reducible refine Kd.C_drew ?_))); (case side2 => exact HC0.out); rintro e w' ⟨rfl, ⟨nd, rfl⟩⟩; refine ⟨_, rfl, ?_⟩))
 go_loopg [5] k (fun kq v5 w' => ∃ (x5_1 : List Int), Aside0 (cupolaref06_First.l0 kq l0 t101 x5_1 = some (r1, r2)) ∧ Aside0 (kq ≤ k) ∧ Aside0 (Kd.R (Kd.int .i64) 3 w' w.heap.size (fun _ => True) v5 x5_1) ∧ Aside0 (Below w.heap.size w w'))
 case atStart => exact ⟨(([] : List Int)), H', ⟨Nat.le_refl _⟩, ⟨by first | exact Kd.R_nil _ _ _ _ _ | exact Kd.N_nil _ _ _ _ _ | exact Kd.V_nil _ _ _ _ _ | exact Kd.Q_nil _ _ _ _ _ | exact Kd.S_nil _ _ _ _ _⟩, ⟨bp9 HB.out⟩⟩
 case round =>
  clear H'
  try clear c1
  try clear p2
  obtain ⟨x5_1, HA, HK1, HO_5, HB⟩ := hrel
  cases gk with
  | zero => exact absurd HA.out (by simp [cupolaref06_First.l0])
  | succ k1 =>
   have H := HA.out
   clear HA
   simp only [cupolaref06_First.l0] at H
   by_cases c3 : (x5_1.length : Int) < t101
   ·rw [if_pos c3] at H
    have c3b0 : decide ((x5_1.length : Int) < t101) = true := decide_eq_true c3
    clear c3
    have H' := Aside0.mk H
    clear H
    obtain ⟨Ao4, co4, eo4⟩ := Kd.R_slice HO_5.out
    subst eo4
    go_wp2
    go_loopg [6, 7] k1 (fun kq v6 v7 w' => ∃ (x6_2 : Int) (x7_2 : Int), v6 = .int .i64 x6_2 ∧ v7 = .int .i64 x7_2 ∧ Aside0 (cupolaref06_First.l1 kq l0 t101 x5_1 x6_2 x7_2 = some (r1, r2)) ∧ Aside0 (kq ≤ k1) ∧ Aside0 (Kd.R (Kd.int .i64) 3 w' w.heap.size (fun _ => True) (.slice Ao4 x5_1.length co4) x5_1) ∧ Aside0 (Below w.heap.size w w'))
    case atStart => exact ⟨((-1)), (wrap64 (t101 - 1)), (by first | rfl | (simp; done) | (simp [*]; done)), (by first | rfl | (simp; done) | (simp [*]; done)), H', ⟨Nat.le_refl _⟩, ⟨rp9 HO_5.out⟩, ⟨bp9 HB.out⟩⟩
    case round =>
     clear H'
     try clear c1
     try clear p2
     try clear c3
     try clear c3b0
     try clear p2
     obtain ⟨x6_2, x7_2, rfl, rfl, HA, HK2, HO_5, HB⟩ := hrel
     cases gk with
     | zero => exact absurd HA.out (by simp [cupolaref06_First.l1])
     | succ k2 =>
      have H := HA.out
      clear HA
      simp only [cupolaref06_First.l1] at H
      by_cases c5 : x7_2 ≥ 0
      ·rw [if_pos c5] at H
       have c5b0 : decide (0 ≤ x7_2) = true := decide_eq_true c5
       clear c5
       replace H := Option.bind_eq_some_iff.mp H
       obtain ⟨t102, A60, H⟩ := H
       replace H : (cupolaref06_First.l2 k2 l0 t101 x5_1 x6_2 x7_2 (!t102) 0) = some (r1, r2) := H
       have A6 := Aside0.mk A60
       clear A60
       have H' := Aside0.mk H
       clear H
       go_wp2_with (first | ((with_reducible refine gate_callee (f := 100) rfl ?_); refine goesL9 (some 24) rfl rfl Try.func100 (by kernel_rfl) rfl #[.slice Ao4 x5_1.length co4, .int .i64 x7_2] rfl ?_; (with_reducible refine (cupolaref01_In.calls k2 _ _ x5_1 x7_2 t102 _ ?side1 ?side2 A6.out).mono ?_); (case side1 => exact lp9 (Kd.R_reads' HO_5.out).2.2); (case side2 => exact (Kd.R_reads' HO_5.out).2.1); rintro e w' ⟨rfl, ⟨nd, rfl⟩⟩; refine ⟨_, rfl, ?_⟩))
       go_loopg [8, 9] k2 (fun kq v8 v9 w' => ∃ (x8_3 : Bool) (x9_3 : Int), v8 = .bool x8_3 ∧ v9 = .int .i64 x9_3 ∧ Aside0 (cupolaref06_First.l2 kq l0 t101 x5_1 x6_2 x7_2 x8_3 x9_3 = some (r1, r2)) ∧ Aside0 (kq ≤ k2) ∧ Aside0 (Kd.R (Kd.int .i64) 3 w' w.heap.size (fun _ => True) (.slice Ao4 x5_1.length co4) x5_1) ∧ Aside0 (Below w.heap.size w w'))
       case atStart => exact ⟨(!t102), (0), (by first | rfl | (simp; done) | (simp [*]; done)), (by first | rfl | (simp; done) | (simp [*]; done)), H', ⟨Nat.le_refl _⟩, ⟨rp9 HO_5.out⟩, ⟨bp9 HB.out⟩⟩
       case round =>
        clear H'
        try clear c1
        try clear p2
        try clear c3
        try clear c3b0
        try clear c5
        try clear c5b0
        try clear p6
        try clear p2
        obtain ⟨x8_3, x9_3, rfl, rfl, HA, HK3, HO_5, HB⟩ := hrel
        cases gk with
        | zero => exact absurd HA.out (by simp [cupolaref06_First.l2])
        | succ k3 =>
         have H := HA.out
         clear HA
         simp only [cupolaref06_First.l2] at H
         by_cases c7 : x9_3 < t101
         ·rw [if_pos c7] at H
          have c7b0 : decide (x9_3 < t101) = true := decide_eq_true c7
          clear c7
          by_cases c8 : x8_3 = true
          ·subst c8
           rw [if_pos rfl] at H
           replace H := Option.bind_eq_some_iff.mp H
           obtain ⟨t103, A90, H⟩ := H
           replace H : (if t103 = true then (cupolaref06_First.l2 k3 l0 t101 x5_1 x6_2 x7_2 true (wrap64 (x9_3 + 1))) else ((cupolaref05_Has.f k3 l0 x9_3 x7_2).bind fun t104 => (cupolaref06_First.l2 k3 l0 t101 x5_1 x6_2 x7_2 (!t104) (wrap64 (x9_3 + 1))))) = some (r1, r2) := H
           have A9 := Aside0.mk A90
           clear A90
           by_cases c10 : t103 = true
           ·subst c10
            rw [if_pos rfl] at H
            have H' := Aside0.mk H
            clear H
            go_wp2_with (first | (go_at_call 100; (with_reducible refine (cupolaref01_In.calls k3 _ _ x5_1 x9_3 true _ ?side1 ?side2 A9.out).mono ?_); (case side1 => exact lp9 (Kd.R_reads' HO_5.out).2.2); (case side2 => exact (Kd.R_reads' HO_5.out).2.1); rintro e w' ⟨rfl, ⟨nd, rfl⟩⟩))
            go_roundg k3
            case measure => have := HK1.out; have := HK2.out; have := HK3.out; omega
            case rel => exact ⟨(true), (wrap64 (x9_3 + 1)), (by first | rfl | (simp; done) | (simp [*]; done)), (by first | rfl | (simp; done) | (simp [*]; done)), H', ⟨by have := HK1.out; have := HK2.out; have := HK3.out; omega⟩, ⟨rp9 HO_5.out⟩, ⟨bp9 HB.out⟩⟩
           ·replace c10 := Bool.eq_false_iff.mpr c10
            subst c10
            rw [if_neg (show ¬ (false = true) by decide)] at H
            replace H := Option.bind_eq_some_iff.mp H
            obtain ⟨t104, A110, H⟩ := H
            replace H : (cupolaref06_First.l2 k3 l0 t101 x5_1 x6_2 x7_2 (!t104) (wrap64 (x9_3 + 1))) = some (r1, r2) := H
            have A11 := Aside0.mk A110
            clear A110
            have H' := Aside0.mk H
            clear H
            go_wp2_with (first | (go_at_call 100; (with_reducible refine (cupolaref01_In.calls k3 _ _ x5_1 x9_3 false _ ?side1 ?side2 A9.out).mono ?_); (case side1 => exact lp9 (Kd.R_reads' HO_5.out).2.2); (case side2 => exact (Kd.R_reads' HO_5.out).2.1); rintro e w' ⟨rfl, ⟨nd, rfl⟩⟩) | (go_at_call 43; (with_reducible refine (cupolaref05_Has.calls k3 _ _ l0 x9_3 x7_2 t104 _ ?side1 ?side2 A11.out).mono ?_); (case side1 => repeat (first | exact (Kd.C_below HR0.out (bp9 HB.out)) | (with_reducible refine Kd.C_alloc ?_ _) | (with_reducible refine Kd.C_drewN ?_ _) | (with_reducible refine Kd.C_drew ?_))); (case side2 => exact HC0.out); rintro e w' ⟨rfl, ⟨nd, rfl⟩⟩))
            go_roundg k3
            case measure => have := HK1.out; have := HK2.out; have := HK3.out; omega
            case rel => exact ⟨(!t104), (wrap64 (x9_3 + 1)), (by first | rfl | (simp; done) | (simp [*]; done)), (by first | rfl | (simp; done) | (simp [*]; done)), H', ⟨by have := HK1.out; have := HK2.out; have := HK3.out; omega⟩, ⟨rp9 HO_5.out⟩, ⟨bp9 HB.out⟩⟩
          ·replace c8 := Bool.eq_false_iff.mpr c8
           subst c8
           rw [if_neg (show ¬ (false = true) by decide)] at H
           have H' := Aside0.mk H
           clear H
           go_wp2
           go_roundg k3
           case measure => have := HK1.out; have := HK2.out; have := HK3.out; omega
           case rel => exact ⟨(false), (wrap64 (x9_3 + 1)), (by first | rfl | (simp; done) | (simp [*]; done)), (by first | rfl | (simp; done) | (simp [*]; done)), H', ⟨by have := HK1.out; have := HK2.out; have := HK3.out; omega⟩, ⟨rp9 HO_5.out⟩, ⟨bp9 HB.out⟩⟩
         ·rw [if_neg c7] at H
          have c7b0 : decide (x9_3 < t101) = false := decide_eq_false c7
          clear c7
          by_cases c12 : x8_3 = true
          ·subst c12
           rw [if_pos rfl] at H
           have H' := Aside0.mk H
           clear H
           go_wp2
           go_roundg k3
           case measure => have := HK1.out; have := HK2.out; have := HK3.out; omega
           case rel => exact ⟨(x7_2), (wrap64 (x7_2 - 1)), (by first | rfl | (simp; done) | (simp [*]; done)), (by first | rfl | (simp; done) | (simp [*]; done)), H', ⟨by have := HK1.out; have := HK2.out; have := HK3.out; omega⟩, ⟨rp9 HO_5.out⟩, ⟨bp9 HB.out⟩⟩
          ·replace c12 := Bool.eq_false_iff.mpr c12
           subst c12
           rw [if_neg (show ¬ (false = true) by decide)] at H
           have H' := Aside0.mk H
           clear H
           go_wp2
           go_roundg k3
           case measure => have := HK1.out; have := HK2.out; have := HK3.out; omega
           case rel => exact ⟨(x6_2), (wrap64 (x7_2 - 1)), (by first | rfl | (simp; done) | (simp [*]; done)), (by first | rfl | (simp; done) | (simp [*]; done)), H', ⟨by have := HK1.out; have := HK2.out; have := HK3.out; omega⟩, ⟨rp9 HO_5.out⟩, ⟨bp9 HB.out⟩⟩
      ·rw [if_neg c5] at H
       have c5b0 : decide (0 ≤ x7_2) = false := decide_eq_false c5
       clear c5
       by_cases c13 : x6_2 < 0
       ·rw [if_pos c13] at H
        have c13b0 : decide (x6_2 < 0) = true := decide_eq_true c13
        clear c13
        simp only [Option.some.injEq, Prod.mk.injEq] at H
        obtain ⟨rfl, rfl⟩ := H
        go_wp2
        go_ret2
        exact ⟨_, by first | rfl | (simp [errW_none, errW_some] <;> rfl) | (simp [*, errW_none, errW_some] <;> rfl), by first | exact Kd.R_nil _ _ _ _ _ | exact Kd.N_nil _ _ _ _ _ | exact Kd.V_nil _ _ _ _ _ | exact Kd.Q_nil _ _ _ _ _ | exact Kd.S_nil _ _ _ _ _, bp9 HB.out⟩
       ·rw [if_neg c13] at H
        have c13b0 : decide (x6_2 < 0) = false := decide_eq_false c13
        clear c13
        by_cases c14 : x5_1.length < 17592186044416
        ·rw [if_pos c14] at H
         have LMc14 := Aside0.mk c14
         clear c14
         obtain ⟨y105, hy105⟩ : ∃ y_ : List Int, y_ = (x5_1 ++ [x6_2]) := ⟨_, rfl⟩
         replace H : (cupolaref06_First.l0 k2 l0 t101 y105) = some (r1, r2) := by first | (rw [hy105]; with_reducible exact H) | (have H2_ := (Option.bind_some _ _).symm.trans H; rw [hy105]; with_reducible exact H2_) | (have H2_ := (Option.bind_some _ _).symm.trans H; with_reducible exact H2_) | with_reducible exact H | (rw [hy105]; exact H) | exact H
         have Ny105 := Aside0.mk hy105
         clear hy105
         have H' := Aside0.mk H
         clear H
         go_wp2_with (first | ((with_reducible refine gate_builtin (b := .append) (xs := #[.tmp 48, .tmp 50]) rfl ?_); at_builtin; refine Kd.R_append (Kd.int .i64) (w0 := w) w.heap.size rfl (.tmp 48) (.tmp 50) 33 3 (.int .i64 0) 8 rfl Try.underlying33 info3 rfl (by decide) (by omega) (.slice Ao4 x5_1.length co4) x5_1 x6_2 [.int .i64 x6_2] (fun _ => True) (fun _ => False) rfl rfl ?aP (fun _ hk => hk.elim) ?aF ?aO ?aB ?aS ?aL ?_; (case aP => exact rfl); (case aB => exact (bp9 HB.out)); (case aF => exact (fun _ _ => trivial)); (case aO => exact (rp9 HO_5.out)); (case aS => exact (below_size (bp9 HB.out))); (case aL => have := LMc14.out; omega); intro v106 w15 ho hb hg hat; rw [← Ny105.out] at ho; have n0_ := Aside0.mk (hb); have n1_ := Aside0.mk (ho); clear HB; clear HO_5; have HB := n0_; have HO107 := n1_; clear n0_ n1_; clear ho hb hg hat))
         go_roundg k2
         case measure => have := HK1.out; have := HK2.out; omega
         case rel => exact ⟨(y105), H', ⟨by have := HK1.out; have := HK2.out; omega⟩, ⟨rp9 HO107.out⟩, ⟨bp9 HB.out⟩⟩
        ·rw [if_neg c14] at H
         exact absurd H (by simp)
   ·rw [if_neg c3] at H
    have c3b0 : decide ((x5_1.length : Int) < t101) = false := decide_eq_false c3
    clear c3
    simp only [Option.some.injEq, Prod.mk.injEq] at H
    obtain ⟨rfl, rfl⟩ := H
    obtain ⟨Ao16, co16, eo16⟩ := Kd.R_slice HO_5.out
    subst eo16
    go_wp2
    go_ret2
    exact ⟨_, by first | rfl | (simp [errW_none, errW_some] <;> rfl) | (simp [*, errW_none, errW_some] <;> rfl), by (with_reducible repeat (first | apply Kd.R_alloc | apply Kd.R_drewN | apply Kd.R_drew)); exact HO_5.out, bp9 HB.out⟩

/-! ### cupolaref06_All: function 103 -/
mutual
def cupolaref06_All.l0 : Nat → List Int → List (List Int) → Int → Option ((List (List Int)))
 | 0, _, _, _ => none
 | k + 1, x0, x3, x4 => if x4 < (x0.length : Int) then ((some (([] : List Int) : List Int)).bind fun y104 => (if 0 ≤ x4 then (if x4 ≤ (x0.length : Int) then (if y104.length + (x0.take (x4 : Int).toNat).length < 17592186044416 then ((some (y104 ++ (x0.take (x4 : Int).toNat) : List Int)).bind fun y108 => (if 0 ≤ (wrap64 (x4 + 1)) then (if (wrap64 (x4 + 1)) ≤ (x0.length : Int) then (if y108.length + (x0.drop ((wrap64 (x4 + 1)) : Int).toNat).length < 17592186044416 then ((cupolaref06_All.f k (y108 ++ (x0.drop ((wrap64 (x4 + 1)) : Int).toNat))).bind fun t115 => (cupolaref06_All.l1 k x0 x3 x4 t115 0)) else (none)) else (none)) else (none))) else (none)) else (none)) else (none))) else (some x3)
def cupolaref06_All.l1 : Nat → List Int → List (List Int) → Int → List (List Int) → Int → Option ((List (List Int)))
 | 0, _, _, _, _, _ => none
 | k + 1, x0, x3, x4, x5, x6 => if x6 < (x5.length : Int) then (if 0 ≤ x4 then (if x4 < (x0.length : Int) then ((some (([rd x0 x4] : List Int) : List Int)).bind fun y119 => (if 0 ≤ x6 then (if y119.length + (rd_L4 x5 x6).length < 17592186044416 then (if x3.length < 5864062014805 then (cupolaref06_All.l1 k x0 (x3 ++ [(y119 ++ (rd_L4 x5 x6))]) x4 x5 (wrap64 (x6 + 1))) else (none)) else (none)) else (none))) else (none)) else (none)) else (cupolaref06_All.l0 k x0 x3 (wrap64 (x4 + 1)))
def cupolaref06_All.f : Nat → List Int → Option ((List (List Int)))
 | 0, _ => none
 | k + 1, l0 => if (l0.length : Int) > 6 then (some ([] : List (List Int))) else (if (l0.length : Int) = 0 then (some (([[]] : List (List Int)))) else (cupolaref06_All.l0 k l0 ([] : List (List Int)) 0))
end
def cupolaref06_All.T9 : Bool × List (List Nat × List Nat) := (true, [([], []), ([], []), ([], []), ([1, 2], [1, 2]), ([0, 3], [0, 3]), ([], []), ([], []), ([6], [6]), ([5, 7], [5, 7]), ([4, 8, 4], [4, 8]), ([9, 9], [9]), ([10, 10, 0, 1, 2, 3, 4, 5, 6, 7, 8, 9, 10], [10])])
def cupolaref06_All.B9 : List Nat := [0, 0, 0, 6, 15, 0, 0, 64, 224, 511, 1023, 2047]
theorem cupolaref06_All.tab9 : rtab .any (opsOf Try.f103 9) = cupolaref06_All.T9 := by kernel_rfl
theorem cupolaref06_All.bits9 : waitsOk cupolaref06_All.T9.2 cupolaref06_All.B9 = true := by kernel_rfl
def cupolaref06_All.T13 : Bool × List (List Nat × List Nat) := (true, [([], []), ([], []), ([], []), ([1, 2], [1, 2]), ([3], [3]), ([4], [4]), ([], []), ([], []), ([6, 7], [6, 7]), ([8], [8]), ([5, 9], [5, 9]), ([10], [10]), ([0, 11, 10], [0, 11]), ([12, 12, 0, 1, 2, 3, 4, 5, 6, 7, 8, 9, 10, 11, 12], [0, 12])])
def cupolaref06_All.B13 : List Nat := [0, 0, 0, 6, 14, 30, 0, 0, 192, 448, 1022, 2046, 4095, 8191]
theorem cupolaref06_All.tab13 : rtab .any (opsOf Try.f103 13) = cupolaref06_All.T13 := by kernel_rfl
theorem cupolaref06_All.bits13 : waitsOk cupolaref06_All.T13.2 cupolaref06_All.B13 = true := by kernel_rfl
set_option maxHeartbeats 8000000 in
set_option maxRecDepth 100000 in
theorem cupolaref06_All.calls (k : Nat) : ∀ (A0 : Option Addr) (c0 : Nat) (l0 : List Int) (r : List (List Int)) (w : World) (hr0 : Kd.C (Kd.int .i64) w A0 l0.length l0) (hc0 : l0.length ≤ c0) (h : cupolaref06_All.f k l0 = some r),
  Calls Try.prog 103 #[.slice A0 l0.length c0] w fun e w' => ∃ v0_ : Value, e = .returned (v0_) ∧ Kd.S (Kd.slice 3 (Kd.int .i64)) 33 w' w.heap.size (fun _ => True) v0_ r ∧ Below w.heap.size w w' := by
 induction k using Nat.strongRecOn with
 | _ k ih =>
 intro A0 c0 l0 r w hr0 hc0 h
 cases k with
 | zero => exact absurd h (by simp [cupolaref06_All.f])
 | succ k =>
 simp only [cupolaref06_All.f] at h
 have HR0 := Aside0.mk hr0
 have HC0 := Aside0.mk hc0
 clear hr0 hc0
 have HB := Aside0.mk (Below.refl w.heap.size w)
 have H : (if (l0.length : Int) > 6 then (some ([] : List (List Int))) else (if (l0.length : Int) = 0 then (some (([[]] : List (List Int)))) else (cupolaref06_All.l0 k l0 ([] : List (List Int)) 0))) = some r := h
 clear h
 by_cases c2 : (l0.length : Int) > 6
 ·rw [if_pos c2] at H
  have c2b0 : decide (6 < (l0.length : Int)) = true := decide_eq_true c2
  have c2b1 : decide (6 < l0.length) = true := decide_eq_true (by omega)
  clear c2
  obtain rfl := Option.some.inj H
  go_enter Try.func103, Try.ntmps103
  go_wp2
  go_ret
  exact ⟨_, by first | rfl | (simp [errW_none, errW_some] <;> rfl) | (simp [*, errW_none, errW_some] <;> rfl), by first | exact Kd.S_nil _ _ _ _ _ | exact Kd.N_nil _ _ _ _ _ | exact Kd.V_nil _ _ _ _ _ | exact Kd.Q_nil _ _ _ _ _ | exact Kd.R_nil _ _ _ _ _, bp9 HB.out⟩
 ·rw [if_neg c2] at H
  have c2b0 : decide (6 < (l0.length : Int)) = false := decide_eq_false c2
  have c2b1 : decide (6 < l0.length) = false := decide_eq_false (by omega)
  clear c2
  by_cases c3 : (l0.length : Int) = 0
  ·rw [if_pos c3] at H
   have c3b0 : ((l0.length : Int) == 0) = true := beq_iff_eq.mpr c3
   have c3b1 : ((l0.length : Int) != 0) = false := bne_eq_false_iff_eq.mpr c3
   clear c3
   obtain ⟨y101, hy101⟩ : ∃ y_ : List (List Int), y_ = (([[]] : List (List Int))) := ⟨_, rfl⟩
   replace H : (some y101) = some r := by first | (rw [hy101]; with_reducible exact H) | (have H2_ := (Option.bind_some _ _).symm.trans H; rw [hy101]; with_reducible exact H2_) | (have H2_ := (Option.bind_some _ _).symm.trans H; with_reducible exact H2_) | with_reducible exact H | (rw [hy101]; exact H) | exact H
   have Ny101 := Aside0.mk hy101
   clear hy101
   obtain rfl := Option.some.inj H
   go_enter Try.func103, Try.ntmps103
   go_wp2_with (first | ((with_reducible refine gate_dst (N := 13) rfl ?_); refine Kd.S_lit (Kd.slice 3 (Kd.int .i64)) _ 33 ?hg (N := 13) ?hd (xs := ([[]] : List (List Int))) (inner := [.slice none 0 0]) (ok := fun _ => True) (okp := fun _ => True) ?hr ?hp (fun _ hk => hk) trivial (Below.refl _ _) (Nat.le_refl _) (by simp) ?_; (case hd => rfl); (case hg => rfl); (case hr => first | (go_simp; done) | (go_simp; rfl)); (case hp => exact (Reps.one (show Kd.M (Kd.slice 3 (Kd.int .i64)) _ _ _ [] [.slice none 0 0] from ⟨_, rfl, Kd.R_nil _ _ _ _ _⟩) (Reps.none _ _))); intro v102 w4 ho5 hb hg_ hnew_; clear hg_ hnew_; (first | rw [← Ny101.out] at ho5 | (simp only [Int.reduceToNat] at ho5; rw [← Ny101.out] at ho5)); have n0_ := Aside0.mk (Kd.S_lower ho5 (below_size (bp9 HB.out))); have n1_ := Aside0.mk (below_step (bp9 HB.out) hb); clear HB; have HO103 := n0_; have HB := n1_; clear n0_ n1_; clear hb ho5))
   go_ret
   exact ⟨_, by first | rfl | (simp [errW_none, errW_some] <;> rfl) | (simp [*, errW_none, errW_some] <;> rfl), by (with_reducible repeat (first | apply Kd.S_alloc | apply Kd.S_drewN | apply Kd.S_drew)); exact HO103.out, bp9 HB.out⟩
  ·rw [if_neg c3] at H
   have c3b0 : ((l0.length : Int) == 0) = false := beq_eq_false_iff_ne.mpr c3
   have c3b1 : ((l0.length : Int) != 0) = true := bne_iff_ne.mpr c3
   have c3b2 : ¬ (l0 = []) := fun h_ => c3 (by rw [h_]; rfl)
   have H' := Aside0.mk H
   clear H
   go_enter Try.func103, Try.ntmps103
   go_wp2
   go_loopg [3, 4] k (fun kq v3 v4 w' => ∃ (x3_1 : List (List Int)) (x4_1 : Int), v4 = .int .i64 x4_1 ∧ Aside0 (cupolaref06_All.l0 kq l0 x3_1 x4_1 = some r) ∧ Aside0 (kq ≤ k) ∧ Aside0 (Kd.S (Kd.slice 3 (Kd.int .i64)) 33 w' w.heap.size (fun _ => True) v3 x3_1) ∧ Aside0 (Below w.heap.size w w'))
   case atStart => exact ⟨(([] : List (List Int))), (0), (by first | rfl | (simp; done) | (simp [*]; done)), H', ⟨Nat.le_refl _⟩, ⟨by first | exact Kd.S_nil _ _ _ _ _ | exact Kd.N_nil _ _ _ _ _ | exact Kd.V_nil _ _ _ _ _ | exact Kd.Q_nil _ _ _ _ _ | exact Kd.R_nil _ _ _ _ _⟩, ⟨bp9 HB.out⟩⟩
   case round =>
    clear H'
    try clear c1
    try clear c2
    try clear c2b0
    try clear c2b1
    try clear p2
    try clear c3
    try clear c3b0
    try clear c3b1
    try clear c3b2
    obtain ⟨x3_1, x4_1, rfl, HA, HK1, HO_3, HB⟩ := hrel
    cases gk with
    | zero => exact absurd HA.out (by simp [cupolaref06_All.l0])
    | succ k1 =>
     have H := HA.out
     clear HA
     simp only [cupolaref06_All.l0] at H
     by_cases c6 : x4_1 < (l0.length : Int)
     ·rw [if_pos c6] at H
      have c6b0 : decide (x4_1 < (l0.length : Int)) = true := decide_eq_true c6
      clear c6
      obtain ⟨y104, hy104⟩ : ∃ y_ : List Int, y_ = (([] : List Int)) := ⟨_, rfl⟩
      replace H : (if 0 ≤ x4_1 then (if x4_1 ≤ (l0.length : Int) then (if y104.length + (l0.take (x4_1 : Int).toNat).length < 17592186044416 then ((some (y104 ++ (l0.take (x4_1 : Int).toNat) : List Int)).bind fun y108 => (if 0 ≤ (wrap64 (x4_1 + 1)) then (if (wrap64 (x4_1 + 1)) ≤ (l0.length : Int) then (if y108.length + (l0.drop ((wrap64 (x4_1 + 1)) : Int).toNat).length < 17592186044416 then ((cupolaref06_All.f k1 (y108 ++ (l0.drop ((wrap64 (x4_1 + 1)) : Int).toNat))).bind fun t115 => (cupolaref06_All.l1 k1 l0 x3_1 x4_1 t115 0)) else (none)) else (none)) else (none))) else (none)) else (none)) else (none)) = some r := by first | (rw [hy104]; with_reducible exact H) | (have H2_ := (Option.bind_some _ _).symm.trans H; rw [hy104]; with_reducible exact H2_) | (have H2_ := (Option.bind_some _ _).symm.trans H; with_reducible exact H2_) | with_reducible exact H | (rw [hy104]; exact H) | exact H
      have Ny104 := Aside0.mk hy104
      clear hy104
      by_cases c7 : 0 ≤ x4_1
      ·rw [if_pos c7] at H
       have c7b0 := eq_true c7
       have c7b1 : decide (0 ≤ x4_1) = true := decide_eq_true c7
       clear c7
       by_cases c8 : x4_1 ≤ (l0.length : Int)
       ·rw [if_pos c8] at H
        have c8b0 := eq_true c8
        have c8b1 : decide (x4_1 ≤ (l0.length : Int)) = true := decide_eq_true c8
        clear c8
        by_cases c9 : y104.length + (l0.take (x4_1 : Int).toNat).length < 17592186044416
        ·rw [if_pos c9] at H
         have LMc9 := Aside0.mk c9
         clear c9
         obtain ⟨y108, hy108⟩ : ∃ y_ : List Int, y_ = (y104 ++ (l0.take (x4_1 : Int).toNat)) := ⟨_, rfl⟩
         replace H : (if 0 ≤ (wrap64 (x4_1 + 1)) then (if (wrap64 (x4_1 + 1)) ≤ (l0.length : Int) then (if y108.length + (l0.drop ((wrap64 (x4_1 + 1)) : Int).toNat).length < 17592186044416 then ((cupolaref06_All.f k1 (y108 ++ (l0.drop ((wrap64 (x4_1 + 1)) : Int).toNat))).bind fun t115 => (cupolaref06_All.l1 k1 l0 x3_1 x4_1 t115 0)) else (none)) else (none)) else (none)) = some r := by first | (rw [hy108]; with_reducible exact H) | (have H2_ := (Option.bind_some _ _).symm.trans H; rw [hy108]; with_reducible exact H2_) | (have H2_ := (Option.bind_some _ _).symm.trans H; with_reducible exact H2_) | with_reducible exact H | (rw [hy108]; exact H) | exact H
         have Ny108 := Aside0.mk hy108
         clear hy108
         obtain ⟨ji10, hji10⟩ : ∃ j_ : Int, (wrap64 (x4_1 + 1)) = j_ := ⟨_, rfl⟩
         replace H : (if 0 ≤ (ji10) then (if (ji10) ≤ (l0.length : Int) then (if y108.length + (l0.drop ((ji10) : Int).toNat).length < 17592186044416 then ((cupolaref06_All.f k1 (y108 ++ (l0.drop ((ji10) : Int).toNat))).bind fun t115 => (cupolaref06_All.l1 k1 l0 x3_1 x4_1 t115 0)) else (none)) else (none)) else (none)) = some r := by first | (rw [hji10] at H; exact H) | (simp only [hji10] at H ⊢; exact H)
         have hji10w : (IntKind.i64.wrap (x4_1 + 1)) = ji10 := (i64_w _).trans hji10
         by_cases c11 : 0 ≤ (ji10)
         ·rw [if_pos c11] at H
          have c11b0 := eq_true c11
          have c11b1 : decide (0 ≤ (ji10)) = true := decide_eq_true c11
          clear c11
          by_cases c12 : (ji10) ≤ (l0.length : Int)
          ·rw [if_pos c12] at H
           have c12b0 := eq_true c12
           have c12b1 : decide ((ji10) ≤ (l0.length : Int)) = true := decide_eq_true c12
           clear c12
           by_cases c13 : y108.length + (l0.drop ((ji10) : Int).toNat).length < 17592186044416
           ·rw [if_pos c13] at H
            have LMc13 := Aside0.mk c13
            clear c13
            obtain ⟨y112, hy112⟩ : ∃ y_ : List Int, y_ = (y108 ++ (l0.drop ((ji10) : Int).toNat)) := ⟨_, rfl⟩
            replace H : ((cupolaref06_All.f k1 y112).bind fun t115 => (cupolaref06_All.l1 k1 l0 x3_1 x4_1 t115 0)) = some r := by first | (rw [hy112]; with_reducible exact H) | (have H2_ := (Option.bind_some _ _).symm.trans H; rw [hy112]; with_reducible exact H2_) | (have H2_ := (Option.bind_some _ _).symm.trans H; with_reducible exact H2_) | with_reducible exact H | (rw [hy112]; exact H) | exact H
            have Ny112 := Aside0.mk hy112
            clear hy112
            replace H := Option.bind_eq_some_iff.mp H
            obtain ⟨t115, A140, H⟩ := H
            have A14 := Aside0.mk A140
            clear A140
            have H' := Aside0.mk H
            clear H
            try go_wp2
            have n0_ := Aside0.mk (Kd.S_drew HO_3.out)
            have n1_ := Aside0.mk (below_drew1 HB.out)
            clear HO_3 HB
            revert n0_ n1_; intro HO_3 HB
            obtain ⟨i016, hi016, _, hsz16, _⟩ := info_parts info3
            obtain ⟨hcut16, hA16, hC16⟩ := print_take_of (P := Try.prog) (Value.int .i64) 0 33 3 .i64 Try.underlying33 hi016 hsz16 A0 c0 l0 x4_1 (of_decide_eq_true (by first | (with_reducible assumption) | assumption)) (of_decide_eq_true (by first | (with_reducible assumption) | assumption)) HC0.out
            have HR107 := Aside0.mk (Kd.C_of_reads (h1 := fun _ => rfl) (hA16 _ (Kd.reads_of_C HR0.out)))
            have HC107 := Aside0.mk hC16
            clear hA16 hC16 hi016 hsz16
            obtain ⟨i017, hi017, _, hsz17, _⟩ := info_parts info3
            obtain ⟨A17, hcut17, hA17, hC17⟩ := print_drop_of (P := Try.prog) (Value.int .i64) 0 33 3 .i64 Try.underlying33 hi017 hsz17 A0 c0 l0 (ji10) (of_decide_eq_true (by first | (with_reducible assumption) | assumption)) (of_decide_eq_true (by first | (with_reducible assumption) | assumption)) HC0.out
            have HR111 := Aside0.mk (Kd.C_of_reads (h1 := fun _ => rfl) (hA17 _ (Kd.reads_of_C HR0.out)))
            have HC111 := Aside0.mk hC17
            clear hA17 hC17 hi017 hsz17
            refine start_ (n := 12) (S := fun w' => True) (ds := []) #[o9, o9, o9, o9, o9, o9, o9, o9, o9, o9, o9, o9] (by kernel_rfl) rfl rfl trivial (fun hHeld => ?_); refine with_tabW cupolaref06_All.tab9 cupolaref06_All.bits9 (fun HT_ HW_ => ?_)
            generalize wr.drew = w15 at HO_3 HB HR107 HR111 hHeld ⊢
            refine pure_ (i := 1) (N := some 21) (v := ?_) (a' := ?_) #[o9, i9, o9, o9, o9, o9, o9, o9, o9, o9, o9, o9] rfl rfl (any_of HT_.out (by kernel_rfl)) (fun _ _ _ h => h) (Or.inl ⟨by rfl, ?_⟩) ?_ ?_
            rotate_left
            ·intro w'
             go_simp
             with_reducible rfl
            rotate_left
            ·simp only [Act.put, List.setIfInBounds_toArray, List.set_cons_zero, List.set_cons_succ, i64_w, i32_w]
             rfl
            refine pure_ (i := 2) (N := some 22) (v := ?_) (a' := ?_) #[o9, i9, i9, o9, o9, o9, o9, o9, o9, o9, o9, o9] rfl rfl (any_of HT_.out (by kernel_rfl)) (fun _ _ _ h => h) (Or.inl ⟨by rfl, ?_⟩) ?_ ?_
            rotate_left
            ·intro w'
             go_simp
             with_reducible rfl
            rotate_left
            ·simp only [Act.put, List.setIfInBounds_toArray, List.set_cons_zero, List.set_cons_succ, i64_w, i32_w]
             rfl
            refine pure_ (i := 3) (N := some 23) (v := ?_) (a' := ?_) #[o9, i9, i9, i9, o9, o9, o9, o9, o9, o9, o9, o9] rfl rfl (any_of HT_.out (by kernel_rfl)) (fun _ _ _ h => h) (Or.inl ⟨by rfl, ?_⟩) ?_ ?_
            rotate_left
            ·intro w'
             go_simp
             with_reducible rfl
            rotate_left
            ·simp only [Act.put, List.setIfInBounds_toArray, List.set_cons_zero, List.set_cons_succ, i64_w, i32_w]
             rfl
            refine pure_ (i := 5) (N := some 25) (v := ?_) (a' := ?_) #[o9, i9, i9, i9, o9, i9, o9, o9, o9, o9, o9, o9] rfl rfl (any_of HT_.out (by kernel_rfl)) (fun _ _ _ h => h) (Or.inl ⟨by rfl, ?_⟩) ?_ ?_
            rotate_left
            ·intro w'
             go_simp
             with_reducible rfl
            rotate_left
            ·simp only [Act.put, List.setIfInBounds_toArray, List.set_cons_zero, List.set_cons_succ, i64_w, i32_w]
             rfl
            refine pure_ (i := 6) (N := some 26) (v := ?_) (a' := ?_) #[o9, i9, i9, i9, o9, i9, i9, o9, o9, o9, o9, o9] rfl rfl (any_of HT_.out (by kernel_rfl)) (fun _ _ _ h => h) (Or.inl ⟨by rfl, ?_⟩) ?_ ?_
            rotate_left
            ·intro w'
             go_simp
             with_reducible rfl
            rotate_left
            ·simp only [Act.put, List.setIfInBounds_toArray, List.set_cons_zero, List.set_cons_succ, i64_w, i32_w]
             rfl
            refine pure_ (i := 7) (N := some 27) (v := ?_) (a' := ?_) #[o9, i9, i9, i9, o9, i9, i9, i9, o9, o9, o9, o9] rfl rfl (any_of HT_.out (by kernel_rfl)) (fun _ _ _ h => h) (Or.inl ⟨by rfl, ?_⟩) ?_ ?_
            rotate_left
            ·intro w'
             go_simp
             with_reducible rfl
            rotate_left
            ·simp only [Act.put, List.setIfInBounds_toArray, List.set_cons_zero, List.set_cons_succ, i64_w, i32_w]
             rfl
            refine pure_ (i := 8) (N := some 28) (v := ?_) (a' := ?_) #[o9, i9, i9, i9, o9, i9, i9, i9, i9, o9, o9, o9] rfl rfl (any_of HT_.out (by kernel_rfl)) (fun _ _ _ h => h) (Or.inl ⟨by rfl, ?_⟩) ?_ ?_
            rotate_left
            ·intro w'
             go_simp
             with_reducible rfl
            rotate_left
            ·simp only [Act.put, List.setIfInBounds_toArray, List.set_cons_zero, List.set_cons_succ, i64_w, i32_w]
             rfl
            refine one_ (i := 0) (N := some 20) #[i9, i9, i9, i9, o9, i9, i9, i9, i9, o9, o9, o9] rfl rfl (one_of HT_.out (by kernel_rfl)) (by decide) (fun K hK => ?_)
            refine Kd.R_lit_step (Kd.int .i64) _ 3 ?hg (N := 20) ?hd (xs := ([] : List Int)) (inner := []) (ok := fun _ => True) (okp := fun _ => True) ?hr ?hp (fun _ hk => hk) trivial (Below.refl _ _) (Nat.le_refl _) (by simp) ?_; (case hd => rfl); (case hg => rfl); (case hr => first | (go_simp; done) | (go_simp; rfl)); (case hp => exact (Reps.none _ _))
            intro v105 w18 ho19 hb hg_ hnew_
            clear hg_ hnew_
            (first | rw [← Ny104.out] at ho19 | (simp only [Int.reduceToNat] at ho19; rw [← Ny104.out] at ho19))
            have n0_ := Aside0.mk (Kd.S_elder' (by (with_reducible repeat (first | apply Kd.S_alloc | apply Kd.S_drewN | apply Kd.S_drew)); exact HO_3.out) (Kd.R_base ho19) hb)
            have n1_ := Aside0.mk (Kd.R_lower ho19 (below_size (bp9 HB.out)))
            have n2_ := Aside0.mk (below_step (bp9 HB.out) hb)
            clear HO_3 HB
            revert n0_ n1_ n2_; intro HO_3 HO106 HB
            clear hb ho19
            refine hK.out _ _ trivial (fun hHeld => ?_)
            clear hK K
            refine norm_ (a' := ?_) ?_ ?_
            rotate_left
            ·show Act.put _ (some 20) _ = _
             simp only [Act.put, List.setIfInBounds_toArray, List.set_cons_zero, List.set_cons_succ, i64_w, i32_w]
             rfl
            refine one_ (i := 4) (N := some 24) #[i9, i9, i9, i9, i9, i9, i9, i9, i9, o9, o9, o9] rfl rfl (one_of HT_.out (by kernel_rfl)) (by decide) (fun K hK => ?_)
            refine Kd.R_append_rows_step (Kd.int .i64) (w0 := w) w.heap.size (by rfl) (.tmp 20) (.tmp 23) 33 3 (.int .i64 0) 8 rfl Try.underlying33 info3 rfl (by decide) (by omega) v105 y104 (l0.take (x4_1 : Int).toNat) _ _ _ (fun _ => True) (fun _ => False) rfl rfl ?aO ?aR (fun _ _ h => h) (fun _ h => h.elim) ?aF ?aB ?aS ?aL ?_
            (case aR => (have h9_ := HR107.out; rw [show (l0.take (x4_1 : Int).toNat).length = (x4_1 : Int).toNat from (by rw [List.length_take]; have h_ : (x4_1 : Int) ≤ (l0.length : Int) := of_decide_eq_true (by first | (with_reducible assumption) | assumption); omega)] at h9_; exact cp9 h9_ HB.out))
            (case aB => exact (bp9 HB.out))
            (case aF => exact (fun _ _ => trivial))
            (case aO => exact (rp9 HO106.out))
            (case aS => exact (below_size (bp9 HB.out)))
            (case aL => have := LMc9.out; have hlx_ := (show (l0.take (x4_1 : Int).toNat).length = x4_1.toNat from (by rw [List.length_take]; have h_ : (x4_1 : Int) ≤ (l0.length : Int) := of_decide_eq_true (by first | (with_reducible assumption) | assumption); omega)); omega)
            intro v109 w20 ho hb hg hat
            rw [← Ny108.out] at ho
            have n0_ := Aside0.mk (Kd.S_after (ok := (fun _ => True)) (by (with_reducible repeat (first | apply Kd.S_alloc | apply Kd.S_drewN | apply Kd.S_drew)); exact HO_3.out) hg hat)
            have n1_ := Aside0.mk (hb)
            have n2_ := Aside0.mk (ho)
            clear HO_3 HB HO106
            revert n0_ n1_ n2_; intro HO_3 HB HO110
            clear ho hb hg hat
            refine hK.out _ _ trivial (fun hHeld => ?_)
            clear hK K
            refine norm_ (a' := ?_) ?_ ?_
            rotate_left
            ·show Act.put _ (some 24) _ = _
             simp only [Act.put, List.setIfInBounds_toArray, List.set_cons_zero, List.set_cons_succ, i64_w, i32_w]
             rfl
            refine one_ (i := 9) (N := some 29) #[i9, i9, i9, i9, i9, i9, i9, i9, i9, i9, o9, o9] rfl rfl (one_of HT_.out (by kernel_rfl)) (by decide) (fun K hK => ?_)
            refine Kd.R_append_rows_step (Kd.int .i64) (w0 := w) w.heap.size (by rfl) (.tmp 24) (.tmp 28) 33 3 (.int .i64 0) 8 rfl Try.underlying33 info3 rfl (by decide) (by omega) v109 y108 (l0.drop ((ji10) : Int).toNat) _ _ _ (fun _ => True) (fun _ => False) rfl rfl ?aO ?aR (fun _ _ h => h) (fun _ h => h.elim) ?aF ?aB ?aS ?aL ?_
            (case aR => first | (rw [← show (l0.drop ((ji10) : Int).toNat).length = (l0.length - (ji10).toNat) from List.length_drop]; exact cp9 HR111.out HB.out) | (exact cp9 HR111.out HB.out))
            (case aB => exact (bp9 HB.out))
            (case aF => exact (fun _ _ => trivial))
            (case aO => exact (rp9 HO110.out))
            (case aS => exact (below_size (bp9 HB.out)))
            (case aL => have := LMc13.out; have hlx_ := (show (l0.drop ((ji10) : Int).toNat).length = (l0.length - (ji10).toNat) from List.length_drop); omega)
            intro v113 w21 ho hb hg hat
            rw [← Ny112.out] at ho
            have n0_ := Aside0.mk (Kd.S_after (ok := (fun _ => True)) (by (with_reducible repeat (first | apply Kd.S_alloc | apply Kd.S_drewN | apply Kd.S_drew)); exact HO_3.out) hg hat)
            have n1_ := Aside0.mk (hb)
            have n2_ := Aside0.mk (ho)
            clear HO_3 HB HO110
            revert n0_ n1_ n2_; intro HO_3 HB HO114
            clear ho hb hg hat
            obtain ⟨Ao22, co22, eo22⟩ := Kd.R_slice HO114.out
            (first | subst eo22 | (injection eo22 with f1_ f2_ f3_; have f4_ := f1_.symm; have f5_ := f3_.symm; clear f1_ f2_ f3_; subst f4_; subst f5_))
            refine hK.out _ _ trivial (fun hHeld => ?_)
            clear hK K
            refine norm_ (a' := ?_) ?_ ?_
            rotate_left
            ·show Act.put _ (some 29) _ = _
             simp only [Act.put, List.setIfInBounds_toArray, List.set_cons_zero, List.set_cons_succ, i64_w, i32_w]
             rfl
            refine one_ (i := 10) (N := some 30) #[i9, i9, i9, i9, i9, i9, i9, i9, i9, i9, i9, o9] rfl rfl (one_of HT_.out (by kernel_rfl)) (by decide) (fun K hK => ?_)
            refine goes9 Try.func103 (by kernel_rfl) rfl #[.slice Ao22 y112.length co22] (by rfl) rfl rfl ?_
            with_reducible refine (ih k1 (by have := HK1.out; omega) _ _ y112 t115 _ ?side1 ?side2 A14.out).mono ?_
            (case side1 => exact lp9 (Kd.R_reads' HO114.out).2.2)
            (case side2 => exact (Kd.R_reads' HO114.out).2.1)
            rintro e w23 ⟨v116, rfl, ho0, hb⟩
            refine ⟨_, rfl, ?_⟩
            have n0_ := Aside0.mk (Kd.S_elder' (by (with_reducible repeat (first | apply Kd.S_alloc | apply Kd.S_drewN | apply Kd.S_drew)); exact HO_3.out) (Kd.S_base ho0) hb)
            have n1_ := Aside0.mk (Kd.R_below (rp9 HO114.out) hb)
            have n2_ := Aside0.mk (Kd.S_lower (Kd.S_new' (Kd.S_new' ho0 (Kd.S_lt (by (with_reducible repeat (first | apply Kd.S_alloc | apply Kd.S_drewN | apply Kd.S_drew)); exact HO_3.out))) (Kd.R_lt (rp9 HO114.out))) (below_size (bp9 HB.out)))
            have n3_ := Aside0.mk (below_step (bp9 HB.out) hb)
            clear HO_3 HO114 HB
            revert n0_ n1_ n2_ n3_; intro HO_3 HO114 HO117 HB
            (try clear hb)
            (try clear hb2)
            (try clear hk)
            (try clear hi)
            (try clear ho0)
            refine hK.out _ _ trivial (fun hHeld => ?_)
            clear hK K
            refine norm_ (a' := ?_) ?_ ?_
            rotate_left
            ·show Act.put _ (some 30) _ = _
             simp only [Act.put, List.setIfInBounds_toArray, List.set_cons_zero, List.set_cons_succ, i64_w, i32_w]
             rfl
            refine pure_ (i := 11) (N := some 5) (v := ?_) (a' := ?_) #[i9, i9, i9, i9, i9, i9, i9, i9, i9, i9, i9, i9] rfl rfl (any_of HT_.out (by kernel_rfl)) (fun _ _ _ h => h) (Or.inl ⟨by rfl, ?_⟩) ?_ ?_
            rotate_left
            ·intro w'
             go_simp
             with_reducible rfl
            rotate_left
            ·simp only [Act.put, List.setIfInBounds_toArray, List.set_cons_zero, List.set_cons_succ, i64_w, i32_w]
             rfl
            refine done_ (done_of HT_.out (by kernel_rfl)) ?_
            try go_wp2
            go_loopg [3, 6] k1 (fun kq v3 v6 w' => ∃ (x3_2 : List (List Int)) (x6_2 : Int), v6 = .int .i64 x6_2 ∧ Aside0 (cupolaref06_All.l1 kq l0 x3_2 x4_1 t115 x6_2 = some r) ∧ Aside0 (kq ≤ k1) ∧ Aside0 (Kd.S (Kd.slice 3 (Kd.int .i64)) 33 w' w.heap.size (fun k_ => some k_ ≠ (v116 : Value).ownBlock) v3 x3_2) ∧ Aside0 (Kd.S (Kd.slice 3 (Kd.int .i64)) 33 w' w.heap.size (fun k_ => some k_ ≠ (v3 : Value).ownBlock) v116 t115) ∧ Aside0 (Below w.heap.size w w'))
            case atStart => exact ⟨(x3_1), (0), (by first | rfl | (simp; done) | (simp [*]; done)), H', ⟨Nat.le_refl _⟩, ⟨by (with_reducible repeat (first | apply Kd.S_alloc | apply Kd.S_drewN | apply Kd.S_drew)); exact Kd.S_mono HO_3.out (fun _ hk => hk.2)⟩, ⟨by (with_reducible repeat (first | apply Kd.S_alloc | apply Kd.S_drewN | apply Kd.S_drew)); exact Kd.S_mono HO117.out (fun _ hk => hk.1.2)⟩, ⟨bp9 HB.out⟩⟩
            case round =>
             clear H'
             try clear c1
             try clear c2
             try clear c2b0
             try clear c2b1
             try clear p2
             try clear c3
             try clear c3b0
             try clear c3b1
             try clear c3b2
             try clear c6
             try clear c6b0
             try clear p6
             try clear c7
             try clear c7b0
             try clear c7b1
             try clear c8
             try clear c8b0
             try clear c8b1
             try clear c9
             try clear c10
             try clear c11
             try clear c11b0
             try clear c11b1
             try clear c12
             try clear c12b0
             try clear c12b1
             try clear c13
             try clear p2
             obtain ⟨x3_2, x6_2, rfl, HA, HK2, HO_3, HO_5, HB⟩ := hrel
             cases gk with
             | zero => exact absurd HA.out (by simp [cupolaref06_All.l1])
             | succ k2 =>
              have H := HA.out
              clear HA
              simp only [cupolaref06_All.l1] at H
              by_cases c24 : x6_2 < (t115.length : Int)
              ·rw [if_pos c24] at H
               have c24b0 : decide (x6_2 < (t115.length : Int)) = true := decide_eq_true c24
               clear c24
               by_cases c25 : 0 ≤ x4_1
               ·rw [if_pos c25] at H
                have c25b0 : decide (0 ≤ x4_1) = true := decide_eq_true c25
                clear c25
                by_cases c26 : x4_1 < (l0.length : Int)
                ·rw [if_pos c26] at H
                 have c26b0 : decide (x4_1 < (l0.length : Int)) = true := decide_eq_true c26
                 clear c26
                 obtain ⟨y119, hy119⟩ : ∃ y_ : List Int, y_ = (([rd l0 x4_1] : List Int)) := ⟨_, rfl⟩
                 replace H : (if 0 ≤ x6_2 then (if y119.length + (rd_L4 t115 x6_2).length < 17592186044416 then (if x3_2.length < 5864062014805 then (cupolaref06_All.l1 k2 l0 (x3_2 ++ [(y119 ++ (rd_L4 t115 x6_2))]) x4_1 t115 (wrap64 (x6_2 + 1))) else (none)) else (none)) else (none)) = some r := by first | (rw [hy119]; with_reducible exact H) | (have H2_ := (Option.bind_some _ _).symm.trans H; rw [hy119]; with_reducible exact H2_) | (have H2_ := (Option.bind_some _ _).symm.trans H; with_reducible exact H2_) | with_reducible exact H | (rw [hy119]; exact H) | exact H
                 have Ny119 := Aside0.mk hy119
                 clear hy119
                 by_cases c27 : 0 ≤ x6_2
                 ·rw [if_pos c27] at H
                  have c27b0 : decide (0 ≤ x6_2) = true := decide_eq_true c27
                  clear c27
                  by_cases c28 : y119.length + (rd_L4 t115 x6_2).length < 17592186044416
                  ·rw [if_pos c28] at H
                   have LMc28 := Aside0.mk c28
                   clear c28
                   obtain ⟨y123, hy123⟩ : ∃ y_ : List Int, y_ = (y119 ++ (rd_L4 t115 x6_2)) := ⟨_, rfl⟩
                   replace H : (if x3_2.length < 5864062014805 then (cupolaref06_All.l1 k2 l0 (x3_2 ++ [y123]) x4_1 t115 (wrap64 (x6_2 + 1))) else (none)) = some r := by first | (rw [hy123]; with_reducible exact H) | (have H2_ := (Option.bind_some _ _).symm.trans H; rw [hy123]; with_reducible exact H2_) | (have H2_ := (Option.bind_some _ _).symm.trans H; with_reducible exact H2_) | with_reducible exact H | (rw [hy123]; exact H) | exact H
                   have Ny123 := Aside0.mk hy123
                   clear hy123
                   by_cases c29 : x3_2.length < 5864062014805
                   ·rw [if_pos c29] at H
                    have LMc29 := Aside0.mk c29
                    clear c29
                    obtain ⟨y126, hy126⟩ : ∃ y_ : List (List Int), y_ = (x3_2 ++ [y123]) := ⟨_, rfl⟩
                    replace H : (cupolaref06_All.l1 k2 l0 y126 x4_1 t115 (wrap64 (x6_2 + 1))) = some r := by first | (rw [hy126]; with_reducible exact H) | (have H2_ := (Option.bind_some _ _).symm.trans H; rw [hy126]; with_reducible exact H2_) | (have H2_ := (Option.bind_some _ _).symm.trans H; with_reducible exact H2_) | with_reducible exact H | (rw [hy126]; exact H) | exact H
                    have Ny126 := Aside0.mk hy126
                    clear hy126
                    have H' := Aside0.mk H
                    clear H
                    obtain ⟨Ao30, co30, eo30⟩ := Kd.S_slice HO_5.out
                    subst eo30
                    try go_wp2
                    have n0_ := Aside0.mk (Kd.S_drew HO_3.out)
                    have n1_ := Aside0.mk (Kd.S_drew HO_5.out)
                    have n2_ := Aside0.mk (below_drew1 HB.out)
                    clear HO_3 HO_5 HB
                    revert n0_ n1_ n2_; intro HO_3 HO_5 HB
                    have p118 : 0 ≤ (x4_1 : Int) := of_decide_eq_true (by first | (with_reducible assumption) | assumption)
                    have q118 : x4_1 < (l0.length : Int) := of_decide_eq_true (by first | (with_reducible assumption) | assumption)
                    obtain ⟨ad118, e118, hx118_0⟩ := Kd.at_int HR0.out x4_1 p118 q118
                    have hw118_0 := hx118_0
                    cases e118
                    replace hx118_0 := (HB.out.cell (World.block_lt_of_cell? w _ hx118_0)).trans hx118_0
                    replace p118 := eq_true p118
                    replace q118 := eq_true q118
                    have p122 : 0 ≤ (x6_2 : Int) := of_decide_eq_true (by first | (with_reducible assumption) | assumption)
                    have q122 : x6_2 < (t115.length : Int) := of_decide_eq_true (by first | (with_reducible assumption) | assumption)
                    obtain ⟨ad122, A122_0, c122_0, e122, hx122_0, hl122_0, hi122_0⟩ := at_L4 (Kd.S_reads' HO_5.out).2.2 x6_2 p122 q122
                    cases e122
                    obtain ⟨ce122, hce122, hMe122, hcc122⟩ := Kd.S_get HO_5.out [] x6_2 p122 (by first | exact q122 | exact of_decide_eq_true (by first | (with_reducible assumption) | assumption) | (have e_ := (Kd.S_reads' HO_5.out).1; omega))
                    obtain ⟨ve122_0, rfl, ge122_0⟩ := hMe122
                    have hv122_0 := hcc122 0 _ rfl
                    rw [Nat.add_zero, show ((Kd.slice 3 (Kd.int .i64))).sz = 1 from rfl, Nat.mul_one] at hv122_0
                    replace hv122_0 := Option.some.inj (hv122_0.symm.trans hx122_0)
                    rw [hv122_0] at ge122_0
                    have HL122_0 := Aside0.mk (show Kd.R (Kd.int .i64) 3 _ _ _ _ (rd_L4 t115 x6_2) from ge122_0)
                    clear hv122_0 ge122_0
                    clear hcc122 hce122
                    have HR122_0 := Aside0.mk hi122_0
                    have HC122_0 := Aside0.mk hl122_0
                    clear hi122_0 hl122_0
                    replace p122 := eq_true p122
                    replace q122 := eq_true q122
                    refine start_ (n := 14) (S := fun w' => w'.cell? (ad118.add (x4_1).toNat) = some (.int .i64 (rd l0 x4_1)) ∧ w'.cell? (ad122.add (x6_2).toNat) = some (.slice A122_0 (rd_L4 t115 x6_2).length c122_0)) (ds := [10, 11, 12]) #[o9, o9, o9, o9, o9, o9, o9, o9, o9, o9, o9, o9, o9, o9] (by kernel_rfl) rfl rfl ⟨((HB.out.cell (World.block_lt_of_cell? w _ hw118_0)).trans hw118_0), hx122_0⟩ (fun hHeld => ?_); refine with_tabW cupolaref06_All.tab13 cupolaref06_All.bits13 (fun HT_ HW_ => ?_)
                    generalize wr.drew = w31 at HO_3 HO_5 HB HL122_0 HR122_0 hx118_0 hx122_0 hHeld ⊢
                    refine pure_ (i := 0) (N := some 37) (v := ?_) (a' := ?_) #[i9, o9, o9, o9, o9, o9, o9, o9, o9, o9, o9, o9, o9, o9] rfl rfl (any_of HT_.out (by kernel_rfl)) (fun _ _ _ h => h) (Or.inl ⟨by rfl, ?_⟩) ?_ ?_
                    rotate_left
                    ·intro w'
                     go_simp
                     with_reducible rfl
                    rotate_left
                    ·simp only [Act.put, List.setIfInBounds_toArray, List.set_cons_zero, List.set_cons_succ, i64_w, i32_w]
                     rfl
                    refine pure_ (i := 1) (N := some 38) (v := ?_) (a' := ?_) #[i9, i9, o9, o9, o9, o9, o9, o9, o9, o9, o9, o9, o9, o9] rfl rfl (any_of HT_.out (by kernel_rfl)) (fun _ _ _ h => h) (Or.inl ⟨by rfl, ?_⟩) ?_ ?_
                    rotate_left
                    ·intro w'
                     go_simp
                     with_reducible rfl
                    rotate_left
                    ·simp only [Act.put, List.setIfInBounds_toArray, List.set_cons_zero, List.set_cons_succ, i64_w, i32_w]
                     rfl
                    refine pure_ (i := 2) (N := some 39) (v := ?_) (a' := ?_) #[i9, i9, i9, o9, o9, o9, o9, o9, o9, o9, o9, o9, o9, o9] rfl rfl (any_of HT_.out (by kernel_rfl)) (fun _ _ _ h => h) (Or.inl ⟨by rfl, ?_⟩) ?_ ?_
                    rotate_left
                    ·intro w'
                     go_simp
                     with_reducible rfl
                    rotate_left
                    ·simp only [Act.put, List.setIfInBounds_toArray, List.set_cons_zero, List.set_cons_succ, i64_w, i32_w]
                     rfl
                    refine pure_ (i := 3) (N := some 40) (v := ?_) (a' := ?_) #[i9, i9, i9, i9, o9, o9, o9, o9, o9, o9, o9, o9, o9, o9] rfl rfl (any_of HT_.out (by kernel_rfl)) (fun _ _ _ h => h) (Or.inl ⟨by rfl, ?_⟩) ?_ ?_
                    rotate_left
                    ·intro w'
                     go_simp
                     with_reducible rfl
                    rotate_left
                    ·simp only [Act.put, List.setIfInBounds_toArray, List.set_cons_zero, List.set_cons_succ, i64_w, i32_w]
                     rfl
                    refine pure_ (i := 6) (N := some 43) (v := ?_) (a' := ?_) #[i9, i9, i9, i9, o9, o9, i9, o9, o9, o9, o9, o9, o9, o9] rfl rfl (any_of HT_.out (by kernel_rfl)) (fun _ _ _ h => h) (Or.inl ⟨by rfl, ?_⟩) ?_ ?_
                    rotate_left
                    ·intro w'
                     go_simp
                     with_reducible rfl
                    rotate_left
                    ·simp only [Act.put, List.setIfInBounds_toArray, List.set_cons_zero, List.set_cons_succ, i64_w, i32_w]
                     rfl
                    refine pure_ (i := 7) (N := some 44) (v := ?_) (a' := ?_) #[i9, i9, i9, i9, o9, o9, i9, i9, o9, o9, o9, o9, o9, o9] rfl rfl (any_of HT_.out (by kernel_rfl)) (fun _ _ _ h => h) (Or.inl ⟨by rfl, ?_⟩) ?_ ?_
                    rotate_left
                    ·intro w'
                     go_simp
                     with_reducible rfl
                    rotate_left
                    ·simp only [Act.put, List.setIfInBounds_toArray, List.set_cons_zero, List.set_cons_succ, i64_w, i32_w]
                     rfl
                    refine pure_ (i := 8) (N := some 45) (v := ?_) (a' := ?_) #[i9, i9, i9, i9, o9, o9, i9, i9, i9, o9, o9, o9, o9, o9] rfl rfl (any_of HT_.out (by kernel_rfl)) (fun _ _ _ h => h) (Or.inl ⟨by rfl, ?_⟩) ?_ ?_
                    rotate_left
                    ·intro w'
                     go_simp
                     with_reducible rfl
                    rotate_left
                    ·simp only [Act.put, List.setIfInBounds_toArray, List.set_cons_zero, List.set_cons_succ, i64_w, i32_w]
                     rfl
                    refine take_ (i := 4) (N := some 41) (v := ?_) (a' := ?_) #[i9, i9, i9, i9, i9, o9, i9, i9, i9, o9, o9, o9, o9, o9] rfl rfl (take_ofW HT_.out HW_.out (by kernel_rfl)) (fun _ _ _ h => h) (Or.inl ⟨by rfl, ?_⟩) hHeld ?_ ?_
                    rotate_left
                    ·rintro w' ⟨s0, s1⟩
                     go_simp
                     with_reducible rfl
                    rotate_left
                    ·simp only [Act.put, List.setIfInBounds_toArray, List.set_cons_zero, List.set_cons_succ, i64_w, i32_w]
                     rfl
                    refine take_ (i := 9) (N := some 46) (v := ?_) (a' := ?_) #[i9, i9, i9, i9, i9, o9, i9, i9, i9, i9, o9, o9, o9, o9] rfl rfl (take_ofW HT_.out HW_.out (by kernel_rfl)) (fun _ _ _ h => h) (Or.inl ⟨by rfl, ?_⟩) hHeld ?_ ?_
                    rotate_left
                    ·rintro w' ⟨s0, s1⟩
                     go_simp
                     with_reducible rfl
                    rotate_left
                    ·simp only [Act.put, List.setIfInBounds_toArray, List.set_cons_zero, List.set_cons_succ, i64_w, i32_w]
                     rfl
                    refine one_ (i := 5) (N := some 42) #[i9, i9, i9, i9, i9, i9, i9, i9, i9, i9, o9, o9, o9, o9] rfl rfl (one_of HT_.out (by kernel_rfl)) (by decide) (fun K hK => ?_)
                    refine Kd.R_lit_step (Kd.int .i64) _ 3 ?hg (N := 42) ?hd (xs := ([rd l0 x4_1] : List Int)) (inner := [.int .i64 (rd l0 x4_1)]) (ok := fun _ => True) (okp := fun _ => True) ?hr ?hp (fun _ hk => hk) trivial (Below.refl _ _) (Nat.le_refl _) (by simp) ?_; (case hd => rfl); (case hg => rfl); (case hr => first | (go_simp; done) | (go_simp; rfl)); (case hp => exact (Reps.one (show Kd.M (Kd.int .i64) _ _ _ (rd l0 x4_1) [.int .i64 (rd l0 x4_1)] from rfl) (Reps.none _ _)))
                    intro v120 w32 ho33 hb hg_ hnew_
                    have HS1_ := (hb.cell (World.block_lt_of_cell? _ _ (hHeld.2))).trans (hHeld.2)
                    clear hg_ hnew_
                    (first | rw [← Ny119.out] at ho33 | (simp only [Int.reduceToNat] at ho33; rw [← Ny119.out] at ho33))
                    have n0_ := Aside0.mk (Kd.S_elder' (by (with_reducible repeat (first | apply Kd.S_alloc | apply Kd.S_drewN | apply Kd.S_drew)); exact HO_3.out) (Kd.R_base ho33) hb)
                    have n1_ := Aside0.mk (Kd.S_elder' (by (with_reducible repeat (first | apply Kd.S_alloc | apply Kd.S_drewN | apply Kd.S_drew)); exact HO_5.out) (Kd.R_base ho33) hb)
                    have n2_ := Aside0.mk (Kd.R_elder' (by (with_reducible repeat (first | apply Kd.R_alloc | apply Kd.R_drewN | apply Kd.R_drew)); exact HL122_0.out) (Kd.R_base ho33) hb)
                    have n3_ := Aside0.mk (Kd.R_lower (Kd.R_new' ho33 (Kd.R_lt (by (with_reducible repeat (first | apply Kd.R_alloc | apply Kd.R_drewN | apply Kd.R_drew)); exact HL122_0.out))) (below_size (bp9 HB.out)))
                    have n4_ := Aside0.mk (Kd.C_below (by repeat (first | (with_reducible exact HR122_0.out) | (with_reducible refine Kd.C_alloc ?_ _) | (with_reducible refine Kd.C_drewN ?_ _) | (with_reducible refine Kd.C_drew ?_) | exact HR122_0.out)) hb)
                    have n5_ := Aside0.mk (below_step (bp9 HB.out) hb)
                    clear HO_3 HO_5 HL122_0 HR122_0 HB
                    revert n0_ n1_ n2_ n3_ n4_ n5_; intro HO_3 HO_5 HL122_0 HO121 HR122_0 HB
                    clear hb ho33
                    refine hK.out _ _ ⟨((HB.out.cell (World.block_lt_of_cell? w _ hw118_0)).trans hw118_0), HS1_⟩ (fun hHeld => ?_)
                    clear hK K
                    refine norm_ (a' := ?_) ?_ ?_
                    rotate_left
                    ·show Act.put _ (some 42) _ = _
                     simp only [Act.put, List.setIfInBounds_toArray, List.set_cons_zero, List.set_cons_succ, i64_w, i32_w]
                     rfl
                    refine last_ (i := 10) (N := some 47) #[i9, i9, i9, i9, i9, i9, i9, i9, i9, i9, i9, o9, o9, o9] rfl rfl (one_of HT_.out (by kernel_rfl)) (by decide) (fun K hK => ?_)
                    refine Kd.R_append_rows_step (Kd.int .i64) (w0 := w) w.heap.size (by rfl) (.tmp 42) (.tmp 46) 33 3 (.int .i64 0) 8 rfl Try.underlying33 info3 rfl (by decide) (by omega) v120 y119 (rd_L4 t115 x6_2) _ _ _ (fun k_ => some k_ ≠ (.slice A122_0 (rd_L4 t115 x6_2).length c122_0 : Value).ownBlock) (fun _ => False) rfl rfl ?aO ?aR (fun _ _ h => h) (fun _ h => h.elim) ?aF ?aB ?aS ?aL ?_
                    (case aR => repeat (first | exact (by repeat (first | (with_reducible exact HR122_0.out) | (with_reducible refine Kd.C_alloc ?_ _) | (with_reducible refine Kd.C_drewN ?_ _) | (with_reducible refine Kd.C_drew ?_) | exact HR122_0.out)) | (with_reducible refine Kd.C_alloc ?_ _) | (with_reducible refine Kd.C_drewN ?_ _) | (with_reducible refine Kd.C_drew ?_)))
                    (case aB => exact (bp9 HB.out))
                    (case aF => exact (fun k_ hk => Kd.fresh' (Kd.R_lt (by (with_reducible repeat (first | apply Kd.R_alloc | apply Kd.R_drewN | apply Kd.R_drew)); exact HL122_0.out)) k_ hk))
                    (case aO => exact (by (with_reducible repeat (first | apply Kd.R_alloc | apply Kd.R_drewN | apply Kd.R_drew)); exact Kd.R_mono HO121.out (fun _ hk => hk.2)))
                    (case aS => exact (below_size (bp9 HB.out)))
                    (case aL => have := LMc28.out; omega)
                    intro v124 w34 ho hb hg hat
                    rw [← Ny123.out] at ho
                    have n0_ := Aside0.mk (Kd.S_after (ok := (fun k_ => some k_ ≠ (.slice (some ad122) t115.length co30 : Value).ownBlock)) (by (with_reducible repeat (first | apply Kd.S_alloc | apply Kd.S_drewN | apply Kd.S_drew)); exact HO_3.out) hg hat)
                    have n1_ := Aside0.mk (Kd.S_after (ok := (fun k_ => some k_ ≠ (u3 : Value).ownBlock)) (by (with_reducible repeat (first | apply Kd.S_alloc | apply Kd.S_drewN | apply Kd.S_drew)); exact HO_5.out) hg hat)
                    have n2_ := Aside0.mk (Kd.R_after (ok := (fun k_ => some k_ ≠ (u3 : Value).ownBlock ∧ some k_ ≠ (.slice (some ad122) t115.length co30 : Value).ownBlock)) (by (with_reducible repeat (first | apply Kd.R_alloc | apply Kd.R_drewN | apply Kd.R_drew)); exact HL122_0.out) hg hat)
                    have n3_ := Aside0.mk (hb)
                    have n4_ := Aside0.mk (ho)
                    clear HO_3 HO_5 HL122_0 HB HO121
                    revert n0_ n1_ n2_ n3_ n4_; intro HO_3 HO_5 HL122_0 HB HO125
                    clear ho hb hg hat
                    obtain ⟨Ao36, co36, eo36⟩ := Kd.R_slice HO125.out
                    (first | subst eo36 | (injection eo36 with f1_ f2_ f3_; have f4_ := f1_.symm; have f5_ := f3_.symm; clear f1_ f2_ f3_; subst f4_; subst f5_))
                    refine hK.out _ _ ?_
                    clear hK K
                    refine norm_ (a' := ?_) ?_ ?_
                    rotate_left
                    ·show Act.put _ (some 47) _ = _
                     simp only [Act.put, List.setIfInBounds_toArray, List.set_cons_zero, List.set_cons_succ, i64_w, i32_w]
                     rfl
                    refine last_ (i := 11) (N := some 48) #[i9, i9, i9, i9, i9, i9, i9, i9, i9, i9, i9, i9, o9, o9] rfl rfl (one_of HT_.out (by kernel_rfl)) (by decide) (fun K hK => ?_)
                    refine value_ (w1 := ?_) (v := ?_) (by rfl) rfl ?_ ?_
                    rotate_left 2
                    ·go_simp
                     constructor
                     ·rfl
                     ·rfl
                    refine hK.out _ _ ?_
                    clear hK K
                    refine norm_ (a' := ?_) ?_ ?_
                    rotate_left
                    ·show Act.put _ (some 48) _ = _
                     simp only [Act.put, List.setIfInBounds_toArray, List.set_cons_zero, List.set_cons_succ, i64_w, i32_w]
                     rfl
                    refine last_ (i := 12) (N := some 49) #[i9, i9, i9, i9, i9, i9, i9, i9, i9, i9, i9, i9, i9, o9] rfl rfl (one_of HT_.out (by kernel_rfl)) (by decide) (fun K hK => ?_)
                    refine Kd.S_append_step (Kd.slice 3 (Kd.int .i64)) (w0 := w) w.heap.size (by rfl) (.tmp 37) (.tmp 48) 35 33 (.slice none 0 0) 24 rfl Try.underlying35 info33 rfl (by decide) (by omega) u3 x3_2 y123 [.slice Ao36 y123.length co36] (fun k_ => some k_ ≠ (.slice (some ad122) t115.length co30 : Value).ownBlock) (fun k_ => some k_ = (.slice Ao36 y123.length co36 : Value).ownBlock) rfl rfl ?aP (fun k_ hk_ => ((Kd.R_mono (ok' := fun k_ => ((fun k_ => some k_ ≠ (.slice (some ad122) t115.length co30 : Value).ownBlock)) k_ ∧ some k_ ≠ (u3 : Value).ownBlock) (Kd.R_apart' (Kd.R_apart' (HO125.out) (Kd.S_typed HO_5.out) (by decide)) (Kd.S_typed HO_3.out) (by decide)) (fun k_ hk => ⟨hk.1.2, hk.2⟩))).1 k_ hk_.symm) ?aF ?aO ?aB ?aS ?aL ?_
                    (case aP => exact Kd.M_row (Kd.R_mono (Kd.R_tight rfl (Kd.R_mono (ok' := fun k_ => ((fun k_ => some k_ ≠ (.slice (some ad122) t115.length co30 : Value).ownBlock)) k_ ∧ some k_ ≠ (u3 : Value).ownBlock) (Kd.R_apart' (Kd.R_apart' (HO125.out) (Kd.S_typed HO_5.out) (by decide)) (Kd.S_typed HO_3.out) (by decide)) (fun k_ hk => ⟨hk.1.2, hk.2⟩))) (fun _ h_ => h_)))
                    (case aB => exact (bp9 HB.out))
                    (case aF => exact (fun k_ hk => Kd.fresh' (Kd.S_lt (by (with_reducible repeat (first | apply Kd.S_alloc | apply Kd.S_drewN | apply Kd.S_drew)); exact HO_5.out)) k_ hk))
                    (case aO => exact (by (with_reducible repeat (first | apply Kd.S_alloc | apply Kd.S_drewN | apply Kd.S_drew)); exact Kd.S_mono HO_3.out (fun k_ hk => ⟨hk.1, fun e_ => hk.2 e_⟩)))
                    (case aS => exact (below_size (bp9 HB.out)))
                    (case aL => have := LMc29.out; omega)
                    intro v127 w35 ho hb hg hat
                    rw [← Ny126.out] at ho
                    have n0_ := Aside0.mk (Kd.S_after (ok := (fun k_ => some k_ ≠ (.slice Ao36 y123.length co36 : Value).ownBlock)) (by (with_reducible repeat (first | apply Kd.S_alloc | apply Kd.S_drewN | apply Kd.S_drew)); exact Kd.S_mono HO_5.out (fun _ hk => ⟨hk.2, hk.1⟩)) hg hat)
                    have n1_ := Aside0.mk (Kd.R_after (ok := (fun k_ => some k_ ≠ (.slice (some ad122) t115.length co30 : Value).ownBlock ∧ some k_ ≠ (.slice Ao36 y123.length co36 : Value).ownBlock)) (by (with_reducible repeat (first | apply Kd.R_alloc | apply Kd.R_drewN | apply Kd.R_drew)); exact Kd.R_mono HL122_0.out (fun _ hk => ⟨⟨hk.1.2, hk.2⟩, hk.1.1⟩)) hg hat)
                    have n2_ := Aside0.mk (hb)
                    have n3_ := Aside0.mk (ho)
                    clear HO_5 HL122_0 HB HO_3 HO125
                    revert n0_ n1_ n2_ n3_; intro HO_5 HL122_0 HB HO128
                    clear ho hb hg hat
                    refine hK.out _ _ ?_
                    clear hK K
                    refine norm_ (a' := ?_) ?_ ?_
                    rotate_left
                    ·show Act.put _ (some 49) _ = _
                     simp only [Act.put, List.setIfInBounds_toArray, List.set_cons_zero, List.set_cons_succ, i64_w, i32_w]
                     rfl
                    refine pure_ (i := 13) (N := some 3) (v := ?_) (a' := ?_) #[i9, i9, i9, i9, i9, i9, i9, i9, i9, i9, i9, i9, i9, i9] rfl rfl (any_of HT_.out (by kernel_rfl)) (fun _ _ _ h => h) (Or.inl ⟨by rfl, ?_⟩) ?_ ?_
                    rotate_left
                    ·intro w'
                     go_simp
                     with_reducible rfl
                    rotate_left
                    ·simp only [Act.put, List.setIfInBounds_toArray, List.set_cons_zero, List.set_cons_succ, i64_w, i32_w]
                     rfl
                    refine done_ (done_of HT_.out (by kernel_rfl)) ?_
                    try go_wp2
                    go_roundg k2
                    case measure => have := HK1.out; have := HK2.out; omega
                    case rel => exact ⟨(y126), (wrap64 (x6_2 + 1)), (by first | rfl | (simp; done) | (simp [*]; done)), H', ⟨by have := HK1.out; have := HK2.out; omega⟩, ⟨by (with_reducible repeat (first | apply Kd.S_alloc | apply Kd.S_drewN | apply Kd.S_drew)); exact HO128.out⟩, ⟨by (with_reducible repeat (first | apply Kd.S_alloc | apply Kd.S_drewN | apply Kd.S_drew)); exact Kd.S_mono HO_5.out (fun _ hk => hk.2)⟩, ⟨bp9 HB.out⟩⟩
                   ·rw [if_neg c29] at H
                    exact absurd H (by simp)
                  ·rw [if_neg c28] at H
                   exact absurd H (by simp)
                 ·rw [if_neg c27] at H
                  exact absurd H (by simp)
                ·rw [if_neg c26] at H
                 exact absurd H (by simp)
               ·rw [if_neg c25] at H
                exact absurd H (by simp)
              ·rw [if_neg c24] at H
               have c24b0 : decide (x6_2 < (t115.length : Int)) = false := decide_eq_false c24
               clear c24
               have H' := Aside0.mk H
               clear H
               obtain ⟨Ao37, co37, eo37⟩ := Kd.S_slice HO_5.out
               subst eo37
               go_wp2
               go_roundg k2
               case measure => have := HK1.out; have := HK2.out; omega
               case rel => exact ⟨(x3_2), (wrap64 (x4_1 + 1)), (by first | rfl | (simp; done) | (simp [*]; done)), H', ⟨by have := HK1.out; have := HK2.out; omega⟩, ⟨by (with_reducible repeat (first | apply Kd.S_alloc | apply Kd.S_drewN | apply Kd.S_drew)); exact Kd.S_mono HO_3.out (fun _ hk => trivial)⟩, ⟨bp9 HB.out⟩⟩
           ·rw [if_neg c13] at H
            exact absurd H (by simp)
          ·rw [if_neg c12] at H
           exact absurd H (by simp)
         ·rw [if_neg c11] at H
          exact absurd H (by simp)
        ·rw [if_neg c9] at H
         exact absurd H (by simp)
       ·rw [if_neg c8] at H
        exact absurd H (by simp)
      ·rw [if_neg c7] at H
       exact absurd H (by simp)
     ·rw [if_neg c6] at H
      have c6b0 : decide (x4_1 < (l0.length : Int)) = false := decide_eq_false c6
      clear c6
      obtain rfl := Option.some.inj H
      go_wp2
      go_ret
      exact ⟨_, by first | rfl | (simp [errW_none, errW_some] <;> rfl) | (simp [*, errW_none, errW_some] <;> rfl), by (with_reducible repeat (first | apply Kd.S_alloc | apply Kd.S_drewN | apply Kd.S_drew)); exact HO_3.out, bp9 HB.out⟩

/-! ### cupolaref06_Fits: function 105 -/
mutual
def cupolaref06_Fits.l0 : Nat → List Int → List Int → Int → Int → Option (Bool)
 | 0, _, _, _, _ => none
 | k + 1, x0, x1, x5, x6 => if x6 < x5 then (if 0 ≤ x6 then (if x6 < (x0.length : Int) then (if (rd x0 x6) < 0 then (cupolaref06_Fits.j1 k x0 x1 x5 x6 true) else (if (rd x0 x6) ≥ x5 then (cupolaref06_Fits.j1 k x0 x1 x5 x6 true) else (if x6 ≤ (x0.length : Int) then ((cupolaref01_In.f k (x0.take (x6 : Int).toNat) (rd x0 x6)).bind fun t106 => (cupolaref06_Fits.j1 k x0 x1 x5 x6 t106)) else (none)))) else (none)) else (none)) else (some true)
def cupolaref06_Fits.j1 : Nat → List Int → List Int → Int → Int → Bool → Option (Bool)
 | 0, _, _, _, _, _ => none
 | k + 1, x0, x1, x5, x6, x41 => if x41 = true then (some false) else (cupolaref06_Fits.l1 k x0 x1 x5 x6 0)
def cupolaref06_Fits.l1 : Nat → List Int → List Int → Int → Int → Int → Option (Bool)
 | 0, _, _, _, _, _ => none
 | k + 1, x0, x1, x5, x6, x7 => if x7 ≤ x6 then (if 0 ≤ x6 then (if x6 < (x0.length : Int) then (if 0 ≤ x7 then (if x7 < (x0.length : Int) then ((cupolaref05_Has.f k x1 (rd x0 x6) (rd x0 x7)).bind fun t109 => (if t109 = true then (some false) else (cupolaref06_Fits.l1 k x0 x1 x5 x6 (wrap64 (x7 + 1))))) else (none)) else (none)) else (none)) else (none)) else (cupolaref06_Fits.l0 k x0 x1 x5 (wrap64 (x6 + 1)))
end
def cupolaref06_Fits.f (k : Nat) (l0 : List Int) (l1 : List Int) : Option (Bool) := (cupolaref05_Size.f l1).bind fun t101 => (if (l0.length : Int) = t101 then (cupolaref06_Fits.l0 k l0 l1 t101 0) else (some false))
set_option maxHeartbeats 8000000 in
set_option maxRecDepth 100000 in
theorem cupolaref06_Fits.calls (k : Nat) (A0 : Option Addr) (c0 : Nat) (l0 : List Int) (A1 : Option Addr) (c1 : Nat) (l1 : List Int) (r : Bool) (w : World) (hr0 : Kd.C (Kd.int .i64) w A0 l0.length l0) (hc0 : l0.length ≤ c0) (hr1 : Kd.C (Kd.int .u32) w A1 l1.length l1) (hc1 : l1.length ≤ c1) (h : cupolaref06_Fits.f k l0 l1 = some r) :
  Calls Try.prog 105 #[.slice A0 l0.length c0, .slice A1 l1.length c1] w fun e w' => e = .returned (.bool r) ∧ Drawn0 w w' := by
 have HR0 := Aside0.mk hr0
 have HC0 := Aside0.mk hc0
 clear hr0 hc0
 have HR1 := Aside0.mk hr1
 have HC1 := Aside0.mk hc1
 clear hr1 hc1
 have H : ((cupolaref05_Size.f l1).bind fun t101 => (if (l0.length : Int) = t101 then (cupolaref06_Fits.l0 k l0 l1 t101 0) else (some false))) = some r := h
 clear h
 replace H := Option.bind_eq_some_iff.mp H
 obtain ⟨t101, A30, H⟩ := H
 have A3 := Aside0.mk A30
 clear A30
 by_cases c4 : (l0.length : Int) = t101
 ·rw [if_pos c4] at H
  have c4b0 : ((l0.length : Int) == t101) = true := beq_iff_eq.mpr c4
  have c4b1 : ((l0.length : Int) != t101) = false := bne_eq_false_iff_eq.mpr c4
  clear c4
  have H' := Aside0.mk H
  clear H
  go_enter Try.func105, Try.ntmps105
  go_wp2_with (first | (go_at_call 116; (with_reducible refine (cupolaref05_Size.calls _ _ l1 t101 _ ?side1 ?side2 A3.out).mono ?_); (case side1 => repeat (first | exact HR1.out | (with_reducible refine Kd.C_alloc ?_ _) | (with_reducible refine Kd.C_drewN ?_ _) | (with_reducible refine Kd.C_drew ?_))); (case side2 => exact HC1.out); rintro e w' ⟨rfl, ⟨nd, rfl⟩⟩; (try first | exact ⟨rfl, _, World.drewN_drewN _ _ _⟩ | exact ⟨rfl, _, Eq.trans (World.drewN_drewN _ _ _) (congrArg (World.drewN _) (Nat.add_assoc _ _ _))⟩)))
  repeat (go_quiet (first | (go_at_call 116; (with_reducible refine (cupolaref05_Size.calls _ _ l1 t101 _ ?side1 ?side2 A3.out).mono ?_); (case side1 => repeat (first | exact HR1.out | (with_reducible refine Kd.C_alloc ?_ _) | (with_reducible refine Kd.C_drewN ?_ _) | (with_reducible refine Kd.C_drew ?_))); (case side2 => exact HC1.out); rintro e w' ⟨rfl, ⟨nd, rfl⟩⟩; (try first | exact ⟨rfl, _, World.drewN_drewN _ _ _⟩ | exact ⟨rfl, _, Eq.trans (World.drewN_drewN _ _ _) (congrArg (World.drewN _) (Nat.add_assoc _ _ _))⟩))); try go_wp2_with (first | (go_at_call 116; (with_reducible refine (cupolaref05_Size.calls _ _ l1 t101 _ ?side1 ?side2 A3.out).mono ?_); (case side1 => repeat (first | exact HR1.out | (with_reducible refine Kd.C_alloc ?_ _) | (with_reducible refine Kd.C_drewN ?_ _) | (with_reducible refine Kd.C_drew ?_))); (case side2 => exact HC1.out); rintro e w' ⟨rfl, ⟨nd, rfl⟩⟩; (try first | exact ⟨rfl, _, World.drewN_drewN _ _ _⟩ | exact ⟨rfl, _, Eq.trans (World.drewN_drewN _ _ _) (congrArg (World.drewN _) (Nat.add_assoc _ _ _))⟩))))
  go_loopg [6] k (fun kq v6 w' => ∃ (x6_1 : Int), v6 = .int .i64 x6_1 ∧ Aside0 (cupolaref06_Fits.l0 kq l0 l1 t101 x6_1 = some r) ∧ Aside0 (kq ≤ k) ∧ Drawn0 w w')
  case atStart => exact ⟨(0), (by first | rfl | (simp; done) | (simp [*]; done)), H', ⟨Nat.le_refl _⟩, by repeat (first | exact Drawn0.refl _ | apply Drawn0.step)⟩
  case round =>
   clear H'
   try clear c1
   try clear p2
   try clear c4
   try clear c4b0
   try clear c4b1
   obtain ⟨x6_1, rfl, HA, HK1, ⟨m1, rfl⟩⟩ := hrel
   cases gk with
   | zero => exact absurd HA.out (by simp [cupolaref06_Fits.l0])
   | succ k1 =>
    have H := HA.out
    clear HA
    simp only [cupolaref06_Fits.l0] at H
    by_cases c5 : x6_1 < t101
    ·rw [if_pos c5] at H
     have c5b0 : decide (x6_1 < t101) = true := decide_eq_true c5
     clear c5
     have HC6 := Aside0.mk H
     clear H
     go_upto_region 7 with (fail)
     repeat (go_quiet (fail); go_upto_region 7 with (fail))
     go_cut [41] (fun v41 wc => ∃ (kq : Nat) (x41_5 : Bool), v41 = .bool x41_5 ∧ Aside0 (cupolaref06_Fits.j1 kq l0 l1 t101 x6_1 x41_5 = some r) ∧ Aside0 (kq ≤ k1) ∧ Drawn0 w wc)
     case first =>
      have H := HC6.out
      clear HC6
      by_cases c7 : 0 ≤ x6_1
      ·rw [if_pos c7] at H
       have c7b0 : decide (0 ≤ x6_1) = true := decide_eq_true c7
       clear c7
       (first | rw [c7b0] | (simp only [i64_w, i32_w]; rw [c7b0]) | skip)
       by_cases c8 : x6_1 < (l0.length : Int)
       ·rw [if_pos c8] at H
        have c8b0 : decide (x6_1 < (l0.length : Int)) = true := decide_eq_true c8
        clear c8
        by_cases c9 : (rd l0 x6_1) < 0
        ·rw [if_pos c9] at H
         have c9b0 : decide ((rd l0 x6_1) < 0) = true := decide_eq_true c9
         clear c9
         have H' := Aside0.mk H
         clear H
         have p102 : 0 ≤ (x6_1 : Int) := of_decide_eq_true (by first | (with_reducible assumption) | assumption)
         have q102 : x6_1 < (l0.length : Int) := of_decide_eq_true (by first | (with_reducible assumption) | assumption)
         obtain ⟨ad102, e102, hx102_0⟩ := Kd.at_int HR0.out x6_1 p102 q102
         cases e102
         replace p102 := eq_true p102
         replace q102 := eq_true q102
         go_wp2
         repeat (go_quiet (fail); try go_wp2)
         go_meet
         case rel => exact ⟨_, (true), (by first | rfl | (simp; done) | (simp [*]; done)), H', ⟨by have := HK1.out; first | omega | exact Nat.le_refl _⟩, by repeat (first | exact Drawn0.refl _ | apply Drawn0.step)⟩
        ·rw [if_neg c9] at H
         have c9b0 : decide ((rd l0 x6_1) < 0) = false := decide_eq_false c9
         clear c9
         by_cases c10 : (rd l0 x6_1) ≥ t101
         ·rw [if_pos c10] at H
          have c10b0 : decide (t101 ≤ (rd l0 x6_1)) = true := decide_eq_true c10
          clear c10
          have H' := Aside0.mk H
          clear H
          have p102 : 0 ≤ (x6_1 : Int) := of_decide_eq_true (by first | (with_reducible assumption) | assumption)
          have q102 : x6_1 < (l0.length : Int) := of_decide_eq_true (by first | (with_reducible assumption) | assumption)
          obtain ⟨ad102, e102, hx102_0⟩ := Kd.at_int HR0.out x6_1 p102 q102
          cases e102
          replace p102 := eq_true p102
          replace q102 := eq_true q102
          have p103 : 0 ≤ (x6_1 : Int) := of_decide_eq_true (by first | (with_reducible assumption) | assumption)
          have q103 : x6_1 < (l0.length : Int) := of_decide_eq_true (by first | (with_reducible assumption) | assumption)
          obtain ⟨ad103, e103, hx103_0⟩ := Kd.at_int HR0.out x6_1 p103 q103
          obtain rfl : ad102 = ad103 := (by injection e103)
          replace p103 := eq_true p103
          replace q103 := eq_true q103
          go_wp2
          repeat (go_quiet (fail); try go_wp2)
          go_meet
          case rel => exact ⟨_, (true), (by first | rfl | (simp; done) | (simp [*]; done)), H', ⟨by have := HK1.out; first | omega | exact Nat.le_refl _⟩, by repeat (first | exact Drawn0.refl _ | apply Drawn0.step)⟩
         ·rw [if_neg c10] at H
          have c10b0 : decide (t101 ≤ (rd l0 x6_1)) = false := decide_eq_false c10
          clear c10
          have c11b0 := eq_true (of_decide_eq_true (by first | (with_reducible assumption) | assumption) : 0 ≤ x6_1)
          by_cases c12 : x6_1 ≤ (l0.length : Int)
          ·rw [if_pos c12] at H
           have c12b0 := eq_true c12
           have c12b1 : decide (x6_1 ≤ (l0.length : Int)) = true := decide_eq_true c12
           clear c12
           replace H := Option.bind_eq_some_iff.mp H
           obtain ⟨t106, A130, H⟩ := H
           have A13 := Aside0.mk A130
           clear A130
           have H' := Aside0.mk H
           clear H
           have p102 : 0 ≤ (x6_1 : Int) := of_decide_eq_true (by first | (with_reducible assumption) | assumption)
           have q102 : x6_1 < (l0.length : Int) := of_decide_eq_true (by first | (with_reducible assumption) | assumption)
           obtain ⟨ad102, e102, hx102_0⟩ := Kd.at_int HR0.out x6_1 p102 q102
           cases e102
           replace p102 := eq_true p102
           replace q102 := eq_true q102
           have p103 : 0 ≤ (x6_1 : Int) := of_decide_eq_true (by first | (with_reducible assumption) | assumption)
           have q103 : x6_1 < (l0.length : Int) := of_decide_eq_true (by first | (with_reducible assumption) | assumption)
           obtain ⟨ad103, e103, hx103_0⟩ := Kd.at_int HR0.out x6_1 p103 q103
           obtain rfl : ad102 = ad103 := (by injection e103)
           replace p103 := eq_true p103
           replace q103 := eq_true q103
           obtain ⟨i014, hi014, _, hsz14, _⟩ := info_parts info3
           obtain ⟨hcut14, hA14, hC14⟩ := print_take_of (P := Try.prog) (Value.int .i64) 0 33 3 .i64 Try.underlying33 hi014 hsz14 (some ad102) c0 l0 x6_1 (of_decide_eq_true (by first | (with_reducible assumption) | assumption)) (of_decide_eq_true (by first | (with_reducible assumption) | assumption)) HC0.out
           have HR104 := Aside0.mk (Kd.C_of_reads (h1 := fun _ => rfl) (hA14 _ (Kd.reads_of_C HR0.out)))
           have HC104 := Aside0.mk hC14
           clear hA14 hC14 hi014 hsz14
           have p105 : 0 ≤ (x6_1 : Int) := of_decide_eq_true (by first | (with_reducible assumption) | assumption)
           have q105 : x6_1 < (l0.length : Int) := of_decide_eq_true (by first | (with_reducible assumption) | assumption)
           obtain ⟨ad105, e105, hx105_0⟩ := Kd.at_int HR0.out x6_1 p105 q105
           obtain rfl : ad102 = ad105 := (by injection e105)
           replace p105 := eq_true p105
           replace q105 := eq_true q105
           have HLT := Aside0.mk (show (x6_1 : Int).toNat = (l0.take (x6_1 : Int).toNat).length from by rw [List.length_take]; have h1_ := of_eq_true q105; have h2_ := of_eq_true p105; omega)
           go_wp2_with (first | (go_at_call 100; (try rw [HLT.out]); (with_reducible refine (cupolaref01_In.calls k1 _ _ (l0.take (x6_1 : Int).toNat) (rd l0 x6_1) t106 _ ?side1 ?side2 A13.out).mono ?_); (case side1 => repeat (first | exact HR104.out | (with_reducible refine Kd.C_alloc ?_ _) | (with_reducible refine Kd.C_drewN ?_ _) | (with_reducible refine Kd.C_drew ?_))); (case side2 => exact HC104.out); rintro e w' ⟨rfl, ⟨nd, rfl⟩⟩; (try first | exact ⟨rfl, _, World.drewN_drewN _ _ _⟩ | exact ⟨rfl, _, Eq.trans (World.drewN_drewN _ _ _) (congrArg (World.drewN _) (Nat.add_assoc _ _ _))⟩)))
           repeat (go_quiet (first | (go_at_call 100; (try rw [HLT.out]); (with_reducible refine (cupolaref01_In.calls k1 _ _ (l0.take (x6_1 : Int).toNat) (rd l0 x6_1) t106 _ ?side1 ?side2 A13.out).mono ?_); (case side1 => repeat (first | exact HR104.out | (with_reducible refine Kd.C_alloc ?_ _) | (with_reducible refine Kd.C_drewN ?_ _) | (with_reducible refine Kd.C_drew ?_))); (case side2 => exact HC104.out); rintro e w' ⟨rfl, ⟨nd, rfl⟩⟩; (try first | exact ⟨rfl, _, World.drewN_drewN _ _ _⟩ | exact ⟨rfl, _, Eq.trans (World.drewN_drewN _ _ _) (congrArg (World.drewN _) (Nat.add_assoc _ _ _))⟩))); try go_wp2_with (first | (go_at_call 100; (try rw [HLT.out]); (with_reducible refine (cupolaref01_In.calls k1 _ _ (l0.take (x6_1 : Int).toNat) (rd l0 x6_1) t106 _ ?side1 ?side2 A13.out).mono ?_); (case side1 => repeat (first | exact HR104.out | (with_reducible refine Kd.C_alloc ?_ _) | (with_reducible refine Kd.C_drewN ?_ _) | (with_reducible refine Kd.C_drew ?_))); (case side2 => exact HC104.out); rintro e w' ⟨rfl, ⟨nd, rfl⟩⟩; (try first | exact ⟨rfl, _, World.drewN_drewN _ _ _⟩ | exact ⟨rfl, _, Eq.trans (World.drewN_drewN _ _ _) (congrArg (World.drewN _) (Nat.add_assoc _ _ _))⟩))))
           go_meet
           case rel => exact ⟨_, (t106), (by first | rfl | (simp; done) | (simp [*]; done)), H', ⟨by have := HK1.out; first | omega | exact Nat.le_refl _⟩, by repeat (first | exact Drawn0.refl _ | apply Drawn0.step)⟩
          ·rw [if_neg c12] at H
           exact absurd H (by simp)
       ·rw [if_neg c8] at H
        exact absurd H (by simp)
      ·rw [if_neg c7] at H
       exact absurd H (by simp)
     case rest =>
      clear HC6
      try clear c1
      try clear p1
      try clear q1
      try clear hx1
      try clear p2
      try clear c4
      try clear c4b0
      try clear c4b1
      try clear c5
      try clear c5b0
      try clear c7
      try clear c7b0
      try clear c8
      try clear c8b0
      try clear c9
      try clear c9b0
      try clear c10
      try clear c10b0
      try clear p10
      try clear q10
      try clear hx10
      try clear c11
      try clear c11b0
      try clear c12
      try clear c12b0
      try clear c12b1
      try clear hx102_0
      try clear hx103_0
      try clear hx105_0
      try clear p102
      try clear p103
      try clear p105
      try clear p2
      try clear q102
      try clear q103
      try clear q105
      obtain ⟨kq, x41_5, rfl, HA, HJ5, ⟨mc5, rfl⟩⟩ := hcut
      cases kq with
      | zero => exact absurd HA.out (by simp [cupolaref06_Fits.j1])
      | succ kj5 =>
       have H := HA.out
       clear HA
       simp only [cupolaref06_Fits.j1] at H
       by_cases c15 : x41_5 = true
       ·subst c15
        rw [if_pos rfl] at H
        obtain rfl := Option.some.inj H
        go_wp2
        repeat (go_quiet (fail); try go_wp2)
        go_ret
        exact ⟨by first | rfl | (simp; done) | (simp [*]; done), by repeat (first | exact Drawn0.refl _ | apply Drawn0.step)⟩
       ·replace c15 := Bool.eq_false_iff.mpr c15
        subst c15
        rw [if_neg (show ¬ (false = true) by decide)] at H
        have H' := Aside0.mk H
        clear H
        go_wp2
        repeat (go_quiet (fail); try go_wp2)
        go_loopg [7] kj5 (fun kq v7 w' => ∃ (x7_3 : Int), v7 = .int .i64 x7_3 ∧ Aside0 (cupolaref06_Fits.l1 kq l0 l1 t101 x6_1 x7_3 = some r) ∧ Aside0 (kq ≤ kj5) ∧ Drawn0 w w')
        case atStart => exact ⟨(0), (by first | rfl | (simp; done) | (simp [*]; done)), H', ⟨Nat.le_refl _⟩, by repeat (first | exact Drawn0.refl _ | apply Drawn0.step)⟩
        case round =>
         clear H'
         try clear c1
         try clear p1
         try clear q1
         try clear hx1
         try clear p2
         try clear c4
         try clear c4b0
         try clear c4b1
         try clear c5
         try clear c5b0
         try clear c7
         try clear c7b0
         try clear c8
         try clear c8b0
         try clear c9
         try clear c9b0
         try clear c10
         try clear c10b0
         try clear p10
         try clear q10
         try clear hx10
         try clear c11
         try clear c11b0
         try clear c12
         try clear c12b0
         try clear c12b1
         try clear c15
         try clear hx102_0
         try clear hx103_0
         try clear hx105_0
         try clear p1
         try clear p10
         try clear p102
         try clear p103
         try clear p105
         try clear p2
         try clear q1
         try clear q10
         try clear q102
         try clear q103
         try clear q105
         obtain ⟨x7_3, rfl, HA, HK3, ⟨m3, rfl⟩⟩ := hrel
         cases gk with
         | zero => exact absurd HA.out (by simp [cupolaref06_Fits.l1])
         | succ k3 =>
          have H := HA.out
          clear HA
          simp only [cupolaref06_Fits.l1] at H
          by_cases c16 : x7_3 ≤ x6_1
          ·rw [if_pos c16] at H
           have c16b0 : decide (x7_3 ≤ x6_1) = true := decide_eq_true c16
           clear c16
           by_cases c17 : 0 ≤ x6_1
           ·rw [if_pos c17] at H
            have c17b0 : decide (0 ≤ x6_1) = true := decide_eq_true c17
            clear c17
            by_cases c18 : x6_1 < (l0.length : Int)
            ·rw [if_pos c18] at H
             have c18b0 : decide (x6_1 < (l0.length : Int)) = true := decide_eq_true c18
             clear c18
             by_cases c19 : 0 ≤ x7_3
             ·rw [if_pos c19] at H
              have c19b0 : decide (0 ≤ x7_3) = true := decide_eq_true c19
              clear c19
              by_cases c20 : x7_3 < (l0.length : Int)
              ·rw [if_pos c20] at H
               have c20b0 : decide (x7_3 < (l0.length : Int)) = true := decide_eq_true c20
               clear c20
               replace H := Option.bind_eq_some_iff.mp H
               obtain ⟨t109, A210, H⟩ := H
               have A21 := Aside0.mk A210
               clear A210
               by_cases c22 : t109 = true
               ·subst c22
                rw [if_pos rfl] at H
                obtain rfl := Option.some.inj H
                have p107 : 0 ≤ (x6_1 : Int) := of_decide_eq_true (by first | (with_reducible assumption) | assumption)
                have q107 : x6_1 < (l0.length : Int) := of_decide_eq_true (by first | (with_reducible assumption) | assumption)
                obtain ⟨ad107, e107, hx107_0⟩ := Kd.at_int HR0.out x6_1 p107 q107
                cases e107
                replace p107 := eq_true p107
                replace q107 := eq_true q107
                have p108 : 0 ≤ (x7_3 : Int) := of_decide_eq_true (by first | (with_reducible assumption) | assumption)
                have q108 : x7_3 < (l0.length : Int) := of_decide_eq_true (by first | (with_reducible assumption) | assumption)
                obtain ⟨ad108, e108, hx108_0⟩ := Kd.at_int HR0.out x7_3 p108 q108
                obtain rfl : ad107 = ad108 := (by injection e108)
                replace p108 := eq_true p108
                replace q108 := eq_true q108
                go_wp2_with (first | (go_at_call 43; (with_reducible refine (cupolaref05_Has.calls k3 _ _ l1 (rd l0 x6_1) (rd l0 x7_3) true _ ?side1 ?side2 A21.out).mono ?_); (case side1 => repeat (first | exact HR1.out | (with_reducible refine Kd.C_alloc ?_ _) | (with_reducible refine Kd.C_drewN ?_ _) | (with_reducible refine Kd.C_drew ?_))); (case side2 => exact HC1.out); rintro e w' ⟨rfl, ⟨nd, rfl⟩⟩; (try first | exact ⟨rfl, _, World.drewN_drewN _ _ _⟩ | exact ⟨rfl, _, Eq.trans (World.drewN_drewN _ _ _) (congrArg (World.drewN _) (Nat.add_assoc _ _ _))⟩)))
                repeat (go_quiet (first | (go_at_call 43; (with_reducible refine (cupolaref05_Has.calls k3 _ _ l1 (rd l0 x6_1) (rd l0 x7_3) true _ ?side1 ?side2 A21.out).mono ?_); (case side1 => repeat (first | exact HR1.out | (with_reducible refine Kd.C_alloc ?_ _) | (with_reducible refine Kd.C_drewN ?_ _) | (with_reducible refine Kd.C_drew ?_))); (case side2 => exact HC1.out); rintro e w' ⟨rfl, ⟨nd, rfl⟩⟩; (try first | exact ⟨rfl, _, World.drewN_drewN _ _ _⟩ | exact ⟨rfl, _, Eq.trans (World.drewN_drewN _ _ _) (congrArg (World.drewN _) (Nat.add_assoc _ _ _))⟩))); try go_wp2_with (first | (go_at_call 43; (with_reducible refine (cupolaref05_Has.calls k3 _ _ l1 (rd l0 x6_1) (rd l0 x7_3) true _ ?side1 ?side2 A21.out).mono ?_); (case side1 => repeat (first | exact HR1.out | (with_reducible refine Kd.C_alloc ?_ _) | (with_reducible refine Kd.C_drewN ?_ _) | (with_reducible refine Kd.C_drew ?_))); (case side2 => exact HC1.out); rintro e w' ⟨rfl, ⟨nd, rfl⟩⟩; (try first | exact ⟨rfl, _, World.drewN_drewN _ _ _⟩ | exact ⟨rfl, _, Eq.trans (World.drewN_drewN _ _ _) (congrArg (World.drewN _) (Nat.add_assoc _ _ _))⟩))))
                go_ret
                exact ⟨by first | rfl | (simp; done) | (simp [*]; done), by repeat (first | exact Drawn0.refl _ | apply Drawn0.step)⟩
               ·replace c22 := Bool.eq_false_iff.mpr c22
                subst c22
                rw [if_neg (show ¬ (false = true) by decide)] at H
                have H' := Aside0.mk H
                clear H
                have p107 : 0 ≤ (x6_1 : Int) := of_decide_eq_true (by first | (with_reducible assumption) | assumption)
                have q107 : x6_1 < (l0.length : Int) := of_decide_eq_true (by first | (with_reducible assumption) | assumption)
                obtain ⟨ad107, e107, hx107_0⟩ := Kd.at_int HR0.out x6_1 p107 q107
                cases e107
                replace p107 := eq_true p107
                replace q107 := eq_true q107
                have p108 : 0 ≤ (x7_3 : Int) := of_decide_eq_true (by first | (with_reducible assumption) | assumption)
                have q108 : x7_3 < (l0.length : Int) := of_decide_eq_true (by first | (with_reducible assumption) | assumption)
                obtain ⟨ad108, e108, hx108_0⟩ := Kd.at_int HR0.out x7_3 p108 q108
                obtain rfl : ad107 = ad108 := (by injection e108)
                replace p108 := eq_true p108
                replace q108 := eq_true q108
                go_wp2_with (first | (go_at_call 43; (with_reducible refine (cupolaref05_Has.calls k3 _ _ l1 (rd l0 x6_1) (rd l0 x7_3) false _ ?side1 ?side2 A21.out).mono ?_); (case side1 => repeat (first | exact HR1.out | (with_reducible refine Kd.C_alloc ?_ _) | (with_reducible refine Kd.C_drewN ?_ _) | (with_reducible refine Kd.C_drew ?_))); (case side2 => exact HC1.out); rintro e w' ⟨rfl, ⟨nd, rfl⟩⟩; (try first | exact ⟨rfl, _, World.drewN_drewN _ _ _⟩ | exact ⟨rfl, _, Eq.trans (World.drewN_drewN _ _ _) (congrArg (World.drewN _) (Nat.add_assoc _ _ _))⟩)))
                repeat (go_quiet (first | (go_at_call 43; (with_reducible refine (cupolaref05_Has.calls k3 _ _ l1 (rd l0 x6_1) (rd l0 x7_3) false _ ?side1 ?side2 A21.out).mono ?_); (case side1 => repeat (first | exact HR1.out | (with_reducible refine Kd.C_alloc ?_ _) | (with_reducible refine Kd.C_drewN ?_ _) | (with_reducible refine Kd.C_drew ?_))); (case side2 => exact HC1.out); rintro e w' ⟨rfl, ⟨nd, rfl⟩⟩; (try first | exact ⟨rfl, _, World.drewN_drewN _ _ _⟩ | exact ⟨rfl, _, Eq.trans (World.drewN_drewN _ _ _) (congrArg (World.drewN _) (Nat.add_assoc _ _ _))⟩))); try go_wp2_with (first | (go_at_call 43; (with_reducible refine (cupolaref05_Has.calls k3 _ _ l1 (rd l0 x6_1) (rd l0 x7_3) false _ ?side1 ?side2 A21.out).mono ?_); (case side1 => repeat (first | exact HR1.out | (with_reducible refine Kd.C_alloc ?_ _) | (with_reducible refine Kd.C_drewN ?_ _) | (with_reducible refine Kd.C_drew ?_))); (case side2 => exact HC1.out); rintro e w' ⟨rfl, ⟨nd, rfl⟩⟩; (try first | exact ⟨rfl, _, World.drewN_drewN _ _ _⟩ | exact ⟨rfl, _, Eq.trans (World.drewN_drewN _ _ _) (congrArg (World.drewN _) (Nat.add_assoc _ _ _))⟩))))
                go_roundg k3
                case measure => have := HK1.out; have := HJ5.out; have := HK3.out; omega
                case rel => exact ⟨(wrap64 (x7_3 + 1)), (by first | rfl | (simp; done) | (simp [*]; done)), H', ⟨by have := HK1.out; have := HJ5.out; have := HK3.out; omega⟩, by repeat (first | exact Drawn0.refl _ | apply Drawn0.step)⟩
              ·rw [if_neg c20] at H
               exact absurd H (by simp)
             ·rw [if_neg c19] at H
              exact absurd H (by simp)
            ·rw [if_neg c18] at H
             exact absurd H (by simp)
           ·rw [if_neg c17] at H
            exact absurd H (by simp)
          ·rw [if_neg c16] at H
           have c16b0 : decide (x7_3 ≤ x6_1) = false := decide_eq_false c16
           clear c16
           have H' := Aside0.mk H
           clear H
           go_wp2
           repeat (go_quiet (fail); try go_wp2)
           go_roundg k3
           case measure => have := HK1.out; have := HJ5.out; have := HK3.out; omega
           case rel => exact ⟨(wrap64 (x6_1 + 1)), (by first | rfl | (simp; done) | (simp [*]; done)), H', ⟨by have := HK1.out; have := HJ5.out; have := HK3.out; omega⟩, by repeat (first | exact Drawn0.refl _ | apply Drawn0.step)⟩
    ·rw [if_neg c5] at H
     have c5b0 : decide (x6_1 < t101) = false := decide_eq_false c5
     clear c5
     obtain rfl := Option.some.inj H
     go_wp2
     repeat (go_quiet (fail); try go_wp2)
     go_ret
     exact ⟨by first | rfl | (simp; done) | (simp [*]; done), by repeat (first | exact Drawn0.refl _ | apply Drawn0.step)⟩
 ·rw [if_neg c4] at H
  have c4b0 : ((l0.length : Int) == t101) = false := beq_eq_false_iff_ne.mpr c4
  have c4b1 : ((l0.length : Int) != t101) = true := bne_iff_ne.mpr c4
  obtain rfl := Option.some.inj H
  go_enter Try.func105, Try.ntmps105
  go_wp2_with (first | (go_at_call 116; (with_reducible refine (cupolaref05_Size.calls _ _ l1 t101 _ ?side1 ?side2 A3.out).mono ?_); (case side1 => repeat (first | exact HR1.out | (with_reducible refine Kd.C_alloc ?_ _) | (with_reducible refine Kd.C_drewN ?_ _) | (with_reducible refine Kd.C_drew ?_))); (case side2 => exact HC1.out); rintro e w' ⟨rfl, ⟨nd, rfl⟩⟩; (try first | exact ⟨rfl, _, World.drewN_drewN _ _ _⟩ | exact ⟨rfl, _, Eq.trans (World.drewN_drewN _ _ _) (congrArg (World.drewN _) (Nat.add_assoc _ _ _))⟩)))
  repeat (go_quiet (first | (go_at_call 116; (with_reducible refine (cupolaref05_Size.calls _ _ l1 t101 _ ?side1 ?side2 A3.out).mono ?_); (case side1 => repeat (first | exact HR1.out | (with_reducible refine Kd.C_alloc ?_ _) | (with_reducible refine Kd.C_drewN ?_ _) | (with_reducible refine Kd.C_drew ?_))); (case side2 => exact HC1.out); rintro e w' ⟨rfl, ⟨nd, rfl⟩⟩; (try first | exact ⟨rfl, _, World.drewN_drewN _ _ _⟩ | exact ⟨rfl, _, Eq.trans (World.drewN_drewN _ _ _) (congrArg (World.drewN _) (Nat.add_assoc _ _ _))⟩))); try go_wp2_with (first | (go_at_call 116; (with_reducible refine (cupolaref05_Size.calls _ _ l1 t101 _ ?side1 ?side2 A3.out).mono ?_); (case side1 => repeat (first | exact HR1.out | (with_reducible refine Kd.C_alloc ?_ _) | (with_reducible refine Kd.C_drewN ?_ _) | (with_reducible refine Kd.C_drew ?_))); (case side2 => exact HC1.out); rintro e w' ⟨rfl, ⟨nd, rfl⟩⟩; (try first | exact ⟨rfl, _, World.drewN_drewN _ _ _⟩ | exact ⟨rfl, _, Eq.trans (World.drewN_drewN _ _ _) (congrArg (World.drewN _) (Nat.add_assoc _ _ _))⟩))))
  go_ret
  exact ⟨by first | rfl | (simp; done) | (simp [*]; done), by repeat (first | exact Drawn0.refl _ | apply Drawn0.step)⟩

/-! ### cupolaref06_things: function 148 -/
def cupolaref06_things.l0 : Nat → Int → List Int → Int → Option (List Int)
 | 0, _, _, _ => none
 | k + 1, x0, x3, x4 => if x4 < x0 then (if x3.length < 17592186044416 then (cupolaref06_things.l0 k x0 (x3 ++ [x4]) (wrap64 (x4 + 1))) else (none)) else (some x3)
def cupolaref06_things.f (k : Nat) (a0 : Int) : Option (List Int) := cupolaref06_things.l0 k a0 ([] : List Int) 0
set_option maxHeartbeats 8000000 in
set_option maxRecDepth 100000 in
theorem cupolaref06_things.calls (k : Nat) (a0 : Int) (r : List Int) (w : World) (h : cupolaref06_things.f k a0 = some r) :
  Calls Try.prog 148 #[.int .i64 a0] w fun e w' => ∃ v0_ : Value, e = .returned (v0_) ∧ Kd.R (Kd.int .i64) 3 w' w.heap.size (fun _ => True) v0_ r ∧ Below w.heap.size w w' := by
 have HB := Aside0.mk (Below.refl w.heap.size w)
 have H : (cupolaref06_things.l0 k a0 ([] : List Int) 0) = some r := h
 clear h
 have H' := Aside0.mk H
 clear H
 go_enter Try.func148, Try.ntmps148
 go_wp2
 go_loopg [3, 4] k (fun kq v3 v4 w' => ∃ (x3_1 : List Int) (x4_1 : Int), v4 = .int .i64 x4_1 ∧ Aside0 (cupolaref06_things.l0 kq a0 x3_1 x4_1 = some r) ∧ Aside0 (kq ≤ k) ∧ Aside0 (Kd.R (Kd.int .i64) 3 w' w.heap.size (fun _ => True) v3 x3_1) ∧ Aside0 (Below w.heap.size w w'))
 case atStart => exact ⟨(([] : List Int)), (0), (by first | rfl | (simp; done) | (simp [*]; done)), H', ⟨Nat.le_refl _⟩, ⟨by first | exact Kd.R_nil _ _ _ _ _ | exact Kd.N_nil _ _ _ _ _ | exact Kd.V_nil _ _ _ _ _ | exact Kd.Q_nil _ _ _ _ _ | exact Kd.S_nil _ _ _ _ _⟩, ⟨bp9 HB.out⟩⟩
 case round =>
  clear H'
  try clear c1
  obtain ⟨x3_1, x4_1, rfl, HA, HK1, HO_3, HB⟩ := hrel
  cases gk with
  | zero => exact absurd HA.out (by simp [cupolaref06_things.l0])
  | succ k1 =>
   have H := HA.out
   clear HA
   simp only [cupolaref06_things.l0] at H
   by_cases c2 : x4_1 < a0
   ·rw [if_pos c2] at H
    have c2b0 : decide (x4_1 < a0) = true := decide_eq_true c2
    clear c2
    by_cases c3 : x3_1.length < 17592186044416
    ·rw [if_pos c3] at H
     have LMc3 := Aside0.mk c3
     clear c3
     obtain ⟨y101, hy101⟩ : ∃ y_ : List Int, y_ = (x3_1 ++ [x4_1]) := ⟨_, rfl⟩
     replace H : (cupolaref06_things.l0 k1 a0 y101 (wrap64 (x4_1 + 1))) = some r := by first | (rw [hy101]; with_reducible exact H) | (have H2_ := (Option.bind_some _ _).symm.trans H; rw [hy101]; with_reducible exact H2_) | (have H2_ := (Option.bind_some _ _).symm.trans H; with_reducible exact H2_) | with_reducible exact H | (rw [hy101]; exact H) | exact H
     have Ny101 := Aside0.mk hy101
     clear hy101
     have H' := Aside0.mk H
     clear H
     go_wp2_with (first | ((with_reducible refine gate_builtin (b := .append) (xs := #[.tmp 10, .tmp 12]) rfl ?_); at_builtin; refine Kd.R_append (Kd.int .i64) (w0 := w) w.heap.size rfl (.tmp 10) (.tmp 12) 33 3 (.int .i64 0) 8 rfl Try.underlying33 info3 rfl (by decide) (by omega) u3 x3_1 x4_1 [.int .i64 x4_1] (fun _ => True) (fun _ => False) rfl rfl ?aP (fun _ hk => hk.elim) ?aF ?aO ?aB ?aS ?aL ?_; (case aP => exact rfl); (case aB => exact (bp9 HB.out)); (case aF => exact (fun _ _ => trivial)); (case aO => exact (rp9 HO_3.out)); (case aS => exact (below_size (bp9 HB.out))); (case aL => have := LMc3.out; omega); intro v102 w4 ho hb hg hat; rw [← Ny101.out] at ho; have n0_ := Aside0.mk (hb); have n1_ := Aside0.mk (ho); clear HB; clear HO_3; have HB := n0_; have HO103 := n1_; clear n0_ n1_; clear ho hb hg hat))
     go_roundg k1
     case measure => have := HK1.out; omega
     case rel => exact ⟨(y101), (wrap64 (x4_1 + 1)), (by first | rfl | (simp; done) | (simp [*]; done)), H', ⟨by have := HK1.out; omega⟩, ⟨rp9 HO103.out⟩, ⟨bp9 HB.out⟩⟩
    ·rw [if_neg c3] at H
     exact absurd H (by simp)
   ·rw [if_neg c2] at H
    have c2b0 : decide (x4_1 < a0) = false := decide_eq_false c2
    clear c2
    obtain rfl := Option.some.inj H
    go_wp2
    go_ret
    exact ⟨_, by first | rfl | (simp [errW_none, errW_some] <;> rfl) | (simp [*, errW_none, errW_some] <;> rfl), by (with_reducible repeat (first | apply Kd.R_alloc | apply Kd.R_drewN | apply Kd.R_drew)); exact HO_3.out, bp9 HB.out⟩

/-! ### cupolaref06_Linear: function 104 -/
def cupolaref06_Linear.l0 : Nat → List Int → List (List Int) → List (List Int) → Int → Option ((List (List Int)))
 | 0, _, _, _, _ => none
 | k + 1, x0, x3, x4, x5 => if x5 < (x4.length : Int) then (if 0 ≤ x5 then ((cupolaref06_Fits.f k (rd_L4 x4 x5) x0).bind fun t108 => (if t108 = true then (if x3.length < 5864062014805 then (cupolaref06_Linear.l0 k x0 (x3 ++ [rd_L4 x4 x5]) x4 (wrap64 (x5 + 1))) else (none)) else (cupolaref06_Linear.l0 k x0 x3 x4 (wrap64 (x5 + 1))))) else (none)) else (some x3)
def cupolaref06_Linear.f (k : Nat) (l0 : List Int) : Option ((List (List Int))) := if (l0.length : Int) > 6 then (some ([] : List (List Int))) else ((cupolaref06_things.f k (l0.length : Int)).bind fun t101 => ((cupolaref06_All.f k t101).bind fun t104 => (cupolaref06_Linear.l0 k l0 ([] : List (List Int)) t104 0)))
set_option maxHeartbeats 8000000 in
set_option maxRecDepth 100000 in
theorem cupolaref06_Linear.calls (k : Nat) (A0 : Option Addr) (c0 : Nat) (l0 : List Int) (r : List (List Int)) (w : World) (hr0 : Kd.C (Kd.int .u32) w A0 l0.length l0) (hc0 : l0.length ≤ c0) (h : cupolaref06_Linear.f k l0 = some r) :
  Calls Try.prog 104 #[.slice A0 l0.length c0] w fun e w' => ∃ v0_ : Value, e = .returned (v0_) ∧ Kd.N (Kd.slice 3 (Kd.int .i64)) 33 w' w.heap.size (fun k_ => (w.heap.size ≤ k_)) v0_ r ∧ Below w.heap.size w w' := by
 have HR0 := Aside0.mk hr0
 have HC0 := Aside0.mk hc0
 clear hr0 hc0
 have HB := Aside0.mk (Below.refl w.heap.size w)
 have H : (if (l0.length : Int) > 6 then (some ([] : List (List Int))) else ((cupolaref06_things.f k (l0.length : Int)).bind fun t101 => ((cupolaref06_All.f k t101).bind fun t104 => (cupolaref06_Linear.l0 k l0 ([] : List (List Int)) t104 0)))) = some r := h
 clear h
 by_cases c2 : (l0.length : Int) > 6
 ·rw [if_pos c2] at H
  have c2b0 : decide (6 < (l0.length : Int)) = true := decide_eq_true c2
  have c2b1 : decide (6 < l0.length) = true := decide_eq_true (by omega)
  clear c2
  obtain rfl := Option.some.inj H
  go_enter Try.func104, Try.ntmps104
  go_wp2
  go_ret
  exact ⟨_, by first | rfl | (simp [errW_none, errW_some] <;> rfl) | (simp [*, errW_none, errW_some] <;> rfl), by first | exact Kd.S_nil _ _ _ _ _ | exact Kd.N_nil _ _ _ _ _ | exact Kd.V_nil _ _ _ _ _ | exact Kd.Q_nil _ _ _ _ _ | exact Kd.R_nil _ _ _ _ _, bp9 HB.out⟩
 ·rw [if_neg c2] at H
  have c2b0 : decide (6 < (l0.length : Int)) = false := decide_eq_false c2
  have c2b1 : decide (6 < l0.length) = false := decide_eq_false (by omega)
  clear c2
  replace H := Option.bind_eq_some_iff.mp H
  obtain ⟨t101, A30, H⟩ := H
  have A3 := Aside0.mk A30
  clear A30
  replace H := Option.bind_eq_some_iff.mp H
  obtain ⟨t104, A40, H⟩ := H
  have A4 := Aside0.mk A40
  clear A40
  have H' := Aside0.mk H
  clear H
  go_enter Try.func104, Try.ntmps104
  go_wp2_with (first | ((with_reducible refine gate_callee (f := 148) rfl ?_); refine goesL9 (some 11) rfl rfl Try.func148 (by kernel_rfl) rfl #[.int .i64 (l0.length : Int)] rfl ?_; (with_reducible refine (cupolaref06_things.calls k (l0.length : Int) t101 _ A3.out).mono ?_); rintro e w5 ⟨v102, rfl, ho0, hb⟩; refine ⟨_, rfl, ?_⟩; have n0_ := Aside0.mk (Kd.R_lower (Kd.R_newM (M := fun k_ => (w.heap.size ≤ k_)) ho0 (below_size (bp9 HB.out)) (fun k_ h_ => h_)) (below_size (bp9 HB.out))); have n1_ := Aside0.mk (below_step (bp9 HB.out) hb); clear HB; have HO103 := n0_; have HB := n1_; clear n0_ n1_; (try clear hb); (try clear hb2); (try clear hk); (try clear hi); (try clear ho0); obtain ⟨Ao6, co6, eo6⟩ := Kd.R_slice HO103.out; subst eo6) | ((with_reducible refine gate_callee (f := 103) rfl ?_); refine goesL9 (some 12) rfl rfl Try.func103 (by kernel_rfl) rfl #[.slice Ao6 t101.length co6] rfl ?_; (with_reducible refine (cupolaref06_All.calls k _ _ t101 t104 _ ?side1 ?side2 A4.out).mono ?_); (case side1 => exact lp9 (Kd.R_reads' HO103.out).2.2); (case side2 => exact (Kd.R_reads' HO103.out).2.1); rintro e w7 ⟨v105, rfl, ho0, hb⟩; refine ⟨_, rfl, ?_⟩; have n0_ := Aside0.mk (Kd.R_below (rp9 HO103.out) hb); have n1_ := Aside0.mk (Kd.N_lower (Kd.N_mono (ok' := fun k_ => (w.heap.size ≤ k_) ∧ some k_ ≠ (.slice Ao6 t101.length co6 : Value).ownBlock) (Kd.S_N (Kd.S_bound ho0)) (fun k_ hk_ => ⟨(Nat.le_trans (below_size (bp9 HB.out)) hk_.2.1), (Kd.fresh' (Kd.R_lt (rp9 HO103.out)) k_ hk_.2.1)⟩)) (below_size (bp9 HB.out))); have n2_ := Aside0.mk (below_step (bp9 HB.out) hb); clear HO103; clear HB; have HO103 := n0_; have HO106 := n1_; have HB := n2_; clear n0_ n1_ n2_; (try clear hb); (try clear hb2); (try clear hk); (try clear hi); (try clear ho0)))
  go_loopg [3, 5] k (fun kq v3 v5 w' => ∃ (x3_1 : List (List Int)) (x5_1 : Int), v5 = .int .i64 x5_1 ∧ Aside0 (cupolaref06_Linear.l0 kq l0 x3_1 t104 x5_1 = some r) ∧ Aside0 (kq ≤ k) ∧ Aside0 (Kd.N (Kd.slice 3 (Kd.int .i64)) 33 w' w.heap.size (fun k_ => (w.heap.size ≤ k_) ∧ some k_ ≠ (v105 : Value).ownBlock) v3 x3_1) ∧ Aside0 (Kd.N (Kd.slice 3 (Kd.int .i64)) 33 w' w.heap.size (fun k_ => (w.heap.size ≤ k_) ∧ some k_ ≠ (v3 : Value).ownBlock) v105 t104) ∧ Aside0 (Below w.heap.size w w'))
  case atStart => exact ⟨(([] : List (List Int))), (0), (by first | rfl | (simp; done) | (simp [*]; done)), H', ⟨Nat.le_refl _⟩, ⟨by first | exact Kd.S_nil _ _ _ _ _ | exact Kd.N_nil _ _ _ _ _ | exact Kd.V_nil _ _ _ _ _ | exact Kd.Q_nil _ _ _ _ _ | exact Kd.R_nil _ _ _ _ _⟩, ⟨by (with_reducible repeat (first | apply Kd.N_alloc | apply Kd.N_drewN | apply Kd.N_drew)); exact Kd.N_mono HO106.out (fun _ hk => ⟨hk.1, (by simp [Value.ownBlock])⟩)⟩, ⟨bp9 HB.out⟩⟩
  case round =>
   clear H'
   try clear c1
   try clear c2
   try clear c2b0
   try clear c2b1
   try clear p2
   obtain ⟨x3_1, x5_1, rfl, HA, HK1, HO_3, HO_4, HB⟩ := hrel
   cases gk with
   | zero => exact absurd HA.out (by simp [cupolaref06_Linear.l0])
   | succ k1 =>
    have H := HA.out
    clear HA
    simp only [cupolaref06_Linear.l0] at H
    by_cases c8 : x5_1 < (t104.length : Int)
    ·rw [if_pos c8] at H
     have c8b0 : decide (x5_1 < (t104.length : Int)) = true := decide_eq_true c8
     clear c8
     by_cases c9 : 0 ≤ x5_1
     ·rw [if_pos c9] at H
      have c9b0 : decide (0 ≤ x5_1) = true := decide_eq_true c9
      clear c9
      replace H := Option.bind_eq_some_iff.mp H
      obtain ⟨t108, A100, H⟩ := H
      have A10 := Aside0.mk A100
      clear A100
      by_cases c11 : t108 = true
      ·subst c11
       rw [if_pos rfl] at H
       by_cases c12 : x3_1.length < 5864062014805
       ·rw [if_pos c12] at H
        have LMc12 := Aside0.mk c12
        clear c12
        obtain ⟨y110, hy110⟩ : ∃ y_ : List (List Int), y_ = (x3_1 ++ [rd_L4 t104 x5_1]) := ⟨_, rfl⟩
        replace H : (cupolaref06_Linear.l0 k1 l0 y110 t104 (wrap64 (x5_1 + 1))) = some r := by first | (rw [hy110]; with_reducible exact H) | (have H2_ := (Option.bind_some _ _).symm.trans H; rw [hy110]; with_reducible exact H2_) | (have H2_ := (Option.bind_some _ _).symm.trans H; with_reducible exact H2_) | with_reducible exact H | (rw [hy110]; exact H) | exact H
        have Ny110 := Aside0.mk hy110
        clear hy110
        have H' := Aside0.mk H
        clear H
        obtain ⟨Ao13, co13, eo13⟩ := Kd.N_slice HO_4.out
        subst eo13
        have p107 : 0 ≤ (x5_1 : Int) := of_decide_eq_true (by first | (with_reducible assumption) | assumption)
        have q107 : x5_1 < (t104.length : Int) := of_decide_eq_true (by first | (with_reducible assumption) | assumption)
        obtain ⟨ad107, A107_0, c107_0, e107, hx107_0, hl107_0, hi107_0⟩ := at_L4 (Kd.N_reads' HO_4.out).2.2 x5_1 p107 q107
        cases e107
        obtain ⟨ce107, hce107, hMe107, hcc107⟩ := Kd.N_get HO_4.out [] x5_1 p107 (by first | exact q107 | exact of_decide_eq_true (by first | (with_reducible assumption) | assumption) | (have e_ := (Kd.N_reads' HO_4.out).1; omega))
        obtain ⟨ua107_0, uc107_0, rfl, ul107_0, ge107_0⟩ := Kd.FK_slice_open hMe107
        have hv107_0 := hcc107 0 _ rfl
        rw [Nat.add_zero, show ((Kd.slice 3 (Kd.int .i64))).sz = 1 from rfl, Nat.mul_one] at hv107_0
        replace hv107_0 := Option.some.inj (hv107_0.symm.trans hx107_0)
        injection hv107_0 with hva_ hvn_ hvc_
        rw [hva_] at ge107_0
        rw [hvc_] at ul107_0
        have HL107_0 := Aside0.mk (show Kd.V (Kd.int .i64) 3 _ w.heap.size _ _ (rd_L4 t104 x5_1) from Kd.V_mk ul107_0 ge107_0)
        clear hva_ hvn_ hvc_ ge107_0 ul107_0
        clear hcc107 hce107
        have HR107_0 := Aside0.mk hi107_0
        have HC107_0 := Aside0.mk hl107_0
        clear hi107_0 hl107_0
        replace p107 := eq_true p107
        replace q107 := eq_true q107
        obtain ⟨Ao99, co99, eo99⟩ := Kd.N_slice HO_3.out
        subst eo99
        go_wp2_with (first | ((with_reducible refine gate_callee (f := 105) rfl ?_); refine goesL9 (some 24) rfl rfl Try.func105 (by kernel_rfl) rfl #[.slice A107_0 (rd_L4 t104 x5_1).length c107_0, .slice A0 l0.length c0] rfl ?_; (with_reducible refine (cupolaref06_Fits.calls k1 _ _ (rd_L4 t104 x5_1) _ _ l0 true _ ?side1 ?side2 ?side3 ?side4 A10.out).mono ?_); (case side1 => repeat (first | exact (by repeat (first | (with_reducible exact HR107_0.out) | (with_reducible refine Kd.C_alloc ?_ _) | (with_reducible refine Kd.C_drewN ?_ _) | (with_reducible refine Kd.C_drew ?_) | exact HR107_0.out)) | (with_reducible refine Kd.C_alloc ?_ _) | (with_reducible refine Kd.C_drewN ?_ _) | (with_reducible refine Kd.C_drew ?_))); (case side2 => exact HC107_0.out); (case side3 => exact cp9 HR0.out HB.out); (case side4 => exact HC0.out); rintro e w' ⟨rfl, ⟨nd, rfl⟩⟩; refine ⟨_, rfl, ?_⟩; have p109 : 0 ≤ (x5_1 : Int) := of_decide_eq_true (by first | (with_reducible assumption) | assumption); have q109 : x5_1 < (t104.length : Int) := of_decide_eq_true (by first | (with_reducible assumption) | assumption); obtain ⟨ad109, A109_0, c109_0, e109, hx109_0, hl109_0, hi109_0⟩ := at_L4 (Kd.N_reads' HO_4.out).2.2 x5_1 p109 q109; obtain rfl : ad107 = ad109 := (by injection e109); obtain ⟨ce109, hce109, hMe109, hcc109⟩ := Kd.N_get HO_4.out [] x5_1 p109 (by first | exact q109 | exact of_decide_eq_true (by first | (with_reducible assumption) | assumption) | (have e_ := (Kd.N_reads' HO_4.out).1; omega)); obtain ⟨ua109_0, uc109_0, rfl, ul109_0, ge109_0⟩ := Kd.FK_slice_open hMe109; have hv109_0 := hcc109 0 _ rfl; rw [Nat.add_zero, show ((Kd.slice 3 (Kd.int .i64))).sz = 1 from rfl, Nat.mul_one] at hv109_0; replace hv109_0 := Option.some.inj (hv109_0.symm.trans hx109_0); injection hv109_0 with hva_ hvn_ hvc_; rw [hva_] at ge109_0; rw [hvc_] at ul109_0; have HL109_0 := Aside0.mk (show Kd.V (Kd.int .i64) 3 _ w.heap.size _ _ (rd_L4 t104 x5_1) from Kd.V_mk ul109_0 ge109_0); clear hva_ hvn_ hvc_ ge109_0 ul109_0; clear hcc109 hce109; have HR109_0 := Aside0.mk hi109_0; have HC109_0 := Aside0.mk hl109_0; clear hi109_0 hl109_0; replace p109 := eq_true p109; replace q109 := eq_true q109; have ea_ := Option.some.inj (hx107_0.symm.trans hx109_0); injection ea_ with ea_ en_ ec_; subst ea_; subst ec_; clear en_) | ((with_reducible refine gate_builtin (b := .append) (xs := #[.tmp 25, .tmp 30]) rfl ?_); at_builtin; refine Kd.N_append (Kd.slice 3 (Kd.int .i64)) (w0 := w) w.heap.size rfl (.tmp 25) (.tmp 30) 35 33 (.slice none 0 0) 24 rfl Try.underlying35 info33 rfl (by decide) (by omega) (.slice Ao99 x3_1.length co99) x3_1 (rd_L4 t104 x5_1) [.slice A107_0 (rd_L4 t104 x5_1).length c107_0] (fun k_ => (w.heap.size ≤ k_) ∧ some k_ ≠ (.slice (some ad107) t104.length co13 : Value).ownBlock) (fun k_ => ((fun k_ => (w.heap.size ≤ k_) ∧ some k_ ≠ (.slice (some ad107) t104.length co13 : Value).ownBlock)) k_ ∧ some k_ ≠ (.slice Ao99 x3_1.length co99 : Value).ownBlock) rfl rfl ?aP (fun _ hk => hk) ?aF ?aO ?aB ?aS ?aL ?_; (case aP => exact (Kd.FK_slice_mk (Kd.V_reads' (Kd.V_mono (ok' := (fun k_ => ((fun k_ => (w.heap.size ≤ k_) ∧ some k_ ≠ (.slice (some ad107) t104.length co13 : Value).ownBlock)) k_ ∧ some k_ ≠ (.slice Ao99 x3_1.length co99 : Value).ownBlock)) (Kd.V_drewN HL109_0.out nd) (fun k_ hk => ⟨⟨hk.1.1, hk.2⟩, hk.1.2⟩))).2.1 (Kd.V_F (Kd.V_mono (ok' := (fun k_ => ((fun k_ => (w.heap.size ≤ k_) ∧ some k_ ≠ (.slice (some ad107) t104.length co13 : Value).ownBlock)) k_ ∧ some k_ ≠ (.slice Ao99 x3_1.length co99 : Value).ownBlock)) (Kd.V_drewN HL109_0.out nd) (fun k_ hk => ⟨⟨hk.1.1, hk.2⟩, hk.1.2⟩))))); (case aB => exact (bp9 HB.out)); (case aF => exact (fun k_ hk => ⟨(Nat.le_trans (below_size (bp9 HB.out)) hk), Kd.fresh' (Kd.N_lt (by (with_reducible repeat (first | apply Kd.N_alloc | apply Kd.N_drewN | apply Kd.N_drew)); exact HO_4.out)) k_ hk⟩)); (case aO => exact (by (with_reducible repeat (first | apply Kd.N_alloc | apply Kd.N_drewN | apply Kd.N_drew)); exact HO_3.out)); (case aS => exact (below_size (bp9 HB.out))); (case aL => have := LMc12.out; omega); intro v111 w14 ho hb hg hat; rw [← Ny110.out] at ho; have n0_ := Aside0.mk (Kd.N_afterv (ok := (fun k_ => (w.heap.size ≤ k_))) (by (with_reducible repeat (first | apply Kd.N_alloc | apply Kd.N_drewN | apply Kd.N_drew)); exact HO_4.out) hg hat); have n1_ := Aside0.mk (Kd.V_afterv (ok := (fun k_ => (w.heap.size ≤ k_) ∧ some k_ ≠ (.slice (some ad107) t104.length co13 : Value).ownBlock)) (by (with_reducible repeat (first | apply Kd.V_alloc | apply Kd.V_drewN | apply Kd.V_drew)); exact Kd.V_mono HL107_0.out (fun _ hk => ⟨⟨hk.1.1, hk.2⟩, hk.1.2⟩)) hg hat); have n2_ := Aside0.mk (Kd.V_afterv (ok := (fun k_ => (w.heap.size ≤ k_) ∧ some k_ ≠ (.slice (some ad107) t104.length co13 : Value).ownBlock)) (by (with_reducible repeat (first | apply Kd.V_alloc | apply Kd.V_drewN | apply Kd.V_drew)); exact Kd.V_mono HL109_0.out (fun _ hk => ⟨⟨hk.1.1, hk.2⟩, hk.1.2⟩)) hg hat); have n3_ := Aside0.mk (hb); have n4_ := Aside0.mk (ho); clear HO_4; clear HL107_0; clear HL109_0; clear HB; clear HO_3; have HO_4 := n0_; have HL107_0 := n1_; have HL109_0 := n2_; have HB := n3_; have HO112 := n4_; clear n0_ n1_ n2_ n3_ n4_; clear ho hb hg hat))
        go_roundg k1
        case measure => have := HK1.out; omega
        case rel => exact ⟨(y110), (wrap64 (x5_1 + 1)), (by first | rfl | (simp; done) | (simp [*]; done)), H', ⟨by have := HK1.out; omega⟩, ⟨by (with_reducible repeat (first | apply Kd.N_alloc | apply Kd.N_drewN | apply Kd.N_drew)); exact HO112.out⟩, ⟨by (with_reducible repeat (first | apply Kd.N_alloc | apply Kd.N_drewN | apply Kd.N_drew)); exact HO_4.out⟩, ⟨bp9 HB.out⟩⟩
       ·rw [if_neg c12] at H
        exact absurd H (by simp)
      ·replace c11 := Bool.eq_false_iff.mpr c11
       subst c11
       rw [if_neg (show ¬ (false = true) by decide)] at H
       have H' := Aside0.mk H
       clear H
       obtain ⟨Ao15, co15, eo15⟩ := Kd.N_slice HO_4.out
       subst eo15
       have p107 : 0 ≤ (x5_1 : Int) := of_decide_eq_true (by first | (with_reducible assumption) | assumption)
       have q107 : x5_1 < (t104.length : Int) := of_decide_eq_true (by first | (with_reducible assumption) | assumption)
       obtain ⟨ad107, A107_0, c107_0, e107, hx107_0, hl107_0, hi107_0⟩ := at_L4 (Kd.N_reads' HO_4.out).2.2 x5_1 p107 q107
       cases e107
       obtain ⟨ce107, hce107, hMe107, hcc107⟩ := Kd.N_get HO_4.out [] x5_1 p107 (by first | exact q107 | exact of_decide_eq_true (by first | (with_reducible assumption) | assumption) | (have e_ := (Kd.N_reads' HO_4.out).1; omega))
       obtain ⟨ua107_0, uc107_0, rfl, ul107_0, ge107_0⟩ := Kd.FK_slice_open hMe107
       have hv107_0 := hcc107 0 _ rfl
       rw [Nat.add_zero, show ((Kd.slice 3 (Kd.int .i64))).sz = 1 from rfl, Nat.mul_one] at hv107_0
       replace hv107_0 := Option.some.inj (hv107_0.symm.trans hx107_0)
       injection hv107_0 with hva_ hvn_ hvc_
       rw [hva_] at ge107_0
       rw [hvc_] at ul107_0
       have HL107_0 := Aside0.mk (show Kd.V (Kd.int .i64) 3 _ w.heap.size _ _ (rd_L4 t104 x5_1) from Kd.V_mk ul107_0 ge107_0)
       clear hva_ hvn_ hvc_ ge107_0 ul107_0
       clear hcc107 hce107
       have HR107_0 := Aside0.mk hi107_0
       have HC107_0 := Aside0.mk hl107_0
       clear hi107_0 hl107_0
       replace p107 := eq_true p107
       replace q107 := eq_true q107
       go_wp2_with (first | ((with_reducible refine gate_callee (f := 105) rfl ?_); refine goesL9 (some 24) rfl rfl Try.func105 (by kernel_rfl) rfl #[.slice A107_0 (rd_L4 t104 x5_1).length c107_0, .slice A0 l0.length c0] rfl ?_; (with_reducible refine (cupolaref06_Fits.calls k1 _ _ (rd_L4 t104 x5_1) _ _ l0 false _ ?side1 ?side2 ?side3 ?side4 A10.out).mono ?_); (case side1 => repeat (first | exact (by repeat (first | (with_reducible exact HR107_0.out) | (with_reducible refine Kd.C_alloc ?_ _) | (with_reducible refine Kd.C_drewN ?_ _) | (with_reducible refine Kd.C_drew ?_) | exact HR107_0.out)) | (with_reducible refine Kd.C_alloc ?_ _) | (with_reducible refine Kd.C_drewN ?_ _) | (with_reducible refine Kd.C_drew ?_))); (case side2 => exact HC107_0.out); (case side3 => exact cp9 HR0.out HB.out); (case side4 => exact HC0.out); rintro e w' ⟨rfl, ⟨nd, rfl⟩⟩; refine ⟨_, rfl, ?_⟩))
       go_roundg k1
       case measure => have := HK1.out; omega
       case rel => exact ⟨(x3_1), (wrap64 (x5_1 + 1)), (by first | rfl | (simp; done) | (simp [*]; done)), H', ⟨by have := HK1.out; omega⟩, ⟨by (with_reducible repeat (first | apply Kd.N_alloc | apply Kd.N_drewN | apply Kd.N_drew)); exact HO_3.out⟩, ⟨by (with_reducible repeat (first | apply Kd.N_alloc | apply Kd.N_drewN | apply Kd.N_drew)); exact HO_4.out⟩, ⟨bp9 HB.out⟩⟩
     ·rw [if_neg c9] at H
      exact absurd H (by simp)
    ·rw [if_neg c8] at H
     have c8b0 : decide (x5_1 < (t104.length : Int)) = false := decide_eq_false c8
     clear c8
     obtain rfl := Option.some.inj H
     obtain ⟨Ao16, co16, eo16⟩ := Kd.N_slice HO_4.out
     subst eo16
     go_wp2
     go_ret
     exact ⟨_, by first | rfl | (simp [errW_none, errW_some] <;> rfl) | (simp [*, errW_none, errW_some] <;> rfl), by (with_reducible repeat (first | apply Kd.N_alloc | apply Kd.N_drewN | apply Kd.N_drew)); exact Kd.N_mono HO_3.out (fun _ hk => hk.1), bp9 HB.out⟩

/-! ### cupolaref06_Of: function 107 -/
mutual
def cupolaref06_Of.j0 : Nat → Int → List Int → Bool → Option (List Int)
 | 0, _, _, _ => none
 | k + 1, x0, x1, x13 => if x13 = true then (some ([] : List Int)) else (cupolaref06_Of.l0 k x0 x1 ([] : List (S46)) 0)
def cupolaref06_Of.l0 : Nat → Int → List Int → List (S46) → Int → Option (List Int)
 | 0, _, _, _, _ => none
 | k + 1, x0, x1, x5, x6 => if x6 < (x1.length : Int) then (cupolaref06_Of.l1 k x0 x1 x5 x6 (wrap64 (x6 + 1))) else ((cupolaref05_Made.f k x0 x5).bind fun t110 => (some t110))
def cupolaref06_Of.l1 : Nat → Int → List Int → List (S46) → Int → Int → Option (List Int)
 | 0, _, _, _, _, _ => none
 | k + 1, x0, x1, x5, x6, x7 => if x7 < (x1.length : Int) then (if 0 ≤ x6 then (if x6 < (x1.length : Int) then (if (rd x1 x6) ≥ 0 then (if (rd x1 x6) < x0 then (if 0 ≤ x7 then (if (rd x1 x7) ≥ 0 then (cupolaref06_Of.j3 k x0 x1 x5 x6 x7 (decide ((rd x1 x7) < x0))) else (cupolaref06_Of.j3 k x0 x1 x5 x6 x7 false)) else (none)) else (cupolaref06_Of.j3 k x0 x1 x5 x6 x7 false)) else (cupolaref06_Of.j3 k x0 x1 x5 x6 x7 false)) else (none)) else (none)) else (cupolaref06_Of.l0 k x0 x1 x5 (wrap64 (x6 + 1)))
def cupolaref06_Of.j3 : Nat → Int → List Int → List (S46) → Int → Int → Bool → Option (List Int)
 | 0, _, _, _, _, _, _ => none
 | k + 1, x0, x1, x5, x6, x7, x55 => if x55 = true then (if 0 ≤ x6 then (if x6 < (x1.length : Int) then (if 0 ≤ x7 then (if x7 < (x1.length : Int) then (if x5.length < 8796093022208 then (cupolaref06_Of.l1 k x0 x1 (x5 ++ [(⟨rd x1 x6, rd x1 x7⟩ : S46)]) x6 (wrap64 (x7 + 1))) else (none)) else (none)) else (none)) else (none)) else (none)) else (cupolaref06_Of.l1 k x0 x1 x5 x6 (wrap64 (x7 + 1)))
end
def cupolaref06_Of.f (k : Nat) (a0 : Int) (l1 : List Int) : Option (List Int) := if a0 < 0 then (cupolaref06_Of.j0 k a0 l1 true) else (cupolaref06_Of.j0 k a0 l1 (decide (a0 > 32)))
def cupolaref06_Of.T11 : Bool × List (List Nat × List Nat) := (true, [([], []), ([], []), ([], []), ([1, 2], [1, 2]), ([3], [3]), ([], []), ([], []), ([5, 6], [5, 6]), ([7], [7]), ([4, 8], [4, 8]), ([9], [9]), ([0, 10], [0, 10]), ([11, 11, 0, 1, 2, 3, 4, 5, 6, 7, 8, 9, 10, 11], [0, 11])])
def cupolaref06_Of.B11 : List Nat := [0, 0, 0, 6, 14, 0, 0, 96, 224, 510, 1022, 2047, 4095]
theorem cupolaref06_Of.tab11 : rtab .any (opsOf Try.f107 11) = cupolaref06_Of.T11 := by kernel_rfl
theorem cupolaref06_Of.bits11 : waitsOk cupolaref06_Of.T11.2 cupolaref06_Of.B11 = true := by kernel_rfl
set_option maxHeartbeats 8000000 in
set_option maxRecDepth 100000 in
theorem cupolaref06_Of.calls (k : Nat) (a0 : Int) (A1 : Option Addr) (c1 : Nat) (l1 : List Int) (r : List Int) (w : World) (hr1 : Kd.C (Kd.int .i64) w A1 l1.length l1) (hc1 : l1.length ≤ c1) (h : cupolaref06_Of.f k a0 l1 = some r) :
  Calls Try.prog 107 #[.int .i64 a0, .slice A1 l1.length c1] w fun e w' => ∃ v0_ : Value, e = .returned (v0_) ∧ Kd.R (Kd.int .u32) 52 w' w.heap.size (fun _ => True) v0_ r ∧ Below w.heap.size w w' := by
 have hu46 := Try.underlying46
 have HR1 := Aside0.mk hr1
 have HC1 := Aside0.mk hc1
 clear hr1 hc1
 have HB := Aside0.mk (Below.refl w.heap.size w)
 have H : (if a0 < 0 then (cupolaref06_Of.j0 k a0 l1 true) else (cupolaref06_Of.j0 k a0 l1 (decide (a0 > 32)))) = some r := h
 clear h
 have HC3 := Aside0.mk H
 clear H
 go_enter Try.func107, Try.ntmps107
 go_upto_region 1 with (fail)
 go_cut [13] (fun v13 wc => ∃ (kq : Nat) (x13_2 : Bool), v13 = .bool x13_2 ∧ Aside0 (cupolaref06_Of.j0 kq a0 l1 x13_2 = some r) ∧ Aside0 (kq ≤ k) ∧ Aside0 (Below w.heap.size w wc))
 case first =>
  have H := HC3.out
  clear HC3
  by_cases c4 : a0 < 0
  ·rw [if_pos c4] at H
   have c4b0 : decide (a0 < 0) = true := decide_eq_true c4
   clear c4
   (first | rw [c4b0] | (simp only [i64_w, i32_w]; rw [c4b0]) | skip)
   have H' := Aside0.mk H
   clear H
   go_wp2
   go_meet
   case rel => exact ⟨_, (true), (by first | rfl | (simp; done) | (simp [*]; done)), H', ⟨by first | omega | exact Nat.le_refl _⟩, ⟨bp9 HB.out⟩⟩
  ·rw [if_neg c4] at H
   have c4b0 : decide (a0 < 0) = false := decide_eq_false c4
   clear c4
   (first | rw [c4b0] | (simp only [i64_w, i32_w]; rw [c4b0]) | skip)
   have H' := Aside0.mk H
   clear H
   go_wp2
   go_meet
   case rel => exact ⟨_, (decide (a0 > 32)), (by first | rfl | (simp; done) | (simp [*]; done)), H', ⟨by first | omega | exact Nat.le_refl _⟩, ⟨bp9 HB.out⟩⟩
 case rest =>
  clear HC3
  try clear c1
  try clear p2
  try clear c4
  try clear c4b0
  obtain ⟨kq, x13_2, rfl, HA, HJ2, HB⟩ := hcut
  cases kq with
  | zero => exact absurd HA.out (by simp [cupolaref06_Of.j0])
  | succ kj2 =>
   have H := HA.out
   clear HA
   simp only [cupolaref06_Of.j0] at H
   by_cases c5 : x13_2 = true
   ·subst c5
    rw [if_pos rfl] at H
    obtain rfl := Option.some.inj H
    go_wp2
    go_ret
    exact ⟨_, by first | rfl | (simp [errW_none, errW_some] <;> rfl) | (simp [*, errW_none, errW_some] <;> rfl), by first | exact Kd.R_nil _ _ _ _ _ | exact Kd.N_nil _ _ _ _ _ | exact Kd.V_nil _ _ _ _ _ | exact Kd.Q_nil _ _ _ _ _ | exact Kd.S_nil _ _ _ _ _, bp9 HB.out⟩
   ·replace c5 := Bool.eq_false_iff.mpr c5
    subst c5
    rw [if_neg (show ¬ (false = true) by decide)] at H
    have H' := Aside0.mk H
    clear H
    go_wp2
    go_loopg [5, 6] kj2 (fun kq v5 v6 w' => ∃ (x5_2 : List (S46)) (x6_2 : Int), v6 = .int .i64 x6_2 ∧ Aside0 (cupolaref06_Of.l0 kq a0 l1 x5_2 x6_2 = some r) ∧ Aside0 (kq ≤ kj2) ∧ Aside0 (Kd.R k46 46 w' w.heap.size (fun _ => True) v5 x5_2) ∧ Aside0 (Below w.heap.size w w'))
    case atStart => exact ⟨(([] : List (S46))), (0), (by first | rfl | (simp; done) | (simp [*]; done)), H', ⟨Nat.le_refl _⟩, ⟨by first | exact Kd.R_nil _ _ _ _ _ | exact Kd.N_nil _ _ _ _ _ | exact Kd.V_nil _ _ _ _ _ | exact Kd.Q_nil _ _ _ _ _ | exact Kd.S_nil _ _ _ _ _⟩, ⟨bp9 HB.out⟩⟩
    case round =>
     clear H'
     try clear c1
     try clear p2
     try clear c4
     try clear c4b0
     try clear c5
     try clear p2
     obtain ⟨x5_2, x6_2, rfl, HA, HK2, HO_5, HB⟩ := hrel
     cases gk with
     | zero => exact absurd HA.out (by simp [cupolaref06_Of.l0])
     | succ k2 =>
      have H := HA.out
      clear HA
      simp only [cupolaref06_Of.l0] at H
      by_cases c6 : x6_2 < (l1.length : Int)
      ·rw [if_pos c6] at H
       have c6b0 : decide (x6_2 < (l1.length : Int)) = true := decide_eq_true c6
       clear c6
       have H' := Aside0.mk H
       clear H
       go_wp2
       go_loopg [5, 7] k2 (fun kq v5 v7 w' => ∃ (x5_3 : List (S46)) (x7_3 : Int), v7 = .int .i64 x7_3 ∧ Aside0 (cupolaref06_Of.l1 kq a0 l1 x5_3 x6_2 x7_3 = some r) ∧ Aside0 (kq ≤ k2) ∧ Aside0 (Kd.R k46 46 w' w.heap.size (fun _ => True) v5 x5_3) ∧ Aside0 (Below w.heap.size w w'))
       case atStart => exact ⟨(x5_2), (wrap64 (x6_2 + 1)), (by first | rfl | (simp; done) | (simp [*]; done)), H', ⟨Nat.le_refl _⟩, ⟨rp9 HO_5.out⟩, ⟨bp9 HB.out⟩⟩
       case round =>
        clear H'
        try clear c1
        try clear p2
        try clear c4
        try clear c4b0
        try clear c5
        try clear c6
        try clear c6b0
        try clear p6
        try clear p2
        obtain ⟨x5_3, x7_3, rfl, HA, HK3, HO_5, HB⟩ := hrel
        cases gk with
        | zero => exact absurd HA.out (by simp [cupolaref06_Of.l1])
        | succ k3 =>
         have H := HA.out
         clear HA
         simp only [cupolaref06_Of.l1] at H
         by_cases c7 : x7_3 < (l1.length : Int)
         ·rw [if_pos c7] at H
          have c7b0 : decide (x7_3 < (l1.length : Int)) = true := decide_eq_true c7
          clear c7
          have HC8 := Aside0.mk H
          clear H
          go_upto_region 10 with (fail)
          go_cut [55] (fun v55 wc => ∃ (kq : Nat) (x55_7 : Bool), v55 = .bool x55_7 ∧ Aside0 (cupolaref06_Of.j3 kq a0 l1 x5_3 x6_2 x7_3 x55_7 = some r) ∧ Aside0 (kq ≤ k3) ∧ Aside0 (Kd.R k46 46 wc w.heap.size (fun _ => True) u5 x5_3) ∧ Aside0 (Below w.heap.size w wc))
          case first =>
           have H := HC8.out
           clear HC8
           by_cases c9 : 0 ≤ x6_2
           ·rw [if_pos c9] at H
            have c9b0 : decide (0 ≤ x6_2) = true := decide_eq_true c9
            clear c9
            (first | rw [c9b0] | (simp only [i64_w, i32_w]; rw [c9b0]) | skip)
            by_cases c10 : x6_2 < (l1.length : Int)
            ·rw [if_pos c10] at H
             have c10b0 : decide (x6_2 < (l1.length : Int)) = true := decide_eq_true c10
             clear c10
             by_cases c11 : (rd l1 x6_2) ≥ 0
             ·rw [if_pos c11] at H
              have c11b0 : decide (0 ≤ (rd l1 x6_2)) = true := decide_eq_true c11
              clear c11
              by_cases c12 : (rd l1 x6_2) < a0
              ·rw [if_pos c12] at H
               have c12b0 : decide ((rd l1 x6_2) < a0) = true := decide_eq_true c12
               clear c12
               by_cases c13 : 0 ≤ x7_3
               ·rw [if_pos c13] at H
                have c13b0 : decide (0 ≤ x7_3) = true := decide_eq_true c13
                clear c13
                by_cases c14 : (rd l1 x7_3) ≥ 0
                ·rw [if_pos c14] at H
                 have c14b0 : decide (0 ≤ (rd l1 x7_3)) = true := decide_eq_true c14
                 clear c14
                 have H' := Aside0.mk H
                 clear H
                 have p101 : 0 ≤ (x6_2 : Int) := of_decide_eq_true (by first | (with_reducible assumption) | assumption)
                 have q101 : x6_2 < (l1.length : Int) := of_decide_eq_true (by first | (with_reducible assumption) | assumption)
                 obtain ⟨ad101, e101, hx101_0⟩ := Kd.at_int HR1.out x6_2 p101 q101
                 cases e101
                 replace hx101_0 := (HB.out.cell (World.block_lt_of_cell? w _ hx101_0)).trans hx101_0
                 replace p101 := eq_true p101
                 replace q101 := eq_true q101
                 have p102 : 0 ≤ (x6_2 : Int) := of_decide_eq_true (by first | (with_reducible assumption) | assumption)
                 have q102 : x6_2 < (l1.length : Int) := of_decide_eq_true (by first | (with_reducible assumption) | assumption)
                 obtain ⟨ad102, e102, hx102_0⟩ := Kd.at_int HR1.out x6_2 p102 q102
                 obtain rfl : ad101 = ad102 := (by injection e102)
                 replace hx102_0 := (HB.out.cell (World.block_lt_of_cell? w _ hx102_0)).trans hx102_0
                 replace p102 := eq_true p102
                 replace q102 := eq_true q102
                 have p103 : 0 ≤ (x7_3 : Int) := of_decide_eq_true (by first | (with_reducible assumption) | assumption)
                 have q103 : x7_3 < (l1.length : Int) := of_decide_eq_true (by first | (with_reducible assumption) | assumption)
                 obtain ⟨ad103, e103, hx103_0⟩ := Kd.at_int HR1.out x7_3 p103 q103
                 obtain rfl : ad101 = ad103 := (by injection e103)
                 replace hx103_0 := (HB.out.cell (World.block_lt_of_cell? w _ hx103_0)).trans hx103_0
                 replace p103 := eq_true p103
                 replace q103 := eq_true q103
                 have p104 : 0 ≤ (x7_3 : Int) := of_decide_eq_true (by first | (with_reducible assumption) | assumption)
                 have q104 : x7_3 < (l1.length : Int) := of_decide_eq_true (by first | (with_reducible assumption) | assumption)
                 obtain ⟨ad104, e104, hx104_0⟩ := Kd.at_int HR1.out x7_3 p104 q104
                 obtain rfl : ad101 = ad104 := (by injection e104)
                 replace hx104_0 := (HB.out.cell (World.block_lt_of_cell? w _ hx104_0)).trans hx104_0
                 replace p104 := eq_true p104
                 replace q104 := eq_true q104
                 go_wp2
                 go_meet
                 case rel => exact ⟨_, (decide ((rd l1 x7_3) < a0)), (by first | rfl | (simp; done) | (simp [*]; done)), H', ⟨by have := HJ2.out; have := HK2.out; have := HK3.out; first | omega | exact Nat.le_refl _⟩, ⟨rp9 HO_5.out⟩, ⟨bp9 HB.out⟩⟩
                ·rw [if_neg c14] at H
                 have c14b0 : decide (0 ≤ (rd l1 x7_3)) = false := decide_eq_false c14
                 clear c14
                 have H' := Aside0.mk H
                 clear H
                 have p101 : 0 ≤ (x6_2 : Int) := of_decide_eq_true (by first | (with_reducible assumption) | assumption)
                 have q101 : x6_2 < (l1.length : Int) := of_decide_eq_true (by first | (with_reducible assumption) | assumption)
                 obtain ⟨ad101, e101, hx101_0⟩ := Kd.at_int HR1.out x6_2 p101 q101
                 cases e101
                 replace hx101_0 := (HB.out.cell (World.block_lt_of_cell? w _ hx101_0)).trans hx101_0
                 replace p101 := eq_true p101
                 replace q101 := eq_true q101
                 have p102 : 0 ≤ (x6_2 : Int) := of_decide_eq_true (by first | (with_reducible assumption) | assumption)
                 have q102 : x6_2 < (l1.length : Int) := of_decide_eq_true (by first | (with_reducible assumption) | assumption)
                 obtain ⟨ad102, e102, hx102_0⟩ := Kd.at_int HR1.out x6_2 p102 q102
                 obtain rfl : ad101 = ad102 := (by injection e102)
                 replace hx102_0 := (HB.out.cell (World.block_lt_of_cell? w _ hx102_0)).trans hx102_0
                 replace p102 := eq_true p102
                 replace q102 := eq_true q102
                 have p103 : 0 ≤ (x7_3 : Int) := of_decide_eq_true (by first | (with_reducible assumption) | assumption)
                 have q103 : x7_3 < (l1.length : Int) := of_decide_eq_true (by first | (with_reducible assumption) | assumption)
                 obtain ⟨ad103, e103, hx103_0⟩ := Kd.at_int HR1.out x7_3 p103 q103
                 obtain rfl : ad101 = ad103 := (by injection e103)
                 replace hx103_0 := (HB.out.cell (World.block_lt_of_cell? w _ hx103_0)).trans hx103_0
                 replace p103 := eq_true p103
                 replace q103 := eq_true q103
                 go_wp2
                 go_meet
                 case rel => exact ⟨_, (false), (by first | rfl | (simp; done) | (simp [*]; done)), H', ⟨by have := HJ2.out; have := HK2.out; have := HK3.out; first | omega | exact Nat.le_refl _⟩, ⟨rp9 HO_5.out⟩, ⟨bp9 HB.out⟩⟩
               ·rw [if_neg c13] at H
                exact absurd H (by simp)
              ·rw [if_neg c12] at H
               have c12b0 : decide ((rd l1 x6_2) < a0) = false := decide_eq_false c12
               clear c12
               have H' := Aside0.mk H
               clear H
               have p101 : 0 ≤ (x6_2 : Int) := of_decide_eq_true (by first | (with_reducible assumption) | assumption)
               have q101 : x6_2 < (l1.length : Int) := of_decide_eq_true (by first | (with_reducible assumption) | assumption)
               obtain ⟨ad101, e101, hx101_0⟩ := Kd.at_int HR1.out x6_2 p101 q101
               cases e101
               replace hx101_0 := (HB.out.cell (World.block_lt_of_cell? w _ hx101_0)).trans hx101_0
               replace p101 := eq_true p101
               replace q101 := eq_true q101
               have p102 : 0 ≤ (x6_2 : Int) := of_decide_eq_true (by first | (with_reducible assumption) | assumption)
               have q102 : x6_2 < (l1.length : Int) := of_decide_eq_true (by first | (with_reducible assumption) | assumption)
               obtain ⟨ad102, e102, hx102_0⟩ := Kd.at_int HR1.out x6_2 p102 q102
               obtain rfl : ad101 = ad102 := (by injection e102)
               replace hx102_0 := (HB.out.cell (World.block_lt_of_cell? w _ hx102_0)).trans hx102_0
               replace p102 := eq_true p102
               replace q102 := eq_true q102
               go_wp2
               go_meet
               case rel => exact ⟨_, (false), (by first | rfl | (simp; done) | (simp [*]; done)), H', ⟨by have := HJ2.out; have := HK2.out; have := HK3.out; first | omega | exact Nat.le_refl _⟩, ⟨rp9 HO_5.out⟩, ⟨bp9 HB.out⟩⟩
             ·rw [if_neg c11] at H
              have c11b0 : decide (0 ≤ (rd l1 x6_2)) = false := decide_eq_false c11
              clear c11
              have H' := Aside0.mk H
              clear H
              have p101 : 0 ≤ (x6_2 : Int) := of_decide_eq_true (by first | (with_reducible assumption) | assumption)
              have q101 : x6_2 < (l1.length : Int) := of_decide_eq_true (by first | (with_reducible assumption) | assumption)
              obtain ⟨ad101, e101, hx101_0⟩ := Kd.at_int HR1.out x6_2 p101 q101
              cases e101
              replace hx101_0 := (HB.out.cell (World.block_lt_of_cell? w _ hx101_0)).trans hx101_0
              replace p101 := eq_true p101
              replace q101 := eq_true q101
              go_wp2
              go_meet
              case rel => exact ⟨_, (false), (by first | rfl | (simp; done) | (simp [*]; done)), H', ⟨by have := HJ2.out; have := HK2.out; have := HK3.out; first | omega | exact Nat.le_refl _⟩, ⟨rp9 HO_5.out⟩, ⟨bp9 HB.out⟩⟩
            ·rw [if_neg c10] at H
             exact absurd H (by simp)
           ·rw [if_neg c9] at H
            exact absurd H (by simp)
          case rest =>
           clear HC8
           try clear c1
           try clear p1
           try clear q1
           try clear hx1
           try clear p2
           try clear c4
           try clear c4b0
           try clear c5
           try clear c6
           try clear c6b0
           try clear p6
           try clear c7
           try clear c7b0
           try clear c9
           try clear c9b0
           try clear c10
           try clear c10b0
           try clear p10
           try clear q10
           try clear hx10
           try clear c11
           try clear c11b0
           try clear c12
           try clear c12b0
           try clear c13
           try clear c13b0
           try clear c14
           try clear c14b0
           try clear hx101_0
           try clear hx102_0
           try clear hx103_0
           try clear hx104_0
           try clear p101
           try clear p102
           try clear p103
           try clear p104
           try clear p2
           try clear p6
           try clear q101
           try clear q102
           try clear q103
           try clear q104
           obtain ⟨kq, x55_7, rfl, HA, HJ7, HO_5, HB⟩ := hcut
           cases kq with
           | zero => exact absurd HA.out (by simp [cupolaref06_Of.j3])
           | succ kj7 =>
            have H := HA.out
            clear HA
            simp only [cupolaref06_Of.j3] at H
            by_cases c15 : x55_7 = true
            ·subst c15
             rw [if_pos rfl] at H
             by_cases c16 : 0 ≤ x6_2
             ·rw [if_pos c16] at H
              have c16b0 : decide (0 ≤ x6_2) = true := decide_eq_true c16
              clear c16
              by_cases c17 : x6_2 < (l1.length : Int)
              ·rw [if_pos c17] at H
               have c17b0 : decide (x6_2 < (l1.length : Int)) = true := decide_eq_true c17
               clear c17
               by_cases c18 : 0 ≤ x7_3
               ·rw [if_pos c18] at H
                have c18b0 : decide (0 ≤ x7_3) = true := decide_eq_true c18
                clear c18
                by_cases c19 : x7_3 < (l1.length : Int)
                ·rw [if_pos c19] at H
                 have c19b0 : decide (x7_3 < (l1.length : Int)) = true := decide_eq_true c19
                 clear c19
                 by_cases c20 : x5_3.length < 8796093022208
                 ·rw [if_pos c20] at H
                  have LMc20 := Aside0.mk c20
                  clear c20
                  obtain ⟨y107, hy107⟩ : ∃ y_ : List (S46), y_ = (x5_3 ++ [(⟨rd l1 x6_2, rd l1 x7_3⟩ : S46)]) := ⟨_, rfl⟩
                  replace H : (cupolaref06_Of.l1 kj7 a0 l1 y107 x6_2 (wrap64 (x7_3 + 1))) = some r := by first | (rw [hy107]; with_reducible exact H) | (have H2_ := (Option.bind_some _ _).symm.trans H; rw [hy107]; with_reducible exact H2_) | (have H2_ := (Option.bind_some _ _).symm.trans H; with_reducible exact H2_) | with_reducible exact H | (rw [hy107]; exact H) | exact H
                  have Ny107 := Aside0.mk hy107
                  clear hy107
                  have H' := Aside0.mk H
                  clear H
                  try go_wp2
                  have n0_ := Aside0.mk (Kd.R_drew HO_5.out)
                  have n1_ := Aside0.mk (below_drew1 HB.out)
                  clear HO_5 HB
                  revert n0_ n1_; intro HO_5 HB
                  have p105 : 0 ≤ (x6_2 : Int) := of_decide_eq_true (by first | (with_reducible assumption) | assumption)
                  have q105 : x6_2 < (l1.length : Int) := of_decide_eq_true (by first | (with_reducible assumption) | assumption)
                  obtain ⟨ad105, e105, hx105_0⟩ := Kd.at_int HR1.out x6_2 p105 q105
                  have hw105_0 := hx105_0
                  cases e105
                  replace hx105_0 := (HB.out.cell (World.block_lt_of_cell? w _ hx105_0)).trans hx105_0
                  replace p105 := eq_true p105
                  replace q105 := eq_true q105
                  have p106 : 0 ≤ (x7_3 : Int) := of_decide_eq_true (by first | (with_reducible assumption) | assumption)
                  have q106 : x7_3 < (l1.length : Int) := of_decide_eq_true (by first | (with_reducible assumption) | assumption)
                  obtain ⟨ad106, e106, hx106_0⟩ := Kd.at_int HR1.out x7_3 p106 q106
                  have hw106_0 := hx106_0
                  obtain rfl : ad105 = ad106 := (by injection e106)
                  replace hx106_0 := (HB.out.cell (World.block_lt_of_cell? w _ hx106_0)).trans hx106_0
                  replace p106 := eq_true p106
                  replace q106 := eq_true q106
                  refine start_ (n := 13) (S := fun w' => w'.cell? (ad105.add (x6_2).toNat) = some (.int .i64 (rd l1 x6_2)) ∧ w'.cell? (ad105.add (x7_3).toNat) = some (.int .i64 (rd l1 x7_3))) (ds := []) #[o9, o9, o9, o9, o9, o9, o9, o9, o9, o9, o9, o9, o9] (by kernel_rfl) rfl rfl ⟨((HB.out.cell (World.block_lt_of_cell? w _ hw105_0)).trans hw105_0), ((HB.out.cell (World.block_lt_of_cell? w _ hw106_0)).trans hw106_0)⟩ (fun hHeld => ?_); refine with_tabW cupolaref06_Of.tab11 cupolaref06_Of.bits11 (fun HT_ HW_ => ?_)
                  generalize wc.drew = w21 at HO_5 HB hx105_0 hx106_0 hHeld ⊢
                  refine pure_ (i := 0) (N := some 56) (v := ?_) (a' := ?_) #[i9, o9, o9, o9, o9, o9, o9, o9, o9, o9, o9, o9, o9] rfl rfl (any_of HT_.out (by kernel_rfl)) (fun _ _ _ h => h) (Or.inl ⟨by rfl, ?_⟩) ?_ ?_
                  rotate_left
                  ·intro w'
                   go_simp
                   with_reducible rfl
                  rotate_left
                  ·simp only [Act.put, List.setIfInBounds_toArray, List.set_cons_zero, List.set_cons_succ, i64_w, i32_w]
                   rfl
                  refine pure_ (i := 1) (N := some 57) (v := ?_) (a' := ?_) #[i9, i9, o9, o9, o9, o9, o9, o9, o9, o9, o9, o9, o9] rfl rfl (any_of HT_.out (by kernel_rfl)) (fun _ _ _ h => h) (Or.inl ⟨by rfl, ?_⟩) ?_ ?_
                  rotate_left
                  ·intro w'
                   go_simp
                   with_reducible rfl
                  rotate_left
                  ·simp only [Act.put, List.setIfInBounds_toArray, List.set_cons_zero, List.set_cons_succ, i64_w, i32_w]
                   rfl
                  refine pure_ (i := 2) (N := some 58) (v := ?_) (a' := ?_) #[i9, i9, i9, o9, o9, o9, o9, o9, o9, o9, o9, o9, o9] rfl rfl (any_of HT_.out (by kernel_rfl)) (fun _ _ _ h => h) (Or.inl ⟨by rfl, ?_⟩) ?_ ?_
                  rotate_left
                  ·intro w'
                   go_simp
                   with_reducible rfl
                  rotate_left
                  ·simp only [Act.put, List.setIfInBounds_toArray, List.set_cons_zero, List.set_cons_succ, i64_w, i32_w]
                   rfl
                  refine pure_ (i := 3) (N := some 59) (v := ?_) (a' := ?_) #[i9, i9, i9, i9, o9, o9, o9, o9, o9, o9, o9, o9, o9] rfl rfl (any_of HT_.out (by kernel_rfl)) (fun _ _ _ h => h) (Or.inl ⟨by rfl, ?_⟩) ?_ ?_
                  rotate_left
                  ·intro w'
                   go_simp
                   with_reducible rfl
                  rotate_left
                  ·simp only [Act.put, List.setIfInBounds_toArray, List.set_cons_zero, List.set_cons_succ, i64_w, i32_w]
                   rfl
                  refine pure_ (i := 5) (N := some 61) (v := ?_) (a' := ?_) #[i9, i9, i9, i9, o9, i9, o9, o9, o9, o9, o9, o9, o9] rfl rfl (any_of HT_.out (by kernel_rfl)) (fun _ _ _ h => h) (Or.inl ⟨by rfl, ?_⟩) ?_ ?_
                  rotate_left
                  ·intro w'
                   go_simp
                   with_reducible rfl
                  rotate_left
                  ·simp only [Act.put, List.setIfInBounds_toArray, List.set_cons_zero, List.set_cons_succ, i64_w, i32_w]
                   rfl
                  refine pure_ (i := 6) (N := some 62) (v := ?_) (a' := ?_) #[i9, i9, i9, i9, o9, i9, i9, o9, o9, o9, o9, o9, o9] rfl rfl (any_of HT_.out (by kernel_rfl)) (fun _ _ _ h => h) (Or.inl ⟨by rfl, ?_⟩) ?_ ?_
                  rotate_left
                  ·intro w'
                   go_simp
                   with_reducible rfl
                  rotate_left
                  ·simp only [Act.put, List.setIfInBounds_toArray, List.set_cons_zero, List.set_cons_succ, i64_w, i32_w]
                   rfl
                  refine pure_ (i := 7) (N := some 63) (v := ?_) (a' := ?_) #[i9, i9, i9, i9, o9, i9, i9, i9, o9, o9, o9, o9, o9] rfl rfl (any_of HT_.out (by kernel_rfl)) (fun _ _ _ h => h) (Or.inl ⟨by rfl, ?_⟩) ?_ ?_
                  rotate_left
                  ·intro w'
                   go_simp
                   with_reducible rfl
                  rotate_left
                  ·simp only [Act.put, List.setIfInBounds_toArray, List.set_cons_zero, List.set_cons_succ, i64_w, i32_w]
                   rfl
                  refine take_ (i := 4) (N := some 60) (v := ?_) (a' := ?_) #[i9, i9, i9, i9, i9, i9, i9, i9, o9, o9, o9, o9, o9] rfl rfl (take_ofW HT_.out HW_.out (by kernel_rfl)) (fun _ _ _ h => h) (Or.inl ⟨by rfl, ?_⟩) hHeld ?_ ?_
                  rotate_left
                  ·rintro w' ⟨s0, s1⟩
                   go_simp
                   with_reducible rfl
                  rotate_left
                  ·simp only [Act.put, List.setIfInBounds_toArray, List.set_cons_zero, List.set_cons_succ, i64_w, i32_w]
                   rfl
                  refine take_ (i := 8) (N := some 64) (v := ?_) (a' := ?_) #[i9, i9, i9, i9, i9, i9, i9, i9, i9, o9, o9, o9, o9] rfl rfl (take_ofW HT_.out HW_.out (by kernel_rfl)) (fun _ _ _ h => h) (Or.inl ⟨by rfl, ?_⟩) hHeld ?_ ?_
                  rotate_left
                  ·rintro w' ⟨s0, s1⟩
                   go_simp
                   with_reducible rfl
                  rotate_left
                  ·simp only [Act.put, List.setIfInBounds_toArray, List.set_cons_zero, List.set_cons_succ, i64_w, i32_w]
                   rfl
                  refine pure_ (i := 9) (N := some 65) (v := ?_) (a' := ?_) #[i9, i9, i9, i9, i9, i9, i9, i9, i9, i9, o9, o9, o9] rfl rfl (any_of HT_.out (by kernel_rfl)) (fun _ _ _ h => h) (Or.inl ⟨by rfl, ?_⟩) ?_ ?_
                  rotate_left
                  ·intro w'
                   go_simp
                   with_reducible rfl
                  rotate_left
                  ·simp only [Act.put, List.setIfInBounds_toArray, List.set_cons_zero, List.set_cons_succ, i64_w, i32_w]
                   rfl
                  refine one_ (i := 10) (N := some 66) #[i9, i9, i9, i9, i9, i9, i9, i9, i9, i9, i9, o9, o9] rfl rfl (one_of HT_.out (by kernel_rfl)) (by decide) (fun K hK => ?_)
                  refine value_ (w1 := ?_) (v := ?_) (by rfl) rfl ?_ ?_
                  rotate_left 2
                  ·go_simp
                   constructor
                   ·rfl
                   ·rfl
                  refine hK.out _ _ ⟨(World.cell?_alloc_lt _ _ _ (World.block_lt_of_cell? _ _ (((HB.out.cell (World.block_lt_of_cell? w _ hw105_0)).trans hw105_0)))).trans (((HB.out.cell (World.block_lt_of_cell? w _ hw105_0)).trans hw105_0)), (World.cell?_alloc_lt _ _ _ (World.block_lt_of_cell? _ _ (((HB.out.cell (World.block_lt_of_cell? w _ hw106_0)).trans hw106_0)))).trans (((HB.out.cell (World.block_lt_of_cell? w _ hw106_0)).trans hw106_0))⟩ (fun hHeld => ?_)
                  clear hK K
                  refine norm_ (a' := ?_) ?_ ?_
                  rotate_left
                  ·show Act.put _ (some 66) _ = _
                   simp only [Act.put, List.setIfInBounds_toArray, List.set_cons_zero, List.set_cons_succ, i64_w, i32_w]
                   rfl
                  refine one_ (i := 11) (N := some 67) #[i9, i9, i9, i9, i9, i9, i9, i9, i9, i9, i9, i9, o9] rfl rfl (one_of HT_.out (by kernel_rfl)) (by decide) (fun K hK => ?_)
                  refine Kd.R_append_step k46 (w0 := w) w.heap.size (by rfl) (.tmp 56) (.tmp 66) 43 46 (.agg #[(.int .i64 0), (.int .i64 0)]) 16 rfl Try.underlying43 info46 rfl (by decide) (by omega) u5 x5_3 (⟨rd l1 x6_2, rd l1 x7_3⟩ : S46) [.int .i64 (rd l1 x6_2), .int .i64 (rd l1 x7_3)] (fun _ => True) (fun _ => False) rfl rfl ?aP (fun _ hk => hk.elim) ?aF ?aO ?aB ?aS ?aL ?_
                  (case aP => exact k46_mkM _ _ _ (⟨rd l1 x6_2, rd l1 x7_3⟩ : S46))
                  (case aB => exact (bp9 HB.out))
                  (case aF => exact (fun _ _ => trivial))
                  (case aO => exact (rp9 HO_5.out))
                  (case aS => exact (below_size (bp9 HB.out)))
                  (case aL => have := LMc20.out; omega)
                  intro v108 w22 ho hb hg hat
                  rw [← Ny107.out] at ho
                  have n0_ := Aside0.mk (hb)
                  have n1_ := Aside0.mk (ho)
                  clear HB HO_5
                  revert n0_ n1_; intro HB HO109
                  clear ho hb hg hat
                  refine hK.out _ _ ⟨((HB.out.cell (World.block_lt_of_cell? w _ hw105_0)).trans hw105_0), ((HB.out.cell (World.block_lt_of_cell? w _ hw106_0)).trans hw106_0)⟩ (fun hHeld => ?_)
                  clear hK K
                  refine norm_ (a' := ?_) ?_ ?_
                  rotate_left
                  ·show Act.put _ (some 67) _ = _
                   simp only [Act.put, List.setIfInBounds_toArray, List.set_cons_zero, List.set_cons_succ, i64_w, i32_w]
                   rfl
                  refine pure_ (i := 12) (N := some 5) (v := ?_) (a' := ?_) #[i9, i9, i9, i9, i9, i9, i9, i9, i9, i9, i9, i9, i9] rfl rfl (any_of HT_.out (by kernel_rfl)) (fun _ _ _ h => h) (Or.inl ⟨by rfl, ?_⟩) ?_ ?_
                  rotate_left
                  ·intro w'
                   go_simp
                   with_reducible rfl
                  rotate_left
                  ·simp only [Act.put, List.setIfInBounds_toArray, List.set_cons_zero, List.set_cons_succ, i64_w, i32_w]
                   rfl
                  refine done_ (done_of HT_.out (by kernel_rfl)) ?_
                  try go_wp2
                  go_roundg kj7
                  case measure => have := HJ2.out; have := HK2.out; have := HK3.out; have := HJ7.out; omega
                  case rel => exact ⟨(y107), (wrap64 (x7_3 + 1)), (by first | rfl | (simp; done) | (simp [*]; done)), H', ⟨by have := HJ2.out; have := HK2.out; have := HK3.out; have := HJ7.out; omega⟩, ⟨rp9 HO109.out⟩, ⟨bp9 HB.out⟩⟩
                 ·rw [if_neg c20] at H
                  exact absurd H (by simp)
                ·rw [if_neg c19] at H
                 exact absurd H (by simp)
               ·rw [if_neg c18] at H
                exact absurd H (by simp)
              ·rw [if_neg c17] at H
               exact absurd H (by simp)
             ·rw [if_neg c16] at H
              exact absurd H (by simp)
            ·replace c15 := Bool.eq_false_iff.mpr c15
             subst c15
             rw [if_neg (show ¬ (false = true) by decide)] at H
             have H' := Aside0.mk H
             clear H
             go_wp2
             go_roundg kj7
             case measure => have := HJ2.out; have := HK2.out; have := HK3.out; have := HJ7.out; omega
             case rel => exact ⟨(x5_3), (wrap64 (x7_3 + 1)), (by first | rfl | (simp; done) | (simp [*]; done)), H', ⟨by have := HJ2.out; have := HK2.out; have := HK3.out; have := HJ7.out; omega⟩, ⟨rp9 HO_5.out⟩, ⟨bp9 HB.out⟩⟩
         ·rw [if_neg c7] at H
          have c7b0 : decide (x7_3 < (l1.length : Int)) = false := decide_eq_false c7
          clear c7
          have H' := Aside0.mk H
          clear H
          go_wp2
          go_roundg k3
          case measure => have := HJ2.out; have := HK2.out; have := HK3.out; omega
          case rel => exact ⟨(x5_3), (wrap64 (x6_2 + 1)), (by first | rfl | (simp; done) | (simp [*]; done)), H', ⟨by have := HJ2.out; have := HK2.out; have := HK3.out; omega⟩, ⟨rp9 HO_5.out⟩, ⟨bp9 HB.out⟩⟩
      ·rw [if_neg c6] at H
       have c6b0 : decide (x6_2 < (l1.length : Int)) = false := decide_eq_false c6
       clear c6
       replace H := Option.bind_eq_some_iff.mp H
       obtain ⟨t110, A230, H⟩ := H
       have A23 := Aside0.mk A230
       clear A230
       obtain rfl := Option.some.inj H
       obtain ⟨Ao24, co24, eo24⟩ := Kd.R_slice HO_5.out
       subst eo24
       go_wp2_with (first | ((with_reducible refine gate_callee (f := 119) rfl ?_); refine goesL9 (some 70) rfl rfl Try.func119 (by kernel_rfl) rfl #[.int .i64 a0, .slice Ao24 x5_2.length co24] rfl ?_; (with_reducible refine (cupolaref05_Made.calls k2 a0 _ _ x5_2 t110 _ ?side1 ?side2 A23.out).mono ?_); (case side1 => exact lp9 (Kd.R_reads' HO_5.out).2.2); (case side2 => exact (Kd.R_reads' HO_5.out).2.1); rintro e w25 ⟨v111, rfl, ho0, hb⟩; refine ⟨_, rfl, ?_⟩; have n0_ := Aside0.mk (Kd.R_below (rp9 HO_5.out) hb); have n1_ := Aside0.mk (Kd.R_lower ho0 (below_size (bp9 HB.out))); have n2_ := Aside0.mk (below_step (bp9 HB.out) hb); clear HO_5; clear HB; have HO_5 := n0_; have HO112 := n1_; have HB := n2_; clear n0_ n1_ n2_; (try clear hb); (try clear hb2); (try clear hk); (try clear hi); (try clear ho0)))
       go_ret
       exact ⟨_, by first | rfl | (simp [errW_none, errW_some] <;> rfl) | (simp [*, errW_none, errW_some] <;> rfl), by (with_reducible repeat (first | apply Kd.R_alloc | apply Kd.R_drewN | apply Kd.R_drew)); exact HO112.out, bp9 HB.out⟩

end Go.Proofs.Ytbamkkdikeedoaa.G
