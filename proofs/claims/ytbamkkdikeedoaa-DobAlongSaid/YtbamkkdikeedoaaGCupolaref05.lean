-- Written by drive.py, a program of this seat's session, out of the translation.
import Derived.Test.YtbamkkdikeedoaaG0
import Derived.Test.YtbamkkdikeedoaaHandCz
namespace Go.Proofs.Ytbamkkdikeedoaa.G
open Go.RowKit Go.Proofs.YtbamkkdikeedoaaW.PrintWords Go.Proofs.YtbamkkdikeedoaaW.PrintLast Go.Proofs.YtbamkkdikeedoaaW.PrintMore
set_option maxHeartbeats 8000000
set_option maxRecDepth 100000
set_option linter.unusedVariables false
set_option linter.unusedSimpArgs false
def cupolaref05_Size.f (l0 : List Int) : Option (Int) := if (l0.length : Int) > 32 then (some 0) else (some (l0.length : Int))
theorem cupolaref05_Size.calls (A0 : Option Addr) (c0 : Nat) (l0 : List Int) (r : Int) (w : World) (hr0 : Kd.C (Kd.int .u32) w A0 l0.length l0) (hc0 : l0.length ≤ c0) (h : cupolaref05_Size.f l0 = some r) :
  Calls Try.prog 116 #[.slice A0 l0.length c0] w fun e w' => e = .returned (.int .i64 r) ∧ Drawn0 w w' := by
 have HR0 := a9_ hr0
 have HC0 := a9_ hc0
 clear hr0 hc0
 have H : (if (l0.length : Int) > 32 then (some 0) else (some (l0.length : Int))) = some r := h
 clear h
 by_cases c2 : (l0.length : Int) > 32
 ·rw [if_pos c2] at H
  have c2b0 : decide (32 < (l0.length : Int)) = true := decide_eq_true c2
  have c2b1 : decide (32 < l0.length) = true := decide_eq_true (by omega)
  clear c2
  obtain rfl := Option.some.inj H
  go_enter Try.func116, Try.ntmps116
  go_wp2
  go_ret
  exact ⟨by first | rfl | (simp; done) | (simp [*]; done), by repeat (first | exact Drawn0.refl _ | apply Drawn0.step)⟩
 ·rw [if_neg c2] at H
  have c2b0 : decide (32 < (l0.length : Int)) = false := decide_eq_false c2
  have c2b1 : decide (32 < l0.length) = false := decide_eq_false (by omega)
  clear c2
  obtain rfl := Option.some.inj H
  go_enter Try.func116, Try.ntmps116
  go_wp2
  go_ret
  exact ⟨by first | rfl | (simp; done) | (simp [*]; done), by repeat (first | exact Drawn0.refl _ | apply Drawn0.step)⟩
def cupolaref05_bit.l0 : Nat → Int → Int → Int → Option (Bool)
 | 0, _, _, _ => none
 | k + 1, x0, x1, x5 => if x5 < x1 then (cupolaref05_bit.l0 k ((Int.tdiv x0 2) % 4294967296) x1 (wrap64 (x5 + 1))) else (some ((Int.tmod x0 2) == 1))
def cupolaref05_bit.f (k : Nat) (a0 : Int) (a1 : Int) : Option (Bool) := cupolaref05_bit.l0 k a0 a1 0
theorem cupolaref05_bit.calls (k : Nat) (a0 : Int) (a1 : Int) (r : Bool) (w : World) (h : cupolaref05_bit.f k a0 a1 = some r) :
  Calls Try.prog 117 #[.int .u32 a0, .int .i64 a1] w fun e w' => e = .returned (.bool r) ∧ Drawn0 w w' := by
 have H : (cupolaref05_bit.l0 k a0 a1 0) = some r := h
 clear h
 have H' := a9_ H
 clear H
 go_enter Try.func117, Try.ntmps117
 go_wp2
 go_loopg [0, 5] k (fun kq v0 v5 w' => ∃ (x0_1 : Int) (x5_1 : Int), v0 = .int .u32 x0_1 ∧ v5 = .int .i64 x5_1 ∧ Aside0 (cupolaref05_bit.l0 kq x0_1 a1 x5_1 = some r) ∧ Aside0 (kq ≤ k) ∧ Drawn0 w w')
 case atStart => exact ⟨(a0), (0), rs9, rs9, H', ⟨Nat.le_refl _⟩, by repeat (first | exact Drawn0.refl _ | apply Drawn0.step)⟩
 case round =>
  clear H'
  try clear c1
  try clear p2
  obtain ⟨x0_1, x5_1, rfl, rfl, HA, HK1, ⟨m1, rfl⟩⟩ := hrel
  cases gk with
  | zero => exact absurd HA.out (by simp [cupolaref05_bit.l0])
  | succ k1 =>
   have H := HA.out
   clear HA
   simp only [cupolaref05_bit.l0] at H
   by_cases c3 : x5_1 < a1
   ·rw [if_pos c3] at H
    have c3b0 : decide (x5_1 < a1) = true := decide_eq_true c3
    clear c3
    have H' := a9_ H
    clear H
    go_wp2
    go_roundg k1
    case measure => have := HK1.out; omega
    case rel => exact ⟨((Int.tdiv x0_1 2) % 4294967296), (wrap64 (x5_1 + 1)), rs9, rs9, H', ⟨by have := HK1.out; omega⟩, by repeat (first | exact Drawn0.refl _ | apply Drawn0.step)⟩
   ·rw [if_neg c3] at H
    have c3b0 : decide (x5_1 < a1) = false := decide_eq_false c3
    clear c3
    obtain rfl := Option.some.inj H
    go_wp2
    go_ret
    exact ⟨by first | rfl | (simp; done) | (simp [*]; done), by repeat (first | exact Drawn0.refl _ | apply Drawn0.step)⟩
def cupolaref05_Has.f (k : Nat) (l0 : List Int) (a1 : Int) (a2 : Int) : Option (Bool) := (cupolaref05_Size.f l0).bind fun t101 => (if a1 ≥ 0 then (if a1 < t101 then (if a2 ≥ 0 then (if a2 < t101 then (if 0 ≤ a1 then (if a1 < (l0.length : Int) then ((cupolaref05_bit.f k (rd l0 a1) a2).bind fun t103 => (some t103)) else (none)) else (none)) else (some false)) else (some false)) else (some false)) else (some false))
theorem cupolaref05_Has.calls (k : Nat) (A0 : Option Addr) (c0 : Nat) (l0 : List Int) (a1 : Int) (a2 : Int) (r : Bool) (w : World) (hr0 : Kd.C (Kd.int .u32) w A0 l0.length l0) (hc0 : l0.length ≤ c0) (h : cupolaref05_Has.f k l0 a1 a2 = some r) :
  Calls Try.prog 43 #[.slice A0 l0.length c0, .int .i64 a1, .int .i64 a2] w fun e w' => e = .returned (.bool r) ∧ Drawn0 w w' := by
 have HR0 := a9_ hr0
 have HC0 := a9_ hc0
 clear hr0 hc0
 have H : ((cupolaref05_Size.f l0).bind fun t101 => (if a1 ≥ 0 then (if a1 < t101 then (if a2 ≥ 0 then (if a2 < t101 then (if 0 ≤ a1 then (if a1 < (l0.length : Int) then ((cupolaref05_bit.f k (rd l0 a1) a2).bind fun t103 => (some t103)) else (none)) else (none)) else (some false)) else (some false)) else (some false)) else (some false))) = some r := h
 clear h
 replace H := Option.bind_eq_some_iff.mp H
 obtain ⟨t101, A40, H⟩ := H
 have A4 := a9_ A40
 clear A40
 by_cases c5 : a1 ≥ 0
 ·rw [if_pos c5] at H
  have c5b0 : decide (0 ≤ a1) = true := decide_eq_true c5
  clear c5
  by_cases c6 : a1 < t101
  ·rw [if_pos c6] at H
   have c6b0 : decide (a1 < t101) = true := decide_eq_true c6
   clear c6
   by_cases c7 : a2 ≥ 0
   ·rw [if_pos c7] at H
    have c7b0 : decide (0 ≤ a2) = true := decide_eq_true c7
    clear c7
    by_cases c8 : a2 < t101
    ·rw [if_pos c8] at H
     have c8b0 : decide (a2 < t101) = true := decide_eq_true c8
     clear c8
     by_cases c9 : 0 ≤ a1
     ·rw [if_pos c9] at H
      have c9b0 : decide (0 ≤ a1) = true := decide_eq_true c9
      clear c9
      by_cases c10 : a1 < (l0.length : Int)
      ·rw [if_pos c10] at H
       have c10b0 : decide (a1 < (l0.length : Int)) = true := decide_eq_true c10
       clear c10
       replace H := Option.bind_eq_some_iff.mp H
       obtain ⟨t103, A110, H⟩ := H
       have A11 := a9_ A110
       clear A110
       obtain rfl := Option.some.inj H
       go_enter Try.func43, Try.ntmps43
       go_wp2_with (first | ((with_reducible refine gate_callee (f := 116) rfl ?_); refine goesL9 (some 9) rfl rfl Try.func116 (by kernel_rfl) rfl #[.slice A0 l0.length c0] rfl ?_; (with_reducible refine (cupolaref05_Size.calls _ _ l0 t101 _ ?side1 ?side2 A4.out).mono ?_); (case side1 => repeat (first | exact HR0.out | (with_reducible refine Kd.C_alloc ?_ _) | (with_reducible refine Kd.C_drewN ?_ _) | (with_reducible refine Kd.C_drew ?_))); (case side2 => exact HC0.out); rintro e w' ⟨rfl, ⟨nd, rfl⟩⟩; refine ⟨_, rfl, ?_⟩; have p102 : 0 ≤ (a1 : Int) := of_decide_eq_true (by first | (with_reducible assumption) | assumption); have q102 : a1 < (l0.length : Int) := of_decide_eq_true (by first | (with_reducible assumption) | assumption); obtain ⟨ad102, e102, hx102_0⟩ := Kd.at_int HR0.out a1 p102 q102; cases e102; replace p102 := eq_true p102; replace q102 := eq_true q102) | (go_at_call 117; (with_reducible refine (cupolaref05_bit.calls k (rd l0 a1) a2 t103 _ A11.out).mono ?_); rintro e w' ⟨rfl, ⟨nd, rfl⟩⟩))
       go_ret
       exact ⟨by first | rfl | (simp; done) | (simp [*]; done), by repeat (first | exact Drawn0.refl _ | apply Drawn0.step)⟩
      ·rw [if_neg c10] at H
       exact absurd H (by simp)
     ·rw [if_neg c9] at H
      exact absurd H (by simp)
    ·rw [if_neg c8] at H
     have c8b0 : decide (a2 < t101) = false := decide_eq_false c8
     clear c8
     obtain rfl := Option.some.inj H
     go_enter Try.func43, Try.ntmps43
     go_wp2_with (first | ((with_reducible refine gate_callee (f := 116) rfl ?_); refine goesL9 (some 9) rfl rfl Try.func116 (by kernel_rfl) rfl #[.slice A0 l0.length c0] rfl ?_; (with_reducible refine (cupolaref05_Size.calls _ _ l0 t101 _ ?side1 ?side2 A4.out).mono ?_); (case side1 => repeat (first | exact HR0.out | (with_reducible refine Kd.C_alloc ?_ _) | (with_reducible refine Kd.C_drewN ?_ _) | (with_reducible refine Kd.C_drew ?_))); (case side2 => exact HC0.out); rintro e w' ⟨rfl, ⟨nd, rfl⟩⟩; refine ⟨_, rfl, ?_⟩))
     go_ret
     exact ⟨by first | rfl | (simp; done) | (simp [*]; done), by repeat (first | exact Drawn0.refl _ | apply Drawn0.step)⟩
   ·rw [if_neg c7] at H
    have c7b0 : decide (0 ≤ a2) = false := decide_eq_false c7
    clear c7
    obtain rfl := Option.some.inj H
    go_enter Try.func43, Try.ntmps43
    go_wp2_with (first | ((with_reducible refine gate_callee (f := 116) rfl ?_); refine goesL9 (some 9) rfl rfl Try.func116 (by kernel_rfl) rfl #[.slice A0 l0.length c0] rfl ?_; (with_reducible refine (cupolaref05_Size.calls _ _ l0 t101 _ ?side1 ?side2 A4.out).mono ?_); (case side1 => repeat (first | exact HR0.out | (with_reducible refine Kd.C_alloc ?_ _) | (with_reducible refine Kd.C_drewN ?_ _) | (with_reducible refine Kd.C_drew ?_))); (case side2 => exact HC0.out); rintro e w' ⟨rfl, ⟨nd, rfl⟩⟩; refine ⟨_, rfl, ?_⟩))
    go_ret
    exact ⟨by first | rfl | (simp; done) | (simp [*]; done), by repeat (first | exact Drawn0.refl _ | apply Drawn0.step)⟩
  ·rw [if_neg c6] at H
   have c6b0 : decide (a1 < t101) = false := decide_eq_false c6
   clear c6
   obtain rfl := Option.some.inj H
   go_enter Try.func43, Try.ntmps43
   go_wp2_with (first | ((with_reducible refine gate_callee (f := 116) rfl ?_); refine goesL9 (some 9) rfl rfl Try.func116 (by kernel_rfl) rfl #[.slice A0 l0.length c0] rfl ?_; (with_reducible refine (cupolaref05_Size.calls _ _ l0 t101 _ ?side1 ?side2 A4.out).mono ?_); (case side1 => repeat (first | exact HR0.out | (with_reducible refine Kd.C_alloc ?_ _) | (with_reducible refine Kd.C_drewN ?_ _) | (with_reducible refine Kd.C_drew ?_))); (case side2 => exact HC0.out); rintro e w' ⟨rfl, ⟨nd, rfl⟩⟩; refine ⟨_, rfl, ?_⟩))
   go_ret
   exact ⟨by first | rfl | (simp; done) | (simp [*]; done), by repeat (first | exact Drawn0.refl _ | apply Drawn0.step)⟩
 ·rw [if_neg c5] at H
  have c5b0 : decide (0 ≤ a1) = false := decide_eq_false c5
  clear c5
  obtain rfl := Option.some.inj H
  go_enter Try.func43, Try.ntmps43
  go_wp2_with (first | ((with_reducible refine gate_callee (f := 116) rfl ?_); refine goesL9 (some 9) rfl rfl Try.func116 (by kernel_rfl) rfl #[.slice A0 l0.length c0] rfl ?_; (with_reducible refine (cupolaref05_Size.calls _ _ l0 t101 _ ?side1 ?side2 A4.out).mono ?_); (case side1 => repeat (first | exact HR0.out | (with_reducible refine Kd.C_alloc ?_ _) | (with_reducible refine Kd.C_drewN ?_ _) | (with_reducible refine Kd.C_drew ?_))); (case side2 => exact HC0.out); rintro e w' ⟨rfl, ⟨nd, rfl⟩⟩; refine ⟨_, rfl, ?_⟩))
  go_ret
  exact ⟨by first | rfl | (simp; done) | (simp [*]; done), by repeat (first | exact Drawn0.refl _ | apply Drawn0.step)⟩
def cupolaref05_power.l0 : Nat → Int → Int → Int → Option (Int)
 | 0, _, _, _ => none
 | k + 1, x0, x3, x4 => if x4 < x0 then (cupolaref05_power.l0 k x0 ((2 * x3) % 4294967296) (wrap64 (x4 + 1))) else (some x3)
def cupolaref05_power.f (k : Nat) (a0 : Int) : Option (Int) := cupolaref05_power.l0 k a0 1 0
theorem cupolaref05_power.calls (k : Nat) (a0 : Int) (r : Int) (w : World) (h : cupolaref05_power.f k a0 = some r) :
  Calls Try.prog 152 #[.int .i64 a0] w fun e w' => e = .returned (.int .u32 r) ∧ Drawn0 w w' := by
 have H : (cupolaref05_power.l0 k a0 1 0) = some r := h
 clear h
 have H' := a9_ H
 clear H
 go_enter Try.func152, Try.ntmps152
 go_wp2
 go_loopg [3, 4] k (fun kq v3 v4 w' => ∃ (x3_1 : Int) (x4_1 : Int), v3 = .int .u32 x3_1 ∧ v4 = .int .i64 x4_1 ∧ Aside0 (cupolaref05_power.l0 kq a0 x3_1 x4_1 = some r) ∧ Aside0 (kq ≤ k) ∧ Drawn0 w w')
 case atStart => exact ⟨(1), (0), rs9, rs9, H', ⟨Nat.le_refl _⟩, by repeat (first | exact Drawn0.refl _ | apply Drawn0.step)⟩
 case round =>
  clear H'
  try clear c1
  obtain ⟨x3_1, x4_1, rfl, rfl, HA, HK1, ⟨m1, rfl⟩⟩ := hrel
  cases gk with
  | zero => exact absurd HA.out (by simp [cupolaref05_power.l0])
  | succ k1 =>
   have H := HA.out
   clear HA
   simp only [cupolaref05_power.l0] at H
   by_cases c2 : x4_1 < a0
   ·rw [if_pos c2] at H
    have c2b0 : decide (x4_1 < a0) = true := decide_eq_true c2
    clear c2
    have H' := a9_ H
    clear H
    go_wp2
    go_roundg k1
    case measure => have := HK1.out; omega
    case rel => exact ⟨((2 * x3_1) % 4294967296), (wrap64 (x4_1 + 1)), rs9, rs9, H', ⟨by have := HK1.out; omega⟩, by repeat (first | exact Drawn0.refl _ | apply Drawn0.step)⟩
   ·rw [if_neg c2] at H
    have c2b0 : decide (x4_1 < a0) = false := decide_eq_false c2
    clear c2
    obtain rfl := Option.some.inj H
    go_wp2
    go_ret
    exact ⟨by first | rfl | (simp; done) | (simp [*]; done), by repeat (first | exact Drawn0.refl _ | apply Drawn0.step)⟩
def cupolaref05_Made.l0 : Nat → List (S46) → List Int → Int → Option (List Int)
 | 0, _, _, _ => none
 | k + 1, x1, x5, x6 => if x6 < (x1.length : Int) then (if 0 ≤ x6 then ((cupolaref05_Has.f k x5 ((rd_T46 x1 x6).f0) ((rd_T46 x1 x6).f1)).bind fun t106 => (if t106 = true then (cupolaref05_Made.l0 k x1 x5 (wrap64 (x6 + 1))) else (if 0 ≤ ((rd_T46 x1 x6).f0) then (if ((rd_T46 x1 x6).f0) < (x5.length : Int) then ((cupolaref05_power.f k ((rd_T46 x1 x6).f1)).bind fun t111 => (cupolaref05_Made.l0 k x1 (x5.set (((rd_T46 x1 x6).f0) : Int).toNat (((rd x5 ((rd_T46 x1 x6).f0)) + t111) % 4294967296)) (wrap64 (x6 + 1)))) else (none)) else (none)))) else (none)) else (some x5)
def cupolaref05_Made.f (k : Nat) (a0 : Int) (l1 : List (S46)) : Option (List Int) := if 0 ≤ a0 then (if (a0 : Int).toNat ≤ 70368744177664 then (cupolaref05_Made.l0 k l1 (List.replicate (a0 : Int).toNat 0) 0) else (none)) else (none)
def cupolaref05_Made.T5 : Bool × List (List Nat × List Nat) := (true, [([], []), ([], []), ([], []), ([1, 2], [1, 2]), ([3], [3]), ([4], [4]), ([], []), ([], []), ([6, 7], [6, 7]), ([8], [8]), ([9], [9]), ([0, 5, 10], [0, 5, 10]), ([11], [11])])
def cupolaref05_Made.B5 : List Nat := [0, 0, 0, 6, 14, 30, 0, 0, 192, 448, 960, 2047, 4095]
theorem cupolaref05_Made.tab5 : rtab .any (opsOf Try.f119 5) = cupolaref05_Made.T5 := by kernel_rfl
theorem cupolaref05_Made.bits5 : waitsOk cupolaref05_Made.T5.2 cupolaref05_Made.B5 = true := by kernel_rfl
def cupolaref05_Made.T6 : Bool × List (List Nat × List Nat) := (true, [([], []), ([], []), ([], []), ([1, 2], [1, 2]), ([3], [3]), ([4], [4]), ([], []), ([], []), ([], []), ([7, 8], [7, 8]), ([9], [9]), ([10], [10]), ([6, 11], [6, 11]), ([12], [12]), ([], []), ([], []), ([14, 15], [14, 15]), ([16], [16]), ([17], [17]), ([18], [18]), ([13, 19], [13, 19]), ([0, 5, 0, 1, 2, 3, 4, 5, 6, 7, 8, 9, 10, 11, 12, 13, 14, 15, 16, 17, 18, 19, 20], [0, 5]), ([21, 20, 19, 0, 1, 2, 3, 4, 5, 6, 7, 8, 9, 10, 11, 12, 13, 14, 15, 16, 17, 18, 19, 20], [20, 21])])
def cupolaref05_Made.B6 : List Nat := [0, 0, 0, 6, 14, 30, 0, 0, 0, 384, 896, 1920, 4032, 8128, 0, 0, 49152, 114688, 245760, 507904, 1048512, 2097151, 4194303]
theorem cupolaref05_Made.tab6 : rtab .any (opsOf Try.f119 6) = cupolaref05_Made.T6 := by kernel_rfl
theorem cupolaref05_Made.bits6 : waitsOk cupolaref05_Made.T6.2 cupolaref05_Made.B6 = true := by kernel_rfl
theorem cupolaref05_Made.calls (k : Nat) (a0 : Int) (A1 : Option Addr) (c1 : Nat) (l1 : List (S46)) (r : List Int) (w : World) (hr1 : Kd.C k46 w A1 l1.length l1) (hc1 : l1.length ≤ c1) (h : cupolaref05_Made.f k a0 l1 = some r) :
  Calls Try.prog 119 #[.int .i64 a0, .slice A1 l1.length c1] w fun e w' => ∃ v0_ : Value, e = .returned (v0_) ∧ Kd.R (Kd.int .u32) 52 w' w.heap.size (fun _ => True) v0_ r ∧ Below w.heap.size w w' := by
 have HR1 := a9_ hr1
 have HC1 := a9_ hc1
 clear hr1 hc1
 have HB := a9_ (Below.refl w.heap.size w)
 have H : (if 0 ≤ a0 then (if (a0 : Int).toNat ≤ 70368744177664 then (cupolaref05_Made.l0 k l1 (List.replicate (a0 : Int).toNat 0) 0) else (none)) else (none)) = some r := h
 clear h
 by_cases c3 : 0 ≤ a0
 ·rw [if_pos c3] at H
  have c3b0 := eq_true c3
  have c3b1 : decide (0 ≤ a0) = true := decide_eq_true c3
  clear c3
  by_cases c4 : (a0 : Int).toNat ≤ 70368744177664
  ·rw [if_pos c4] at H
   have c4b0 := eq_true c4
   have c4b1 : decide ((a0 : Int).toNat ≤ 70368744177664) = true := decide_eq_true c4
   clear c4
   obtain ⟨y101, hy101⟩ : ∃ y_ : List Int, y_ = (List.replicate (a0 : Int).toNat 0) := ⟨_, rfl⟩
   replace H : (cupolaref05_Made.l0 k l1 y101 0) = some r := by first | (rw [hy101]; with_reducible exact H) | (have H2_ := (Option.bind_some _ _).symm.trans H; rw [hy101]; with_reducible exact H2_) | (have H2_ := (Option.bind_some _ _).symm.trans H; with_reducible exact H2_) | with_reducible exact H | (rw [hy101]; exact H) | exact H
   have Ny101 := a9_ hy101
   clear hy101
   have H' := a9_ H
   clear H
   go_enter Try.func119, Try.ntmps119
   go_wp2_with (first | ((with_reducible refine gate_dst (N := 8) rfl ?_); refine Kd.R_make (Kd.int .u32) _ 52 rfl (N := 8) rfl 27 _ _ rfl a0 rfl rfl Try.underlying27 (.int .u32 0) 4 info52 rfl (by decide) (by omega) 0 (ok := fun _ => True) (okp := fun _ => True) rfl (fun _ hk => hk) trivial (of_decide_eq_true (by first | (with_reducible assumption) | assumption)) (Nat.le_trans (Nat.mul_le_mul_right _ (of_decide_eq_true (by first | (with_reducible assumption) | assumption) : a0.toNat ≤ 70368744177664)) (by omega)) (Below.refl _ _) (Nat.le_refl _) ?_; intro v102 w5 ho6 hb hg_ hnew_; clear hg_ hnew_; (first | rw [← Ny101.out] at ho6 | (simp only [Int.reduceToNat] at ho6; rw [← Ny101.out] at ho6)); have n0_ := a9_ (Kd.R_lower ho6 (below_size (bp9 HB.out))); have n1_ := a9_ (below_step (bp9 HB.out) hb); clear HB; have HO103 := n0_; have HB := n1_; clear n0_ n1_; clear hb ho6))
   go_loopg [6] k (fun kq v6 w' => ∃ (x5_1 : List Int) (x6_1 : Int), v6 = .int .i64 x6_1 ∧ Aside0 (cupolaref05_Made.l0 kq l1 x5_1 x6_1 = some r) ∧ Aside0 (kq ≤ k) ∧ Aside0 (Kd.R (Kd.int .u32) 52 w' w.heap.size (fun _ => True) v102 x5_1) ∧ Aside0 (Below w.heap.size w w'))
   case atStart => exact ⟨(y101), (0), rs9, H', ⟨Nat.le_refl _⟩, ⟨rp9 HO103.out⟩, ⟨bp9 HB.out⟩⟩
   case round =>
    clear H'
    try clear c1
    try clear p2
    try clear c3
    try clear c3b0
    try clear c3b1
    try clear c4
    try clear c4b0
    try clear c4b1
    obtain ⟨x5_1, x6_1, rfl, HA, HK1, HO_5, HB⟩ := hrel
    cases gk with
    | zero => exact absurd HA.out (by simp [cupolaref05_Made.l0])
    | succ k1 =>
     have H := HA.out
     clear HA
     simp only [cupolaref05_Made.l0] at H
     by_cases c7 : x6_1 < (l1.length : Int)
     ·rw [if_pos c7] at H
      have c7b0 : decide (x6_1 < (l1.length : Int)) = true := decide_eq_true c7
      clear c7
      by_cases c8 : 0 ≤ x6_1
      ·rw [if_pos c8] at H
       have c8b0 : decide (0 ≤ x6_1) = true := decide_eq_true c8
       clear c8
       replace H := Option.bind_eq_some_iff.mp H
       obtain ⟨t106, A90, H⟩ := H
       have A9 := a9_ A90
       clear A90
       by_cases c10 : t106 = true
       ·subst c10
        rw [if_pos rfl] at H
        have H' := a9_ H
        clear H
        try go_wp2
        have n0_ := a9_ (Kd.R_drew HO_5.out)
        have n1_ := a9_ (below_drew1 HB.out)
        clear HO_5 HB
        revert n0_ n1_; intro HO_5 HB
        have p104 : 0 ≤ (x6_1 : Int) := of_decide_eq_true (by first | (with_reducible assumption) | assumption)
        have q104 : x6_1 < (l1.length : Int) := of_decide_eq_true (by first | (with_reducible assumption) | assumption)
        obtain ⟨ad104, e104, hx104_0, hx104_1⟩ := at_T46 HR1.out x6_1 p104 q104
        have hw104_1 := hx104_1
        have hw104_0 := hx104_0
        cases e104
        replace hx104_0 := hb9 HB.out hx104_0
        replace hx104_1 := hb9 HB.out hx104_1
        replace p104 := eq_true p104
        replace q104 := eq_true q104
        have p105 : 0 ≤ (x6_1 : Int) := of_decide_eq_true (by first | (with_reducible assumption) | assumption)
        have q105 : x6_1 < (l1.length : Int) := of_decide_eq_true (by first | (with_reducible assumption) | assumption)
        obtain ⟨ad105, e105, hx105_0, hx105_1⟩ := at_T46 HR1.out x6_1 p105 q105
        have hw105_1 := hx105_1
        have hw105_0 := hx105_0
        obtain rfl : ad104 = ad105 := (by injection e105)
        replace hx105_0 := hb9 HB.out hx105_0
        replace hx105_1 := hb9 HB.out hx105_1
        replace p105 := eq_true p105
        replace q105 := eq_true q105
        obtain ⟨Ao12, co12, eo12⟩ := Kd.R_slice HO_5.out
        (first | subst eo12 | (injection eo12 with f1_ f2_ f3_; have f4_ := f1_.symm; have f5_ := f3_.symm; clear f1_ f2_ f3_; subst f4_; subst f5_))
        refine start_ (n := 13) (S := fun w' => w'.cell? (ad104.add ((x6_1).toNat * 2)) = some (.int .i64 ((rd_T46 l1 x6_1).f0)) ∧ w'.cell? ⟨(ad104.add ((x6_1).toNat * 2)).block, (ad104.add ((x6_1).toNat * 2)).off + 1, none⟩ = some (.int .i64 ((rd_T46 l1 x6_1).f1)) ∧ w'.cell? (ad104.add ((x6_1).toNat * 2)) = some (.int .i64 ((rd_T46 l1 x6_1).f0)) ∧ w'.cell? ⟨(ad104.add ((x6_1).toNat * 2)).block, (ad104.add ((x6_1).toNat * 2)).off + 1, none⟩ = some (.int .i64 ((rd_T46 l1 x6_1).f1))) (ds := []) #[o9, o9, o9, o9, o9, o9, o9, o9, o9, o9, o9, o9, o9] (by kernel_rfl) rfl rfl ⟨((HB.out.cell (World.block_lt_of_cell? w _ hw104_0)).trans hw104_0), ((HB.out.cell (World.block_lt_of_cell? w _ hw104_1)).trans hw104_1), ((HB.out.cell (World.block_lt_of_cell? w _ hw105_0)).trans hw105_0), ((HB.out.cell (World.block_lt_of_cell? w _ hw105_1)).trans hw105_1)⟩ (fun hHeld => ?_); refine with_tabW cupolaref05_Made.tab5 cupolaref05_Made.bits5 (fun HT_ HW_ => ?_)
        generalize wr.drew = w11 at HO_5 HB hx104_0 hx104_1 hx105_0 hx105_1 hHeld ⊢
        refine pureA 0 (some 15) ?_ #[i9, o9, o9, o9, o9, o9, o9, o9, o9, o9, o9, o9, o9] rfl rfl (any_of HT_.out (by kernel_rfl)) ?_ ?_ ?_ ?_
        rotate_left
        ·intro w'; go_simp; with_reducible rfl
        rotate_left
        ·exact put9
        refine pureA 1 (some 16) ?_ #[i9, i9, o9, o9, o9, o9, o9, o9, o9, o9, o9, o9, o9] rfl rfl (any_of HT_.out (by kernel_rfl)) ?_ ?_ ?_ ?_
        rotate_left
        ·intro w'; go_simp; with_reducible rfl
        rotate_left
        ·exact put9
        refine pureA 2 (some 17) ?_ #[i9, i9, i9, o9, o9, o9, o9, o9, o9, o9, o9, o9, o9] rfl rfl (any_of HT_.out (by kernel_rfl)) ?_ ?_ ?_ ?_
        rotate_left
        ·intro w'; go_simp; with_reducible rfl
        rotate_left
        ·exact put9
        refine pureA 3 (some 18) ?_ #[i9, i9, i9, i9, o9, o9, o9, o9, o9, o9, o9, o9, o9] rfl rfl (any_of HT_.out (by kernel_rfl)) ?_ ?_ ?_ ?_
        rotate_left
        ·intro w'; go_simp; with_reducible rfl
        rotate_left
        ·exact put9
        refine pureA 4 (some 19) ?_ #[i9, i9, i9, i9, i9, o9, o9, o9, o9, o9, o9, o9, o9] rfl rfl (any_of HT_.out (by kernel_rfl)) ?_ ?_ ?_ ?_
        rotate_left
        ·intro w'; go_simp; with_reducible rfl
        rotate_left
        ·exact put9
        refine pureA 6 (some 21) ?_ #[i9, i9, i9, i9, i9, o9, i9, o9, o9, o9, o9, o9, o9] rfl rfl (any_of HT_.out (by kernel_rfl)) ?_ ?_ ?_ ?_
        rotate_left
        ·intro w'; go_simp; with_reducible rfl
        rotate_left
        ·exact put9
        refine pureA 7 (some 22) ?_ #[i9, i9, i9, i9, i9, o9, i9, i9, o9, o9, o9, o9, o9] rfl rfl (any_of HT_.out (by kernel_rfl)) ?_ ?_ ?_ ?_
        rotate_left
        ·intro w'; go_simp; with_reducible rfl
        rotate_left
        ·exact put9
        refine pureA 8 (some 23) ?_ #[i9, i9, i9, i9, i9, o9, i9, i9, i9, o9, o9, o9, o9] rfl rfl (any_of HT_.out (by kernel_rfl)) ?_ ?_ ?_ ?_
        rotate_left
        ·intro w'; go_simp; with_reducible rfl
        rotate_left
        ·exact put9
        refine pureA 9 (some 24) ?_ #[i9, i9, i9, i9, i9, o9, i9, i9, i9, i9, o9, o9, o9] rfl rfl (any_of HT_.out (by kernel_rfl)) ?_ ?_ ?_ ?_
        rotate_left
        ·intro w'; go_simp; with_reducible rfl
        rotate_left
        ·exact put9
        refine take_ (i := 5) (N := some 20) (v := ?_) (a' := ?_) #[i9, i9, i9, i9, i9, i9, i9, i9, i9, i9, o9, o9, o9] rfl rfl (take_ofW HT_.out HW_.out (by kernel_rfl)) (fun _ _ _ h => h) (Or.inl ⟨by rfl, ?_⟩) hHeld ?_ ?_
        rotate_left
        ·rintro w' ⟨s0, s1, s2, s3⟩
         go_simp
         with_reducible rfl
        rotate_left
        ·exact put9
        refine take_ (i := 10) (N := some 25) (v := ?_) (a' := ?_) #[i9, i9, i9, i9, i9, i9, i9, i9, i9, i9, i9, o9, o9] rfl rfl (take_ofW HT_.out HW_.out (by kernel_rfl)) (fun _ _ _ h => h) (Or.inl ⟨by rfl, ?_⟩) hHeld ?_ ?_
        rotate_left
        ·rintro w' ⟨s0, s1, s2, s3⟩
         go_simp
         with_reducible rfl
        rotate_left
        ·exact put9
        refine one_ (i := 11) (N := some 26) #[i9, i9, i9, i9, i9, i9, i9, i9, i9, i9, i9, i9, o9] rfl rfl (one_of HT_.out (by kernel_rfl)) (by decide) (fun K hK => ?_)
        refine goes9 Try.func43 (by kernel_rfl) rfl #[.slice Ao12 x5_1.length co12, .int .i64 ((rd_T46 l1 x6_1).f0), .int .i64 ((rd_T46 l1 x6_1).f1)] (by rfl) rfl rfl ?_
        with_reducible refine (cupolaref05_Has.calls k1 _ _ x5_1 ((rd_T46 l1 x6_1).f0) ((rd_T46 l1 x6_1).f1) true _ ?side1 ?side2 A9.out).mono ?_
        (case side1 => exact lp9 (Kd.R_reads' HO_5.out).2.2)
        (case side2 => exact (Kd.R_reads' HO_5.out).2.1)
        rintro e w' ⟨rfl, ⟨nd, rfl⟩⟩
        refine ⟨_, rfl, ?_⟩
        refine hK.out _ _ ⟨((HB.out.cell (World.block_lt_of_cell? w _ hw104_0)).trans hw104_0), ((HB.out.cell (World.block_lt_of_cell? w _ hw104_1)).trans hw104_1), ((HB.out.cell (World.block_lt_of_cell? w _ hw105_0)).trans hw105_0), ((HB.out.cell (World.block_lt_of_cell? w _ hw105_1)).trans hw105_1)⟩ (fun hHeld => ?_)
        clear hK K
        refine norm_ (a' := ?_) ?_ ?_
        rotate_left
        ·show Act.put _ (some 26) _ = _
         exact put9
        refine pureA 12 (some 27) ?_ #[i9, i9, i9, i9, i9, i9, i9, i9, i9, i9, i9, i9, i9] rfl rfl (any_of HT_.out (by kernel_rfl)) ?_ ?_ ?_ ?_
        rotate_left
        ·intro w'; go_simp; with_reducible rfl
        rotate_left
        ·exact put9
        refine done_ (done_of HT_.out (by kernel_rfl)) ?_
        try go_wp2
        go_roundg k1
        case measure => have := HK1.out; omega
        case rel => exact ⟨(x5_1), (wrap64 (x6_1 + 1)), rs9, H', ⟨by have := HK1.out; omega⟩, ⟨rp9 HO_5.out⟩, ⟨bp9 HB.out⟩⟩
       ·replace c10 := Bool.eq_false_iff.mpr c10
        subst c10
        rw [if_neg (show ¬ (false = true) by decide)] at H
        by_cases c13 : 0 ≤ ((rd_T46 l1 x6_1).f0)
        ·rw [if_pos c13] at H
         have c13b0 : decide (0 ≤ ((rd_T46 l1 x6_1).f0)) = true := decide_eq_true c13
         clear c13
         by_cases c14 : ((rd_T46 l1 x6_1).f0) < (x5_1.length : Int)
         ·rw [if_pos c14] at H
          have c14b0 : decide (((rd_T46 l1 x6_1).f0) < (x5_1.length : Int)) = true := decide_eq_true c14
          clear c14
          replace H := Option.bind_eq_some_iff.mp H
          obtain ⟨t111, A150, H⟩ := H
          have A15 := a9_ A150
          clear A150
          obtain ⟨y112, hy112⟩ : ∃ y_ : List Int, y_ = (x5_1.set (((rd_T46 l1 x6_1).f0) : Int).toNat (((rd x5_1 ((rd_T46 l1 x6_1).f0)) + t111) % 4294967296)) := ⟨_, rfl⟩
          replace H : (cupolaref05_Made.l0 k1 l1 y112 (wrap64 (x6_1 + 1))) = some r := by first | (rw [hy112]; with_reducible exact H) | (have H2_ := (Option.bind_some _ _).symm.trans H; rw [hy112]; with_reducible exact H2_) | (have H2_ := (Option.bind_some _ _).symm.trans H; with_reducible exact H2_) | with_reducible exact H | (rw [hy112]; exact H) | exact H
          have Ny112 := a9_ hy112
          clear hy112
          have H' := a9_ H
          clear H
          try go_wp2
          have n0_ := a9_ (Kd.R_drew HO_5.out)
          have n1_ := a9_ (below_drew1 HB.out)
          clear HO_5 HB
          revert n0_ n1_; intro HO_5 HB
          have p104 : 0 ≤ (x6_1 : Int) := of_decide_eq_true (by first | (with_reducible assumption) | assumption)
          have q104 : x6_1 < (l1.length : Int) := of_decide_eq_true (by first | (with_reducible assumption) | assumption)
          obtain ⟨ad104, e104, hx104_0, hx104_1⟩ := at_T46 HR1.out x6_1 p104 q104
          have hw104_1 := hx104_1
          have hw104_0 := hx104_0
          cases e104
          replace hx104_0 := hb9 HB.out hx104_0
          replace hx104_1 := hb9 HB.out hx104_1
          replace p104 := eq_true p104
          replace q104 := eq_true q104
          have p105 : 0 ≤ (x6_1 : Int) := of_decide_eq_true (by first | (with_reducible assumption) | assumption)
          have q105 : x6_1 < (l1.length : Int) := of_decide_eq_true (by first | (with_reducible assumption) | assumption)
          obtain ⟨ad105, e105, hx105_0, hx105_1⟩ := at_T46 HR1.out x6_1 p105 q105
          have hw105_1 := hx105_1
          have hw105_0 := hx105_0
          obtain rfl : ad104 = ad105 := (by injection e105)
          replace hx105_0 := hb9 HB.out hx105_0
          replace hx105_1 := hb9 HB.out hx105_1
          replace p105 := eq_true p105
          replace q105 := eq_true q105
          obtain ⟨Ao18, co18, eo18⟩ := Kd.R_slice HO_5.out
          (first | subst eo18 | (injection eo18 with f1_ f2_ f3_; have f4_ := f1_.symm; have f5_ := f3_.symm; clear f1_ f2_ f3_; subst f4_; subst f5_))
          refine start_ (n := 13) (S := fun w' => w'.cell? (ad104.add ((x6_1).toNat * 2)) = some (.int .i64 ((rd_T46 l1 x6_1).f0)) ∧ w'.cell? ⟨(ad104.add ((x6_1).toNat * 2)).block, (ad104.add ((x6_1).toNat * 2)).off + 1, none⟩ = some (.int .i64 ((rd_T46 l1 x6_1).f1)) ∧ w'.cell? (ad104.add ((x6_1).toNat * 2)) = some (.int .i64 ((rd_T46 l1 x6_1).f0)) ∧ w'.cell? ⟨(ad104.add ((x6_1).toNat * 2)).block, (ad104.add ((x6_1).toNat * 2)).off + 1, none⟩ = some (.int .i64 ((rd_T46 l1 x6_1).f1))) (ds := []) #[o9, o9, o9, o9, o9, o9, o9, o9, o9, o9, o9, o9, o9] (by kernel_rfl) rfl rfl ⟨((HB.out.cell (World.block_lt_of_cell? w _ hw104_0)).trans hw104_0), ((HB.out.cell (World.block_lt_of_cell? w _ hw104_1)).trans hw104_1), ((HB.out.cell (World.block_lt_of_cell? w _ hw105_0)).trans hw105_0), ((HB.out.cell (World.block_lt_of_cell? w _ hw105_1)).trans hw105_1)⟩ (fun hHeld => ?_); refine with_tabW cupolaref05_Made.tab5 cupolaref05_Made.bits5 (fun HT_ HW_ => ?_)
          generalize wr.drew = w17 at HO_5 HB hx104_0 hx104_1 hx105_0 hx105_1 hHeld ⊢
          refine pureA 0 (some 15) ?_ #[i9, o9, o9, o9, o9, o9, o9, o9, o9, o9, o9, o9, o9] rfl rfl (any_of HT_.out (by kernel_rfl)) ?_ ?_ ?_ ?_
          rotate_left
          ·intro w'; go_simp; with_reducible rfl
          rotate_left
          ·exact put9
          refine pureA 1 (some 16) ?_ #[i9, i9, o9, o9, o9, o9, o9, o9, o9, o9, o9, o9, o9] rfl rfl (any_of HT_.out (by kernel_rfl)) ?_ ?_ ?_ ?_
          rotate_left
          ·intro w'; go_simp; with_reducible rfl
          rotate_left
          ·exact put9
          refine pureA 2 (some 17) ?_ #[i9, i9, i9, o9, o9, o9, o9, o9, o9, o9, o9, o9, o9] rfl rfl (any_of HT_.out (by kernel_rfl)) ?_ ?_ ?_ ?_
          rotate_left
          ·intro w'; go_simp; with_reducible rfl
          rotate_left
          ·exact put9
          refine pureA 3 (some 18) ?_ #[i9, i9, i9, i9, o9, o9, o9, o9, o9, o9, o9, o9, o9] rfl rfl (any_of HT_.out (by kernel_rfl)) ?_ ?_ ?_ ?_
          rotate_left
          ·intro w'; go_simp; with_reducible rfl
          rotate_left
          ·exact put9
          refine pureA 4 (some 19) ?_ #[i9, i9, i9, i9, i9, o9, o9, o9, o9, o9, o9, o9, o9] rfl rfl (any_of HT_.out (by kernel_rfl)) ?_ ?_ ?_ ?_
          rotate_left
          ·intro w'; go_simp; with_reducible rfl
          rotate_left
          ·exact put9
          refine pureA 6 (some 21) ?_ #[i9, i9, i9, i9, i9, o9, i9, o9, o9, o9, o9, o9, o9] rfl rfl (any_of HT_.out (by kernel_rfl)) ?_ ?_ ?_ ?_
          rotate_left
          ·intro w'; go_simp; with_reducible rfl
          rotate_left
          ·exact put9
          refine pureA 7 (some 22) ?_ #[i9, i9, i9, i9, i9, o9, i9, i9, o9, o9, o9, o9, o9] rfl rfl (any_of HT_.out (by kernel_rfl)) ?_ ?_ ?_ ?_
          rotate_left
          ·intro w'; go_simp; with_reducible rfl
          rotate_left
          ·exact put9
          refine pureA 8 (some 23) ?_ #[i9, i9, i9, i9, i9, o9, i9, i9, i9, o9, o9, o9, o9] rfl rfl (any_of HT_.out (by kernel_rfl)) ?_ ?_ ?_ ?_
          rotate_left
          ·intro w'; go_simp; with_reducible rfl
          rotate_left
          ·exact put9
          refine pureA 9 (some 24) ?_ #[i9, i9, i9, i9, i9, o9, i9, i9, i9, i9, o9, o9, o9] rfl rfl (any_of HT_.out (by kernel_rfl)) ?_ ?_ ?_ ?_
          rotate_left
          ·intro w'; go_simp; with_reducible rfl
          rotate_left
          ·exact put9
          refine take_ (i := 5) (N := some 20) (v := ?_) (a' := ?_) #[i9, i9, i9, i9, i9, i9, i9, i9, i9, i9, o9, o9, o9] rfl rfl (take_ofW HT_.out HW_.out (by kernel_rfl)) (fun _ _ _ h => h) (Or.inl ⟨by rfl, ?_⟩) hHeld ?_ ?_
          rotate_left
          ·rintro w' ⟨s0, s1, s2, s3⟩
           go_simp
           with_reducible rfl
          rotate_left
          ·exact put9
          refine take_ (i := 10) (N := some 25) (v := ?_) (a' := ?_) #[i9, i9, i9, i9, i9, i9, i9, i9, i9, i9, i9, o9, o9] rfl rfl (take_ofW HT_.out HW_.out (by kernel_rfl)) (fun _ _ _ h => h) (Or.inl ⟨by rfl, ?_⟩) hHeld ?_ ?_
          rotate_left
          ·rintro w' ⟨s0, s1, s2, s3⟩
           go_simp
           with_reducible rfl
          rotate_left
          ·exact put9
          refine one_ (i := 11) (N := some 26) #[i9, i9, i9, i9, i9, i9, i9, i9, i9, i9, i9, i9, o9] rfl rfl (one_of HT_.out (by kernel_rfl)) (by decide) (fun K hK => ?_)
          refine goes9 Try.func43 (by kernel_rfl) rfl #[.slice Ao18 x5_1.length co18, .int .i64 ((rd_T46 l1 x6_1).f0), .int .i64 ((rd_T46 l1 x6_1).f1)] (by rfl) rfl rfl ?_
          with_reducible refine (cupolaref05_Has.calls k1 _ _ x5_1 ((rd_T46 l1 x6_1).f0) ((rd_T46 l1 x6_1).f1) false _ ?side1 ?side2 A9.out).mono ?_
          (case side1 => exact lp9 (Kd.R_reads' HO_5.out).2.2)
          (case side2 => exact (Kd.R_reads' HO_5.out).2.1)
          rintro e w' ⟨rfl, ⟨nd, rfl⟩⟩
          refine ⟨_, rfl, ?_⟩
          refine hK.out _ _ ⟨((HB.out.cell (World.block_lt_of_cell? w _ hw104_0)).trans hw104_0), ((HB.out.cell (World.block_lt_of_cell? w _ hw104_1)).trans hw104_1), ((HB.out.cell (World.block_lt_of_cell? w _ hw105_0)).trans hw105_0), ((HB.out.cell (World.block_lt_of_cell? w _ hw105_1)).trans hw105_1)⟩ (fun hHeld => ?_)
          clear hK K
          refine norm_ (a' := ?_) ?_ ?_
          rotate_left
          ·show Act.put _ (some 26) _ = _
           exact put9
          refine pureA 12 (some 27) ?_ #[i9, i9, i9, i9, i9, i9, i9, i9, i9, i9, i9, i9, i9] rfl rfl (any_of HT_.out (by kernel_rfl)) ?_ ?_ ?_ ?_
          rotate_left
          ·intro w'; go_simp; with_reducible rfl
          rotate_left
          ·exact put9
          refine done_ (done_of HT_.out (by kernel_rfl)) ?_
          try go_wp2
          (try (rw [drewN_self w17]; generalize hq_ : World.drewN w17 _ = w17; have n0_ : Aside0 (Kd.R (Kd.int .u32) 52 w17 w.heap.size (fun _ => True) (.slice Ao18 x5_1.length co18) x5_1) := ⟨by rw [← hq_]; exact (rp9 HO_5.out)⟩; have n1_ : Aside0 (Below w.heap.size w w17) := ⟨by rw [← hq_]; exact (bp9 HB.out)⟩; clear HO_5 HB hq_; have HO_5 := n0_; have HB := n1_; clear n0_ n1_))
          have n0_ := a9_ (Kd.R_drew HO_5.out)
          have n1_ := a9_ (below_drew1 HB.out)
          clear HO_5 HB
          revert n0_ n1_; intro HO_5 HB
          have p107 : 0 ≤ (x6_1 : Int) := of_decide_eq_true (by first | (with_reducible assumption) | assumption)
          have q107 : x6_1 < (l1.length : Int) := of_decide_eq_true (by first | (with_reducible assumption) | assumption)
          obtain ⟨ad107, e107, hx107_0, hx107_1⟩ := at_T46 HR1.out x6_1 p107 q107
          have hw107_1 := hx107_1
          have hw107_0 := hx107_0
          obtain rfl : ad104 = ad107 := (by injection e107)
          replace hx107_0 := hb9 HB.out hx107_0
          replace hx107_1 := hb9 HB.out hx107_1
          replace p107 := eq_true p107
          replace q107 := eq_true q107
          have p108 : 0 ≤ (x6_1 : Int) := of_decide_eq_true (by first | (with_reducible assumption) | assumption)
          have q108 : x6_1 < (l1.length : Int) := of_decide_eq_true (by first | (with_reducible assumption) | assumption)
          obtain ⟨ad108, e108, hx108_0, hx108_1⟩ := at_T46 HR1.out x6_1 p108 q108
          have hw108_1 := hx108_1
          have hw108_0 := hx108_0
          obtain rfl : ad104 = ad108 := (by injection e108)
          replace hx108_0 := hb9 HB.out hx108_0
          replace hx108_1 := hb9 HB.out hx108_1
          replace p108 := eq_true p108
          replace q108 := eq_true q108
          have p109 : 0 ≤ (((rd_T46 l1 x6_1).f0) : Int) := of_decide_eq_true (by first | (with_reducible assumption) | assumption)
          have q109 : ((rd_T46 l1 x6_1).f0) < (x5_1.length : Int) := of_decide_eq_true (by first | (with_reducible assumption) | assumption)
          obtain ⟨ad109, e109, hx109_0⟩ := Kd.at_int (Kd.R_reads' HO_5.out).2.2 ((rd_T46 l1 x6_1).f0) p109 q109
          cases e109
          replace p109 := eq_true p109
          replace q109 := eq_true q109
          have p110 : 0 ≤ (x6_1 : Int) := of_decide_eq_true (by first | (with_reducible assumption) | assumption)
          have q110 : x6_1 < (l1.length : Int) := of_decide_eq_true (by first | (with_reducible assumption) | assumption)
          obtain ⟨ad110, e110, hx110_0, hx110_1⟩ := at_T46 HR1.out x6_1 p110 q110
          have hw110_1 := hx110_1
          have hw110_0 := hx110_0
          obtain rfl : ad104 = ad110 := (by injection e110)
          replace hx110_0 := hb9 HB.out hx110_0
          replace hx110_1 := hb9 HB.out hx110_1
          replace p110 := eq_true p110
          replace q110 := eq_true q110
          refine start_ (n := 23) (S := fun w' => w'.cell? (ad104.add ((x6_1).toNat * 2)) = some (.int .i64 ((rd_T46 l1 x6_1).f0)) ∧ w'.cell? ⟨(ad104.add ((x6_1).toNat * 2)).block, (ad104.add ((x6_1).toNat * 2)).off + 1, none⟩ = some (.int .i64 ((rd_T46 l1 x6_1).f1)) ∧ w'.cell? (ad104.add ((x6_1).toNat * 2)) = some (.int .i64 ((rd_T46 l1 x6_1).f0)) ∧ w'.cell? ⟨(ad104.add ((x6_1).toNat * 2)).block, (ad104.add ((x6_1).toNat * 2)).off + 1, none⟩ = some (.int .i64 ((rd_T46 l1 x6_1).f1)) ∧ w'.cell? (ad109.add (((rd_T46 l1 x6_1).f0)).toNat) = some (.int .u32 (rd x5_1 ((rd_T46 l1 x6_1).f0))) ∧ w'.cell? (ad104.add ((x6_1).toNat * 2)) = some (.int .i64 ((rd_T46 l1 x6_1).f0)) ∧ w'.cell? ⟨(ad104.add ((x6_1).toNat * 2)).block, (ad104.add ((x6_1).toNat * 2)).off + 1, none⟩ = some (.int .i64 ((rd_T46 l1 x6_1).f1))) (ds := [22]) #[o9, o9, o9, o9, o9, o9, o9, o9, o9, o9, o9, o9, o9, o9, o9, o9, o9, o9, o9, o9, o9, o9, o9] (by kernel_rfl) rfl rfl ⟨((HB.out.cell (World.block_lt_of_cell? w _ hw107_0)).trans hw107_0), ((HB.out.cell (World.block_lt_of_cell? w _ hw107_1)).trans hw107_1), ((HB.out.cell (World.block_lt_of_cell? w _ hw108_0)).trans hw108_0), ((HB.out.cell (World.block_lt_of_cell? w _ hw108_1)).trans hw108_1), hx109_0, ((HB.out.cell (World.block_lt_of_cell? w _ hw110_0)).trans hw110_0), ((HB.out.cell (World.block_lt_of_cell? w _ hw110_1)).trans hw110_1)⟩ (fun hHeld => ?_); refine with_tabW cupolaref05_Made.tab6 cupolaref05_Made.bits6 (fun HT_ HW_ => ?_)
          generalize w17.drew = w19 at HO_5 HB hx107_0 hx107_1 hx108_0 hx108_1 hx109_0 hx110_0 hx110_1 hHeld ⊢
          refine pureA 0 (some 28) ?_ #[i9, o9, o9, o9, o9, o9, o9, o9, o9, o9, o9, o9, o9, o9, o9, o9, o9, o9, o9, o9, o9, o9, o9] rfl rfl (any_of HT_.out (by kernel_rfl)) ?_ ?_ ?_ ?_
          rotate_left
          ·intro w'; go_simp; with_reducible rfl
          rotate_left
          ·exact put9
          refine pureA 1 (some 29) ?_ #[i9, i9, o9, o9, o9, o9, o9, o9, o9, o9, o9, o9, o9, o9, o9, o9, o9, o9, o9, o9, o9, o9, o9] rfl rfl (any_of HT_.out (by kernel_rfl)) ?_ ?_ ?_ ?_
          rotate_left
          ·intro w'; go_simp; with_reducible rfl
          rotate_left
          ·exact put9
          refine pureA 2 (some 30) ?_ #[i9, i9, i9, o9, o9, o9, o9, o9, o9, o9, o9, o9, o9, o9, o9, o9, o9, o9, o9, o9, o9, o9, o9] rfl rfl (any_of HT_.out (by kernel_rfl)) ?_ ?_ ?_ ?_
          rotate_left
          ·intro w'; go_simp; with_reducible rfl
          rotate_left
          ·exact put9
          refine pureA 3 (some 31) ?_ #[i9, i9, i9, i9, o9, o9, o9, o9, o9, o9, o9, o9, o9, o9, o9, o9, o9, o9, o9, o9, o9, o9, o9] rfl rfl (any_of HT_.out (by kernel_rfl)) ?_ ?_ ?_ ?_
          rotate_left
          ·intro w'; go_simp; with_reducible rfl
          rotate_left
          ·exact put9
          refine pureA 4 (some 32) ?_ #[i9, i9, i9, i9, i9, o9, o9, o9, o9, o9, o9, o9, o9, o9, o9, o9, o9, o9, o9, o9, o9, o9, o9] rfl rfl (any_of HT_.out (by kernel_rfl)) ?_ ?_ ?_ ?_
          rotate_left
          ·intro w'; go_simp; with_reducible rfl
          rotate_left
          ·exact put9
          refine pureA 6 (some 34) ?_ #[i9, i9, i9, i9, i9, o9, i9, o9, o9, o9, o9, o9, o9, o9, o9, o9, o9, o9, o9, o9, o9, o9, o9] rfl rfl (any_of HT_.out (by kernel_rfl)) ?_ ?_ ?_ ?_
          rotate_left
          ·intro w'; go_simp; with_reducible rfl
          rotate_left
          ·exact put9
          refine pureA 7 (some 35) ?_ #[i9, i9, i9, i9, i9, o9, i9, i9, o9, o9, o9, o9, o9, o9, o9, o9, o9, o9, o9, o9, o9, o9, o9] rfl rfl (any_of HT_.out (by kernel_rfl)) ?_ ?_ ?_ ?_
          rotate_left
          ·intro w'; go_simp; with_reducible rfl
          rotate_left
          ·exact put9
          refine pureA 8 (some 36) ?_ #[i9, i9, i9, i9, i9, o9, i9, i9, i9, o9, o9, o9, o9, o9, o9, o9, o9, o9, o9, o9, o9, o9, o9] rfl rfl (any_of HT_.out (by kernel_rfl)) ?_ ?_ ?_ ?_
          rotate_left
          ·intro w'; go_simp; with_reducible rfl
          rotate_left
          ·exact put9
          refine pureA 9 (some 37) ?_ #[i9, i9, i9, i9, i9, o9, i9, i9, i9, i9, o9, o9, o9, o9, o9, o9, o9, o9, o9, o9, o9, o9, o9] rfl rfl (any_of HT_.out (by kernel_rfl)) ?_ ?_ ?_ ?_
          rotate_left
          ·intro w'; go_simp; with_reducible rfl
          rotate_left
          ·exact put9
          refine pureA 10 (some 38) ?_ #[i9, i9, i9, i9, i9, o9, i9, i9, i9, i9, i9, o9, o9, o9, o9, o9, o9, o9, o9, o9, o9, o9, o9] rfl rfl (any_of HT_.out (by kernel_rfl)) ?_ ?_ ?_ ?_
          rotate_left
          ·intro w'; go_simp; with_reducible rfl
          rotate_left
          ·exact put9
          refine pureA 14 (some 42) ?_ #[i9, i9, i9, i9, i9, o9, i9, i9, i9, i9, i9, o9, o9, o9, i9, o9, o9, o9, o9, o9, o9, o9, o9] rfl rfl (any_of HT_.out (by kernel_rfl)) ?_ ?_ ?_ ?_
          rotate_left
          ·intro w'; go_simp; with_reducible rfl
          rotate_left
          ·exact put9
          refine pureA 15 (some 43) ?_ #[i9, i9, i9, i9, i9, o9, i9, i9, i9, i9, i9, o9, o9, o9, i9, i9, o9, o9, o9, o9, o9, o9, o9] rfl rfl (any_of HT_.out (by kernel_rfl)) ?_ ?_ ?_ ?_
          rotate_left
          ·intro w'; go_simp; with_reducible rfl
          rotate_left
          ·exact put9
          refine pureA 16 (some 44) ?_ #[i9, i9, i9, i9, i9, o9, i9, i9, i9, i9, i9, o9, o9, o9, i9, i9, i9, o9, o9, o9, o9, o9, o9] rfl rfl (any_of HT_.out (by kernel_rfl)) ?_ ?_ ?_ ?_
          rotate_left
          ·intro w'; go_simp; with_reducible rfl
          rotate_left
          ·exact put9
          refine pureA 17 (some 45) ?_ #[i9, i9, i9, i9, i9, o9, i9, i9, i9, i9, i9, o9, o9, o9, i9, i9, i9, i9, o9, o9, o9, o9, o9] rfl rfl (any_of HT_.out (by kernel_rfl)) ?_ ?_ ?_ ?_
          rotate_left
          ·intro w'; go_simp; with_reducible rfl
          rotate_left
          ·exact put9
          refine take_ (i := 5) (N := some 33) (v := ?_) (a' := ?_) #[i9, i9, i9, i9, i9, i9, i9, i9, i9, i9, i9, o9, o9, o9, i9, i9, i9, i9, o9, o9, o9, o9, o9] rfl rfl (take_ofW HT_.out HW_.out (by kernel_rfl)) (fun _ _ _ h => h) (Or.inl ⟨by rfl, ?_⟩) hHeld ?_ ?_
          rotate_left
          ·rintro w' ⟨s0, s1, s2, s3, s4, s5, s6⟩
           go_simp
           with_reducible rfl
          rotate_left
          ·exact put9
          refine take_ (i := 11) (N := some 39) (v := ?_) (a' := ?_) #[i9, i9, i9, i9, i9, i9, i9, i9, i9, i9, i9, i9, o9, o9, i9, i9, i9, i9, o9, o9, o9, o9, o9] rfl rfl (take_ofW HT_.out HW_.out (by kernel_rfl)) (fun _ _ _ h => h) (Or.inl ⟨by rfl, ?_⟩) hHeld ?_ ?_
          rotate_left
          ·rintro w' ⟨s0, s1, s2, s3, s4, s5, s6⟩
           go_simp
           with_reducible rfl
          rotate_left
          ·exact put9
          refine pureA 12 (some 40) ?_ #[i9, i9, i9, i9, i9, i9, i9, i9, i9, i9, i9, i9, i9, o9, i9, i9, i9, i9, o9, o9, o9, o9, o9] rfl rfl (any_of HT_.out (by kernel_rfl)) ?_ ?_ ?_ ?_
          rotate_left
          ·intro w'; go_simp; with_reducible rfl
          rotate_left
          ·exact put9
          refine take_ (i := 13) (N := some 41) (v := ?_) (a' := ?_) #[i9, i9, i9, i9, i9, i9, i9, i9, i9, i9, i9, i9, i9, i9, i9, i9, i9, i9, o9, o9, o9, o9, o9] rfl rfl (take_ofW HT_.out HW_.out (by kernel_rfl)) (fun _ _ _ h => h) (Or.inl ⟨by rfl, ?_⟩) hHeld ?_ ?_
          rotate_left
          ·rintro w' ⟨s0, s1, s2, s3, s4, s5, s6⟩
           go_simp
           with_reducible rfl
          rotate_left
          ·exact put9
          refine take_ (i := 18) (N := some 46) (v := ?_) (a' := ?_) #[i9, i9, i9, i9, i9, i9, i9, i9, i9, i9, i9, i9, i9, i9, i9, i9, i9, i9, i9, o9, o9, o9, o9] rfl rfl (take_ofW HT_.out HW_.out (by kernel_rfl)) (fun _ _ _ h => h) (Or.inl ⟨by rfl, ?_⟩) hHeld ?_ ?_
          rotate_left
          ·rintro w' ⟨s0, s1, s2, s3, s4, s5, s6⟩
           go_simp
           with_reducible rfl
          rotate_left
          ·exact put9
          refine one_ (i := 19) (N := some 47) #[i9, i9, i9, i9, i9, i9, i9, i9, i9, i9, i9, i9, i9, i9, i9, i9, i9, i9, i9, i9, o9, o9, o9] rfl rfl (one_of HT_.out (by kernel_rfl)) (by decide) (fun K hK => ?_)
          refine goes9 Try.func152 (by kernel_rfl) rfl #[.int .i64 ((rd_T46 l1 x6_1).f1)] (by rfl) rfl rfl ?_
          with_reducible refine (cupolaref05_power.calls k1 ((rd_T46 l1 x6_1).f1) t111 _ A15.out).mono ?_
          rintro e w' ⟨rfl, ⟨nd, rfl⟩⟩
          refine ⟨_, rfl, ?_⟩
          have p16 : 0 ≤ (((rd_T46 l1 x6_1).f0) : Int) := of_decide_eq_true (by first | (with_reducible assumption) | assumption)
          have q16 : (((rd_T46 l1 x6_1).f0) : Int) < ((x5_1.length : Int) : Int) := of_decide_eq_true (by first | (with_reducible assumption) | assumption)
          obtain ⟨go16, co16, eo16, gb16, gl16, cl16, HG16⟩ := Kd.R_form HO_5.out (by omega)
          (first | cases eo16 | (injection eo16 with ea_ en_ ec_; (first | subst ea_ | (injection ea_ with ea_; subst ea_)); subst ec_; clear en_))
          have GB16 := a9_ gb16
          have GG16 := a9_ HG16
          clear gb16 gl16 HG16
          (first | simp only [add_plain] at hx109_0 | skip)
          obtain ⟨hx16_0, hf16_0⟩ := Kd.R_celln 0 HO_5.out (((rd_T46 l1 x6_1).f0) : Int) p16 q16
          replace p16 := eq_true p16
          replace q16 := eq_true q16
          have HP20 := Kd.R_putn HO_5.out (((rd_T46 l1 x6_1).f0) : Int) (((rd x5_1 ((rd_T46 l1 x6_1).f0)) + t111) % 4294967296)
          rw [← Ny112.out] at HP20
          have HQ20 := a9_ HP20
          clear HP20
          refine hK.out _ _ ⟨((HB.out.cell (World.block_lt_of_cell? w _ hw107_0)).trans hw107_0), ((HB.out.cell (World.block_lt_of_cell? w _ hw107_1)).trans hw107_1), ((HB.out.cell (World.block_lt_of_cell? w _ hw108_0)).trans hw108_0), ((HB.out.cell (World.block_lt_of_cell? w _ hw108_1)).trans hw108_1), hHeld.2.2.2.2.1, ((HB.out.cell (World.block_lt_of_cell? w _ hw110_0)).trans hw110_0), ((HB.out.cell (World.block_lt_of_cell? w _ hw110_1)).trans hw110_1)⟩ (fun hHeld => ?_)
          clear hK K
          refine norm_ (a' := ?_) ?_ ?_
          rotate_left
          ·show Act.put _ (some 47) _ = _
           exact put9
          refine pureA 20 (some 48) ?_ #[i9, i9, i9, i9, i9, i9, i9, i9, i9, i9, i9, i9, i9, i9, i9, i9, i9, i9, i9, i9, i9, o9, o9] rfl rfl (any_of HT_.out (by kernel_rfl)) ?_ ?_ ?_ ?_
          rotate_left
          ·intro w'; go_simp; with_reducible rfl
          rotate_left
          ·exact put9
          refine pureA 21 (some 49) ?_ #[i9, i9, i9, i9, i9, i9, i9, i9, i9, i9, i9, i9, i9, i9, i9, i9, i9, i9, i9, i9, i9, i9, o9] rfl rfl (any_of HT_.out (by kernel_rfl)) ?_ ?_ ?_ ?_
          rotate_left
          ·intro w'; go_simp; with_reducible rfl
          rotate_left
          ·exact put9
          refine last_ (i := 22) (N := none) #[i9, i9, i9, i9, i9, i9, i9, i9, i9, i9, i9, i9, i9, i9, i9, i9, i9, i9, i9, i9, i9, i9, i9] rfl rfl (one_of HT_.out (by kernel_rfl)) (by decide) (fun K hK => ?_)
          refine skip_ (w1 := ?_) (by rfl) rfl ?_ ?_
          rotate_left
          ·go_simp
           rfl
          refine hK.out _ _ ?_
          clear hK K
          refine done_ (done_of HT_.out (by kernel_rfl)) ?_
          try go_wp2
          go_roundg k1
          case measure => have := HK1.out; omega
          case rel => exact ⟨(y112), (wrap64 (x6_1 + 1)), rs9, H', ⟨by have := HK1.out; omega⟩, ⟨by (with_reducible repeat (first | apply Kd.R_alloc | apply Kd.R_drewN | apply Kd.R_drew)); exact HQ20.out⟩, ⟨by repeat (first | (with_reducible first | exact HB.out | apply below_alloc | apply pw_below_drewN | apply below_drew1 | refine below_set ?_ GB16.out) | exact HB.out)⟩⟩
         ·rw [if_neg c14] at H
          exact absurd H (by simp)
        ·rw [if_neg c13] at H
         exact absurd H (by simp)
      ·rw [if_neg c8] at H
       exact absurd H (by simp)
     ·rw [if_neg c7] at H
      have c7b0 : decide (x6_1 < (l1.length : Int)) = false := decide_eq_false c7
      clear c7
      obtain rfl := Option.some.inj H
      go_wp2
      go_ret
      exact ⟨_, rt9, by (with_reducible repeat (first | apply Kd.R_alloc | apply Kd.R_drewN | apply Kd.R_drew)); exact HO_5.out, bp9 HB.out⟩
  ·rw [if_neg c4] at H
   exact absurd H (by simp)
 ·rw [if_neg c3] at H
  exact absurd H (by simp)
def cupolaref05_Inv.T6 : Bool × List (List Nat × List Nat) := (true, [([], []), ([], []), ([], []), ([1, 2], [1, 2]), ([3], [3]), ([4], [4]), ([], []), ([], []), ([6, 7], [6, 7]), ([8], [8]), ([9], [9]), ([5, 10], [5, 10]), ([11], [11]), ([0, 12], [0, 12]), ([13, 13, 0, 1, 2, 3, 4, 5, 6, 7, 8, 9, 10, 11, 12, 13], [0, 13])])
def cupolaref05_Inv.B6 : List Nat := [0, 0, 0, 6, 14, 30, 0, 0, 192, 448, 960, 2046, 4094, 8191, 16383]
theorem cupolaref05_Inv.tab6 : rtab .any (opsOf Try.f51 6) = cupolaref05_Inv.T6 := by kernel_rfl
theorem cupolaref05_Inv.bits6 : waitsOk cupolaref05_Inv.T6.2 cupolaref05_Inv.B6 = true := by kernel_rfl
end Go.Proofs.Ytbamkkdikeedoaa.G
