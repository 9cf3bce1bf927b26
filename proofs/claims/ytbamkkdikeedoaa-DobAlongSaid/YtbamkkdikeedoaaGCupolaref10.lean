-- Written by drive.py, a program of this seat's session, out of the translation.
import Derived.Test.YtbamkkdikeedoaaG0
import Derived.Test.YtbamkkdikeedoaaHandCz
namespace Go.Proofs.Ytbamkkdikeedoaa.G
open Go.RowKit Go.Proofs.YtbamkkdikeedoaaW.PrintWords Go.Proofs.YtbamkkdikeedoaaW.PrintLast Go.Proofs.YtbamkkdikeedoaaW.PrintMore
set_option maxHeartbeats 8000000
set_option maxRecDepth 100000
set_option linter.unusedVariables false
set_option linter.unusedSimpArgs false
def cupolaref10_bit.l0 : Nat → Int → Int → Int → Option (Bool)
 | 0, _, _, _ => none
 | k + 1, x0, x1, x5 => if x5 < x1 then (cupolaref10_bit.l0 k ((Int.tdiv x0 2) % 4294967296) x1 (wrap64 (x5 + 1))) else (some ((Int.tmod x0 2) == 1))
def cupolaref10_bit.f (k : Nat) (a0 : Int) (a1 : Int) : Option (Bool) := cupolaref10_bit.l0 k a0 a1 0
theorem cupolaref10_bit.calls (k : Nat) (a0 : Int) (a1 : Int) (r : Bool) (w : World) (h : cupolaref10_bit.f k a0 a1 = some r) :
  Calls Try.prog 150 #[.int .u32 a0, .int .i64 a1] w fun e w' => e = .returned (.bool r) ∧ Drawn0 w w' := by
 have H : (cupolaref10_bit.l0 k a0 a1 0) = some r := h
 clear h
 have H' := a9_ H
 clear H
 go_enter Try.func150, Try.ntmps150
 go_wp2
 go_loopg [0, 5] k (fun kq v0 v5 w' => ∃ (x0_1 : Int) (x5_1 : Int), v0 = .int .u32 x0_1 ∧ v5 = .int .i64 x5_1 ∧ Aside0 (cupolaref10_bit.l0 kq x0_1 a1 x5_1 = some r) ∧ Aside0 (kq ≤ k) ∧ Drawn0 w w')
 case atStart => exact ⟨(a0), (0), rs9, rs9, H', ⟨Nat.le_refl _⟩, by repeat (first | exact Drawn0.refl _ | apply Drawn0.step)⟩
 case round =>
  clear H'
  try clear c1
  try clear p2
  obtain ⟨x0_1, x5_1, rfl, rfl, HA, HK1, ⟨m1, rfl⟩⟩ := hrel
  cases gk with
  | zero => exact absurd HA.out (by simp [cupolaref10_bit.l0])
  | succ k1 =>
   have H := HA.out
   clear HA
   simp only [cupolaref10_bit.l0] at H
   by_cases c3 : x5_1 < a1
   ·rw [if_pos c3] at H
    have c3b0 : decide (x5_1 < a1) = true := decide_eq_true c3
    clear c3
    have H' := a9_ H
    clear H
    go_wp2
    go_roundg k1
    case measure => have := HK1.out; omega
    case rel => exact ⟨((Int.tdiv x0_1 2) % 4294967296), (wrap64 (x5_1 + 1)), rs9, rs9, H', ⟨by have := HK1.out; omega⟩, by repeat (first | exact Drawn0.refl _ | apply Drawn0.step)⟩
   ·rw [if_neg c3] at H
    have c3b0 : decide (x5_1 < a1) = false := decide_eq_false c3
    clear c3
    obtain rfl := Option.some.inj H
    go_wp2
    go_ret
    exact ⟨by first | rfl | (simp; done) | (simp [*]; done), by repeat (first | exact Drawn0.refl _ | apply Drawn0.step)⟩
mutual
def cupolaref10_fine.j0 : Nat → Int → Bool → List (S26) → List Int → List Int → List Int → List Int → Int → Int → Int → Int → Int → Int → Int → Int → Int → Int → Int → Option (Bool)
 | 0, _, _, _, _, _, _, _, _, _, _, _, _, _, _, _, _, _, _ => none
 | k + 1, x3, x34, x102000, x102001, x102002, x102003, x102004, x102005, x102006, x102007, x102008, x102009, x102010, x102011, x102012, x102013, x102014, x102015 => if x34 = true then (some false) else (cupolaref10_fine.l0 k x3 0 x102000 x102001 x102002 x102003 x102004 x102005 x102006 x102007 x102008 x102009 x102010 x102011 x102012 x102013 x102014 x102015)
def cupolaref10_fine.l0 : Nat → Int → Int → List (S26) → List Int → List Int → List Int → List Int → Int → Int → Int → Int → Int → Int → Int → Int → Int → Int → Int → Option (Bool)
 | 0, _, _, _, _, _, _, _, _, _, _, _, _, _, _, _, _, _, _ => none
 | k + 1, x3, x4, x102000, x102001, x102002, x102003, x102004, x102005, x102006, x102007, x102008, x102009, x102010, x102011, x102012, x102013, x102014, x102015 => if x4 < x3 then (cupolaref10_fine.l1 k x3 x4 x4 x102000 x102001 x102002 x102003 x102004 x102005 x102006 x102007 x102008 x102009 x102010 x102011 x102012 x102013 x102014 x102015) else (some true)
def cupolaref10_fine.l1 : Nat → Int → Int → Int → List (S26) → List Int → List Int → List Int → List Int → Int → Int → Int → Int → Int → Int → Int → Int → Int → Int → Int → Option (Bool)
 | 0, _, _, _, _, _, _, _, _, _, _, _, _, _, _, _, _, _, _, _ => none
 | k + 1, x3, x4, x5, x102000, x102001, x102002, x102003, x102004, x102005, x102006, x102007, x102008, x102009, x102010, x102011, x102012, x102013, x102014, x102015 => if x5 < 32 then (if 0 ≤ x4 then (if x4 < (x102001.length : Int) then ((cupolaref10_bit.f k (rd x102001 x4) x5).bind fun t104 => (if t104 = true then (some false) else (if x4 < (x102002.length : Int) then ((cupolaref10_bit.f k (rd x102002 x4) x5).bind fun t106 => (if t106 = true then (some false) else (if x4 < (x102003.length : Int) then ((cupolaref10_bit.f k (rd x102003 x4) x5).bind fun t108 => (if t108 = true then (some false) else (cupolaref10_fine.l1 k x3 x4 (wrap64 (x5 + 1)) x102000 x102001 x102002 x102003 x102004 x102005 x102006 x102007 x102008 x102009 x102010 x102011 x102012 x102013 x102014 x102015))) else (none)))) else (none)))) else (none)) else (none)) else (if 0 ≤ x4 then (if x4 < (x102004.length : Int) then (if (rd x102004 x4) ≥ x4 then (some false) else (cupolaref10_fine.l0 k x3 (wrap64 (x4 + 1)) x102000 x102001 x102002 x102003 x102004 x102005 x102006 x102007 x102008 x102009 x102010 x102011 x102012 x102013 x102014 x102015)) else (none)) else (none))
end
def cupolaref10_fine.f (k : Nat) (l0_0 : List (S26)) (l0_1 : List Int) (l0_2 : List Int) (l0_3 : List Int) (l0_4 : List Int) (a0_5 : Int) (a0_6 : Int) (a0_7 : Int) (a0_8 : Int) (a0_9 : Int) (a0_10 : Int) (a0_11 : Int) (a0_12 : Int) (a0_13 : Int) (a0_14 : Int) (a0_15 : Int) : Option (Bool) := if (l0_1.length : Int) = (l0_0.length : Int) then (if (l0_2.length : Int) = (l0_0.length : Int) then (if (l0_3.length : Int) = (l0_0.length : Int) then (cupolaref10_fine.j0 k (l0_0.length : Int) ((l0_4.length : Int) != (l0_0.length : Int)) l0_0 l0_1 l0_2 l0_3 l0_4 a0_5 a0_6 a0_7 a0_8 a0_9 a0_10 a0_11 a0_12 a0_13 a0_14 a0_15) else (cupolaref10_fine.j0 k (l0_0.length : Int) true l0_0 l0_1 l0_2 l0_3 l0_4 a0_5 a0_6 a0_7 a0_8 a0_9 a0_10 a0_11 a0_12 a0_13 a0_14 a0_15)) else (cupolaref10_fine.j0 k (l0_0.length : Int) true l0_0 l0_1 l0_2 l0_3 l0_4 a0_5 a0_6 a0_7 a0_8 a0_9 a0_10 a0_11 a0_12 a0_13 a0_14 a0_15)) else (cupolaref10_fine.j0 k (l0_0.length : Int) true l0_0 l0_1 l0_2 l0_3 l0_4 a0_5 a0_6 a0_7 a0_8 a0_9 a0_10 a0_11 a0_12 a0_13 a0_14 a0_15)
theorem cupolaref10_fine.calls (k : Nat) (A0_0 : Option Addr) (c0_0 : Nat) (l0_0 : List (S26)) (A0_1 : Option Addr) (c0_1 : Nat) (l0_1 : List Int) (A0_2 : Option Addr) (c0_2 : Nat) (l0_2 : List Int) (A0_3 : Option Addr) (c0_3 : Nat) (l0_3 : List Int) (A0_4 : Option Addr) (c0_4 : Nat) (l0_4 : List Int) (a0_5 : Int) (a0_6 : Int) (a0_7 : Int) (a0_8 : Int) (a0_9 : Int) (a0_10 : Int) (a0_11 : Int) (a0_12 : Int) (a0_13 : Int) (a0_14 : Int) (a0_15 : Int) (r : Bool) (w : World) (hr0_0 : Kd.C k26 w A0_0 l0_0.length l0_0) (hc0_0 : l0_0.length ≤ c0_0) (hr0_1 : Kd.C (Kd.int .u32) w A0_1 l0_1.length l0_1) (hc0_1 : l0_1.length ≤ c0_1) (hr0_2 : Kd.C (Kd.int .u32) w A0_2 l0_2.length l0_2) (hc0_2 : l0_2.length ≤ c0_2) (hr0_3 : Kd.C (Kd.int .u32) w A0_3 l0_3.length l0_3) (hc0_3 : l0_3.length ≤ c0_3) (hr0_4 : Kd.C (Kd.int .i64) w A0_4 l0_4.length l0_4) (hc0_4 : l0_4.length ≤ c0_4) (h : cupolaref10_fine.f k l0_0 l0_1 l0_2 l0_3 l0_4 a0_5 a0_6 a0_7 a0_8 a0_9 a0_10 a0_11 a0_12 a0_13 a0_14 a0_15 = some r) :
  Calls Try.prog 149 #[.agg #[.slice A0_0 l0_0.length c0_0, .slice A0_1 l0_1.length c0_1, .slice A0_2 l0_2.length c0_2, .slice A0_3 l0_3.length c0_3, .slice A0_4 l0_4.length c0_4, .int .i64 a0_5, .int .i64 a0_6, .int .i64 a0_7, .int .i64 a0_8, .int .u32 a0_9, .int .u32 a0_10, .int .u32 a0_11, .int .u32 a0_12, .int .i64 a0_13, .int .i64 a0_14, .int .i64 a0_15]] w fun e w' => e = .returned (.bool r) ∧ Below w.heap.size w w' := by
 have hu117 := Try.underlying117
 have HR0_0 := a9_ hr0_0
 have HC0_0 := a9_ hc0_0
 clear hr0_0 hc0_0
 have HR0_1 := a9_ hr0_1
 have HC0_1 := a9_ hc0_1
 clear hr0_1 hc0_1
 have HR0_2 := a9_ hr0_2
 have HC0_2 := a9_ hc0_2
 clear hr0_2 hc0_2
 have HR0_3 := a9_ hr0_3
 have HC0_3 := a9_ hc0_3
 clear hr0_3 hc0_3
 have HR0_4 := a9_ hr0_4
 have HC0_4 := a9_ hc0_4
 clear hr0_4 hc0_4
 have HB := a9_ (Below.refl w.heap.size w)
 have H : (if (l0_1.length : Int) = (l0_0.length : Int) then (if (l0_2.length : Int) = (l0_0.length : Int) then (if (l0_3.length : Int) = (l0_0.length : Int) then (cupolaref10_fine.j0 k (l0_0.length : Int) ((l0_4.length : Int) != (l0_0.length : Int)) l0_0 l0_1 l0_2 l0_3 l0_4 a0_5 a0_6 a0_7 a0_8 a0_9 a0_10 a0_11 a0_12 a0_13 a0_14 a0_15) else (cupolaref10_fine.j0 k (l0_0.length : Int) true l0_0 l0_1 l0_2 l0_3 l0_4 a0_5 a0_6 a0_7 a0_8 a0_9 a0_10 a0_11 a0_12 a0_13 a0_14 a0_15)) else (cupolaref10_fine.j0 k (l0_0.length : Int) true l0_0 l0_1 l0_2 l0_3 l0_4 a0_5 a0_6 a0_7 a0_8 a0_9 a0_10 a0_11 a0_12 a0_13 a0_14 a0_15)) else (cupolaref10_fine.j0 k (l0_0.length : Int) true l0_0 l0_1 l0_2 l0_3 l0_4 a0_5 a0_6 a0_7 a0_8 a0_9 a0_10 a0_11 a0_12 a0_13 a0_14 a0_15)) = some r := h
 clear h
 have HC2 := a9_ H
 clear H
 go_enter Try.func149, Try.ntmps149
 go_upto_region 2 with (first | ((with_reducible refine gate_dst (N := 1) rfl ?_); (try (refine gate_guard (by rfl) ?_; dsimp only)); refine box9 (N := 1) (cs := #[.slice A0_0 l0_0.length c0_0, .slice A0_1 l0_1.length c0_1, .slice A0_2 l0_2.length c0_2, .slice A0_3 l0_3.length c0_3, .slice A0_4 l0_4.length c0_4, .int .i64 a0_5, .int .i64 a0_6, .int .i64 a0_7, .int .i64 a0_8, .int .u32 a0_9, .int .u32 a0_10, .int .u32 a0_11, .int .u32 a0_12, .int .i64 a0_13, .int .i64 a0_14, .int .i64 a0_15]) (t := 117) ?_; intro gb101 hg w3 hbox hb; have n0_ := a9_ (below_step (bp9 HB.out) hb); have n1_ := a9_ (hbox); have n2_ := a9_ ((by rw [hg]; exact (below_size (bp9 HB.out)) : w.heap.size ≤ gb101)); have n3_ := n2_; clear HB; have HB := n0_; have BK101 := n1_; have GW101 := n2_; have GE101 := n3_; clear n0_ n1_ n2_ n3_; clear hb hbox hg; have hcz4_0 : w3.cell? ⟨gb101, 0, none⟩ = some (.slice A0_0 l0_0.length c0_0) := (blk_cell BK101.out 0).trans rfl; have hcz4_1 : w3.cell? ⟨gb101, 1, none⟩ = some (.slice A0_1 l0_1.length c0_1) := (blk_cell BK101.out 1).trans rfl; have hcz4_2 : w3.cell? ⟨gb101, 2, none⟩ = some (.slice A0_2 l0_2.length c0_2) := (blk_cell BK101.out 2).trans rfl; have hcz4_3 : w3.cell? ⟨gb101, 3, none⟩ = some (.slice A0_3 l0_3.length c0_3) := (blk_cell BK101.out 3).trans rfl; have hcz4_4 : w3.cell? ⟨gb101, 4, none⟩ = some (.slice A0_4 l0_4.length c0_4) := (blk_cell BK101.out 4).trans rfl; have hcz4_5 : w3.cell? ⟨gb101, 5, none⟩ = some (.int .i64 a0_5) := (blk_cell BK101.out 5).trans rfl; have hcz4_6 : w3.cell? ⟨gb101, 6, none⟩ = some (.int .i64 a0_6) := (blk_cell BK101.out 6).trans rfl; have hcz4_7 : w3.cell? ⟨gb101, 7, none⟩ = some (.int .i64 a0_7) := (blk_cell BK101.out 7).trans rfl; have hcz4_8 : w3.cell? ⟨gb101, 8, none⟩ = some (.int .i64 a0_8) := (blk_cell BK101.out 8).trans rfl; have hcz4_9 : w3.cell? ⟨gb101, 9, none⟩ = some (.int .u32 a0_9) := (blk_cell BK101.out 9).trans rfl; have hcz4_10 : w3.cell? ⟨gb101, 10, none⟩ = some (.int .u32 a0_10) := (blk_cell BK101.out 10).trans rfl; have hcz4_11 : w3.cell? ⟨gb101, 11, none⟩ = some (.int .u32 a0_11) := (blk_cell BK101.out 11).trans rfl; have hcz4_12 : w3.cell? ⟨gb101, 12, none⟩ = some (.int .u32 a0_12) := (blk_cell BK101.out 12).trans rfl; have hcz4_13 : w3.cell? ⟨gb101, 13, none⟩ = some (.int .i64 a0_13) := (blk_cell BK101.out 13).trans rfl; have hcz4_14 : w3.cell? ⟨gb101, 14, none⟩ = some (.int .i64 a0_14) := (blk_cell BK101.out 14).trans rfl; have hcz4_15 : w3.cell? ⟨gb101, 15, none⟩ = some (.int .i64 a0_15) := (blk_cell BK101.out 15).trans rfl; have hfz4_0 := blk_frozen BK101.out 0; have hfz4_1 := blk_frozen BK101.out 1; have hfz4_2 := blk_frozen BK101.out 2; have hfz4_3 := blk_frozen BK101.out 3; have hfz4_4 := blk_frozen BK101.out 4; have hfz4_5 := blk_frozen BK101.out 5; have hfz4_6 := blk_frozen BK101.out 6; have hfz4_7 := blk_frozen BK101.out 7; have hfz4_8 := blk_frozen BK101.out 8; have hfz4_9 := blk_frozen BK101.out 9; have hfz4_10 := blk_frozen BK101.out 10; have hfz4_11 := blk_frozen BK101.out 11; have hfz4_12 := blk_frozen BK101.out 12; have hfz4_13 := blk_frozen BK101.out 13; have hfz4_14 := blk_frozen BK101.out 14; have hfz4_15 := blk_frozen BK101.out 15))
 (try simp only [Act.put, List.setIfInBounds_toArray, List.set_cons_zero, List.set_cons_succ])
 go_cut [34] (fun v34 wc => ∃ (kq : Nat) (x34_1 : Bool), v34 = .bool x34_1 ∧ Aside0 (cupolaref10_fine.j0 kq (l0_0.length : Int) x34_1 l0_0 l0_1 l0_2 l0_3 l0_4 a0_5 a0_6 a0_7 a0_8 a0_9 a0_10 a0_11 a0_12 a0_13 a0_14 a0_15 = some r) ∧ Aside0 (kq ≤ k) ∧ Aside0 (wc.heap[gb101]? = some (.cells #[(.slice A0_0 l0_0.length c0_0), (.slice A0_1 l0_1.length c0_1), (.slice A0_2 l0_2.length c0_2), (.slice A0_3 l0_3.length c0_3), (.slice A0_4 l0_4.length c0_4), .int .i64 a0_5, .int .i64 a0_6, .int .i64 a0_7, .int .i64 a0_8, .int .u32 a0_9, .int .u32 a0_10, .int .u32 a0_11, .int .u32 a0_12, .int .i64 a0_13, .int .i64 a0_14, .int .i64 a0_15] 117 (0, 0))) ∧ Aside0 (Below w.heap.size w wc))
 case first =>
  have H := HC2.out
  clear HC2
  by_cases c5 : (l0_1.length : Int) = (l0_0.length : Int)
  ·rw [if_pos c5] at H
   have c5b0 : ((l0_1.length : Int) == (l0_0.length : Int)) = true := beq_iff_eq.mpr c5
   have c5b1 : ((l0_1.length : Int) != (l0_0.length : Int)) = false := bne_eq_false_iff_eq.mpr c5
   have c5b2 : (l0_1.length == l0_0.length) = true := by first | simpa using c5 | (simp at c5 ⊢; omega)
   clear c5
   (first | rw [c5b0] | (simp only [i64_w, i32_w]; rw [c5b0]) | skip)
   by_cases c6 : (l0_2.length : Int) = (l0_0.length : Int)
   ·rw [if_pos c6] at H
    have c6b0 : ((l0_2.length : Int) == (l0_0.length : Int)) = true := beq_iff_eq.mpr c6
    have c6b1 : ((l0_2.length : Int) != (l0_0.length : Int)) = false := bne_eq_false_iff_eq.mpr c6
    have c6b2 : (l0_2.length == l0_0.length) = true := by first | simpa using c6 | (simp at c6 ⊢; omega)
    clear c6
    by_cases c7 : (l0_3.length : Int) = (l0_0.length : Int)
    ·rw [if_pos c7] at H
     have c7b0 : ((l0_3.length : Int) == (l0_0.length : Int)) = true := beq_iff_eq.mpr c7
     have c7b1 : ((l0_3.length : Int) != (l0_0.length : Int)) = false := bne_eq_false_iff_eq.mpr c7
     have c7b2 : (l0_3.length == l0_0.length) = true := by first | simpa using c7 | (simp at c7 ⊢; omega)
     clear c7
     have H' := a9_ H
     clear H
     have hcz8_0 : w3.cell? ⟨gb101, 0, none⟩ = some (.slice A0_0 l0_0.length c0_0) := (blk_cell BK101.out 0).trans rfl
     have hcz8_1 : w3.cell? ⟨gb101, 1, none⟩ = some (.slice A0_1 l0_1.length c0_1) := (blk_cell BK101.out 1).trans rfl
     have hcz8_2 : w3.cell? ⟨gb101, 2, none⟩ = some (.slice A0_2 l0_2.length c0_2) := (blk_cell BK101.out 2).trans rfl
     have hcz8_3 : w3.cell? ⟨gb101, 3, none⟩ = some (.slice A0_3 l0_3.length c0_3) := (blk_cell BK101.out 3).trans rfl
     have hcz8_4 : w3.cell? ⟨gb101, 4, none⟩ = some (.slice A0_4 l0_4.length c0_4) := (blk_cell BK101.out 4).trans rfl
     have hcz8_5 : w3.cell? ⟨gb101, 5, none⟩ = some (.int .i64 a0_5) := (blk_cell BK101.out 5).trans rfl
     have hcz8_6 : w3.cell? ⟨gb101, 6, none⟩ = some (.int .i64 a0_6) := (blk_cell BK101.out 6).trans rfl
     have hcz8_7 : w3.cell? ⟨gb101, 7, none⟩ = some (.int .i64 a0_7) := (blk_cell BK101.out 7).trans rfl
     have hcz8_8 : w3.cell? ⟨gb101, 8, none⟩ = some (.int .i64 a0_8) := (blk_cell BK101.out 8).trans rfl
     have hcz8_9 : w3.cell? ⟨gb101, 9, none⟩ = some (.int .u32 a0_9) := (blk_cell BK101.out 9).trans rfl
     have hcz8_10 : w3.cell? ⟨gb101, 10, none⟩ = some (.int .u32 a0_10) := (blk_cell BK101.out 10).trans rfl
     have hcz8_11 : w3.cell? ⟨gb101, 11, none⟩ = some (.int .u32 a0_11) := (blk_cell BK101.out 11).trans rfl
     have hcz8_12 : w3.cell? ⟨gb101, 12, none⟩ = some (.int .u32 a0_12) := (blk_cell BK101.out 12).trans rfl
     have hcz8_13 : w3.cell? ⟨gb101, 13, none⟩ = some (.int .i64 a0_13) := (blk_cell BK101.out 13).trans rfl
     have hcz8_14 : w3.cell? ⟨gb101, 14, none⟩ = some (.int .i64 a0_14) := (blk_cell BK101.out 14).trans rfl
     have hcz8_15 : w3.cell? ⟨gb101, 15, none⟩ = some (.int .i64 a0_15) := (blk_cell BK101.out 15).trans rfl
     have hfz8_0 := blk_frozen BK101.out 0
     have hfz8_1 := blk_frozen BK101.out 1
     have hfz8_2 := blk_frozen BK101.out 2
     have hfz8_3 := blk_frozen BK101.out 3
     have hfz8_4 := blk_frozen BK101.out 4
     have hfz8_5 := blk_frozen BK101.out 5
     have hfz8_6 := blk_frozen BK101.out 6
     have hfz8_7 := blk_frozen BK101.out 7
     have hfz8_8 := blk_frozen BK101.out 8
     have hfz8_9 := blk_frozen BK101.out 9
     have hfz8_10 := blk_frozen BK101.out 10
     have hfz8_11 := blk_frozen BK101.out 11
     have hfz8_12 := blk_frozen BK101.out 12
     have hfz8_13 := blk_frozen BK101.out 13
     have hfz8_14 := blk_frozen BK101.out 14
     have hfz8_15 := blk_frozen BK101.out 15
     go_wp2
     go_meet
     case rel => exact ⟨_, (((l0_4.length : Int) != (l0_0.length : Int))), rs9, H', ⟨by first | omega | exact Nat.le_refl _⟩, ⟨kp9 BK101.out⟩, ⟨bp9 HB.out⟩⟩
    ·rw [if_neg c7] at H
     have c7b0 : ((l0_3.length : Int) == (l0_0.length : Int)) = false := beq_eq_false_iff_ne.mpr c7
     have c7b1 : ((l0_3.length : Int) != (l0_0.length : Int)) = true := bne_iff_ne.mpr c7
     have c7b2 : (l0_3.length == l0_0.length) = false := by first | simpa using c7 | (simp at c7 ⊢; omega)
     have H' := a9_ H
     clear H
     have hcz9_0 : w3.cell? ⟨gb101, 0, none⟩ = some (.slice A0_0 l0_0.length c0_0) := (blk_cell BK101.out 0).trans rfl
     have hcz9_1 : w3.cell? ⟨gb101, 1, none⟩ = some (.slice A0_1 l0_1.length c0_1) := (blk_cell BK101.out 1).trans rfl
     have hcz9_2 : w3.cell? ⟨gb101, 2, none⟩ = some (.slice A0_2 l0_2.length c0_2) := (blk_cell BK101.out 2).trans rfl
     have hcz9_3 : w3.cell? ⟨gb101, 3, none⟩ = some (.slice A0_3 l0_3.length c0_3) := (blk_cell BK101.out 3).trans rfl
     have hcz9_4 : w3.cell? ⟨gb101, 4, none⟩ = some (.slice A0_4 l0_4.length c0_4) := (blk_cell BK101.out 4).trans rfl
     have hcz9_5 : w3.cell? ⟨gb101, 5, none⟩ = some (.int .i64 a0_5) := (blk_cell BK101.out 5).trans rfl
     have hcz9_6 : w3.cell? ⟨gb101, 6, none⟩ = some (.int .i64 a0_6) := (blk_cell BK101.out 6).trans rfl
     have hcz9_7 : w3.cell? ⟨gb101, 7, none⟩ = some (.int .i64 a0_7) := (blk_cell BK101.out 7).trans rfl
     have hcz9_8 : w3.cell? ⟨gb101, 8, none⟩ = some (.int .i64 a0_8) := (blk_cell BK101.out 8).trans rfl
     have hcz9_9 : w3.cell? ⟨gb101, 9, none⟩ = some (.int .u32 a0_9) := (blk_cell BK101.out 9).trans rfl
     have hcz9_10 : w3.cell? ⟨gb101, 10, none⟩ = some (.int .u32 a0_10) := (blk_cell BK101.out 10).trans rfl
     have hcz9_11 : w3.cell? ⟨gb101, 11, none⟩ = some (.int .u32 a0_11) := (blk_cell BK101.out 11).trans rfl
     have hcz9_12 : w3.cell? ⟨gb101, 12, none⟩ = some (.int .u32 a0_12) := (blk_cell BK101.out 12).trans rfl
     have hcz9_13 : w3.cell? ⟨gb101, 13, none⟩ = some (.int .i64 a0_13) := (blk_cell BK101.out 13).trans rfl
     have hcz9_14 : w3.cell? ⟨gb101, 14, none⟩ = some (.int .i64 a0_14) := (blk_cell BK101.out 14).trans rfl
     have hcz9_15 : w3.cell? ⟨gb101, 15, none⟩ = some (.int .i64 a0_15) := (blk_cell BK101.out 15).trans rfl
     have hfz9_0 := blk_frozen BK101.out 0
     have hfz9_1 := blk_frozen BK101.out 1
     have hfz9_2 := blk_frozen BK101.out 2
     have hfz9_3 := blk_frozen BK101.out 3
     have hfz9_4 := blk_frozen BK101.out 4
     have hfz9_5 := blk_frozen BK101.out 5
     have hfz9_6 := blk_frozen BK101.out 6
     have hfz9_7 := blk_frozen BK101.out 7
     have hfz9_8 := blk_frozen BK101.out 8
     have hfz9_9 := blk_frozen BK101.out 9
     have hfz9_10 := blk_frozen BK101.out 10
     have hfz9_11 := blk_frozen BK101.out 11
     have hfz9_12 := blk_frozen BK101.out 12
     have hfz9_13 := blk_frozen BK101.out 13
     have hfz9_14 := blk_frozen BK101.out 14
     have hfz9_15 := blk_frozen BK101.out 15
     go_wp2
     go_meet
     case rel => exact ⟨_, (true), rs9, H', ⟨by first | omega | exact Nat.le_refl _⟩, ⟨kp9 BK101.out⟩, ⟨bp9 HB.out⟩⟩
   ·rw [if_neg c6] at H
    have c6b0 : ((l0_2.length : Int) == (l0_0.length : Int)) = false := beq_eq_false_iff_ne.mpr c6
    have c6b1 : ((l0_2.length : Int) != (l0_0.length : Int)) = true := bne_iff_ne.mpr c6
    have c6b2 : (l0_2.length == l0_0.length) = false := by first | simpa using c6 | (simp at c6 ⊢; omega)
    have H' := a9_ H
    clear H
    have hcz10_0 : w3.cell? ⟨gb101, 0, none⟩ = some (.slice A0_0 l0_0.length c0_0) := (blk_cell BK101.out 0).trans rfl
    have hcz10_1 : w3.cell? ⟨gb101, 1, none⟩ = some (.slice A0_1 l0_1.length c0_1) := (blk_cell BK101.out 1).trans rfl
    have hcz10_2 : w3.cell? ⟨gb101, 2, none⟩ = some (.slice A0_2 l0_2.length c0_2) := (blk_cell BK101.out 2).trans rfl
    have hcz10_3 : w3.cell? ⟨gb101, 3, none⟩ = some (.slice A0_3 l0_3.length c0_3) := (blk_cell BK101.out 3).trans rfl
    have hcz10_4 : w3.cell? ⟨gb101, 4, none⟩ = some (.slice A0_4 l0_4.length c0_4) := (blk_cell BK101.out 4).trans rfl
    have hcz10_5 : w3.cell? ⟨gb101, 5, none⟩ = some (.int .i64 a0_5) := (blk_cell BK101.out 5).trans rfl
    have hcz10_6 : w3.cell? ⟨gb101, 6, none⟩ = some (.int .i64 a0_6) := (blk_cell BK101.out 6).trans rfl
    have hcz10_7 : w3.cell? ⟨gb101, 7, none⟩ = some (.int .i64 a0_7) := (blk_cell BK101.out 7).trans rfl
    have hcz10_8 : w3.cell? ⟨gb101, 8, none⟩ = some (.int .i64 a0_8) := (blk_cell BK101.out 8).trans rfl
    have hcz10_9 : w3.cell? ⟨gb101, 9, none⟩ = some (.int .u32 a0_9) := (blk_cell BK101.out 9).trans rfl
    have hcz10_10 : w3.cell? ⟨gb101, 10, none⟩ = some (.int .u32 a0_10) := (blk_cell BK101.out 10).trans rfl
    have hcz10_11 : w3.cell? ⟨gb101, 11, none⟩ = some (.int .u32 a0_11) := (blk_cell BK101.out 11).trans rfl
    have hcz10_12 : w3.cell? ⟨gb101, 12, none⟩ = some (.int .u32 a0_12) := (blk_cell BK101.out 12).trans rfl
    have hcz10_13 : w3.cell? ⟨gb101, 13, none⟩ = some (.int .i64 a0_13) := (blk_cell BK101.out 13).trans rfl
    have hcz10_14 : w3.cell? ⟨gb101, 14, none⟩ = some (.int .i64 a0_14) := (blk_cell BK101.out 14).trans rfl
    have hcz10_15 : w3.cell? ⟨gb101, 15, none⟩ = some (.int .i64 a0_15) := (blk_cell BK101.out 15).trans rfl
    have hfz10_0 := blk_frozen BK101.out 0
    have hfz10_1 := blk_frozen BK101.out 1
    have hfz10_2 := blk_frozen BK101.out 2
    have hfz10_3 := blk_frozen BK101.out 3
    have hfz10_4 := blk_frozen BK101.out 4
    have hfz10_5 := blk_frozen BK101.out 5
    have hfz10_6 := blk_frozen BK101.out 6
    have hfz10_7 := blk_frozen BK101.out 7
    have hfz10_8 := blk_frozen BK101.out 8
    have hfz10_9 := blk_frozen BK101.out 9
    have hfz10_10 := blk_frozen BK101.out 10
    have hfz10_11 := blk_frozen BK101.out 11
    have hfz10_12 := blk_frozen BK101.out 12
    have hfz10_13 := blk_frozen BK101.out 13
    have hfz10_14 := blk_frozen BK101.out 14
    have hfz10_15 := blk_frozen BK101.out 15
    go_wp2
    go_meet
    case rel => exact ⟨_, (true), rs9, H', ⟨by first | omega | exact Nat.le_refl _⟩, ⟨kp9 BK101.out⟩, ⟨bp9 HB.out⟩⟩
  ·rw [if_neg c5] at H
   have c5b0 : ((l0_1.length : Int) == (l0_0.length : Int)) = false := beq_eq_false_iff_ne.mpr c5
   have c5b1 : ((l0_1.length : Int) != (l0_0.length : Int)) = true := bne_iff_ne.mpr c5
   have c5b2 : (l0_1.length == l0_0.length) = false := by first | simpa using c5 | (simp at c5 ⊢; omega)
   (first | rw [c5b0] | (simp only [i64_w, i32_w]; rw [c5b0]) | skip)
   have H' := a9_ H
   clear H
   have hcz11_0 : w3.cell? ⟨gb101, 0, none⟩ = some (.slice A0_0 l0_0.length c0_0) := (blk_cell BK101.out 0).trans rfl
   have hcz11_1 : w3.cell? ⟨gb101, 1, none⟩ = some (.slice A0_1 l0_1.length c0_1) := (blk_cell BK101.out 1).trans rfl
   have hcz11_2 : w3.cell? ⟨gb101, 2, none⟩ = some (.slice A0_2 l0_2.length c0_2) := (blk_cell BK101.out 2).trans rfl
   have hcz11_3 : w3.cell? ⟨gb101, 3, none⟩ = some (.slice A0_3 l0_3.length c0_3) := (blk_cell BK101.out 3).trans rfl
   have hcz11_4 : w3.cell? ⟨gb101, 4, none⟩ = some (.slice A0_4 l0_4.length c0_4) := (blk_cell BK101.out 4).trans rfl
   have hcz11_5 : w3.cell? ⟨gb101, 5, none⟩ = some (.int .i64 a0_5) := (blk_cell BK101.out 5).trans rfl
   have hcz11_6 : w3.cell? ⟨gb101, 6, none⟩ = some (.int .i64 a0_6) := (blk_cell BK101.out 6).trans rfl
   have hcz11_7 : w3.cell? ⟨gb101, 7, none⟩ = some (.int .i64 a0_7) := (blk_cell BK101.out 7).trans rfl
   have hcz11_8 : w3.cell? ⟨gb101, 8, none⟩ = some (.int .i64 a0_8) := (blk_cell BK101.out 8).trans rfl
   have hcz11_9 : w3.cell? ⟨gb101, 9, none⟩ = some (.int .u32 a0_9) := (blk_cell BK101.out 9).trans rfl
   have hcz11_10 : w3.cell? ⟨gb101, 10, none⟩ = some (.int .u32 a0_10) := (blk_cell BK101.out 10).trans rfl
   have hcz11_11 : w3.cell? ⟨gb101, 11, none⟩ = some (.int .u32 a0_11) := (blk_cell BK101.out 11).trans rfl
   have hcz11_12 : w3.cell? ⟨gb101, 12, none⟩ = some (.int .u32 a0_12) := (blk_cell BK101.out 12).trans rfl
   have hcz11_13 : w3.cell? ⟨gb101, 13, none⟩ = some (.int .i64 a0_13) := (blk_cell BK101.out 13).trans rfl
   have hcz11_14 : w3.cell? ⟨gb101, 14, none⟩ = some (.int .i64 a0_14) := (blk_cell BK101.out 14).trans rfl
   have hcz11_15 : w3.cell? ⟨gb101, 15, none⟩ = some (.int .i64 a0_15) := (blk_cell BK101.out 15).trans rfl
   have hfz11_0 := blk_frozen BK101.out 0
   have hfz11_1 := blk_frozen BK101.out 1
   have hfz11_2 := blk_frozen BK101.out 2
   have hfz11_3 := blk_frozen BK101.out 3
   have hfz11_4 := blk_frozen BK101.out 4
   have hfz11_5 := blk_frozen BK101.out 5
   have hfz11_6 := blk_frozen BK101.out 6
   have hfz11_7 := blk_frozen BK101.out 7
   have hfz11_8 := blk_frozen BK101.out 8
   have hfz11_9 := blk_frozen BK101.out 9
   have hfz11_10 := blk_frozen BK101.out 10
   have hfz11_11 := blk_frozen BK101.out 11
   have hfz11_12 := blk_frozen BK101.out 12
   have hfz11_13 := blk_frozen BK101.out 13
   have hfz11_14 := blk_frozen BK101.out 14
   have hfz11_15 := blk_frozen BK101.out 15
   go_wp2
   go_meet
   case rel => exact ⟨_, (true), rs9, H', ⟨by first | omega | exact Nat.le_refl _⟩, ⟨kp9 BK101.out⟩, ⟨bp9 HB.out⟩⟩
 case rest =>
  clear HC2
  try clear c1
  try clear p2
  try clear c5
  try clear c5b0
  try clear c5b1
  try clear c5b2
  try clear c6
  try clear c6b0
  try clear c6b1
  try clear c6b2
  try clear c7
  try clear c7b0
  try clear c7b1
  try clear c7b2
  try clear hcz10_0 hcz10_1 hcz10_10 hcz10_11 hcz10_12 hcz10_13 hcz10_14 hcz10_15 hcz10_2 hcz10_3 hcz10_4 hcz10_5 hcz10_6 hcz10_7 hcz10_8 hcz10_9
  try clear hcz11_0 hcz11_1 hcz11_10 hcz11_11 hcz11_12 hcz11_13 hcz11_14 hcz11_15 hcz11_2 hcz11_3 hcz11_4 hcz11_5 hcz11_6 hcz11_7 hcz11_8 hcz11_9
  try clear hcz4_0 hcz4_1 hcz4_10 hcz4_11 hcz4_12 hcz4_13 hcz4_14 hcz4_15 hcz4_2 hcz4_3 hcz4_4 hcz4_5 hcz4_6 hcz4_7 hcz4_8 hcz4_9
  try clear hcz8_0 hcz8_1 hcz8_10 hcz8_11 hcz8_12 hcz8_13 hcz8_14 hcz8_15 hcz8_2 hcz8_3 hcz8_4 hcz8_5 hcz8_6 hcz8_7 hcz8_8 hcz8_9
  try clear hcz9_0 hcz9_1 hcz9_10 hcz9_11 hcz9_12 hcz9_13 hcz9_14 hcz9_15 hcz9_2 hcz9_3 hcz9_4 hcz9_5 hcz9_6 hcz9_7 hcz9_8 hcz9_9
  try clear hfz10_0 hfz10_1 hfz10_10 hfz10_11 hfz10_12 hfz10_13 hfz10_14 hfz10_15 hfz10_2 hfz10_3 hfz10_4 hfz10_5 hfz10_6 hfz10_7 hfz10_8 hfz10_9
  try clear hfz11_0 hfz11_1 hfz11_10 hfz11_11 hfz11_12 hfz11_13 hfz11_14 hfz11_15 hfz11_2 hfz11_3 hfz11_4 hfz11_5 hfz11_6 hfz11_7 hfz11_8 hfz11_9
  try clear hfz4_0 hfz4_1 hfz4_10 hfz4_11 hfz4_12 hfz4_13 hfz4_14 hfz4_15 hfz4_2 hfz4_3 hfz4_4 hfz4_5 hfz4_6 hfz4_7 hfz4_8 hfz4_9
  try clear hfz8_0 hfz8_1 hfz8_10 hfz8_11 hfz8_12 hfz8_13 hfz8_14 hfz8_15 hfz8_2 hfz8_3 hfz8_4 hfz8_5 hfz8_6 hfz8_7 hfz8_8 hfz8_9
  try clear hfz9_0 hfz9_1 hfz9_10 hfz9_11 hfz9_12 hfz9_13 hfz9_14 hfz9_15 hfz9_2 hfz9_3 hfz9_4 hfz9_5 hfz9_6 hfz9_7 hfz9_8 hfz9_9
  obtain ⟨kq, x34_1, rfl, HA, HJ1, BK101, HB⟩ := hcut
  cases kq with
  | zero => exact absurd HA.out (by simp [cupolaref10_fine.j0])
  | succ kj1 =>
   have H := HA.out
   clear HA
   simp only [cupolaref10_fine.j0] at H
   by_cases c12 : x34_1 = true
   ·subst c12
    rw [if_pos rfl] at H
    obtain rfl := Option.some.inj H
    go_wp2
    go_ret
    exact ⟨by first | rfl | (simp [errW_none, errW_some] <;> rfl) | (simp [*, errW_none, errW_some] <;> rfl), bp9 HB.out⟩
   ·replace c12 := Bool.eq_false_iff.mpr c12
    subst c12
    rw [if_neg (show ¬ (false = true) by decide)] at H
    have H' := a9_ H
    clear H
    go_wp2
    go_loopg [4] kj1 (fun kq v4 w' => ∃ (x4_2 : Int), v4 = .int .i64 x4_2 ∧ Aside0 (cupolaref10_fine.l0 kq (l0_0.length : Int) x4_2 l0_0 l0_1 l0_2 l0_3 l0_4 a0_5 a0_6 a0_7 a0_8 a0_9 a0_10 a0_11 a0_12 a0_13 a0_14 a0_15 = some r) ∧ Aside0 (kq ≤ kj1) ∧ Aside0 (w'.heap[gb101]? = some (.cells #[(.slice A0_0 l0_0.length c0_0), (.slice A0_1 l0_1.length c0_1), (.slice A0_2 l0_2.length c0_2), (.slice A0_3 l0_3.length c0_3), (.slice A0_4 l0_4.length c0_4), .int .i64 a0_5, .int .i64 a0_6, .int .i64 a0_7, .int .i64 a0_8, .int .u32 a0_9, .int .u32 a0_10, .int .u32 a0_11, .int .u32 a0_12, .int .i64 a0_13, .int .i64 a0_14, .int .i64 a0_15] 117 (0, 0))) ∧ Aside0 (Below w.heap.size w w'))
    case atStart => exact ⟨(0), rs9, H', ⟨Nat.le_refl _⟩, ⟨kp9 BK101.out⟩, ⟨bp9 HB.out⟩⟩
    case round =>
     clear H'
     try clear c1
     try clear p2
     try clear c5
     try clear c5b0
     try clear c5b1
     try clear c5b2
     try clear c6
     try clear c6b0
     try clear c6b1
     try clear c6b2
     try clear c7
     try clear c7b0
     try clear c7b1
     try clear c7b2
     try clear c12
     try clear hcz10_0 hcz10_1 hcz10_10 hcz10_11 hcz10_12 hcz10_13 hcz10_14 hcz10_15 hcz10_2 hcz10_3 hcz10_4 hcz10_5 hcz10_6 hcz10_7 hcz10_8 hcz10_9
     try clear hcz11_0 hcz11_1 hcz11_10 hcz11_11 hcz11_12 hcz11_13 hcz11_14 hcz11_15 hcz11_2 hcz11_3 hcz11_4 hcz11_5 hcz11_6 hcz11_7 hcz11_8 hcz11_9
     try clear hcz4_0 hcz4_1 hcz4_10 hcz4_11 hcz4_12 hcz4_13 hcz4_14 hcz4_15 hcz4_2 hcz4_3 hcz4_4 hcz4_5 hcz4_6 hcz4_7 hcz4_8 hcz4_9
     try clear hcz8_0 hcz8_1 hcz8_10 hcz8_11 hcz8_12 hcz8_13 hcz8_14 hcz8_15 hcz8_2 hcz8_3 hcz8_4 hcz8_5 hcz8_6 hcz8_7 hcz8_8 hcz8_9
     try clear hcz9_0 hcz9_1 hcz9_10 hcz9_11 hcz9_12 hcz9_13 hcz9_14 hcz9_15 hcz9_2 hcz9_3 hcz9_4 hcz9_5 hcz9_6 hcz9_7 hcz9_8 hcz9_9
     try clear hfz10_0 hfz10_1 hfz10_10 hfz10_11 hfz10_12 hfz10_13 hfz10_14 hfz10_15 hfz10_2 hfz10_3 hfz10_4 hfz10_5 hfz10_6 hfz10_7 hfz10_8 hfz10_9
     try clear hfz11_0 hfz11_1 hfz11_10 hfz11_11 hfz11_12 hfz11_13 hfz11_14 hfz11_15 hfz11_2 hfz11_3 hfz11_4 hfz11_5 hfz11_6 hfz11_7 hfz11_8 hfz11_9
     try clear hfz4_0 hfz4_1 hfz4_10 hfz4_11 hfz4_12 hfz4_13 hfz4_14 hfz4_15 hfz4_2 hfz4_3 hfz4_4 hfz4_5 hfz4_6 hfz4_7 hfz4_8 hfz4_9
     try clear hfz8_0 hfz8_1 hfz8_10 hfz8_11 hfz8_12 hfz8_13 hfz8_14 hfz8_15 hfz8_2 hfz8_3 hfz8_4 hfz8_5 hfz8_6 hfz8_7 hfz8_8 hfz8_9
     try clear hfz9_0 hfz9_1 hfz9_10 hfz9_11 hfz9_12 hfz9_13 hfz9_14 hfz9_15 hfz9_2 hfz9_3 hfz9_4 hfz9_5 hfz9_6 hfz9_7 hfz9_8 hfz9_9
     try clear p2
     obtain ⟨x4_2, rfl, HA, HK2, BK101, HB⟩ := hrel
     cases gk with
     | zero => exact absurd HA.out (by simp [cupolaref10_fine.l0])
     | succ k2 =>
      have H := HA.out
      clear HA
      simp only [cupolaref10_fine.l0] at H
      by_cases c13 : x4_2 < (l0_0.length : Int)
      ·rw [if_pos c13] at H
       have c13b0 : decide (x4_2 < (l0_0.length : Int)) = true := decide_eq_true c13
       clear c13
       have H' := a9_ H
       clear H
       go_wp2
       go_loopg [5] k2 (fun kq v5 w' => ∃ (x5_3 : Int), v5 = .int .i64 x5_3 ∧ Aside0 (cupolaref10_fine.l1 kq (l0_0.length : Int) x4_2 x5_3 l0_0 l0_1 l0_2 l0_3 l0_4 a0_5 a0_6 a0_7 a0_8 a0_9 a0_10 a0_11 a0_12 a0_13 a0_14 a0_15 = some r) ∧ Aside0 (kq ≤ k2) ∧ Aside0 (w'.heap[gb101]? = some (.cells #[(.slice A0_0 l0_0.length c0_0), (.slice A0_1 l0_1.length c0_1), (.slice A0_2 l0_2.length c0_2), (.slice A0_3 l0_3.length c0_3), (.slice A0_4 l0_4.length c0_4), .int .i64 a0_5, .int .i64 a0_6, .int .i64 a0_7, .int .i64 a0_8, .int .u32 a0_9, .int .u32 a0_10, .int .u32 a0_11, .int .u32 a0_12, .int .i64 a0_13, .int .i64 a0_14, .int .i64 a0_15] 117 (0, 0))) ∧ Aside0 (Below w.heap.size w w'))
       case atStart => exact ⟨(x4_2), rs9, H', ⟨Nat.le_refl _⟩, ⟨kp9 BK101.out⟩, ⟨bp9 HB.out⟩⟩
       case round =>
        clear H'
        try clear c1
        try clear p2
        try clear c5
        try clear c5b0
        try clear c5b1
        try clear c5b2
        try clear c6
        try clear c6b0
        try clear c6b1
        try clear c6b2
        try clear c7
        try clear c7b0
        try clear c7b1
        try clear c7b2
        try clear c12
        try clear c13
        try clear c13b0
        try clear hcz10_0 hcz10_1 hcz10_10 hcz10_11 hcz10_12 hcz10_13 hcz10_14 hcz10_15 hcz10_2 hcz10_3 hcz10_4 hcz10_5 hcz10_6 hcz10_7 hcz10_8 hcz10_9
        try clear hcz11_0 hcz11_1 hcz11_10 hcz11_11 hcz11_12 hcz11_13 hcz11_14 hcz11_15 hcz11_2 hcz11_3 hcz11_4 hcz11_5 hcz11_6 hcz11_7 hcz11_8 hcz11_9
        try clear hcz4_0 hcz4_1 hcz4_10 hcz4_11 hcz4_12 hcz4_13 hcz4_14 hcz4_15 hcz4_2 hcz4_3 hcz4_4 hcz4_5 hcz4_6 hcz4_7 hcz4_8 hcz4_9
        try clear hcz8_0 hcz8_1 hcz8_10 hcz8_11 hcz8_12 hcz8_13 hcz8_14 hcz8_15 hcz8_2 hcz8_3 hcz8_4 hcz8_5 hcz8_6 hcz8_7 hcz8_8 hcz8_9
        try clear hcz9_0 hcz9_1 hcz9_10 hcz9_11 hcz9_12 hcz9_13 hcz9_14 hcz9_15 hcz9_2 hcz9_3 hcz9_4 hcz9_5 hcz9_6 hcz9_7 hcz9_8 hcz9_9
        try clear hfz10_0 hfz10_1 hfz10_10 hfz10_11 hfz10_12 hfz10_13 hfz10_14 hfz10_15 hfz10_2 hfz10_3 hfz10_4 hfz10_5 hfz10_6 hfz10_7 hfz10_8 hfz10_9
        try clear hfz11_0 hfz11_1 hfz11_10 hfz11_11 hfz11_12 hfz11_13 hfz11_14 hfz11_15 hfz11_2 hfz11_3 hfz11_4 hfz11_5 hfz11_6 hfz11_7 hfz11_8 hfz11_9
        try clear hfz4_0 hfz4_1 hfz4_10 hfz4_11 hfz4_12 hfz4_13 hfz4_14 hfz4_15 hfz4_2 hfz4_3 hfz4_4 hfz4_5 hfz4_6 hfz4_7 hfz4_8 hfz4_9
        try clear hfz8_0 hfz8_1 hfz8_10 hfz8_11 hfz8_12 hfz8_13 hfz8_14 hfz8_15 hfz8_2 hfz8_3 hfz8_4 hfz8_5 hfz8_6 hfz8_7 hfz8_8 hfz8_9
        try clear hfz9_0 hfz9_1 hfz9_10 hfz9_11 hfz9_12 hfz9_13 hfz9_14 hfz9_15 hfz9_2 hfz9_3 hfz9_4 hfz9_5 hfz9_6 hfz9_7 hfz9_8 hfz9_9
        try clear p2
        obtain ⟨x5_3, rfl, HA, HK3, BK101, HB⟩ := hrel
        cases gk with
        | zero => exact absurd HA.out (by simp [cupolaref10_fine.l1])
        | succ k3 =>
         have H := HA.out
         clear HA
         simp only [cupolaref10_fine.l1] at H
         by_cases c14 : x5_3 < 32
         ·rw [if_pos c14] at H
          have c14b0 : decide (x5_3 < 32) = true := decide_eq_true c14
          clear c14
          by_cases c15 : 0 ≤ x4_2
          ·rw [if_pos c15] at H
           have c15b0 : decide (0 ≤ x4_2) = true := decide_eq_true c15
           clear c15
           by_cases c16 : x4_2 < (l0_1.length : Int)
           ·rw [if_pos c16] at H
            have c16b0 : decide (x4_2 < (l0_1.length : Int)) = true := decide_eq_true c16
            clear c16
            replace H := Option.bind_eq_some_iff.mp H
            obtain ⟨t104, A170, H⟩ := H
            have A17 := a9_ A170
            clear A170
            by_cases c18 : t104 = true
            ·subst c18
             rw [if_pos rfl] at H
             obtain rfl := Option.some.inj H
             have hcz19_0 : wr.cell? ⟨gb101, 0, none⟩ = some (.slice A0_0 l0_0.length c0_0) := (blk_cell BK101.out 0).trans rfl
             have hcz19_1 : wr.cell? ⟨gb101, 1, none⟩ = some (.slice A0_1 l0_1.length c0_1) := (blk_cell BK101.out 1).trans rfl
             have hcz19_2 : wr.cell? ⟨gb101, 2, none⟩ = some (.slice A0_2 l0_2.length c0_2) := (blk_cell BK101.out 2).trans rfl
             have hcz19_3 : wr.cell? ⟨gb101, 3, none⟩ = some (.slice A0_3 l0_3.length c0_3) := (blk_cell BK101.out 3).trans rfl
             have hcz19_4 : wr.cell? ⟨gb101, 4, none⟩ = some (.slice A0_4 l0_4.length c0_4) := (blk_cell BK101.out 4).trans rfl
             have hcz19_5 : wr.cell? ⟨gb101, 5, none⟩ = some (.int .i64 a0_5) := (blk_cell BK101.out 5).trans rfl
             have hcz19_6 : wr.cell? ⟨gb101, 6, none⟩ = some (.int .i64 a0_6) := (blk_cell BK101.out 6).trans rfl
             have hcz19_7 : wr.cell? ⟨gb101, 7, none⟩ = some (.int .i64 a0_7) := (blk_cell BK101.out 7).trans rfl
             have hcz19_8 : wr.cell? ⟨gb101, 8, none⟩ = some (.int .i64 a0_8) := (blk_cell BK101.out 8).trans rfl
             have hcz19_9 : wr.cell? ⟨gb101, 9, none⟩ = some (.int .u32 a0_9) := (blk_cell BK101.out 9).trans rfl
             have hcz19_10 : wr.cell? ⟨gb101, 10, none⟩ = some (.int .u32 a0_10) := (blk_cell BK101.out 10).trans rfl
             have hcz19_11 : wr.cell? ⟨gb101, 11, none⟩ = some (.int .u32 a0_11) := (blk_cell BK101.out 11).trans rfl
             have hcz19_12 : wr.cell? ⟨gb101, 12, none⟩ = some (.int .u32 a0_12) := (blk_cell BK101.out 12).trans rfl
             have hcz19_13 : wr.cell? ⟨gb101, 13, none⟩ = some (.int .i64 a0_13) := (blk_cell BK101.out 13).trans rfl
             have hcz19_14 : wr.cell? ⟨gb101, 14, none⟩ = some (.int .i64 a0_14) := (blk_cell BK101.out 14).trans rfl
             have hcz19_15 : wr.cell? ⟨gb101, 15, none⟩ = some (.int .i64 a0_15) := (blk_cell BK101.out 15).trans rfl
             have hfz19_0 := blk_frozen BK101.out 0
             have hfz19_1 := blk_frozen BK101.out 1
             have hfz19_2 := blk_frozen BK101.out 2
             have hfz19_3 := blk_frozen BK101.out 3
             have hfz19_4 := blk_frozen BK101.out 4
             have hfz19_5 := blk_frozen BK101.out 5
             have hfz19_6 := blk_frozen BK101.out 6
             have hfz19_7 := blk_frozen BK101.out 7
             have hfz19_8 := blk_frozen BK101.out 8
             have hfz19_9 := blk_frozen BK101.out 9
             have hfz19_10 := blk_frozen BK101.out 10
             have hfz19_11 := blk_frozen BK101.out 11
             have hfz19_12 := blk_frozen BK101.out 12
             have hfz19_13 := blk_frozen BK101.out 13
             have hfz19_14 := blk_frozen BK101.out 14
             have hfz19_15 := blk_frozen BK101.out 15
             have p103 : 0 ≤ (x4_2 : Int) := of_decide_eq_true (by first | (with_reducible assumption) | assumption)
             have q103 : x4_2 < (l0_1.length : Int) := of_decide_eq_true (by first | (with_reducible assumption) | assumption)
             obtain ⟨ad103, e103, hx103_0⟩ := Kd.at_int HR0_1.out x4_2 p103 q103
             cases e103
             replace hx103_0 := hb9 HB.out hx103_0
             replace p103 := eq_true p103
             replace q103 := eq_true q103
             go_wp2_with (first | ((with_reducible refine gate_callee (f := 150) rfl ?_); refine goesL9 (some 51) rfl rfl Try.func150 (by kernel_rfl) rfl #[.int .u32 (rd l0_1 x4_2), .int .i64 x5_3] rfl ?_; (with_reducible refine (cupolaref10_bit.calls k3 (rd l0_1 x4_2) x5_3 true _ A17.out).mono ?_); rintro e w' ⟨rfl, ⟨nd, rfl⟩⟩; refine ⟨_, rfl, ?_⟩))
             go_ret
             exact ⟨by first | rfl | (simp [errW_none, errW_some] <;> rfl) | (simp [*, errW_none, errW_some] <;> rfl), bp9 HB.out⟩
            ·replace c18 := Bool.eq_false_iff.mpr c18
             subst c18
             rw [if_neg (show ¬ (false = true) by decide)] at H
             by_cases c20 : x4_2 < (l0_2.length : Int)
             ·rw [if_pos c20] at H
              have c20b0 : decide (x4_2 < (l0_2.length : Int)) = true := decide_eq_true c20
              clear c20
              replace H := Option.bind_eq_some_iff.mp H
              obtain ⟨t106, A210, H⟩ := H
              have A21 := a9_ A210
              clear A210
              by_cases c22 : t106 = true
              ·subst c22
               rw [if_pos rfl] at H
               obtain rfl := Option.some.inj H
               have hcz23_0 : wr.cell? ⟨gb101, 0, none⟩ = some (.slice A0_0 l0_0.length c0_0) := (blk_cell BK101.out 0).trans rfl
               have hcz23_1 : wr.cell? ⟨gb101, 1, none⟩ = some (.slice A0_1 l0_1.length c0_1) := (blk_cell BK101.out 1).trans rfl
               have hcz23_2 : wr.cell? ⟨gb101, 2, none⟩ = some (.slice A0_2 l0_2.length c0_2) := (blk_cell BK101.out 2).trans rfl
               have hcz23_3 : wr.cell? ⟨gb101, 3, none⟩ = some (.slice A0_3 l0_3.length c0_3) := (blk_cell BK101.out 3).trans rfl
               have hcz23_4 : wr.cell? ⟨gb101, 4, none⟩ = some (.slice A0_4 l0_4.length c0_4) := (blk_cell BK101.out 4).trans rfl
               have hcz23_5 : wr.cell? ⟨gb101, 5, none⟩ = some (.int .i64 a0_5) := (blk_cell BK101.out 5).trans rfl
               have hcz23_6 : wr.cell? ⟨gb101, 6, none⟩ = some (.int .i64 a0_6) := (blk_cell BK101.out 6).trans rfl
               have hcz23_7 : wr.cell? ⟨gb101, 7, none⟩ = some (.int .i64 a0_7) := (blk_cell BK101.out 7).trans rfl
               have hcz23_8 : wr.cell? ⟨gb101, 8, none⟩ = some (.int .i64 a0_8) := (blk_cell BK101.out 8).trans rfl
               have hcz23_9 : wr.cell? ⟨gb101, 9, none⟩ = some (.int .u32 a0_9) := (blk_cell BK101.out 9).trans rfl
               have hcz23_10 : wr.cell? ⟨gb101, 10, none⟩ = some (.int .u32 a0_10) := (blk_cell BK101.out 10).trans rfl
               have hcz23_11 : wr.cell? ⟨gb101, 11, none⟩ = some (.int .u32 a0_11) := (blk_cell BK101.out 11).trans rfl
               have hcz23_12 : wr.cell? ⟨gb101, 12, none⟩ = some (.int .u32 a0_12) := (blk_cell BK101.out 12).trans rfl
               have hcz23_13 : wr.cell? ⟨gb101, 13, none⟩ = some (.int .i64 a0_13) := (blk_cell BK101.out 13).trans rfl
               have hcz23_14 : wr.cell? ⟨gb101, 14, none⟩ = some (.int .i64 a0_14) := (blk_cell BK101.out 14).trans rfl
               have hcz23_15 : wr.cell? ⟨gb101, 15, none⟩ = some (.int .i64 a0_15) := (blk_cell BK101.out 15).trans rfl
               have hfz23_0 := blk_frozen BK101.out 0
               have hfz23_1 := blk_frozen BK101.out 1
               have hfz23_2 := blk_frozen BK101.out 2
               have hfz23_3 := blk_frozen BK101.out 3
               have hfz23_4 := blk_frozen BK101.out 4
               have hfz23_5 := blk_frozen BK101.out 5
               have hfz23_6 := blk_frozen BK101.out 6
               have hfz23_7 := blk_frozen BK101.out 7
               have hfz23_8 := blk_frozen BK101.out 8
               have hfz23_9 := blk_frozen BK101.out 9
               have hfz23_10 := blk_frozen BK101.out 10
               have hfz23_11 := blk_frozen BK101.out 11
               have hfz23_12 := blk_frozen BK101.out 12
               have hfz23_13 := blk_frozen BK101.out 13
               have hfz23_14 := blk_frozen BK101.out 14
               have hfz23_15 := blk_frozen BK101.out 15
               have p103 : 0 ≤ (x4_2 : Int) := of_decide_eq_true (by first | (with_reducible assumption) | assumption)
               have q103 : x4_2 < (l0_1.length : Int) := of_decide_eq_true (by first | (with_reducible assumption) | assumption)
               obtain ⟨ad103, e103, hx103_0⟩ := Kd.at_int HR0_1.out x4_2 p103 q103
               cases e103
               replace hx103_0 := hb9 HB.out hx103_0
               replace p103 := eq_true p103
               replace q103 := eq_true q103
               go_wp2_with (first | ((with_reducible refine gate_callee (f := 150) rfl ?_); refine goesL9 (some 51) rfl rfl Try.func150 (by kernel_rfl) rfl #[.int .u32 (rd l0_1 x4_2), .int .i64 x5_3] rfl ?_; (with_reducible refine (cupolaref10_bit.calls k3 (rd l0_1 x4_2) x5_3 false _ A17.out).mono ?_); rintro e w' ⟨rfl, ⟨nd, rfl⟩⟩; refine ⟨_, rfl, ?_⟩; have p105 : 0 ≤ (x4_2 : Int) := of_decide_eq_true (by first | (with_reducible assumption) | assumption); have q105 : x4_2 < (l0_2.length : Int) := of_decide_eq_true (by first | (with_reducible assumption) | assumption); obtain ⟨ad105, e105, hx105_0⟩ := Kd.at_int HR0_2.out x4_2 p105 q105; cases e105; replace hx105_0 := hb9 HB.out hx105_0; replace p105 := eq_true p105; replace q105 := eq_true q105) | (go_at_call 150; (with_reducible refine (cupolaref10_bit.calls k3 (rd l0_2 x4_2) x5_3 true _ A21.out).mono ?_); rintro e w' ⟨rfl, ⟨nd, rfl⟩⟩))
               go_ret
               exact ⟨by first | rfl | (simp [errW_none, errW_some] <;> rfl) | (simp [*, errW_none, errW_some] <;> rfl), bp9 HB.out⟩
              ·replace c22 := Bool.eq_false_iff.mpr c22
               subst c22
               rw [if_neg (show ¬ (false = true) by decide)] at H
               by_cases c24 : x4_2 < (l0_3.length : Int)
               ·rw [if_pos c24] at H
                have c24b0 : decide (x4_2 < (l0_3.length : Int)) = true := decide_eq_true c24
                clear c24
                replace H := Option.bind_eq_some_iff.mp H
                obtain ⟨t108, A250, H⟩ := H
                have A25 := a9_ A250
                clear A250
                by_cases c26 : t108 = true
                ·subst c26
                 rw [if_pos rfl] at H
                 obtain rfl := Option.some.inj H
                 have hcz27_0 : wr.cell? ⟨gb101, 0, none⟩ = some (.slice A0_0 l0_0.length c0_0) := (blk_cell BK101.out 0).trans rfl
                 have hcz27_1 : wr.cell? ⟨gb101, 1, none⟩ = some (.slice A0_1 l0_1.length c0_1) := (blk_cell BK101.out 1).trans rfl
                 have hcz27_2 : wr.cell? ⟨gb101, 2, none⟩ = some (.slice A0_2 l0_2.length c0_2) := (blk_cell BK101.out 2).trans rfl
                 have hcz27_3 : wr.cell? ⟨gb101, 3, none⟩ = some (.slice A0_3 l0_3.length c0_3) := (blk_cell BK101.out 3).trans rfl
                 have hcz27_4 : wr.cell? ⟨gb101, 4, none⟩ = some (.slice A0_4 l0_4.length c0_4) := (blk_cell BK101.out 4).trans rfl
                 have hcz27_5 : wr.cell? ⟨gb101, 5, none⟩ = some (.int .i64 a0_5) := (blk_cell BK101.out 5).trans rfl
                 have hcz27_6 : wr.cell? ⟨gb101, 6, none⟩ = some (.int .i64 a0_6) := (blk_cell BK101.out 6).trans rfl
                 have hcz27_7 : wr.cell? ⟨gb101, 7, none⟩ = some (.int .i64 a0_7) := (blk_cell BK101.out 7).trans rfl
                 have hcz27_8 : wr.cell? ⟨gb101, 8, none⟩ = some (.int .i64 a0_8) := (blk_cell BK101.out 8).trans rfl
                 have hcz27_9 : wr.cell? ⟨gb101, 9, none⟩ = some (.int .u32 a0_9) := (blk_cell BK101.out 9).trans rfl
                 have hcz27_10 : wr.cell? ⟨gb101, 10, none⟩ = some (.int .u32 a0_10) := (blk_cell BK101.out 10).trans rfl
                 have hcz27_11 : wr.cell? ⟨gb101, 11, none⟩ = some (.int .u32 a0_11) := (blk_cell BK101.out 11).trans rfl
                 have hcz27_12 : wr.cell? ⟨gb101, 12, none⟩ = some (.int .u32 a0_12) := (blk_cell BK101.out 12).trans rfl
                 have hcz27_13 : wr.cell? ⟨gb101, 13, none⟩ = some (.int .i64 a0_13) := (blk_cell BK101.out 13).trans rfl
                 have hcz27_14 : wr.cell? ⟨gb101, 14, none⟩ = some (.int .i64 a0_14) := (blk_cell BK101.out 14).trans rfl
                 have hcz27_15 : wr.cell? ⟨gb101, 15, none⟩ = some (.int .i64 a0_15) := (blk_cell BK101.out 15).trans rfl
                 have hfz27_0 := blk_frozen BK101.out 0
                 have hfz27_1 := blk_frozen BK101.out 1
                 have hfz27_2 := blk_frozen BK101.out 2
                 have hfz27_3 := blk_frozen BK101.out 3
                 have hfz27_4 := blk_frozen BK101.out 4
                 have hfz27_5 := blk_frozen BK101.out 5
                 have hfz27_6 := blk_frozen BK101.out 6
                 have hfz27_7 := blk_frozen BK101.out 7
                 have hfz27_8 := blk_frozen BK101.out 8
                 have hfz27_9 := blk_frozen BK101.out 9
                 have hfz27_10 := blk_frozen BK101.out 10
                 have hfz27_11 := blk_frozen BK101.out 11
                 have hfz27_12 := blk_frozen BK101.out 12
                 have hfz27_13 := blk_frozen BK101.out 13
                 have hfz27_14 := blk_frozen BK101.out 14
                 have hfz27_15 := blk_frozen BK101.out 15
                 have p103 : 0 ≤ (x4_2 : Int) := of_decide_eq_true (by first | (with_reducible assumption) | assumption)
                 have q103 : x4_2 < (l0_1.length : Int) := of_decide_eq_true (by first | (with_reducible assumption) | assumption)
                 obtain ⟨ad103, e103, hx103_0⟩ := Kd.at_int HR0_1.out x4_2 p103 q103
                 cases e103
                 replace hx103_0 := hb9 HB.out hx103_0
                 replace p103 := eq_true p103
                 replace q103 := eq_true q103
                 go_wp2_with (first | ((with_reducible refine gate_callee (f := 150) rfl ?_); refine goesL9 (some 51) rfl rfl Try.func150 (by kernel_rfl) rfl #[.int .u32 (rd l0_1 x4_2), .int .i64 x5_3] rfl ?_; (with_reducible refine (cupolaref10_bit.calls k3 (rd l0_1 x4_2) x5_3 false _ A17.out).mono ?_); rintro e w' ⟨rfl, ⟨nd, rfl⟩⟩; refine ⟨_, rfl, ?_⟩; have p105 : 0 ≤ (x4_2 : Int) := of_decide_eq_true (by first | (with_reducible assumption) | assumption); have q105 : x4_2 < (l0_2.length : Int) := of_decide_eq_true (by first | (with_reducible assumption) | assumption); obtain ⟨ad105, e105, hx105_0⟩ := Kd.at_int HR0_2.out x4_2 p105 q105; cases e105; replace hx105_0 := hb9 HB.out hx105_0; replace p105 := eq_true p105; replace q105 := eq_true q105) | (go_at_call 150; (with_reducible refine (cupolaref10_bit.calls k3 (rd l0_2 x4_2) x5_3 false _ A21.out).mono ?_); rintro e w' ⟨rfl, ⟨nd, rfl⟩⟩; have p107 : 0 ≤ (x4_2 : Int) := of_decide_eq_true (by first | (with_reducible assumption) | assumption); have q107 : x4_2 < (l0_3.length : Int) := of_decide_eq_true (by first | (with_reducible assumption) | assumption); obtain ⟨ad107, e107, hx107_0⟩ := Kd.at_int HR0_3.out x4_2 p107 q107; cases e107; replace hx107_0 := hb9 HB.out hx107_0; replace p107 := eq_true p107; replace q107 := eq_true q107) | (go_at_call 150; (with_reducible refine (cupolaref10_bit.calls k3 (rd l0_3 x4_2) x5_3 true _ A25.out).mono ?_); rintro e w' ⟨rfl, ⟨nd, rfl⟩⟩))
                 go_ret
                 exact ⟨by first | rfl | (simp [errW_none, errW_some] <;> rfl) | (simp [*, errW_none, errW_some] <;> rfl), bp9 HB.out⟩
                ·replace c26 := Bool.eq_false_iff.mpr c26
                 subst c26
                 rw [if_neg (show ¬ (false = true) by decide)] at H
                 have H' := a9_ H
                 clear H
                 have hcz28_0 : wr.cell? ⟨gb101, 0, none⟩ = some (.slice A0_0 l0_0.length c0_0) := (blk_cell BK101.out 0).trans rfl
                 have hcz28_1 : wr.cell? ⟨gb101, 1, none⟩ = some (.slice A0_1 l0_1.length c0_1) := (blk_cell BK101.out 1).trans rfl
                 have hcz28_2 : wr.cell? ⟨gb101, 2, none⟩ = some (.slice A0_2 l0_2.length c0_2) := (blk_cell BK101.out 2).trans rfl
                 have hcz28_3 : wr.cell? ⟨gb101, 3, none⟩ = some (.slice A0_3 l0_3.length c0_3) := (blk_cell BK101.out 3).trans rfl
                 have hcz28_4 : wr.cell? ⟨gb101, 4, none⟩ = some (.slice A0_4 l0_4.length c0_4) := (blk_cell BK101.out 4).trans rfl
                 have hcz28_5 : wr.cell? ⟨gb101, 5, none⟩ = some (.int .i64 a0_5) := (blk_cell BK101.out 5).trans rfl
                 have hcz28_6 : wr.cell? ⟨gb101, 6, none⟩ = some (.int .i64 a0_6) := (blk_cell BK101.out 6).trans rfl
                 have hcz28_7 : wr.cell? ⟨gb101, 7, none⟩ = some (.int .i64 a0_7) := (blk_cell BK101.out 7).trans rfl
                 have hcz28_8 : wr.cell? ⟨gb101, 8, none⟩ = some (.int .i64 a0_8) := (blk_cell BK101.out 8).trans rfl
                 have hcz28_9 : wr.cell? ⟨gb101, 9, none⟩ = some (.int .u32 a0_9) := (blk_cell BK101.out 9).trans rfl
                 have hcz28_10 : wr.cell? ⟨gb101, 10, none⟩ = some (.int .u32 a0_10) := (blk_cell BK101.out 10).trans rfl
                 have hcz28_11 : wr.cell? ⟨gb101, 11, none⟩ = some (.int .u32 a0_11) := (blk_cell BK101.out 11).trans rfl
                 have hcz28_12 : wr.cell? ⟨gb101, 12, none⟩ = some (.int .u32 a0_12) := (blk_cell BK101.out 12).trans rfl
                 have hcz28_13 : wr.cell? ⟨gb101, 13, none⟩ = some (.int .i64 a0_13) := (blk_cell BK101.out 13).trans rfl
                 have hcz28_14 : wr.cell? ⟨gb101, 14, none⟩ = some (.int .i64 a0_14) := (blk_cell BK101.out 14).trans rfl
                 have hcz28_15 : wr.cell? ⟨gb101, 15, none⟩ = some (.int .i64 a0_15) := (blk_cell BK101.out 15).trans rfl
                 have hfz28_0 := blk_frozen BK101.out 0
                 have hfz28_1 := blk_frozen BK101.out 1
                 have hfz28_2 := blk_frozen BK101.out 2
                 have hfz28_3 := blk_frozen BK101.out 3
                 have hfz28_4 := blk_frozen BK101.out 4
                 have hfz28_5 := blk_frozen BK101.out 5
                 have hfz28_6 := blk_frozen BK101.out 6
                 have hfz28_7 := blk_frozen BK101.out 7
                 have hfz28_8 := blk_frozen BK101.out 8
                 have hfz28_9 := blk_frozen BK101.out 9
                 have hfz28_10 := blk_frozen BK101.out 10
                 have hfz28_11 := blk_frozen BK101.out 11
                 have hfz28_12 := blk_frozen BK101.out 12
                 have hfz28_13 := blk_frozen BK101.out 13
                 have hfz28_14 := blk_frozen BK101.out 14
                 have hfz28_15 := blk_frozen BK101.out 15
                 have p103 : 0 ≤ (x4_2 : Int) := of_decide_eq_true (by first | (with_reducible assumption) | assumption)
                 have q103 : x4_2 < (l0_1.length : Int) := of_decide_eq_true (by first | (with_reducible assumption) | assumption)
                 obtain ⟨ad103, e103, hx103_0⟩ := Kd.at_int HR0_1.out x4_2 p103 q103
                 cases e103
                 replace hx103_0 := hb9 HB.out hx103_0
                 replace p103 := eq_true p103
                 replace q103 := eq_true q103
                 go_wp2_with (first | ((with_reducible refine gate_callee (f := 150) rfl ?_); refine goesL9 (some 51) rfl rfl Try.func150 (by kernel_rfl) rfl #[.int .u32 (rd l0_1 x4_2), .int .i64 x5_3] rfl ?_; (with_reducible refine (cupolaref10_bit.calls k3 (rd l0_1 x4_2) x5_3 false _ A17.out).mono ?_); rintro e w' ⟨rfl, ⟨nd, rfl⟩⟩; refine ⟨_, rfl, ?_⟩; have p105 : 0 ≤ (x4_2 : Int) := of_decide_eq_true (by first | (with_reducible assumption) | assumption); have q105 : x4_2 < (l0_2.length : Int) := of_decide_eq_true (by first | (with_reducible assumption) | assumption); obtain ⟨ad105, e105, hx105_0⟩ := Kd.at_int HR0_2.out x4_2 p105 q105; cases e105; replace hx105_0 := hb9 HB.out hx105_0; replace p105 := eq_true p105; replace q105 := eq_true q105) | (go_at_call 150; (with_reducible refine (cupolaref10_bit.calls k3 (rd l0_2 x4_2) x5_3 false _ A21.out).mono ?_); rintro e w' ⟨rfl, ⟨nd, rfl⟩⟩; have p107 : 0 ≤ (x4_2 : Int) := of_decide_eq_true (by first | (with_reducible assumption) | assumption); have q107 : x4_2 < (l0_3.length : Int) := of_decide_eq_true (by first | (with_reducible assumption) | assumption); obtain ⟨ad107, e107, hx107_0⟩ := Kd.at_int HR0_3.out x4_2 p107 q107; cases e107; replace hx107_0 := hb9 HB.out hx107_0; replace p107 := eq_true p107; replace q107 := eq_true q107) | (go_at_call 150; (with_reducible refine (cupolaref10_bit.calls k3 (rd l0_3 x4_2) x5_3 false _ A25.out).mono ?_); rintro e w' ⟨rfl, ⟨nd, rfl⟩⟩))
                 go_roundg k3
                 case measure => have := HJ1.out; have := HK2.out; have := HK3.out; omega
                 case rel => exact ⟨(wrap64 (x5_3 + 1)), rs9, H', ⟨by have := HJ1.out; have := HK2.out; have := HK3.out; omega⟩, ⟨kp9 BK101.out⟩, ⟨bp9 HB.out⟩⟩
               ·rw [if_neg c24] at H
                exact absurd H (by simp)
             ·rw [if_neg c20] at H
              exact absurd H (by simp)
           ·rw [if_neg c16] at H
            exact absurd H (by simp)
          ·rw [if_neg c15] at H
           exact absurd H (by simp)
         ·rw [if_neg c14] at H
          have c14b0 : decide (x5_3 < 32) = false := decide_eq_false c14
          clear c14
          by_cases c29 : 0 ≤ x4_2
          ·rw [if_pos c29] at H
           have c29b0 : decide (0 ≤ x4_2) = true := decide_eq_true c29
           clear c29
           by_cases c30 : x4_2 < (l0_4.length : Int)
           ·rw [if_pos c30] at H
            have c30b0 : decide (x4_2 < (l0_4.length : Int)) = true := decide_eq_true c30
            clear c30
            by_cases c31 : (rd l0_4 x4_2) ≥ x4_2
            ·rw [if_pos c31] at H
             have c31b0 : decide (x4_2 ≤ (rd l0_4 x4_2)) = true := decide_eq_true c31
             clear c31
             obtain rfl := Option.some.inj H
             have hcz32_0 : wr.cell? ⟨gb101, 0, none⟩ = some (.slice A0_0 l0_0.length c0_0) := (blk_cell BK101.out 0).trans rfl
             have hcz32_1 : wr.cell? ⟨gb101, 1, none⟩ = some (.slice A0_1 l0_1.length c0_1) := (blk_cell BK101.out 1).trans rfl
             have hcz32_2 : wr.cell? ⟨gb101, 2, none⟩ = some (.slice A0_2 l0_2.length c0_2) := (blk_cell BK101.out 2).trans rfl
             have hcz32_3 : wr.cell? ⟨gb101, 3, none⟩ = some (.slice A0_3 l0_3.length c0_3) := (blk_cell BK101.out 3).trans rfl
             have hcz32_4 : wr.cell? ⟨gb101, 4, none⟩ = some (.slice A0_4 l0_4.length c0_4) := (blk_cell BK101.out 4).trans rfl
             have hcz32_5 : wr.cell? ⟨gb101, 5, none⟩ = some (.int .i64 a0_5) := (blk_cell BK101.out 5).trans rfl
             have hcz32_6 : wr.cell? ⟨gb101, 6, none⟩ = some (.int .i64 a0_6) := (blk_cell BK101.out 6).trans rfl
             have hcz32_7 : wr.cell? ⟨gb101, 7, none⟩ = some (.int .i64 a0_7) := (blk_cell BK101.out 7).trans rfl
             have hcz32_8 : wr.cell? ⟨gb101, 8, none⟩ = some (.int .i64 a0_8) := (blk_cell BK101.out 8).trans rfl
             have hcz32_9 : wr.cell? ⟨gb101, 9, none⟩ = some (.int .u32 a0_9) := (blk_cell BK101.out 9).trans rfl
             have hcz32_10 : wr.cell? ⟨gb101, 10, none⟩ = some (.int .u32 a0_10) := (blk_cell BK101.out 10).trans rfl
             have hcz32_11 : wr.cell? ⟨gb101, 11, none⟩ = some (.int .u32 a0_11) := (blk_cell BK101.out 11).trans rfl
             have hcz32_12 : wr.cell? ⟨gb101, 12, none⟩ = some (.int .u32 a0_12) := (blk_cell BK101.out 12).trans rfl
             have hcz32_13 : wr.cell? ⟨gb101, 13, none⟩ = some (.int .i64 a0_13) := (blk_cell BK101.out 13).trans rfl
             have hcz32_14 : wr.cell? ⟨gb101, 14, none⟩ = some (.int .i64 a0_14) := (blk_cell BK101.out 14).trans rfl
             have hcz32_15 : wr.cell? ⟨gb101, 15, none⟩ = some (.int .i64 a0_15) := (blk_cell BK101.out 15).trans rfl
             have hfz32_0 := blk_frozen BK101.out 0
             have hfz32_1 := blk_frozen BK101.out 1
             have hfz32_2 := blk_frozen BK101.out 2
             have hfz32_3 := blk_frozen BK101.out 3
             have hfz32_4 := blk_frozen BK101.out 4
             have hfz32_5 := blk_frozen BK101.out 5
             have hfz32_6 := blk_frozen BK101.out 6
             have hfz32_7 := blk_frozen BK101.out 7
             have hfz32_8 := blk_frozen BK101.out 8
             have hfz32_9 := blk_frozen BK101.out 9
             have hfz32_10 := blk_frozen BK101.out 10
             have hfz32_11 := blk_frozen BK101.out 11
             have hfz32_12 := blk_frozen BK101.out 12
             have hfz32_13 := blk_frozen BK101.out 13
             have hfz32_14 := blk_frozen BK101.out 14
             have hfz32_15 := blk_frozen BK101.out 15
             have p102 : 0 ≤ (x4_2 : Int) := of_decide_eq_true (by first | (with_reducible assumption) | assumption)
             have q102 : x4_2 < (l0_4.length : Int) := of_decide_eq_true (by first | (with_reducible assumption) | assumption)
             obtain ⟨ad102, e102, hx102_0⟩ := Kd.at_int HR0_4.out x4_2 p102 q102
             cases e102
             replace hx102_0 := hb9 HB.out hx102_0
             replace p102 := eq_true p102
             replace q102 := eq_true q102
             go_wp2
             go_ret
             exact ⟨by first | rfl | (simp [errW_none, errW_some] <;> rfl) | (simp [*, errW_none, errW_some] <;> rfl), bp9 HB.out⟩
            ·rw [if_neg c31] at H
             have c31b0 : decide (x4_2 ≤ (rd l0_4 x4_2)) = false := decide_eq_false c31
             clear c31
             have H' := a9_ H
             clear H
             have hcz33_0 : wr.cell? ⟨gb101, 0, none⟩ = some (.slice A0_0 l0_0.length c0_0) := (blk_cell BK101.out 0).trans rfl
             have hcz33_1 : wr.cell? ⟨gb101, 1, none⟩ = some (.slice A0_1 l0_1.length c0_1) := (blk_cell BK101.out 1).trans rfl
             have hcz33_2 : wr.cell? ⟨gb101, 2, none⟩ = some (.slice A0_2 l0_2.length c0_2) := (blk_cell BK101.out 2).trans rfl
             have hcz33_3 : wr.cell? ⟨gb101, 3, none⟩ = some (.slice A0_3 l0_3.length c0_3) := (blk_cell BK101.out 3).trans rfl
             have hcz33_4 : wr.cell? ⟨gb101, 4, none⟩ = some (.slice A0_4 l0_4.length c0_4) := (blk_cell BK101.out 4).trans rfl
             have hcz33_5 : wr.cell? ⟨gb101, 5, none⟩ = some (.int .i64 a0_5) := (blk_cell BK101.out 5).trans rfl
             have hcz33_6 : wr.cell? ⟨gb101, 6, none⟩ = some (.int .i64 a0_6) := (blk_cell BK101.out 6).trans rfl
             have hcz33_7 : wr.cell? ⟨gb101, 7, none⟩ = some (.int .i64 a0_7) := (blk_cell BK101.out 7).trans rfl
             have hcz33_8 : wr.cell? ⟨gb101, 8, none⟩ = some (.int .i64 a0_8) := (blk_cell BK101.out 8).trans rfl
             have hcz33_9 : wr.cell? ⟨gb101, 9, none⟩ = some (.int .u32 a0_9) := (blk_cell BK101.out 9).trans rfl
             have hcz33_10 : wr.cell? ⟨gb101, 10, none⟩ = some (.int .u32 a0_10) := (blk_cell BK101.out 10).trans rfl
             have hcz33_11 : wr.cell? ⟨gb101, 11, none⟩ = some (.int .u32 a0_11) := (blk_cell BK101.out 11).trans rfl
             have hcz33_12 : wr.cell? ⟨gb101, 12, none⟩ = some (.int .u32 a0_12) := (blk_cell BK101.out 12).trans rfl
             have hcz33_13 : wr.cell? ⟨gb101, 13, none⟩ = some (.int .i64 a0_13) := (blk_cell BK101.out 13).trans rfl
             have hcz33_14 : wr.cell? ⟨gb101, 14, none⟩ = some (.int .i64 a0_14) := (blk_cell BK101.out 14).trans rfl
             have hcz33_15 : wr.cell? ⟨gb101, 15, none⟩ = some (.int .i64 a0_15) := (blk_cell BK101.out 15).trans rfl
             have hfz33_0 := blk_frozen BK101.out 0
             have hfz33_1 := blk_frozen BK101.out 1
             have hfz33_2 := blk_frozen BK101.out 2
             have hfz33_3 := blk_frozen BK101.out 3
             have hfz33_4 := blk_frozen BK101.out 4
             have hfz33_5 := blk_frozen BK101.out 5
             have hfz33_6 := blk_frozen BK101.out 6
             have hfz33_7 := blk_frozen BK101.out 7
             have hfz33_8 := blk_frozen BK101.out 8
             have hfz33_9 := blk_frozen BK101.out 9
             have hfz33_10 := blk_frozen BK101.out 10
             have hfz33_11 := blk_frozen BK101.out 11
             have hfz33_12 := blk_frozen BK101.out 12
             have hfz33_13 := blk_frozen BK101.out 13
             have hfz33_14 := blk_frozen BK101.out 14
             have hfz33_15 := blk_frozen BK101.out 15
             have p102 : 0 ≤ (x4_2 : Int) := of_decide_eq_true (by first | (with_reducible assumption) | assumption)
             have q102 : x4_2 < (l0_4.length : Int) := of_decide_eq_true (by first | (with_reducible assumption) | assumption)
             obtain ⟨ad102, e102, hx102_0⟩ := Kd.at_int HR0_4.out x4_2 p102 q102
             cases e102
             replace hx102_0 := hb9 HB.out hx102_0
             replace p102 := eq_true p102
             replace q102 := eq_true q102
             go_wp2
             go_roundg k3
             case measure => have := HJ1.out; have := HK2.out; have := HK3.out; omega
             case rel => exact ⟨(wrap64 (x4_2 + 1)), rs9, H', ⟨by have := HJ1.out; have := HK2.out; have := HK3.out; omega⟩, ⟨kp9 BK101.out⟩, ⟨bp9 HB.out⟩⟩
           ·rw [if_neg c30] at H
            exact absurd H (by simp)
          ·rw [if_neg c29] at H
           exact absurd H (by simp)
      ·rw [if_neg c13] at H
       have c13b0 : decide (x4_2 < (l0_0.length : Int)) = false := decide_eq_false c13
       clear c13
       obtain rfl := Option.some.inj H
       go_wp2
       go_ret
       exact ⟨by first | rfl | (simp [errW_none, errW_some] <;> rfl) | (simp [*, errW_none, errW_some] <;> rfl), bp9 HB.out⟩
end Go.Proofs.Ytbamkkdikeedoaa.G
