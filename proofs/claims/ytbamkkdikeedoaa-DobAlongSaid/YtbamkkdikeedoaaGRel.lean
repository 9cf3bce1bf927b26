-- Written by drive.py, a program of this seat's session, out of the translation.
import Derived.Test.YtbamkkdikeedoaaG0
import Derived.Test.YtbamkkdikeedoaaGSlices
import Derived.Test.YtbamkkdikeedoaaHandCz
namespace Go.Proofs.Ytbamkkdikeedoaa.G
open Go.RowKit Go.Proofs.YtbamkkdikeedoaaW.PrintWords Go.Proofs.YtbamkkdikeedoaaW.PrintLast Go.Proofs.YtbamkkdikeedoaaW.PrintMore
set_option maxHeartbeats 8000000
set_option maxRecDepth 100000
set_option linter.unusedVariables false
set_option linter.unusedSimpArgs false
def rel_New.f (a0 : Int) : Option (List Int) := if a0 < 0 then (some (([] : List Int))) else (if a0 > 32 then (some (([] : List Int))) else (if 0 ≤ a0 then (if (a0 : Int).toNat ≤ 70368744177664 then (some (List.replicate (a0 : Int).toNat 0)) else (none)) else (none)))
theorem rel_New.calls (a0 : Int) (r : List Int) (w : World) (h : rel_New.f a0 = some r) :
  Calls Try.prog 37 #[.int .i64 a0] w fun e w' => ∃ v0_ : Value, e = .returned (v0_) ∧ Kd.R (Kd.int .u32) 52 w' w.heap.size (fun _ => True) v0_ r ∧ Below w.heap.size w w' := by
 have HB := a9_ (Below.refl w.heap.size w)
 have H : (if a0 < 0 then (some (([] : List Int))) else (if a0 > 32 then (some (([] : List Int))) else (if 0 ≤ a0 then (if (a0 : Int).toNat ≤ 70368744177664 then (some (List.replicate (a0 : Int).toNat 0)) else (none)) else (none)))) = some r := h
 clear h
 by_cases c2 : a0 < 0
 ·rw [if_pos c2] at H
  have c2b0 : decide (a0 < 0) = true := decide_eq_true c2
  clear c2
  obtain ⟨y101, hy101⟩ : ∃ y_ : List Int, y_ = (([] : List Int)) := ⟨_, rfl⟩
  replace H : (some y101) = some r := by first | (rw [hy101]; with_reducible exact H) | (have H2_ := (Option.bind_some _ _).symm.trans H; rw [hy101]; with_reducible exact H2_) | (have H2_ := (Option.bind_some _ _).symm.trans H; with_reducible exact H2_) | with_reducible exact H | (rw [hy101]; exact H) | exact H
  have Ny101 := a9_ hy101
  clear hy101
  obtain rfl := Option.some.inj H
  go_enter Try.func37, Try.ntmps37
  go_wp2_with (first | ((with_reducible refine gate_dst (N := 9) rfl ?_); refine Kd.R_lit (Kd.int .u32) _ 52 ?hg (N := 9) ?hd (xs := ([] : List Int)) (inner := []) (ok := fun _ => True) (okp := fun _ => True) ?hr ?hp (fun _ hk => hk) trivial (Below.refl _ _) (Nat.le_refl _) (by simp) ?_; (case hd => rfl); (case hg => rfl); (case hr => first | (go_simp; done) | (go_simp; rfl)); (case hp => exact (Reps.none _ _)); intro v102 w3 ho4 hb hg_ hnew_; clear hg_ hnew_; (first | rw [← Ny101.out] at ho4 | (simp only [Int.reduceToNat] at ho4; rw [← Ny101.out] at ho4)); have n0_ := a9_ (Kd.R_lower ho4 (below_size (bp9 HB.out))); have n1_ := a9_ (below_step (bp9 HB.out) hb); clear HB; have HO103 := n0_; have HB := n1_; clear n0_ n1_; clear hb ho4))
  go_ret
  exact ⟨_, rt9, by (with_reducible repeat (first | apply Kd.R_alloc | apply Kd.R_drewN | apply Kd.R_drew)); exact HO103.out, bp9 HB.out⟩
 ·rw [if_neg c2] at H
  have c2b0 : decide (a0 < 0) = false := decide_eq_false c2
  clear c2
  by_cases c5 : a0 > 32
  ·rw [if_pos c5] at H
   have c5b0 : decide (32 < a0) = true := decide_eq_true c5
   clear c5
   obtain ⟨y104, hy104⟩ : ∃ y_ : List Int, y_ = (([] : List Int)) := ⟨_, rfl⟩
   replace H : (some y104) = some r := by first | (rw [hy104]; with_reducible exact H) | (have H2_ := (Option.bind_some _ _).symm.trans H; rw [hy104]; with_reducible exact H2_) | (have H2_ := (Option.bind_some _ _).symm.trans H; with_reducible exact H2_) | with_reducible exact H | (rw [hy104]; exact H) | exact H
   have Ny104 := a9_ hy104
   clear hy104
   obtain rfl := Option.some.inj H
   go_enter Try.func37, Try.ntmps37
   go_wp2_with (first | ((with_reducible refine gate_dst (N := 9) rfl ?_); refine Kd.R_lit (Kd.int .u32) _ 52 ?hg (N := 9) ?hd (xs := ([] : List Int)) (inner := []) (ok := fun _ => True) (okp := fun _ => True) ?hr ?hp (fun _ hk => hk) trivial (Below.refl _ _) (Nat.le_refl _) (by simp) ?_; (case hd => rfl); (case hg => rfl); (case hr => first | (go_simp; done) | (go_simp; rfl)); (case hp => exact (Reps.none _ _)); intro v105 w6 ho7 hb hg_ hnew_; clear hg_ hnew_; (first | rw [← Ny104.out] at ho7 | (simp only [Int.reduceToNat] at ho7; rw [← Ny104.out] at ho7)); have n0_ := a9_ (Kd.R_lower ho7 (below_size (bp9 HB.out))); have n1_ := a9_ (below_step (bp9 HB.out) hb); clear HB; have HO106 := n0_; have HB := n1_; clear n0_ n1_; clear hb ho7))
   go_ret
   exact ⟨_, rt9, by (with_reducible repeat (first | apply Kd.R_alloc | apply Kd.R_drewN | apply Kd.R_drew)); exact HO106.out, bp9 HB.out⟩
  ·rw [if_neg c5] at H
   have c5b0 : decide (32 < a0) = false := decide_eq_false c5
   clear c5
   by_cases c8 : 0 ≤ a0
   ·rw [if_pos c8] at H
    have c8b0 := eq_true c8
    have c8b1 : decide (0 ≤ a0) = true := decide_eq_true c8
    clear c8
    by_cases c9 : (a0 : Int).toNat ≤ 70368744177664
    ·rw [if_pos c9] at H
     have c9b0 := eq_true c9
     have c9b1 : decide ((a0 : Int).toNat ≤ 70368744177664) = true := decide_eq_true c9
     clear c9
     obtain ⟨y107, hy107⟩ : ∃ y_ : List Int, y_ = (List.replicate (a0 : Int).toNat 0) := ⟨_, rfl⟩
     replace H : (some y107) = some r := by first | (rw [hy107]; with_reducible exact H) | (have H2_ := (Option.bind_some _ _).symm.trans H; rw [hy107]; with_reducible exact H2_) | (have H2_ := (Option.bind_some _ _).symm.trans H; with_reducible exact H2_) | with_reducible exact H | (rw [hy107]; exact H) | exact H
     have Ny107 := a9_ hy107
     clear hy107
     obtain rfl := Option.some.inj H
     go_enter Try.func37, Try.ntmps37
     go_wp2_with (first | ((with_reducible refine gate_dst (N := 11) rfl ?_); refine Kd.R_make (Kd.int .u32) _ 52 rfl (N := 11) rfl 28 _ _ rfl a0 rfl rfl Try.underlying28 (.int .u32 0) 4 info52 rfl (by decide) (by omega) 0 (ok := fun _ => True) (okp := fun _ => True) rfl (fun _ hk => hk) trivial (of_decide_eq_true (by first | (with_reducible assumption) | assumption)) (Nat.le_trans (Nat.mul_le_mul_right _ (of_decide_eq_true (by first | (with_reducible assumption) | assumption) : a0.toNat ≤ 70368744177664)) (by omega)) (Below.refl _ _) (Nat.le_refl _) ?_; intro v108 w10 ho11 hb hg_ hnew_; clear hg_ hnew_; (first | rw [← Ny107.out] at ho11 | (simp only [Int.reduceToNat] at ho11; rw [← Ny107.out] at ho11)); have n0_ := a9_ (Kd.R_lower ho11 (below_size (bp9 HB.out))); have n1_ := a9_ (below_step (bp9 HB.out) hb); clear HB; have HO109 := n0_; have HB := n1_; clear n0_ n1_; clear hb ho11))
     go_ret
     exact ⟨_, rt9, by (with_reducible repeat (first | apply Kd.R_alloc | apply Kd.R_drewN | apply Kd.R_drew)); exact HO109.out, bp9 HB.out⟩
    ·rw [if_neg c9] at H
     exact absurd H (by simp)
   ·rw [if_neg c8] at H
    exact absurd H (by simp)
def rel_all.f (a0 : Int) : Option (Int) := if 0 ≤ (IntKind.u64.wrap (a0)) then (some ((IntKind.u64.wrap ((shl .u64 1 (IntKind.u64.wrap (a0))) - 1)) % 4294967296)) else (none)
theorem rel_all.calls (a0 : Int) (r : Int) (w : World) (h : rel_all.f a0 = some r) :
  Calls Try.prog 120 #[.int .i64 a0] w fun e w' => e = .returned (.int .u32 r) ∧ Drawn0 w w' := by
 have H : (if 0 ≤ (IntKind.u64.wrap (a0)) then (some ((IntKind.u64.wrap ((shl .u64 1 (IntKind.u64.wrap (a0))) - 1)) % 4294967296)) else (none)) = some r := h
 clear h
 obtain ⟨ji2, hji2⟩ : ∃ j_ : Int, (IntKind.u64.wrap (a0)) = j_ := ⟨_, rfl⟩
 replace H : (if 0 ≤ (ji2) then (some ((IntKind.u64.wrap ((shl .u64 1 (ji2)) - 1)) % 4294967296)) else (none)) = some r := by first | (rw [hji2] at H; exact H) | (simp only [hji2] at H ⊢; exact H)
 by_cases c3 : 0 ≤ (ji2)
 ·rw [if_pos c3] at H
  have c3b0 := eq_true c3
  have c3b1 : decide (0 ≤ (ji2)) = true := decide_eq_true c3
  clear c3
  obtain ⟨ji4, hji4⟩ : ∃ j_ : Int, (shl .u64 1 (ji2)) = j_ := ⟨_, rfl⟩
  replace H : (some ((IntKind.u64.wrap ((ji4) - 1)) % 4294967296)) = some r := by first | (rw [hji4] at H; exact H) | (simp only [hji4] at H ⊢; exact H)
  have hji4_ : (IntKind.u64.wrap (1 * 2 ^ min (ji2).toNat 64)) = ji4 := hji4
  have hji4z : (ji2) ≤ 64 → (IntKind.u64.wrap (1 * 2 ^ (ji2).toNat)) = ji4 := shl_small hji4
  have hji4u : (IntKind.u64.wrap (2 ^ min (ji2).toNat 64)) = ji4 := by have h_ := hji4_; rw [Int.one_mul] at h_; exact h_
  have hji4v : (ji2) ≤ 64 → (IntKind.u64.wrap (2 ^ (ji2).toNat)) = ji4 := fun hle_ => by have h_ := hji4z hle_; rw [Int.one_mul] at h_; exact h_
  obtain rfl := Option.some.inj H
  go_enter Try.func120, Try.ntmps120
  go_wp2
  go_ret
  exact ⟨by first | rfl | (simp; done) | (simp only [← hji2, ← hji4] <;> (first | rfl | simp)) | (simp [*]; done), by repeat (first | exact Drawn0.refl _ | apply Drawn0.step)⟩
 ·rw [if_neg c3] at H
  exact absurd H (by simp)
def rel_clean.l0 : Nat → List Int → List Int → Int → Int → Option (List Int)
 | 0, _, _, _, _ => none
 | k + 1, x0, x3, x13, x14 => if x14 < x13 then (if 0 ≤ x14 then (if x14 < (x0.length : Int) then ((rel_all.f (x0.length : Int)).bind fun t108 => (if x14 < (x3.length : Int) then (rel_clean.l0 k x0 (x3.set (x14 : Int).toNat (Go.bits .and .u32 (rd x0 x14) t108)) x13 (wrap64 (x14 + 1))) else (none))) else (none)) else (none)) else (some x3)
def rel_clean.f (k : Nat) (l0 : List Int) : Option (List Int) := if (l0.length : Int) > 32 then (some (([] : List Int))) else (if 0 ≤ (l0.length : Int) then (if ((l0.length : Int) : Int).toNat ≤ 70368744177664 then (rel_clean.l0 k l0 (List.replicate ((l0.length : Int) : Int).toNat 0) (l0.length : Int) 0) else (none)) else (none))
theorem rel_clean.mono_l : ∀ k, (∀ y0 y1 y2 y3, LeO (rel_clean.l0 k y0 y1 y2 y3) (rel_clean.l0 (k + 1) y0 y1 y2 y3))
 | 0 => fun _ _ _ _ r h => by simp [rel_clean.l0] at h
 | k + 1 => by
  have ih0 := rel_clean.mono_l k
  ·intro y0 y1 y2 y3
   unfold rel_clean.l0
   repeat' (with_reducible first | exact ih0 _ _ _ _ | exact LeO.refl _ | exact LeO.none _ | refine LeO.ite ?_ ?_ | refine LeO.bind ?_ (fun _ => ?_))
theorem rel_clean.mono : ∀ a0 k, LeO (rel_clean.f k a0) (rel_clean.f (k + 1) a0) := by
 intro a0 k
 have ih0 := rel_clean.mono_l k
 unfold rel_clean.f
 repeat' (with_reducible first | exact ih0 _ _ _ _ | exact LeO.refl _ | exact LeO.none _ | refine LeO.ite ?_ ?_ | refine LeO.bind ?_ (fun _ => ?_))
def rel_clean.T7 : Bool × List (List Nat × List Nat) := (true, [([], []), ([], []), ([], []), ([], []), ([2, 3], [2, 3]), ([4], [4]), ([], []), ([6], [6]), ([7], [7]), ([5, 8], [5, 8]), ([0, 1, 0, 1, 2, 3, 4, 5, 6, 7, 8, 9], [0, 1]), ([10, 9, 8, 0, 1, 2, 3, 4, 5, 6, 7, 8, 9], [9, 10])])
def rel_clean.B7 : List Nat := [0, 0, 0, 0, 12, 28, 0, 64, 192, 508, 1023, 2047]
theorem rel_clean.tab7 : rtab .any (opsOf Try.f112 7) = rel_clean.T7 := by kernel_rfl
theorem rel_clean.bits7 : waitsOk rel_clean.T7.2 rel_clean.B7 = true := by kernel_rfl
theorem rel_clean.calls (k : Nat) (A0 : Option Addr) (c0 : Nat) (l0 : List Int) (r : List Int) (w : World) (hr0 : Kd.C (Kd.int .u32) w A0 l0.length l0) (hc0 : l0.length ≤ c0) (h : rel_clean.f k l0 = some r) :
  Calls Try.prog 112 #[.slice A0 l0.length c0] w fun e w' => ∃ v0_ : Value, e = .returned (v0_) ∧ Kd.R (Kd.int .u32) 52 w' w.heap.size (fun _ => True) v0_ r ∧ Below w.heap.size w w' := by
 have HR0 := a9_ hr0
 have HC0 := a9_ hc0
 clear hr0 hc0
 have HB := a9_ (Below.refl w.heap.size w)
 have H : (if (l0.length : Int) > 32 then (some (([] : List Int))) else (if 0 ≤ (l0.length : Int) then (if ((l0.length : Int) : Int).toNat ≤ 70368744177664 then (rel_clean.l0 k l0 (List.replicate ((l0.length : Int) : Int).toNat 0) (l0.length : Int) 0) else (none)) else (none))) = some r := h
 clear h
 by_cases c2 : (l0.length : Int) > 32
 ·rw [if_pos c2] at H
  have c2b0 : decide (32 < (l0.length : Int)) = true := decide_eq_true c2
  have c2b1 : decide (32 < l0.length) = true := decide_eq_true (by omega)
  clear c2
  obtain ⟨y101, hy101⟩ : ∃ y_ : List Int, y_ = (([] : List Int)) := ⟨_, rfl⟩
  replace H : (some y101) = some r := by first | (rw [hy101]; with_reducible exact H) | (have H2_ := (Option.bind_some _ _).symm.trans H; rw [hy101]; with_reducible exact H2_) | (have H2_ := (Option.bind_some _ _).symm.trans H; with_reducible exact H2_) | with_reducible exact H | (rw [hy101]; exact H) | exact H
  have Ny101 := a9_ hy101
  clear hy101
  obtain rfl := Option.some.inj H
  go_enter Try.func112, Try.ntmps112
  go_wp2_with (first | ((with_reducible refine gate_dst (N := 8) rfl ?_); refine Kd.R_lit (Kd.int .u32) _ 52 ?hg (N := 8) ?hd (xs := ([] : List Int)) (inner := []) (ok := fun _ => True) (okp := fun _ => True) ?hr ?hp (fun _ hk => hk) trivial (Below.refl _ _) (Nat.le_refl _) (by simp) ?_; (case hd => rfl); (case hg => rfl); (case hr => first | (go_simp; done) | (go_simp; rfl)); (case hp => exact (Reps.none _ _)); intro v102 w3 ho4 hb hg_ hnew_; clear hg_ hnew_; (first | rw [← Ny101.out] at ho4 | (simp only [Int.reduceToNat] at ho4; rw [← Ny101.out] at ho4)); have n0_ := a9_ (Kd.R_lower ho4 (below_size (bp9 HB.out))); have n1_ := a9_ (below_step (bp9 HB.out) hb); clear HB; have HO103 := n0_; have HB := n1_; clear n0_ n1_; clear hb ho4))
  go_ret
  exact ⟨_, rt9, by (with_reducible repeat (first | apply Kd.R_alloc | apply Kd.R_drewN | apply Kd.R_drew)); exact HO103.out, bp9 HB.out⟩
 ·rw [if_neg c2] at H
  have c2b0 : decide (32 < (l0.length : Int)) = false := decide_eq_false c2
  have c2b1 : decide (32 < l0.length) = false := decide_eq_false (by omega)
  clear c2
  by_cases c5 : 0 ≤ (l0.length : Int)
  ·rw [if_pos c5] at H
   have c5b0 := eq_true c5
   have c5b1 : decide (0 ≤ (l0.length : Int)) = true := decide_eq_true c5
   clear c5
   by_cases c6 : ((l0.length : Int) : Int).toNat ≤ 70368744177664
   ·rw [if_pos c6] at H
    have c6b0 := eq_true c6
    have c6b1 : decide (((l0.length : Int) : Int).toNat ≤ 70368744177664) = true := decide_eq_true c6
    clear c6
    obtain ⟨y104, hy104⟩ : ∃ y_ : List Int, y_ = (List.replicate ((l0.length : Int) : Int).toNat 0) := ⟨_, rfl⟩
    replace H : (rel_clean.l0 k l0 y104 (l0.length : Int) 0) = some r := by first | (rw [hy104]; with_reducible exact H) | (have H2_ := (Option.bind_some _ _).symm.trans H; rw [hy104]; with_reducible exact H2_) | (have H2_ := (Option.bind_some _ _).symm.trans H; with_reducible exact H2_) | with_reducible exact H | (rw [hy104]; exact H) | exact H
    have Ny104 := a9_ hy104
    clear hy104
    have H' := a9_ H
    clear H
    go_enter Try.func112, Try.ntmps112
    go_wp2_with (first | ((with_reducible refine gate_dst (N := 11) rfl ?_); refine Kd.R_make (Kd.int .u32) _ 52 rfl (N := 11) rfl 28 _ _ rfl (l0.length : Int) rfl rfl Try.underlying28 (.int .u32 0) 4 info52 rfl (by decide) (by omega) 0 (ok := fun _ => True) (okp := fun _ => True) rfl (fun _ hk => hk) trivial (of_decide_eq_true (by first | (with_reducible assumption) | assumption)) (Nat.le_trans (Nat.mul_le_mul_right _ (of_decide_eq_true (by first | (with_reducible assumption) | assumption) : (l0.length : Int).toNat ≤ 70368744177664)) (by omega)) (Below.refl _ _) (Nat.le_refl _) ?_; intro v105 w7 ho8 hb hg_ hnew_; clear hg_ hnew_; (first | rw [← Ny104.out] at ho8 | (simp only [Int.reduceToNat] at ho8; rw [← Ny104.out] at ho8)); have n0_ := a9_ (Kd.R_lower ho8 (below_size (bp9 HB.out))); have n1_ := a9_ (below_step (bp9 HB.out) hb); clear HB; have HO106 := n0_; have HB := n1_; clear n0_ n1_; clear hb ho8))
    go_loopg [14] k (fun kq v14 w' => ∃ (x3_1 : List Int) (x14_1 : Int), v14 = .int .i64 x14_1 ∧ Aside0 (rel_clean.l0 kq l0 x3_1 (l0.length : Int) x14_1 = some r) ∧ Aside0 (kq ≤ k) ∧ Aside0 (Kd.R (Kd.int .u32) 52 w' w.heap.size (fun _ => True) v105 x3_1) ∧ Aside0 (Below w.heap.size w w'))
    case atStart => exact ⟨(y104), (0), rs9, H', ⟨Nat.le_refl _⟩, ⟨rp9 HO106.out⟩, ⟨bp9 HB.out⟩⟩
    case round =>
     clear H'
     try clear c1
     try clear c2
     try clear c2b0
     try clear c2b1
     try clear p2
     try clear c5
     try clear c5b0
     try clear c5b1
     try clear c6
     try clear c6b0
     try clear c6b1
     obtain ⟨x3_1, x14_1, rfl, HA, HK1, HO_3, HB⟩ := hrel
     cases gk with
     | zero => exact absurd HA.out (by simp [rel_clean.l0])
     | succ k1 =>
      have H := HA.out
      clear HA
      simp only [rel_clean.l0] at H
      by_cases c9 : x14_1 < (l0.length : Int)
      ·rw [if_pos c9] at H
       have c9b0 : decide (x14_1 < (l0.length : Int)) = true := decide_eq_true c9
       clear c9
       by_cases c10 : 0 ≤ x14_1
       ·rw [if_pos c10] at H
        have c10b0 : decide (0 ≤ x14_1) = true := decide_eq_true c10
        clear c10
        by_cases c11 : x14_1 < (l0.length : Int)
        ·rw [if_pos c11] at H
         have c11b0 : decide (x14_1 < (l0.length : Int)) = true := decide_eq_true c11
         clear c11
         replace H := Option.bind_eq_some_iff.mp H
         obtain ⟨t108, A120, H⟩ := H
         have A12 := a9_ A120
         clear A120
         by_cases c13 : x14_1 < (x3_1.length : Int)
         ·rw [if_pos c13] at H
          have c13b0 : decide (x14_1 < (x3_1.length : Int)) = true := decide_eq_true c13
          clear c13
          obtain ⟨y109, hy109⟩ : ∃ y_ : List Int, y_ = (x3_1.set (x14_1 : Int).toNat (Go.bits .and .u32 (rd l0 x14_1) t108)) := ⟨_, rfl⟩
          replace H : (rel_clean.l0 k1 l0 y109 (l0.length : Int) (wrap64 (x14_1 + 1))) = some r := by first | (rw [hy109]; with_reducible exact H) | (have H2_ := (Option.bind_some _ _).symm.trans H; rw [hy109]; with_reducible exact H2_) | (have H2_ := (Option.bind_some _ _).symm.trans H; with_reducible exact H2_) | with_reducible exact H | (rw [hy109]; exact H) | exact H
          have Ny109 := a9_ hy109
          clear hy109
          have H' := a9_ H
          clear H
          try go_wp2
          have n0_ := a9_ (Kd.R_drew HO_3.out)
          have n1_ := a9_ (below_drew1 HB.out)
          clear HO_3 HB
          revert n0_ n1_; intro HO_3 HB
          have p107 : 0 ≤ (x14_1 : Int) := of_decide_eq_true (by first | (with_reducible assumption) | assumption)
          have q107 : x14_1 < (l0.length : Int) := of_decide_eq_true (by first | (with_reducible assumption) | assumption)
          obtain ⟨ad107, e107, hx107_0⟩ := Kd.at_int HR0.out x14_1 p107 q107
          have hw107_0 := hx107_0
          cases e107
          replace hx107_0 := hb9 HB.out hx107_0
          replace p107 := eq_true p107
          replace q107 := eq_true q107
          refine start_ (n := 12) (S := fun w' => w'.cell? (ad107.add (x14_1).toNat) = some (.int .u32 (rd l0 x14_1))) (ds := [11]) #[o9, o9, o9, o9, o9, o9, o9, o9, o9, o9, o9, o9] (by kernel_rfl) rfl rfl (((HB.out.cell (World.block_lt_of_cell? w _ hw107_0)).trans hw107_0)) (fun hHeld => ?_); refine with_tabW rel_clean.tab7 rel_clean.bits7 (fun HT_ HW_ => ?_)
          generalize wr.drew = w15 at HO_3 HB hx107_0 hHeld ⊢
          refine pureA 0 (some 17) ?_ #[i9, o9, o9, o9, o9, o9, o9, o9, o9, o9, o9, o9] rfl rfl (any_of HT_.out (by kernel_rfl)) ?_ ?_ ?_ ?_
          rotate_left
          ·intro w'; go_simp; with_reducible rfl
          rotate_left
          ·exact put9
          refine pureA 1 (some 18) ?_ #[i9, i9, o9, o9, o9, o9, o9, o9, o9, o9, o9, o9] rfl rfl (any_of HT_.out (by kernel_rfl)) ?_ ?_ ?_ ?_
          rotate_left
          ·intro w'; go_simp; with_reducible rfl
          rotate_left
          ·exact put9
          refine pureA 2 (some 19) ?_ #[i9, i9, i9, o9, o9, o9, o9, o9, o9, o9, o9, o9] rfl rfl (any_of HT_.out (by kernel_rfl)) ?_ ?_ ?_ ?_
          rotate_left
          ·intro w'; go_simp; with_reducible rfl
          rotate_left
          ·exact put9
          refine pureA 3 (some 20) ?_ #[i9, i9, i9, i9, o9, o9, o9, o9, o9, o9, o9, o9] rfl rfl (any_of HT_.out (by kernel_rfl)) ?_ ?_ ?_ ?_
          rotate_left
          ·intro w'; go_simp; with_reducible rfl
          rotate_left
          ·exact put9
          refine pureA 4 (some 21) ?_ #[i9, i9, i9, i9, i9, o9, o9, o9, o9, o9, o9, o9] rfl rfl (any_of HT_.out (by kernel_rfl)) ?_ ?_ ?_ ?_
          rotate_left
          ·intro w'; go_simp; with_reducible rfl
          rotate_left
          ·exact put9
          refine pureA 6 (some 23) ?_ #[i9, i9, i9, i9, i9, o9, i9, o9, o9, o9, o9, o9] rfl rfl (any_of HT_.out (by kernel_rfl)) ?_ ?_ ?_ ?_
          rotate_left
          ·intro w'; go_simp; with_reducible rfl
          rotate_left
          ·exact put9
          refine pureA 7 (some 24) ?_ #[i9, i9, i9, i9, i9, o9, i9, i9, o9, o9, o9, o9] rfl rfl (any_of HT_.out (by kernel_rfl)) ?_ ?_ ?_ ?_
          rotate_left
          ·intro w'; go_simp; with_reducible rfl
          rotate_left
          ·exact put9
          refine take_ (i := 5) (N := some 22) (v := ?_) (a' := ?_) #[i9, i9, i9, i9, i9, i9, i9, i9, o9, o9, o9, o9] rfl rfl (take_ofW HT_.out HW_.out (by kernel_rfl)) (fun _ _ _ h => h) (Or.inl ⟨by rfl, ?_⟩) hHeld ?_ ?_
          rotate_left
          ·intro w' s0
           go_simp
           with_reducible rfl
          rotate_left
          ·exact put9
          refine one_ (i := 8) (N := some 25) #[i9, i9, i9, i9, i9, i9, i9, i9, i9, o9, o9, o9] rfl rfl (one_of HT_.out (by kernel_rfl)) (by decide) (fun K hK => ?_)
          refine goes9 Try.func120 (by kernel_rfl) rfl #[.int .i64 (l0.length : Int)] (by rfl) rfl rfl ?_
          with_reducible refine (rel_all.calls (l0.length : Int) t108 _ A12.out).mono ?_
          rintro e w' ⟨rfl, ⟨nd, rfl⟩⟩
          refine ⟨_, rfl, ?_⟩
          have p14 : 0 ≤ (x14_1 : Int) := of_decide_eq_true (by first | (with_reducible assumption) | assumption)
          have q14 : (x14_1 : Int) < ((x3_1.length : Int) : Int) := of_decide_eq_true (by first | (with_reducible assumption) | assumption)
          obtain ⟨go14, co14, eo14, gb14, gl14, cl14, HG14⟩ := Kd.R_form HO_3.out (by omega)
          (first | cases eo14 | (injection eo14 with ea_ en_ ec_; (first | subst ea_ | (injection ea_ with ea_; subst ea_)); subst ec_; clear en_))
          have GB14 := a9_ gb14
          have GG14 := a9_ HG14
          clear gb14 gl14 HG14
          obtain ⟨hx14_0, hf14_0⟩ := Kd.R_celln 0 HO_3.out (x14_1 : Int) p14 q14
          replace p14 := eq_true p14
          replace q14 := eq_true q14
          have HP16 := Kd.R_putn HO_3.out (x14_1 : Int) (Go.bits .and .u32 (rd l0 x14_1) t108)
          rw [← Ny109.out] at HP16
          have HQ16 := a9_ HP16
          clear HP16
          refine hK.out _ _ (((HB.out.cell (World.block_lt_of_cell? w _ hw107_0)).trans hw107_0)) (fun hHeld => ?_)
          clear hK K
          refine norm_ (a' := ?_) ?_ ?_
          rotate_left
          ·show Act.put _ (some 25) _ = _
           exact put9
          refine pureA 9 (some 26) ?_ #[i9, i9, i9, i9, i9, i9, i9, i9, i9, i9, o9, o9] rfl rfl (any_of HT_.out (by kernel_rfl)) ?_ ?_ ?_ ?_
          rotate_left
          ·intro w'; go_simp; with_reducible rfl
          rotate_left
          ·exact put9
          refine pureA 10 (some 27) ?_ #[i9, i9, i9, i9, i9, i9, i9, i9, i9, i9, i9, o9] rfl rfl (any_of HT_.out (by kernel_rfl)) ?_ ?_ ?_ ?_
          rotate_left
          ·intro w'; go_simp; with_reducible rfl
          rotate_left
          ·exact put9
          refine last_ (i := 11) (N := none) #[i9, i9, i9, i9, i9, i9, i9, i9, i9, i9, i9, i9] rfl rfl (one_of HT_.out (by kernel_rfl)) (by decide) (fun K hK => ?_)
          refine skip_ (w1 := ?_) (by rfl) rfl ?_ ?_
          rotate_left
          ·go_simp
           rfl
          refine hK.out _ _ ?_
          clear hK K
          refine done_ (done_of HT_.out (by kernel_rfl)) ?_
          try go_wp2
          go_roundg k1
          case measure => have := HK1.out; omega
          case rel => exact ⟨(y109), (wrap64 (x14_1 + 1)), rs9, H', ⟨by have := HK1.out; omega⟩, ⟨by (with_reducible repeat (first | apply Kd.R_alloc | apply Kd.R_drewN | apply Kd.R_drew)); exact HQ16.out⟩, ⟨by repeat (first | (with_reducible first | exact HB.out | apply below_alloc | apply pw_below_drewN | apply below_drew1 | refine below_set ?_ GB14.out) | exact HB.out)⟩⟩
         ·rw [if_neg c13] at H
          exact absurd H (by simp)
        ·rw [if_neg c11] at H
         exact absurd H (by simp)
       ·rw [if_neg c10] at H
        exact absurd H (by simp)
      ·rw [if_neg c9] at H
       have c9b0 : decide (x14_1 < (l0.length : Int)) = false := decide_eq_false c9
       clear c9
       obtain rfl := Option.some.inj H
       go_wp2
       go_ret
       exact ⟨_, rt9, by (with_reducible repeat (first | apply Kd.R_alloc | apply Kd.R_drewN | apply Kd.R_drew)); exact HO_3.out, bp9 HB.out⟩
   ·rw [if_neg c6] at H
    exact absurd H (by simp)
  ·rw [if_neg c5] at H
   exact absurd H (by simp)
mutual
def rel_Pairs.l0 : Nat → List Int → List (S46) → List Int → Int → Int → Option ((List (S46)))
 | 0, _, _, _, _, _ => none
 | k + 1, x0, x3, x8, x9, x10 => if x10 < x9 then (if 0 ≤ x10 then (if x10 < (x8.length : Int) then (rel_Pairs.l1 k x0 x3 x10 (rd x8 x10) x8 x9 x10 (x0.length : Int) 0) else (none)) else (none)) else (some x3)
def rel_Pairs.l1 : Nat → List Int → List (S46) → Int → Int → List Int → Int → Int → Int → Int → Option ((List (S46)))
 | 0, _, _, _, _, _, _, _, _, _ => none
 | k + 1, x0, x3, x4, x5, x8, x9, x10, x16, x17 => if x17 < x16 then (if 0 ≤ (IntKind.u64.wrap (x17)) then (if (Go.bits .and .u32 (shr .u32 x5 (IntKind.u64.wrap (x17))) 1) = 1 then (if x3.length < 8796093022208 then (rel_Pairs.l1 k x0 (x3 ++ [(⟨x4, x17⟩ : S46)]) x4 x5 x8 x9 x10 x16 (wrap64 (x17 + 1))) else (none)) else (rel_Pairs.l1 k x0 x3 x4 x5 x8 x9 x10 x16 (wrap64 (x17 + 1)))) else (none)) else (rel_Pairs.l0 k x0 x3 x8 x9 (wrap64 (x10 + 1)))
end
def rel_Pairs.f (k : Nat) (l0 : List Int) : Option ((List (S46))) := (rel_clean.f k l0).bind fun t101 => (rel_Pairs.l0 k l0 ([] : List (S46)) t101 (t101.length : Int) 0)
theorem rel_Pairs.calls (k : Nat) (A0 : Option Addr) (c0 : Nat) (l0 : List Int) (r : List (S46)) (w : World) (hr0 : Kd.C (Kd.int .u32) w A0 l0.length l0) (hc0 : l0.length ≤ c0) (h : rel_Pairs.f k l0 = some r) :
  Calls Try.prog 38 #[.slice A0 l0.length c0] w fun e w' => ∃ v0_ : Value, e = .returned (v0_) ∧ Kd.R k46 46 w' w.heap.size (fun _ => True) v0_ r ∧ Below w.heap.size w w' := by
 have hu46 := Try.underlying46
 have HR0 := a9_ hr0
 have HC0 := a9_ hc0
 clear hr0 hc0
 have HB := a9_ (Below.refl w.heap.size w)
 have H : ((rel_clean.f k l0).bind fun t101 => (rel_Pairs.l0 k l0 ([] : List (S46)) t101 (t101.length : Int) 0)) = some r := h
 clear h
 replace H := Option.bind_eq_some_iff.mp H
 obtain ⟨t101, A20, H⟩ := H
 have A2 := a9_ A20
 clear A20
 have H' := a9_ H
 clear H
 go_enter Try.func38, Try.ntmps38
 go_wp2_with (first | ((with_reducible refine gate_callee (f := 112) rfl ?_); refine goesL9 (some 8) rfl rfl Try.func112 (by kernel_rfl) rfl #[.slice A0 l0.length c0] rfl ?_; (with_reducible refine (rel_clean.calls k _ _ l0 t101 _ ?side1 ?side2 A2.out).mono ?_); (case side1 => repeat (first | exact HR0.out | (with_reducible refine Kd.C_alloc ?_ _) | (with_reducible refine Kd.C_drewN ?_ _) | (with_reducible refine Kd.C_drew ?_))); (case side2 => exact HC0.out); rintro e w3 ⟨v102, rfl, ho0, hb⟩; refine ⟨_, rfl, ?_⟩; have n0_ := a9_ (Kd.R_lower ho0 (below_size (bp9 HB.out))); have n1_ := a9_ (below_step (bp9 HB.out) hb); clear HB; have HO103 := n0_; have HB := n1_; clear n0_ n1_; (try clear hb); (try clear ho0); obtain ⟨Ao4, co4, eo4⟩ := Kd.R_slice HO103.out; subst eo4))
 go_loopg [3, 10] k (fun kq v3 v10 w' => ∃ (x3_1 : List (S46)) (x10_1 : Int), v10 = .int .i64 x10_1 ∧ Aside0 (rel_Pairs.l0 kq l0 x3_1 t101 (t101.length : Int) x10_1 = some r) ∧ Aside0 (kq ≤ k) ∧ Aside0 (Kd.R k46 46 w' w.heap.size (fun _ => True) v3 x3_1) ∧ Aside0 (Kd.R (Kd.int .u32) 52 w' w.heap.size (fun _ => True) (.slice Ao4 t101.length co4) t101) ∧ Aside0 (Below w.heap.size w w'))
 case atStart => exact ⟨(([] : List (S46))), (0), rs9, H', ⟨Nat.le_refl _⟩, ⟨by first | exact Kd.R_nil _ _ _ _ _ | exact Kd.N_nil _ _ _ _ _ | exact Kd.V_nil _ _ _ _ _ | exact Kd.Q_nil _ _ _ _ _ | exact Kd.S_nil _ _ _ _ _⟩, ⟨rp9 HO103.out⟩, ⟨bp9 HB.out⟩⟩
 case round =>
  clear H'
  try clear c1
  try clear p2
  try clear c3
  obtain ⟨x3_1, x10_1, rfl, HA, HK1, HO_3, HO_8, HB⟩ := hrel
  cases gk with
  | zero => exact absurd HA.out (by simp [rel_Pairs.l0])
  | succ k1 =>
   have H := HA.out
   clear HA
   simp only [rel_Pairs.l0] at H
   by_cases c5 : x10_1 < (t101.length : Int)
   ·rw [if_pos c5] at H
    have c5b0 : decide (x10_1 < (t101.length : Int)) = true := decide_eq_true c5
    clear c5
    by_cases c6 : 0 ≤ x10_1
    ·rw [if_pos c6] at H
     have c6b0 : decide (0 ≤ x10_1) = true := decide_eq_true c6
     clear c6
     by_cases c7 : x10_1 < (t101.length : Int)
     ·rw [if_pos c7] at H
      have c7b0 : decide (x10_1 < (t101.length : Int)) = true := decide_eq_true c7
      clear c7
      have H' := a9_ H
      clear H
      have p104 : 0 ≤ (x10_1 : Int) := of_decide_eq_true (by first | (with_reducible assumption) | assumption)
      have q104 : x10_1 < (t101.length : Int) := of_decide_eq_true (by first | (with_reducible assumption) | assumption)
      obtain ⟨ad104, e104, hx104_0⟩ := Kd.at_int (Kd.R_reads' HO_8.out).2.2 x10_1 p104 q104
      cases e104
      replace p104 := eq_true p104
      replace q104 := eq_true q104
      go_wp2
      go_loopg [3, 17] k1 (fun kq v3 v17 w' => ∃ (x3_2 : List (S46)) (x17_2 : Int), v17 = .int .i64 x17_2 ∧ Aside0 (rel_Pairs.l1 kq l0 x3_2 x10_1 (rd t101 x10_1) t101 (t101.length : Int) x10_1 (l0.length : Int) x17_2 = some r) ∧ Aside0 (kq ≤ k1) ∧ Aside0 (Kd.R k46 46 w' w.heap.size (fun _ => True) v3 x3_2) ∧ Aside0 (Kd.R (Kd.int .u32) 52 w' w.heap.size (fun _ => True) (.slice (some ad104) t101.length co4) t101) ∧ Aside0 (Below w.heap.size w w'))
      case atStart => exact ⟨(x3_1), (0), rs9, H', ⟨Nat.le_refl _⟩, ⟨rp9 HO_3.out⟩, ⟨rp9 HO_8.out⟩, ⟨bp9 HB.out⟩⟩
      case round =>
       clear H'
       try clear c1
       try clear p1
       try clear q1
       try clear hx1
       try clear p2
       try clear c3
       try clear c5
       try clear c5b0
       try clear c6
       try clear c6b0
       try clear c7
       try clear c7b0
       try clear hx104_0
       try clear p104
       try clear p2
       try clear q104
       obtain ⟨x3_2, x17_2, rfl, HA, HK2, HO_3, HO_8, HB⟩ := hrel
       cases gk with
       | zero => exact absurd HA.out (by simp [rel_Pairs.l1])
       | succ k2 =>
        have H := HA.out
        clear HA
        simp only [rel_Pairs.l1] at H
        by_cases c8 : x17_2 < (l0.length : Int)
        ·rw [if_pos c8] at H
         have c8b0 : decide (x17_2 < (l0.length : Int)) = true := decide_eq_true c8
         clear c8
         obtain ⟨ji9, hji9⟩ : ∃ j_ : Int, (IntKind.u64.wrap (x17_2)) = j_ := ⟨_, rfl⟩
         replace H : (if 0 ≤ (ji9) then (if (Go.bits .and .u32 (shr .u32 (rd t101 x10_1) (ji9)) 1) = 1 then (if x3_2.length < 8796093022208 then (rel_Pairs.l1 k2 l0 (x3_2 ++ [(⟨x10_1, x17_2⟩ : S46)]) x10_1 (rd t101 x10_1) t101 (t101.length : Int) x10_1 (l0.length : Int) (wrap64 (x17_2 + 1))) else (none)) else (rel_Pairs.l1 k2 l0 x3_2 x10_1 (rd t101 x10_1) t101 (t101.length : Int) x10_1 (l0.length : Int) (wrap64 (x17_2 + 1)))) else (none)) = some r := by first | (rw [hji9] at H; exact H) | (simp only [hji9] at H ⊢; exact H)
         by_cases c10 : 0 ≤ (ji9)
         ·rw [if_pos c10] at H
          have c10b0 := eq_true c10
          have c10b1 : decide (0 ≤ (ji9)) = true := decide_eq_true c10
          clear c10
          obtain ⟨ji11, hji11⟩ : ∃ j_ : Int, (shr .u32 (rd t101 x10_1) (ji9)) = j_ := ⟨_, rfl⟩
          replace H : (if (Go.bits .and .u32 (ji11) 1) = 1 then (if x3_2.length < 8796093022208 then (rel_Pairs.l1 k2 l0 (x3_2 ++ [(⟨x10_1, x17_2⟩ : S46)]) x10_1 (rd t101 x10_1) t101 (t101.length : Int) x10_1 (l0.length : Int) (wrap64 (x17_2 + 1))) else (none)) else (rel_Pairs.l1 k2 l0 x3_2 x10_1 (rd t101 x10_1) t101 (t101.length : Int) x10_1 (l0.length : Int) (wrap64 (x17_2 + 1)))) = some r := by first | (rw [hji11] at H; exact H) | (simp only [hji11] at H ⊢; exact H)
          have hji11_ : ((rd t101 x10_1) / 2 ^ min (ji9).toNat 32) = ji11 := hji11
          have hji11z : (ji9) ≤ 32 → ((rd t101 x10_1) / 2 ^ (ji9).toNat) = ji11 := shr_small hji11
          by_cases c12 : (Go.bits .and .u32 (ji11) 1) = 1
          ·rw [if_pos c12] at H
           have c12b0 : ((Go.bits .and .u32 (ji11) 1) == 1) = true := beq_iff_eq.mpr c12
           have c12b1 : ((Go.bits .and .u32 (ji11) 1) != 1) = false := bne_eq_false_iff_eq.mpr c12
           clear c12
           by_cases c13 : x3_2.length < 8796093022208
           ·rw [if_pos c13] at H
            have LMc13 := a9_ c13
            clear c13
            obtain ⟨y105, hy105⟩ : ∃ y_ : List (S46), y_ = (x3_2 ++ [(⟨x10_1, x17_2⟩ : S46)]) := ⟨_, rfl⟩
            replace H : (rel_Pairs.l1 k2 l0 y105 x10_1 (rd t101 x10_1) t101 (t101.length : Int) x10_1 (l0.length : Int) (wrap64 (x17_2 + 1))) = some r := by first | (rw [hy105]; with_reducible exact H) | (have H2_ := (Option.bind_some _ _).symm.trans H; rw [hy105]; with_reducible exact H2_) | (have H2_ := (Option.bind_some _ _).symm.trans H; with_reducible exact H2_) | with_reducible exact H | (rw [hy105]; exact H) | exact H
            have Ny105 := a9_ hy105
            clear hy105
            have H' := a9_ H
            clear H
            go_wp2_with (first | ((with_reducible refine gate_builtin (b := .append) (xs := #[.tmp 26, .tmp 30]) rfl ?_); at_builtin; refine Kd.R_append k46 (w0 := w) w.heap.size rfl (.tmp 26) (.tmp 30) 43 46 (.agg #[(.int .i64 0), (.int .i64 0)]) 16 rfl Try.underlying43 info46 rfl (by decide) (by omega) u3 x3_2 (⟨x10_1, x17_2⟩ : S46) [.int .i64 x10_1, .int .i64 x17_2] (fun _ => True) (fun _ => False) rfl rfl ?aP (fun _ hk => hk.elim) ?aF ?aO ?aB ?aS ?aL ?_; (case aP => exact k46_mkM _ _ _ (⟨x10_1, x17_2⟩ : S46)); (case aB => exact (bp9 HB.out)); (case aF => exact (fun _ _ => trivial)); (case aO => exact (rp9 HO_3.out)); (case aS => exact (below_size (bp9 HB.out))); (case aL => have := LMc13.out; omega); intro v106 w14 ho hb hg hat; rw [← Ny105.out] at ho; have n0_ := a9_ (Kd.R_over' (rp9 HO_8.out) (Kd.R_typed (rp9 HO_3.out)) (by decide) hg); have n1_ := a9_ (hb); have n2_ := a9_ (ho); clear HO_8; clear HB; clear HO_3; have HO_8 := n0_; have HB := n1_; have HO107 := n2_; clear n0_ n1_ n2_; clear ho hb hg hat))
            go_roundg k2
            case measure => have := HK1.out; have := HK2.out; omega
            case rel => exact ⟨(y105), (wrap64 (x17_2 + 1)), rs9, H', ⟨by have := HK1.out; have := HK2.out; omega⟩, ⟨rp9 HO107.out⟩, ⟨rp9 HO_8.out⟩, ⟨bp9 HB.out⟩⟩
           ·rw [if_neg c13] at H
            exact absurd H (by simp)
          ·rw [if_neg c12] at H
           have c12b0 : ((Go.bits .and .u32 (ji11) 1) == 1) = false := beq_eq_false_iff_ne.mpr c12
           have c12b1 : ((Go.bits .and .u32 (ji11) 1) != 1) = true := bne_iff_ne.mpr c12
           have H' := a9_ H
           clear H
           go_wp2
           go_roundg k2
           case measure => have := HK1.out; have := HK2.out; omega
           case rel => exact ⟨(x3_2), (wrap64 (x17_2 + 1)), rs9, H', ⟨by have := HK1.out; have := HK2.out; omega⟩, ⟨rp9 HO_3.out⟩, ⟨rp9 HO_8.out⟩, ⟨bp9 HB.out⟩⟩
         ·rw [if_neg c10] at H
          exact absurd H (by simp)
        ·rw [if_neg c8] at H
         have c8b0 : decide (x17_2 < (l0.length : Int)) = false := decide_eq_false c8
         clear c8
         have H' := a9_ H
         clear H
         go_wp2
         go_roundg k2
         case measure => have := HK1.out; have := HK2.out; omega
         case rel => exact ⟨(x3_2), (wrap64 (x10_1 + 1)), rs9, H', ⟨by have := HK1.out; have := HK2.out; omega⟩, ⟨rp9 HO_3.out⟩, ⟨rp9 HO_8.out⟩, ⟨bp9 HB.out⟩⟩
     ·rw [if_neg c7] at H
      exact absurd H (by simp)
    ·rw [if_neg c6] at H
     exact absurd H (by simp)
   ·rw [if_neg c5] at H
    have c5b0 : decide (x10_1 < (t101.length : Int)) = false := decide_eq_false c5
    clear c5
    obtain rfl := Option.some.inj H
    go_wp2
    go_ret
    exact ⟨_, rt9, by (with_reducible repeat (first | apply Kd.R_alloc | apply Kd.R_drewN | apply Kd.R_drew)); exact HO_3.out, bp9 HB.out⟩
def rel_in.f (l0 : List Int) (a1 : Int) (a2 : Int) : Option (Bool) := if a1 ≥ 0 then (if a1 < (l0.length : Int) then (if a2 ≥ 0 then (some (decide (a2 < (l0.length : Int)))) else (some false)) else (some false)) else (some false)
theorem rel_in.calls (A0 : Option Addr) (c0 : Nat) (l0 : List Int) (a1 : Int) (a2 : Int) (r : Bool) (w : World) (hr0 : Kd.C (Kd.int .u32) w A0 l0.length l0) (hc0 : l0.length ≤ c0) (h : rel_in.f l0 a1 a2 = some r) :
  Calls Try.prog 113 #[.slice A0 l0.length c0, .int .i64 a1, .int .i64 a2] w fun e w' => e = .returned (.bool r) ∧ Drawn0 w w' := by
 have HR0 := a9_ hr0
 have HC0 := a9_ hc0
 clear hr0 hc0
 have H : (if a1 ≥ 0 then (if a1 < (l0.length : Int) then (if a2 ≥ 0 then (some (decide (a2 < (l0.length : Int)))) else (some false)) else (some false)) else (some false)) = some r := h
 clear h
 by_cases c4 : a1 ≥ 0
 ·rw [if_pos c4] at H
  have c4b0 : decide (0 ≤ a1) = true := decide_eq_true c4
  clear c4
  by_cases c5 : a1 < (l0.length : Int)
  ·rw [if_pos c5] at H
   have c5b0 : decide (a1 < (l0.length : Int)) = true := decide_eq_true c5
   clear c5
   by_cases c6 : a2 ≥ 0
   ·rw [if_pos c6] at H
    have c6b0 : decide (0 ≤ a2) = true := decide_eq_true c6
    clear c6
    obtain rfl := Option.some.inj H
    go_enter Try.func113, Try.ntmps113
    go_wp2
    go_ret
    exact ⟨by first | rfl | (simp; done) | (simp [*]; done), by repeat (first | exact Drawn0.refl _ | apply Drawn0.step)⟩
   ·rw [if_neg c6] at H
    have c6b0 : decide (0 ≤ a2) = false := decide_eq_false c6
    clear c6
    obtain rfl := Option.some.inj H
    go_enter Try.func113, Try.ntmps113
    go_wp2
    go_ret
    exact ⟨by first | rfl | (simp; done) | (simp [*]; done), by repeat (first | exact Drawn0.refl _ | apply Drawn0.step)⟩
  ·rw [if_neg c5] at H
   have c5b0 : decide (a1 < (l0.length : Int)) = false := decide_eq_false c5
   clear c5
   obtain rfl := Option.some.inj H
   go_enter Try.func113, Try.ntmps113
   go_wp2
   go_ret
   exact ⟨by first | rfl | (simp; done) | (simp [*]; done), by repeat (first | exact Drawn0.refl _ | apply Drawn0.step)⟩
 ·rw [if_neg c4] at H
  have c4b0 : decide (0 ≤ a1) = false := decide_eq_false c4
  clear c4
  obtain rfl := Option.some.inj H
  go_enter Try.func113, Try.ntmps113
  go_wp2
  go_ret
  exact ⟨by first | rfl | (simp; done) | (simp [*]; done), by repeat (first | exact Drawn0.refl _ | apply Drawn0.step)⟩
def rel_Has.f (l0 : List Int) (a1 : Int) (a2 : Int) : Option (Bool) := if (l0.length : Int) ≤ 32 then ((rel_in.f l0 a1 a2).bind fun t101 => (if t101 = true then (if 0 ≤ a1 then (if a1 < (l0.length : Int) then (if 0 ≤ (IntKind.u64.wrap (a2)) then (some ((Go.bits .and .u32 (shr .u32 (rd l0 a1) (IntKind.u64.wrap (a2))) 1) == 1)) else (none)) else (none)) else (none)) else (some false))) else (some false)
theorem rel_Has.calls (A0 : Option Addr) (c0 : Nat) (l0 : List Int) (a1 : Int) (a2 : Int) (r : Bool) (w : World) (hr0 : Kd.C (Kd.int .u32) w A0 l0.length l0) (hc0 : l0.length ≤ c0) (h : rel_Has.f l0 a1 a2 = some r) :
  Calls Try.prog 39 #[.slice A0 l0.length c0, .int .i64 a1, .int .i64 a2] w fun e w' => e = .returned (.bool r) ∧ Drawn0 w w' := by
 have HR0 := a9_ hr0
 have HC0 := a9_ hc0
 clear hr0 hc0
 have H : (if (l0.length : Int) ≤ 32 then ((rel_in.f l0 a1 a2).bind fun t101 => (if t101 = true then (if 0 ≤ a1 then (if a1 < (l0.length : Int) then (if 0 ≤ (IntKind.u64.wrap (a2)) then (some ((Go.bits .and .u32 (shr .u32 (rd l0 a1) (IntKind.u64.wrap (a2))) 1) == 1)) else (none)) else (none)) else (none)) else (some false))) else (some false)) = some r := h
 clear h
 by_cases c4 : (l0.length : Int) ≤ 32
 ·rw [if_pos c4] at H
  have c4b0 : decide ((l0.length : Int) ≤ 32) = true := decide_eq_true c4
  have c4b1 : decide (l0.length ≤ 32) = true := decide_eq_true (by omega)
  clear c4
  replace H := Option.bind_eq_some_iff.mp H
  obtain ⟨t101, A50, H⟩ := H
  have A5 := a9_ A50
  clear A50
  by_cases c6 : t101 = true
  ·subst c6
   rw [if_pos rfl] at H
   by_cases c7 : 0 ≤ a1
   ·rw [if_pos c7] at H
    have c7b0 : decide (0 ≤ a1) = true := decide_eq_true c7
    clear c7
    by_cases c8 : a1 < (l0.length : Int)
    ·rw [if_pos c8] at H
     have c8b0 : decide (a1 < (l0.length : Int)) = true := decide_eq_true c8
     clear c8
     obtain ⟨ji9, hji9⟩ : ∃ j_ : Int, (IntKind.u64.wrap (a2)) = j_ := ⟨_, rfl⟩
     replace H : (if 0 ≤ (ji9) then (some ((Go.bits .and .u32 (shr .u32 (rd l0 a1) (ji9)) 1) == 1)) else (none)) = some r := by first | (rw [hji9] at H; exact H) | (simp only [hji9] at H ⊢; exact H)
     (try rw [hji9] at A5)
     by_cases c10 : 0 ≤ (ji9)
     ·rw [if_pos c10] at H
      have c10b0 := eq_true c10
      have c10b1 : decide (0 ≤ (ji9)) = true := decide_eq_true c10
      clear c10
      obtain ⟨ji11, hji11⟩ : ∃ j_ : Int, (shr .u32 (rd l0 a1) (ji9)) = j_ := ⟨_, rfl⟩
      replace H : (some ((Go.bits .and .u32 (ji11) 1) == 1)) = some r := by first | (rw [hji11] at H; exact H) | (simp only [hji11] at H ⊢; exact H)
      (try rw [hji11] at A5)
      have hji11_ : ((rd l0 a1) / 2 ^ min (ji9).toNat 32) = ji11 := hji11
      have hji11z : (ji9) ≤ 32 → ((rd l0 a1) / 2 ^ (ji9).toNat) = ji11 := shr_small hji11
      obtain rfl := Option.some.inj H
      go_enter Try.func39, Try.ntmps39
      go_wp2_with (first | (go_at_call 113; (with_reducible refine (rel_in.calls _ _ l0 a1 a2 true _ ?side1 ?side2 A5.out).mono ?_); (case side1 => repeat (first | exact HR0.out | (with_reducible refine Kd.C_alloc ?_ _) | (with_reducible refine Kd.C_drewN ?_ _) | (with_reducible refine Kd.C_drew ?_))); (case side2 => exact HC0.out); rintro e w' ⟨rfl, ⟨nd, rfl⟩⟩; have p102 : 0 ≤ (a1 : Int) := of_decide_eq_true (by first | (with_reducible assumption) | assumption); have q102 : a1 < (l0.length : Int) := of_decide_eq_true (by first | (with_reducible assumption) | assumption); obtain ⟨ad102, e102, hx102_0⟩ := Kd.at_int HR0.out a1 p102 q102; cases e102; replace p102 := eq_true p102; replace q102 := eq_true q102))
      go_ret
      exact ⟨by first | rfl | (simp; done) | (simp only [← hji9, ← hji11] <;> (first | rfl | simp)) | (simp [*]; done), by repeat (first | exact Drawn0.refl _ | apply Drawn0.step)⟩
     ·rw [if_neg c10] at H
      exact absurd H (by simp)
    ·rw [if_neg c8] at H
     exact absurd H (by simp)
   ·rw [if_neg c7] at H
    exact absurd H (by simp)
  ·replace c6 := Bool.eq_false_iff.mpr c6
   subst c6
   rw [if_neg (show ¬ (false = true) by decide)] at H
   obtain rfl := Option.some.inj H
   go_enter Try.func39, Try.ntmps39
   go_wp2_with (first | (go_at_call 113; (with_reducible refine (rel_in.calls _ _ l0 a1 a2 false _ ?side1 ?side2 A5.out).mono ?_); (case side1 => repeat (first | exact HR0.out | (with_reducible refine Kd.C_alloc ?_ _) | (with_reducible refine Kd.C_drewN ?_ _) | (with_reducible refine Kd.C_drew ?_))); (case side2 => exact HC0.out); rintro e w' ⟨rfl, ⟨nd, rfl⟩⟩))
   go_ret
   exact ⟨by first | rfl | (simp; done) | (simp [*]; done), by repeat (first | exact Drawn0.refl _ | apply Drawn0.step)⟩
 ·rw [if_neg c4] at H
  have c4b0 : decide ((l0.length : Int) ≤ 32) = false := decide_eq_false c4
  have c4b1 : decide (l0.length ≤ 32) = false := decide_eq_false (by omega)
  clear c4
  obtain rfl := Option.some.inj H
  go_enter Try.func39, Try.ntmps39
  go_wp2
  go_ret
  exact ⟨by first | rfl | (simp; done) | (simp [*]; done), by repeat (first | exact Drawn0.refl _ | apply Drawn0.step)⟩
def rel_Put.f (k : Nat) (l0 : List Int) (a1 : Int) (a2 : Int) : Option (List Int) := (rel_clean.f k l0).bind fun t101 => ((rel_in.f t101 a1 a2).bind fun t104 => (if t104 = true then (if 0 ≤ a1 then (if a1 < (t101.length : Int) then (if 0 ≤ (IntKind.u64.wrap (a2)) then (some (t101.set (a1 : Int).toNat (Go.bits .or .u32 (rd t101 a1) (shl .u32 1 (IntKind.u64.wrap (a2)))))) else (none)) else (none)) else (none)) else (some t101)))
theorem rel_Put.mono : ∀ a0 a1 a2 k, LeO (rel_Put.f k a0 a1 a2) (rel_Put.f (k + 1) a0 a1 a2) := by
 intro a0 a1 a2 k
 unfold rel_Put.f
 repeat' (with_reducible first | exact rel_clean.mono _ _ | exact LeO.refl _ | exact LeO.none _ | refine LeO.ite ?_ ?_ | refine LeO.bind ?_ (fun _ => ?_))
theorem rel_Put.calls (k : Nat) (A0 : Option Addr) (c0 : Nat) (l0 : List Int) (a1 : Int) (a2 : Int) (r : List Int) (w : World) (hr0 : Kd.C (Kd.int .u32) w A0 l0.length l0) (hc0 : l0.length ≤ c0) (h : rel_Put.f k l0 a1 a2 = some r) :
  Calls Try.prog 40 #[.slice A0 l0.length c0, .int .i64 a1, .int .i64 a2] w fun e w' => ∃ v0_ : Value, e = .returned (v0_) ∧ Kd.R (Kd.int .u32) 52 w' w.heap.size (fun _ => True) v0_ r ∧ Below w.heap.size w w' := by
 have HR0 := a9_ hr0
 have HC0 := a9_ hc0
 clear hr0 hc0
 have HB := a9_ (Below.refl w.heap.size w)
 have H : ((rel_clean.f k l0).bind fun t101 => ((rel_in.f t101 a1 a2).bind fun t104 => (if t104 = true then (if 0 ≤ a1 then (if a1 < (t101.length : Int) then (if 0 ≤ (IntKind.u64.wrap (a2)) then (some (t101.set (a1 : Int).toNat (Go.bits .or .u32 (rd t101 a1) (shl .u32 1 (IntKind.u64.wrap (a2)))))) else (none)) else (none)) else (none)) else (some t101)))) = some r := h
 clear h
 replace H := Option.bind_eq_some_iff.mp H
 obtain ⟨t101, A40, H⟩ := H
 have A4 := a9_ A40
 clear A40
 replace H := Option.bind_eq_some_iff.mp H
 obtain ⟨t104, A50, H⟩ := H
 have A5 := a9_ A50
 clear A50
 by_cases c6 : t104 = true
 ·subst c6
  rw [if_pos rfl] at H
  by_cases c7 : 0 ≤ a1
  ·rw [if_pos c7] at H
   have c7b0 : decide (0 ≤ a1) = true := decide_eq_true c7
   clear c7
   by_cases c8 : a1 < (t101.length : Int)
   ·rw [if_pos c8] at H
    have c8b0 : decide (a1 < (t101.length : Int)) = true := decide_eq_true c8
    clear c8
    obtain ⟨ji9, hji9⟩ : ∃ j_ : Int, (IntKind.u64.wrap (a2)) = j_ := ⟨_, rfl⟩
    replace H : (if 0 ≤ (ji9) then (some (t101.set (a1 : Int).toNat (Go.bits .or .u32 (rd t101 a1) (shl .u32 1 (ji9))))) else (none)) = some r := by first | (rw [hji9] at H; exact H) | (simp only [hji9] at H ⊢; exact H)
    (try rw [hji9] at A4)
    (try rw [hji9] at A5)
    by_cases c10 : 0 ≤ (ji9)
    ·rw [if_pos c10] at H
     have c10b0 := eq_true c10
     have c10b1 : decide (0 ≤ (ji9)) = true := decide_eq_true c10
     clear c10
     obtain ⟨ji11, hji11⟩ : ∃ j_ : Int, (shl .u32 1 (ji9)) = j_ := ⟨_, rfl⟩
     replace H : (some (t101.set (a1 : Int).toNat (Go.bits .or .u32 (rd t101 a1) (ji11)))) = some r := by first | (rw [hji11] at H; exact H) | (simp only [hji11] at H ⊢; exact H)
     (try rw [hji11] at A4)
     (try rw [hji11] at A5)
     have hji11_ : (IntKind.u32.wrap (1 * 2 ^ min (ji9).toNat 32)) = ji11 := hji11
     have hji11z : (ji9) ≤ 32 → (IntKind.u32.wrap (1 * 2 ^ (ji9).toNat)) = ji11 := shl_small hji11
     have hji11u : (IntKind.u32.wrap (2 ^ min (ji9).toNat 32)) = ji11 := by have h_ := hji11_; rw [Int.one_mul] at h_; exact h_
     have hji11v : (ji9) ≤ 32 → (IntKind.u32.wrap (2 ^ (ji9).toNat)) = ji11 := fun hle_ => by have h_ := hji11z hle_; rw [Int.one_mul] at h_; exact h_
     obtain ⟨y106, hy106⟩ : ∃ y_ : List Int, y_ = (t101.set (a1 : Int).toNat (Go.bits .or .u32 (rd t101 a1) (ji11))) := ⟨_, rfl⟩
     replace H : (some y106) = some r := by first | (rw [hy106]; with_reducible exact H) | (have H2_ := (Option.bind_some _ _).symm.trans H; rw [hy106]; with_reducible exact H2_) | (have H2_ := (Option.bind_some _ _).symm.trans H; with_reducible exact H2_) | with_reducible exact H | (rw [hy106]; exact H) | exact H
     have Ny106 := a9_ hy106
     clear hy106
     obtain rfl := Option.some.inj H
     go_enter Try.func40, Try.ntmps40
     go_wp2_with (first | ((with_reducible refine gate_callee (f := 112) rfl ?_); refine goesL9 (some 9) rfl rfl Try.func112 (by kernel_rfl) rfl #[.slice A0 l0.length c0] rfl ?_; (with_reducible refine (rel_clean.calls k _ _ l0 t101 _ ?side1 ?side2 A4.out).mono ?_); (case side1 => repeat (first | exact HR0.out | (with_reducible refine Kd.C_alloc ?_ _) | (with_reducible refine Kd.C_drewN ?_ _) | (with_reducible refine Kd.C_drew ?_))); (case side2 => exact HC0.out); rintro e w13 ⟨v102, rfl, ho0, hb⟩; refine ⟨_, rfl, ?_⟩; have n0_ := a9_ (Kd.R_lower ho0 (below_size (bp9 HB.out))); have n1_ := a9_ (below_step (bp9 HB.out) hb); clear HB; have HO103 := n0_; have HB := n1_; clear n0_ n1_; (try clear hb); (try clear ho0); obtain ⟨Ao14, co14, eo14⟩ := Kd.R_slice HO103.out; subst eo14) | ((with_reducible refine gate_callee (f := 113) rfl ?_); refine goesL9 (some 13) rfl rfl Try.func113 (by kernel_rfl) rfl #[.slice Ao14 t101.length co14, .int .i64 a1, .int .i64 a2] rfl ?_; (with_reducible refine (rel_in.calls _ _ t101 a1 a2 true _ ?side1 ?side2 A5.out).mono ?_); (case side1 => exact lp9 (Kd.R_reads' HO103.out).2.2); (case side2 => exact (Kd.R_reads' HO103.out).2.1); rintro e w' ⟨rfl, ⟨nd, rfl⟩⟩; refine ⟨_, rfl, ?_⟩; (try (rw [drewN_self w13]; generalize hq_ : World.drewN w13 _ = w13; have n0_ : Aside0 (Kd.R (Kd.int .u32) 52 w13 w.heap.size (fun _ => True) (.slice Ao14 t101.length co14) t101) := ⟨by rw [← hq_]; exact (rp9 HO103.out)⟩; have n1_ : Aside0 (Below w.heap.size w w13) := ⟨by rw [← hq_]; exact (bp9 HB.out)⟩; clear HO103 HB hq_; have HO103 := n0_; have HB := n1_; clear n0_ n1_)); have p105 : 0 ≤ (a1 : Int) := of_decide_eq_true (by first | (with_reducible assumption) | assumption); have q105 : a1 < (t101.length : Int) := of_decide_eq_true (by first | (with_reducible assumption) | assumption); obtain ⟨ad105, e105, hx105_0⟩ := Kd.at_int (Kd.R_reads' HO103.out).2.2 a1 p105 q105; cases e105; replace p105 := eq_true p105; replace q105 := eq_true q105; have p12 : 0 ≤ (a1 : Int) := of_decide_eq_true (by first | (with_reducible assumption) | assumption); have q12 : (a1 : Int) < ((t101.length : Int) : Int) := of_decide_eq_true (by first | (with_reducible assumption) | assumption); obtain ⟨go12, co12, eo12, gb12, gl12, cl12, HG12⟩ := Kd.R_form HO103.out (by omega); (first | cases eo12 | (injection eo12 with ea_ en_ ec_; (first | subst ea_ | (injection ea_ with ea_; subst ea_)); subst ec_; clear en_)); have GB12 := a9_ gb12; have GG12 := a9_ HG12; clear gb12 gl12 HG12; (first | simp only [add_plain] at hx105_0 | skip); obtain ⟨hx12_0, hf12_0⟩ := Kd.R_celln 0 HO103.out (a1 : Int) p12 q12; replace p12 := eq_true p12; replace q12 := eq_true q12; obtain ⟨hy15_, hz15_⟩ := Kd.R_celln 0 HO103.out (a1 : Int) (of_decide_eq_true (by first | (with_reducible assumption) | assumption)) (of_decide_eq_true (by first | (with_reducible assumption) | assumption)); have HP15 := Kd.R_putg HO103.out (a1 : Int) (Go.bits .or .u32 (rd t101 a1) (ji11))) | ((with_reducible refine gate_store (t := 52) (p := 22) rfl ?_); refine store_event (t := 52) (p := 22) (v := ?vo_w16) (w1 := (w13.setCell ⟨go12, (a1 : Int).toNat, none⟩ (.int .u32 (Go.bits .or .u32 (rd t101 a1) (ji11))))) ?hg ?ho ?hn ?hr ?_; (case ho => rfl); (case hg => rfl); (case hn => rfl); (case hr => first | (go_simp; done) | (go_simp; rfl)); intro w16 hw; have hg : w13.grownBy w16 (some go12) := (by rw [hw]; exact HP15.2); have hp_ : Kd.R (Kd.int .u32) 52 w16 w.heap.size (fun _ => True) (.slice (some ⟨go12, 0, none⟩) t101.length co14) y106 := (by rw [hw, Ny106.out]; exact HP15.1); clear HP15; have n0_ := a9_ (hp_); have n1_ := a9_ ((by rw [hw]; exact below_set (HB.out) GB12.out : Below w.heap.size w w16)); clear HO103; clear HB; have HO103 := n0_; have HB := n1_; clear n0_ n1_; clear hg hw hp_))
     go_ret
     exact ⟨_, by first | rfl | (simp [errW_none, errW_some] <;> rfl) | (simp only [← hji9, ← hji11]; first | rfl | (simp [errW_none, errW_some] <;> rfl)) | (simp [*, errW_none, errW_some] <;> rfl), by (with_reducible repeat (first | apply Kd.R_alloc | apply Kd.R_drewN | apply Kd.R_drew)); exact HO103.out, bp9 HB.out⟩
    ·rw [if_neg c10] at H
     exact absurd H (by simp)
   ·rw [if_neg c8] at H
    exact absurd H (by simp)
  ·rw [if_neg c7] at H
   exact absurd H (by simp)
 ·replace c6 := Bool.eq_false_iff.mpr c6
  subst c6
  rw [if_neg (show ¬ (false = true) by decide)] at H
  obtain rfl := Option.some.inj H
  go_enter Try.func40, Try.ntmps40
  go_wp2_with (first | ((with_reducible refine gate_callee (f := 112) rfl ?_); refine goesL9 (some 9) rfl rfl Try.func112 (by kernel_rfl) rfl #[.slice A0 l0.length c0] rfl ?_; (with_reducible refine (rel_clean.calls k _ _ l0 t101 _ ?side1 ?side2 A4.out).mono ?_); (case side1 => repeat (first | exact HR0.out | (with_reducible refine Kd.C_alloc ?_ _) | (with_reducible refine Kd.C_drewN ?_ _) | (with_reducible refine Kd.C_drew ?_))); (case side2 => exact HC0.out); rintro e w17 ⟨v102, rfl, ho0, hb⟩; refine ⟨_, rfl, ?_⟩; have n0_ := a9_ (Kd.R_lower ho0 (below_size (bp9 HB.out))); have n1_ := a9_ (below_step (bp9 HB.out) hb); clear HB; have HO103 := n0_; have HB := n1_; clear n0_ n1_; (try clear hb); (try clear ho0); obtain ⟨Ao18, co18, eo18⟩ := Kd.R_slice HO103.out; subst eo18) | ((with_reducible refine gate_callee (f := 113) rfl ?_); refine goesL9 (some 13) rfl rfl Try.func113 (by kernel_rfl) rfl #[.slice Ao18 t101.length co18, .int .i64 a1, .int .i64 a2] rfl ?_; (with_reducible refine (rel_in.calls _ _ t101 a1 a2 false _ ?side1 ?side2 A5.out).mono ?_); (case side1 => exact lp9 (Kd.R_reads' HO103.out).2.2); (case side2 => exact (Kd.R_reads' HO103.out).2.1); rintro e w' ⟨rfl, ⟨nd, rfl⟩⟩; refine ⟨_, rfl, ?_⟩))
  go_ret
  exact ⟨_, rt9, by (with_reducible repeat (first | apply Kd.R_alloc | apply Kd.R_drewN | apply Kd.R_drew)); exact HO103.out, bp9 HB.out⟩
mutual
def rel_Plus.l0 : Nat → List Int → Int → Int → Option (List Int)
 | 0, _, _, _ => none
 | k + 1, x3, x9, x10 => if x10 < x9 then (rel_Plus.l1 k x3 x10 x9 x10 (x3.length : Int) 0) else (some x3)
def rel_Plus.l1 : Nat → List Int → Int → Int → Int → Int → Int → Option (List Int)
 | 0, _, _, _, _, _, _ => none
 | k + 1, x3, x4, x9, x10, x14, x15 => if x15 < x14 then (if 0 ≤ x15 then (if x15 < (x3.length : Int) then (if 0 ≤ (IntKind.u64.wrap (x4)) then (if (Go.bits .and .u32 (shr .u32 (rd x3 x15) (IntKind.u64.wrap (x4))) 1) = 1 then (if 0 ≤ x4 then (if x4 < (x3.length : Int) then (rel_Plus.l1 k (x3.set (x15 : Int).toNat (Go.bits .or .u32 (rd x3 x15) (rd x3 x4))) x4 x9 x10 x14 (wrap64 (x15 + 1))) else (none)) else (none)) else (rel_Plus.l1 k x3 x4 x9 x10 x14 (wrap64 (x15 + 1)))) else (none)) else (none)) else (none)) else (rel_Plus.l0 k x3 x9 (wrap64 (x10 + 1)))
end
def rel_Plus.f (k : Nat) (l0 : List Int) : Option (List Int) := (rel_clean.f k l0).bind fun t101 => (rel_Plus.l0 k t101 (t101.length : Int) 0)
def rel_Plus.T9 : Bool × List (List Nat × List Nat) := (true, [([], []), ([], []), ([0, 1], [0, 1]), ([2], [2]), ([], []), ([], []), ([4, 5], [4, 5]), ([6], [6]), ([3, 7], [3, 7]), ([0, 1, 0, 1, 2, 3, 4, 5, 6, 7, 8], [0, 1]), ([9, 8, 0, 1, 2, 3, 4, 5, 6, 7, 8], [8, 9])])
def rel_Plus.B9 : List Nat := [0, 0, 3, 7, 0, 0, 48, 112, 255, 511, 1023]
theorem rel_Plus.tab9 : rtab .any (opsOf Try.f52 9) = rel_Plus.T9 := by kernel_rfl
theorem rel_Plus.bits9 : waitsOk rel_Plus.T9.2 rel_Plus.B9 = true := by kernel_rfl
theorem rel_Plus.calls (k : Nat) (A0 : Option Addr) (c0 : Nat) (l0 : List Int) (r : List Int) (w : World) (hr0 : Kd.C (Kd.int .u32) w A0 l0.length l0) (hc0 : l0.length ≤ c0) (h : rel_Plus.f k l0 = some r) :
  Calls Try.prog 52 #[.slice A0 l0.length c0] w fun e w' => ∃ v0_ : Value, e = .returned (v0_) ∧ Kd.R (Kd.int .u32) 52 w' w.heap.size (fun _ => True) v0_ r ∧ Below w.heap.size w w' := by
 have HR0 := a9_ hr0
 have HC0 := a9_ hc0
 clear hr0 hc0
 have HB := a9_ (Below.refl w.heap.size w)
 have H : ((rel_clean.f k l0).bind fun t101 => (rel_Plus.l0 k t101 (t101.length : Int) 0)) = some r := h
 clear h
 replace H := Option.bind_eq_some_iff.mp H
 obtain ⟨t101, A20, H⟩ := H
 have A2 := a9_ A20
 clear A20
 have H' := a9_ H
 clear H
 go_enter Try.func52, Try.ntmps52
 go_wp2_with (first | ((with_reducible refine gate_callee (f := 112) rfl ?_); refine goesL9 (some 7) rfl rfl Try.func112 (by kernel_rfl) rfl #[.slice A0 l0.length c0] rfl ?_; (with_reducible refine (rel_clean.calls k _ _ l0 t101 _ ?side1 ?side2 A2.out).mono ?_); (case side1 => repeat (first | exact HR0.out | (with_reducible refine Kd.C_alloc ?_ _) | (with_reducible refine Kd.C_drewN ?_ _) | (with_reducible refine Kd.C_drew ?_))); (case side2 => exact HC0.out); rintro e w3 ⟨v102, rfl, ho0, hb⟩; refine ⟨_, rfl, ?_⟩; have n0_ := a9_ (Kd.R_lower ho0 (below_size (bp9 HB.out))); have n1_ := a9_ (below_step (bp9 HB.out) hb); clear HB; have HO103 := n0_; have HB := n1_; clear n0_ n1_; (try clear hb); (try clear ho0); obtain ⟨Ao4, co4, eo4⟩ := Kd.R_slice HO103.out; subst eo4))
 go_loopg [10] k (fun kq v10 w' => ∃ (x3_1 : List Int) (x10_1 : Int), v10 = .int .i64 x10_1 ∧ Aside0 (rel_Plus.l0 kq x3_1 (t101.length : Int) x10_1 = some r) ∧ Aside0 (kq ≤ k) ∧ Aside0 (Kd.R (Kd.int .u32) 52 w' w.heap.size (fun _ => True) (.slice Ao4 t101.length co4) x3_1) ∧ Aside0 (Below w.heap.size w w'))
 case atStart => exact ⟨(t101), (0), rs9, H', ⟨Nat.le_refl _⟩, ⟨rp9 HO103.out⟩, ⟨bp9 HB.out⟩⟩
 case round =>
  clear H'
  try clear c1
  try clear p2
  obtain ⟨x3_1, x10_1, rfl, HA, HK1, HO_3, HB⟩ := hrel
  have hl3_1 := (Kd.R_reads' HO_3.out).1
  rw [hl3_1] at HO_3
  (try simp only [hl3_1])
  cases gk with
  | zero => exact absurd HA.out (by simp [rel_Plus.l0])
  | succ k1 =>
   have H := HA.out
   clear HA
   simp only [rel_Plus.l0] at H
   by_cases c5 : x10_1 < (t101.length : Int)
   ·rw [if_pos c5] at H
    have c5b0 : decide (x10_1 < (t101.length : Int)) = true := decide_eq_true c5
    (try (have c5b0z := c5b0; simp only [hl3_1] at c5b0z))
    clear c5
    have H' := a9_ H
    clear H
    go_wp2
    go_loopg [15] k1 (fun kq v15 w' => ∃ (x3_2 : List Int) (x15_2 : Int), v15 = .int .i64 x15_2 ∧ Aside0 (rel_Plus.l1 kq x3_2 x10_1 (t101.length : Int) x10_1 (x3_1.length : Int) x15_2 = some r) ∧ Aside0 (kq ≤ k1) ∧ Aside0 (Kd.R (Kd.int .u32) 52 w' w.heap.size (fun _ => True) (.slice Ao4 x3_1.length co4) x3_2) ∧ Aside0 (Below w.heap.size w w'))
    case atStart => exact ⟨(x3_1), (0), rs9, H', ⟨Nat.le_refl _⟩, ⟨by (try simp only [hl3_1]); (with_reducible repeat (first | apply Kd.R_alloc | apply Kd.R_drewN | apply Kd.R_drew)); exact HO_3.out⟩, ⟨bp9 HB.out⟩⟩
    case round =>
     clear H'
     try clear c1
     try clear p2
     try clear c5
     try clear c5b0
     try clear p2
     obtain ⟨x3_2, x15_2, rfl, HA, HK2, HO_3, HB⟩ := hrel
     have hl3_2 := (Kd.R_reads' HO_3.out).1
     rw [hl3_2] at HO_3
     (try simp only [hl3_2])
     cases gk with
     | zero => exact absurd HA.out (by simp [rel_Plus.l1])
     | succ k2 =>
      have H := HA.out
      clear HA
      simp only [rel_Plus.l1] at H
      by_cases c6 : x15_2 < (x3_1.length : Int)
      ·rw [if_pos c6] at H
       have c6b0 : decide (x15_2 < (x3_1.length : Int)) = true := decide_eq_true c6
       (try (have c6b0z := c6b0; simp only [hl3_1, hl3_2] at c6b0z))
       clear c6
       by_cases c7 : 0 ≤ x15_2
       ·rw [if_pos c7] at H
        have c7b0 : decide (0 ≤ x15_2) = true := decide_eq_true c7
        (try (have c7b0z := c7b0; simp only [hl3_1, hl3_2] at c7b0z))
        clear c7
        by_cases c8 : x15_2 < (x3_2.length : Int)
        ·rw [if_pos c8] at H
         have c8b0 : decide (x15_2 < (x3_2.length : Int)) = true := decide_eq_true c8
         (try (have c8b0z := c8b0; simp only [hl3_1, hl3_2] at c8b0z))
         clear c8
         obtain ⟨ji9, hji9⟩ : ∃ j_ : Int, (IntKind.u64.wrap (x10_1)) = j_ := ⟨_, rfl⟩
         replace H : (if 0 ≤ (ji9) then (if (Go.bits .and .u32 (shr .u32 (rd x3_2 x15_2) (ji9)) 1) = 1 then (if 0 ≤ x10_1 then (if x10_1 < (x3_2.length : Int) then (rel_Plus.l1 k2 (x3_2.set (x15_2 : Int).toNat (Go.bits .or .u32 (rd x3_2 x15_2) (rd x3_2 x10_1))) x10_1 (t101.length : Int) x10_1 (x3_1.length : Int) (wrap64 (x15_2 + 1))) else (none)) else (none)) else (rel_Plus.l1 k2 x3_2 x10_1 (t101.length : Int) x10_1 (x3_1.length : Int) (wrap64 (x15_2 + 1)))) else (none)) = some r := by first | (rw [hji9] at H; exact H) | (simp only [hji9] at H ⊢; exact H)
         by_cases c10 : 0 ≤ (ji9)
         ·rw [if_pos c10] at H
          have c10b0 := eq_true c10
          have c10b1 : decide (0 ≤ (ji9)) = true := decide_eq_true c10
          clear c10
          obtain ⟨ji11, hji11⟩ : ∃ j_ : Int, (shr .u32 (rd x3_2 x15_2) (ji9)) = j_ := ⟨_, rfl⟩
          replace H : (if (Go.bits .and .u32 (ji11) 1) = 1 then (if 0 ≤ x10_1 then (if x10_1 < (x3_2.length : Int) then (rel_Plus.l1 k2 (x3_2.set (x15_2 : Int).toNat (Go.bits .or .u32 (rd x3_2 x15_2) (rd x3_2 x10_1))) x10_1 (t101.length : Int) x10_1 (x3_1.length : Int) (wrap64 (x15_2 + 1))) else (none)) else (none)) else (rel_Plus.l1 k2 x3_2 x10_1 (t101.length : Int) x10_1 (x3_1.length : Int) (wrap64 (x15_2 + 1)))) = some r := by first | (rw [hji11] at H; exact H) | (simp only [hji11] at H ⊢; exact H)
          have hji11_ : ((rd x3_2 x15_2) / 2 ^ min (ji9).toNat 32) = ji11 := hji11
          have hji11z : (ji9) ≤ 32 → ((rd x3_2 x15_2) / 2 ^ (ji9).toNat) = ji11 := shr_small hji11
          by_cases c12 : (Go.bits .and .u32 (ji11) 1) = 1
          ·rw [if_pos c12] at H
           have c12b0 : ((Go.bits .and .u32 (ji11) 1) == 1) = true := beq_iff_eq.mpr c12
           (try (have c12b0z := c12b0; simp only [hl3_1, hl3_2] at c12b0z))
           have c12b1 : ((Go.bits .and .u32 (ji11) 1) != 1) = false := bne_eq_false_iff_eq.mpr c12
           (try (have c12b1z := c12b1; simp only [hl3_1, hl3_2] at c12b1z))
           clear c12
           by_cases c13 : 0 ≤ x10_1
           ·rw [if_pos c13] at H
            have c13b0 : decide (0 ≤ x10_1) = true := decide_eq_true c13
            (try (have c13b0z := c13b0; simp only [hl3_1, hl3_2] at c13b0z))
            clear c13
            by_cases c14 : x10_1 < (x3_2.length : Int)
            ·rw [if_pos c14] at H
             have c14b0 : decide (x10_1 < (x3_2.length : Int)) = true := decide_eq_true c14
             (try (have c14b0z := c14b0; simp only [hl3_1, hl3_2] at c14b0z))
             clear c14
             obtain ⟨y107, hy107⟩ : ∃ y_ : List Int, y_ = (x3_2.set (x15_2 : Int).toNat (Go.bits .or .u32 (rd x3_2 x15_2) (rd x3_2 x10_1))) := ⟨_, rfl⟩
             replace H : (rel_Plus.l1 k2 y107 x10_1 (t101.length : Int) x10_1 (x3_1.length : Int) (wrap64 (x15_2 + 1))) = some r := by first | (rw [hy107]; with_reducible exact H) | (have H2_ := (Option.bind_some _ _).symm.trans H; rw [hy107]; with_reducible exact H2_) | (have H2_ := (Option.bind_some _ _).symm.trans H; with_reducible exact H2_) | with_reducible exact H | (rw [hy107]; exact H) | exact H
             have Ny107 := a9_ hy107
             clear hy107
             have H' := a9_ H
             clear H
             have p104 : 0 ≤ (x15_2 : Int) := of_decide_eq_true (by first | (with_reducible assumption) | assumption)
             have q104 : x15_2 < (x3_2.length : Int) := of_decide_eq_true (by first | (with_reducible assumption) | assumption)
             obtain ⟨ad104, e104, hx104_0⟩ := Kd.at_int (Kd.R_reads' HO_3.out).2.2 x15_2 p104 q104
             cases e104
             replace p104 := eq_true p104
             replace q104 := eq_true q104
             try go_wp2
             have n0_ := a9_ (Kd.R_drew HO_3.out)
             have n1_ := a9_ (below_drew1 HB.out)
             clear HO_3 HB
             revert n0_ n1_; intro HO_3 HB
             have p105 : 0 ≤ (x15_2 : Int) := of_decide_eq_true (by first | (with_reducible assumption) | assumption)
             have q105 : x15_2 < (x3_2.length : Int) := of_decide_eq_true (by first | (with_reducible assumption) | assumption)
             obtain ⟨ad105, e105, hx105_0⟩ := Kd.at_int (Kd.R_reads' HO_3.out).2.2 x15_2 p105 q105
             obtain rfl : ad104 = ad105 := (by injection e105)
             replace p105 := eq_true p105
             replace q105 := eq_true q105
             have p106 : 0 ≤ (x10_1 : Int) := of_decide_eq_true (by first | (with_reducible assumption) | assumption)
             have q106 : x10_1 < (x3_2.length : Int) := of_decide_eq_true (by first | (with_reducible assumption) | assumption)
             obtain ⟨ad106, e106, hx106_0⟩ := Kd.at_int (Kd.R_reads' HO_3.out).2.2 x10_1 p106 q106
             obtain rfl : ad104 = ad106 := (by injection e106)
             replace p106 := eq_true p106
             replace q106 := eq_true q106
             have p15 : 0 ≤ (x15_2 : Int) := of_decide_eq_true (by first | (with_reducible assumption) | assumption)
             have q15 : (x15_2 : Int) < ((x3_2.length : Int) : Int) := of_decide_eq_true (by first | (with_reducible assumption) | assumption)
             obtain ⟨go15, co15, eo15, gb15, gl15, cl15, HG15⟩ := Kd.R_form HO_3.out (by omega)
             (first | cases eo15 | (injection eo15 with ea_ en_ ec_; (first | subst ea_ | (injection ea_ with ea_; subst ea_)); subst ec_; clear en_))
             have GB15 := a9_ gb15
             have GG15 := a9_ HG15
             clear gb15 gl15 HG15
             (first | simp only [add_plain] at hx104_0 | skip)
             (first | simp only [add_plain] at hx105_0 | skip)
             (first | simp only [add_plain] at hx106_0 | skip)
             obtain ⟨hx15_0, hf15_0⟩ := Kd.R_celln 0 HO_3.out (x15_2 : Int) p15 q15
             replace p15 := eq_true p15
             replace q15 := eq_true q15
             have HP17 := Kd.R_putn HO_3.out (x15_2 : Int) (Go.bits .or .u32 (rd x3_2 x15_2) (rd x3_2 x10_1))
             rw [← Ny107.out] at HP17
             have HQ17 := a9_ HP17
             clear HP17
             refine start_ (n := 11) (S := fun w' => w'.cell? ⟨go15, (x15_2).toNat, none⟩ = some (.int .u32 (rd x3_2 x15_2)) ∧ w'.cell? ⟨go15, (x10_1).toNat, none⟩ = some (.int .u32 (rd x3_2 x10_1))) (ds := [10]) #[o9, o9, o9, o9, o9, o9, o9, o9, o9, o9, o9] (by kernel_rfl) rfl rfl ⟨hx105_0, hx106_0⟩ (fun hHeld => ?_); refine with_tabW rel_Plus.tab9 rel_Plus.bits9 (fun HT_ HW_ => ?_)
             generalize wr.drew = w16 at HO_3 HB GG15 HQ17 hf15_0 hx104_0 hx105_0 hx106_0 hx15_0 hHeld ⊢
             refine pureA 0 (some 27) ?_ #[i9, o9, o9, o9, o9, o9, o9, o9, o9, o9, o9] rfl rfl (any_of HT_.out (by kernel_rfl)) ?_ ?_ ?_ ?_
             rotate_left
             ·intro w'; go_simp; with_reducible rfl
             rotate_left
             ·exact put9
             refine pureA 1 (some 28) ?_ #[i9, i9, o9, o9, o9, o9, o9, o9, o9, o9, o9] rfl rfl (any_of HT_.out (by kernel_rfl)) ?_ ?_ ?_ ?_
             rotate_left
             ·intro w'; go_simp; with_reducible rfl
             rotate_left
             ·exact put9
             refine pureA 2 (some 29) ?_ #[i9, i9, i9, o9, o9, o9, o9, o9, o9, o9, o9] rfl rfl (any_of HT_.out (by kernel_rfl)) ?_ ?_ ?_ ?_
             rotate_left
             ·intro w'; go_simp; with_reducible rfl
             rotate_left
             ·exact put9
             refine pureA 4 (some 31) ?_ #[i9, i9, i9, o9, i9, o9, o9, o9, o9, o9, o9] rfl rfl (any_of HT_.out (by kernel_rfl)) ?_ ?_ ?_ ?_
             rotate_left
             ·intro w'; go_simp; with_reducible rfl
             rotate_left
             ·exact put9
             refine pureA 5 (some 32) ?_ #[i9, i9, i9, o9, i9, i9, o9, o9, o9, o9, o9] rfl rfl (any_of HT_.out (by kernel_rfl)) ?_ ?_ ?_ ?_
             rotate_left
             ·intro w'; go_simp; with_reducible rfl
             rotate_left
             ·exact put9
             refine pureA 6 (some 33) ?_ #[i9, i9, i9, o9, i9, i9, i9, o9, o9, o9, o9] rfl rfl (any_of HT_.out (by kernel_rfl)) ?_ ?_ ?_ ?_
             rotate_left
             ·intro w'; go_simp; with_reducible rfl
             rotate_left
             ·exact put9
             refine take_ (i := 3) (N := some 30) (v := ?_) (a' := ?_) #[i9, i9, i9, i9, i9, i9, i9, o9, o9, o9, o9] rfl rfl (take_ofW HT_.out HW_.out (by kernel_rfl)) (fun _ _ _ h => h) (Or.inl ⟨by rfl, ?_⟩) hHeld ?_ ?_
             rotate_left
             ·rintro w' ⟨s0, s1⟩
              go_simp
              with_reducible rfl
             rotate_left
             ·exact put9
             refine take_ (i := 7) (N := some 34) (v := ?_) (a' := ?_) #[i9, i9, i9, i9, i9, i9, i9, i9, o9, o9, o9] rfl rfl (take_ofW HT_.out HW_.out (by kernel_rfl)) (fun _ _ _ h => h) (Or.inl ⟨by rfl, ?_⟩) hHeld ?_ ?_
             rotate_left
             ·rintro w' ⟨s0, s1⟩
              go_simp
              with_reducible rfl
             rotate_left
             ·exact put9
             refine pureA 8 (some 35) ?_ #[i9, i9, i9, i9, i9, i9, i9, i9, i9, o9, o9] rfl rfl (any_of HT_.out (by kernel_rfl)) ?_ ?_ ?_ ?_
             rotate_left
             ·intro w'; go_simp; with_reducible rfl
             rotate_left
             ·exact put9
             refine pureA 9 (some 36) ?_ #[i9, i9, i9, i9, i9, i9, i9, i9, i9, i9, o9] rfl rfl (any_of HT_.out (by kernel_rfl)) ?_ ?_ ?_ ?_
             rotate_left
             ·intro w'; go_simp; with_reducible rfl
             rotate_left
             ·exact put9
             refine last_ (i := 10) (N := none) #[i9, i9, i9, i9, i9, i9, i9, i9, i9, i9, i9] rfl rfl (one_of HT_.out (by kernel_rfl)) (by decide) (fun K hK => ?_)
             refine skip_ (w1 := ?_) (by rfl) rfl ?_ ?_
             rotate_left
             ·go_simp
              rfl
             refine hK.out _ _ ?_
             clear hK K
             refine done_ (done_of HT_.out (by kernel_rfl)) ?_
             try go_wp2
             (try simp only [← hl3_2])
             go_roundg k2
             case measure => have := HK1.out; have := HK2.out; omega
             case rel => exact ⟨(y107), (wrap64 (x15_2 + 1)), rs9, H', ⟨by have := HK1.out; have := HK2.out; omega⟩, ⟨by (try simp only [hl3_1]); (try simp only [hl3_2]); (with_reducible repeat (first | apply Kd.R_alloc | apply Kd.R_drewN | apply Kd.R_drew)); exact HQ17.out⟩, ⟨by repeat (first | (with_reducible first | exact HB.out | apply below_alloc | apply pw_below_drewN | apply below_drew1 | refine below_set ?_ GB15.out) | exact HB.out)⟩⟩
            ·rw [if_neg c14] at H
             exact absurd H (by simp)
           ·rw [if_neg c13] at H
            exact absurd H (by simp)
          ·rw [if_neg c12] at H
           have c12b0 : ((Go.bits .and .u32 (ji11) 1) == 1) = false := beq_eq_false_iff_ne.mpr c12
           (try (have c12b0z := c12b0; simp only [hl3_1, hl3_2] at c12b0z))
           have c12b1 : ((Go.bits .and .u32 (ji11) 1) != 1) = true := bne_iff_ne.mpr c12
           (try (have c12b1z := c12b1; simp only [hl3_1, hl3_2] at c12b1z))
           have H' := a9_ H
           clear H
           have p104 : 0 ≤ (x15_2 : Int) := of_decide_eq_true (by first | (with_reducible assumption) | assumption)
           have q104 : x15_2 < (x3_2.length : Int) := of_decide_eq_true (by first | (with_reducible assumption) | assumption)
           obtain ⟨ad104, e104, hx104_0⟩ := Kd.at_int (Kd.R_reads' HO_3.out).2.2 x15_2 p104 q104
           cases e104
           replace p104 := eq_true p104
           replace q104 := eq_true q104
           go_wp2
           (try simp only [← hl3_2])
           go_roundg k2
           case measure => have := HK1.out; have := HK2.out; omega
           case rel => exact ⟨(x3_2), (wrap64 (x15_2 + 1)), rs9, H', ⟨by have := HK1.out; have := HK2.out; omega⟩, ⟨by (try simp only [hl3_1]); (try simp only [hl3_2]); (with_reducible repeat (first | apply Kd.R_alloc | apply Kd.R_drewN | apply Kd.R_drew)); exact HO_3.out⟩, ⟨bp9 HB.out⟩⟩
         ·rw [if_neg c10] at H
          exact absurd H (by simp)
        ·rw [if_neg c8] at H
         exact absurd H (by simp)
       ·rw [if_neg c7] at H
        exact absurd H (by simp)
      ·rw [if_neg c6] at H
       have c6b0 : decide (x15_2 < (x3_1.length : Int)) = false := decide_eq_false c6
       (try (have c6b0z := c6b0; simp only [hl3_1, hl3_2] at c6b0z))
       clear c6
       have H' := a9_ H
       clear H
       go_wp2
       (try simp only [← hl3_1, ← hl3_2])
       go_roundg k2
       case measure => have := HK1.out; have := HK2.out; omega
       case rel => exact ⟨(x3_2), (wrap64 (x10_1 + 1)), rs9, H', ⟨by have := HK1.out; have := HK2.out; omega⟩, ⟨by (try simp only [hl3_1]); (try simp only [hl3_2]); (with_reducible repeat (first | apply Kd.R_alloc | apply Kd.R_drewN | apply Kd.R_drew)); exact HO_3.out⟩, ⟨bp9 HB.out⟩⟩
   ·rw [if_neg c5] at H
    have c5b0 : decide (x10_1 < (t101.length : Int)) = false := decide_eq_false c5
    (try (have c5b0z := c5b0; simp only [hl3_1] at c5b0z))
    clear c5
    obtain rfl := Option.some.inj H
    go_wp2
    go_ret
    exact ⟨_, rt9, by (with_reducible repeat (first | apply Kd.R_alloc | apply Kd.R_drewN | apply Kd.R_drew)); exact HO_3.out, bp9 HB.out⟩
def rel_Acyclic.l0 : Nat → List Int → Int → Int → Option (Bool)
 | 0, _, _, _ => none
 | k + 1, x6, x7, x8 => if x8 < x7 then (if 0 ≤ x8 then (if x8 < (x6.length : Int) then (if 0 ≤ (IntKind.u64.wrap (x8)) then (if (Go.bits .and .u32 (shr .u32 (rd x6 x8) (IntKind.u64.wrap (x8))) 1) = 1 then (some false) else (rel_Acyclic.l0 k x6 x7 (wrap64 (x8 + 1)))) else (none)) else (none)) else (none)) else (some true)
def rel_Acyclic.f (k : Nat) (l0 : List Int) : Option (Bool) := (rel_Plus.f k l0).bind fun t101 => (rel_Acyclic.l0 k t101 (t101.length : Int) 0)
theorem rel_Acyclic.calls (k : Nat) (A0 : Option Addr) (c0 : Nat) (l0 : List Int) (r : Bool) (w : World) (hr0 : Kd.C (Kd.int .u32) w A0 l0.length l0) (hc0 : l0.length ≤ c0) (h : rel_Acyclic.f k l0 = some r) :
  Calls Try.prog 44 #[.slice A0 l0.length c0] w fun e w' => e = .returned (.bool r) ∧ Below w.heap.size w w' := by
 have HR0 := a9_ hr0
 have HC0 := a9_ hc0
 clear hr0 hc0
 have HB := a9_ (Below.refl w.heap.size w)
 have H : ((rel_Plus.f k l0).bind fun t101 => (rel_Acyclic.l0 k t101 (t101.length : Int) 0)) = some r := h
 clear h
 replace H := Option.bind_eq_some_iff.mp H
 obtain ⟨t101, A20, H⟩ := H
 have A2 := a9_ A20
 clear A20
 have H' := a9_ H
 clear H
 go_enter Try.func44, Try.ntmps44
 go_wp2_with (first | ((with_reducible refine gate_callee (f := 52) rfl ?_); refine goesL9 (some 6) rfl rfl Try.func52 (by kernel_rfl) rfl #[.slice A0 l0.length c0] rfl ?_; (with_reducible refine (rel_Plus.calls k _ _ l0 t101 _ ?side1 ?side2 A2.out).mono ?_); (case side1 => repeat (first | exact HR0.out | (with_reducible refine Kd.C_alloc ?_ _) | (with_reducible refine Kd.C_drewN ?_ _) | (with_reducible refine Kd.C_drew ?_))); (case side2 => exact HC0.out); rintro e w3 ⟨v102, rfl, ho0, hb⟩; refine ⟨_, rfl, ?_⟩; have n0_ := a9_ (Kd.R_lower ho0 (below_size (bp9 HB.out))); have n1_ := a9_ (below_step (bp9 HB.out) hb); clear HB; have HO103 := n0_; have HB := n1_; clear n0_ n1_; (try clear hb); (try clear ho0); obtain ⟨Ao4, co4, eo4⟩ := Kd.R_slice HO103.out; subst eo4))
 go_loopg [8] k (fun kq v8 w' => ∃ (x8_1 : Int), v8 = .int .i64 x8_1 ∧ Aside0 (rel_Acyclic.l0 kq t101 (t101.length : Int) x8_1 = some r) ∧ Aside0 (kq ≤ k) ∧ Aside0 (Kd.R (Kd.int .u32) 52 w' w.heap.size (fun _ => True) (.slice Ao4 t101.length co4) t101) ∧ Aside0 (Below w.heap.size w w'))
 case atStart => exact ⟨(0), rs9, H', ⟨Nat.le_refl _⟩, ⟨rp9 HO103.out⟩, ⟨bp9 HB.out⟩⟩
 case round =>
  clear H'
  try clear p2
  try clear c4
  obtain ⟨x8_1, rfl, HA, HK1, HO_6, HB⟩ := hrel
  cases gk with
  | zero => exact absurd HA.out (by simp [rel_Acyclic.l0])
  | succ k1 =>
   have H := HA.out
   clear HA
   simp only [rel_Acyclic.l0] at H
   by_cases c5 : x8_1 < (t101.length : Int)
   ·rw [if_pos c5] at H
    have c5b0 : decide (x8_1 < (t101.length : Int)) = true := decide_eq_true c5
    clear c5
    by_cases c6 : 0 ≤ x8_1
    ·rw [if_pos c6] at H
     have c6b0 : decide (0 ≤ x8_1) = true := decide_eq_true c6
     clear c6
     by_cases c7 : x8_1 < (t101.length : Int)
     ·rw [if_pos c7] at H
      have c7b0 : decide (x8_1 < (t101.length : Int)) = true := decide_eq_true c7
      clear c7
      obtain ⟨ji8, hji8⟩ : ∃ j_ : Int, (IntKind.u64.wrap (x8_1)) = j_ := ⟨_, rfl⟩
      replace H : (if 0 ≤ (ji8) then (if (Go.bits .and .u32 (shr .u32 (rd t101 x8_1) (ji8)) 1) = 1 then (some false) else (rel_Acyclic.l0 k1 t101 (t101.length : Int) (wrap64 (x8_1 + 1)))) else (none)) = some r := by first | (rw [hji8] at H; exact H) | (simp only [hji8] at H ⊢; exact H)
      by_cases c9 : 0 ≤ (ji8)
      ·rw [if_pos c9] at H
       have c9b0 := eq_true c9
       have c9b1 : decide (0 ≤ (ji8)) = true := decide_eq_true c9
       clear c9
       obtain ⟨ji10, hji10⟩ : ∃ j_ : Int, (shr .u32 (rd t101 x8_1) (ji8)) = j_ := ⟨_, rfl⟩
       replace H : (if (Go.bits .and .u32 (ji10) 1) = 1 then (some false) else (rel_Acyclic.l0 k1 t101 (t101.length : Int) (wrap64 (x8_1 + 1)))) = some r := by first | (rw [hji10] at H; exact H) | (simp only [hji10] at H ⊢; exact H)
       have hji10_ : ((rd t101 x8_1) / 2 ^ min (ji8).toNat 32) = ji10 := hji10
       have hji10z : (ji8) ≤ 32 → ((rd t101 x8_1) / 2 ^ (ji8).toNat) = ji10 := shr_small hji10
       by_cases c11 : (Go.bits .and .u32 (ji10) 1) = 1
       ·rw [if_pos c11] at H
        have c11b0 : ((Go.bits .and .u32 (ji10) 1) == 1) = true := beq_iff_eq.mpr c11
        have c11b1 : ((Go.bits .and .u32 (ji10) 1) != 1) = false := bne_eq_false_iff_eq.mpr c11
        clear c11
        obtain rfl := Option.some.inj H
        have p104 : 0 ≤ (x8_1 : Int) := of_decide_eq_true (by first | (with_reducible assumption) | assumption)
        have q104 : x8_1 < (t101.length : Int) := of_decide_eq_true (by first | (with_reducible assumption) | assumption)
        obtain ⟨ad104, e104, hx104_0⟩ := Kd.at_int (Kd.R_reads' HO_6.out).2.2 x8_1 p104 q104
        cases e104
        replace p104 := eq_true p104
        replace q104 := eq_true q104
        go_wp2
        go_ret
        exact ⟨by first | rfl | (simp [errW_none, errW_some] <;> rfl) | (simp only [← hji8, ← hji10]; first | rfl | (simp [errW_none, errW_some] <;> rfl)) | (simp [*, errW_none, errW_some] <;> rfl), bp9 HB.out⟩
       ·rw [if_neg c11] at H
        have c11b0 : ((Go.bits .and .u32 (ji10) 1) == 1) = false := beq_eq_false_iff_ne.mpr c11
        have c11b1 : ((Go.bits .and .u32 (ji10) 1) != 1) = true := bne_iff_ne.mpr c11
        have H' := a9_ H
        clear H
        have p104 : 0 ≤ (x8_1 : Int) := of_decide_eq_true (by first | (with_reducible assumption) | assumption)
        have q104 : x8_1 < (t101.length : Int) := of_decide_eq_true (by first | (with_reducible assumption) | assumption)
        obtain ⟨ad104, e104, hx104_0⟩ := Kd.at_int (Kd.R_reads' HO_6.out).2.2 x8_1 p104 q104
        cases e104
        replace p104 := eq_true p104
        replace q104 := eq_true q104
        go_wp2
        go_roundg k1
        case measure => have := HK1.out; omega
        case rel => exact ⟨(wrap64 (x8_1 + 1)), rs9, H', ⟨by have := HK1.out; omega⟩, ⟨rp9 HO_6.out⟩, ⟨bp9 HB.out⟩⟩
      ·rw [if_neg c9] at H
       exact absurd H (by simp)
     ·rw [if_neg c7] at H
      exact absurd H (by simp)
    ·rw [if_neg c6] at H
     exact absurd H (by simp)
   ·rw [if_neg c5] at H
    have c5b0 : decide (x8_1 < (t101.length : Int)) = false := decide_eq_false c5
    clear c5
    obtain rfl := Option.some.inj H
    go_wp2
    go_ret
    exact ⟨by first | rfl | (simp [errW_none, errW_some] <;> rfl) | (simp [*, errW_none, errW_some] <;> rfl), bp9 HB.out⟩
def rel_Same.f (k : Nat) (l0 : List Int) (l1 : List Int) : Option (Bool) := (rel_clean.f k l0).bind fun t101 => ((rel_clean.f k l1).bind fun t104 => ((rel_Rel_uint32.f k t101 t104).bind fun t107 => (some t107)))
theorem rel_Same.calls (k : Nat) (A0 : Option Addr) (c0 : Nat) (l0 : List Int) (A1 : Option Addr) (c1 : Nat) (l1 : List Int) (r : Bool) (w : World) (hr0 : Kd.C (Kd.int .u32) w A0 l0.length l0) (hc0 : l0.length ≤ c0) (hr1 : Kd.C (Kd.int .u32) w A1 l1.length l1) (hc1 : l1.length ≤ c1) (h : rel_Same.f k l0 l1 = some r) :
  Calls Try.prog 41 #[.slice A0 l0.length c0, .slice A1 l1.length c1] w fun e w' => e = .returned (.bool r) ∧ Below w.heap.size w w' := by
 have HR0 := a9_ hr0
 have HC0 := a9_ hc0
 clear hr0 hc0
 have HR1 := a9_ hr1
 have HC1 := a9_ hc1
 clear hr1 hc1
 have HB := a9_ (Below.refl w.heap.size w)
 have H : ((rel_clean.f k l0).bind fun t101 => ((rel_clean.f k l1).bind fun t104 => ((rel_Rel_uint32.f k t101 t104).bind fun t107 => (some t107)))) = some r := h
 clear h
 replace H := Option.bind_eq_some_iff.mp H
 obtain ⟨t101, A30, H⟩ := H
 have A3 := a9_ A30
 clear A30
 replace H := Option.bind_eq_some_iff.mp H
 obtain ⟨t104, A40, H⟩ := H
 have A4 := a9_ A40
 clear A40
 replace H := Option.bind_eq_some_iff.mp H
 obtain ⟨t107, A50, H⟩ := H
 have A5 := a9_ A50
 clear A50
 obtain rfl := Option.some.inj H
 go_enter Try.func41, Try.ntmps41
 go_wp2_with (first | ((with_reducible refine gate_callee (f := 112) rfl ?_); refine goesL9 (some 6) rfl rfl Try.func112 (by kernel_rfl) rfl #[.slice A0 l0.length c0] rfl ?_; (with_reducible refine (rel_clean.calls k _ _ l0 t101 _ ?side1 ?side2 A3.out).mono ?_); (case side1 => repeat (first | exact HR0.out | (with_reducible refine Kd.C_alloc ?_ _) | (with_reducible refine Kd.C_drewN ?_ _) | (with_reducible refine Kd.C_drew ?_))); (case side2 => exact HC0.out); rintro e w6 ⟨v102, rfl, ho0, hb⟩; refine ⟨_, rfl, ?_⟩; have n0_ := a9_ (Kd.R_lower ho0 (below_size (bp9 HB.out))); have n1_ := a9_ (below_step (bp9 HB.out) hb); clear HB; have HO103 := n0_; have HB := n1_; clear n0_ n1_; (try clear hb); (try clear ho0)) | ((with_reducible refine gate_callee (f := 112) rfl ?_); refine goesL9 (some 8) rfl rfl Try.func112 (by kernel_rfl) rfl #[.slice A1 l1.length c1] rfl ?_; (with_reducible refine (rel_clean.calls k _ _ l1 t104 _ ?side1 ?side2 A4.out).mono ?_); (case side1 => exact cp9 HR1.out HB.out); (case side2 => exact HC1.out); rintro e w7 ⟨v105, rfl, ho0, hb⟩; refine ⟨_, rfl, ?_⟩; have n0_ := a9_ (Kd.R_elder' (rp9 HO103.out) (Kd.R_base ho0) hb); have n1_ := a9_ (Kd.R_lower (Kd.R_new' ho0 (Kd.R_lt (rp9 HO103.out))) (below_size (bp9 HB.out))); have n2_ := a9_ (below_step (bp9 HB.out) hb); clear HO103; clear HB; have HO103 := n0_; have HO106 := n1_; have HB := n2_; clear n0_ n1_ n2_; (try clear hb); (try clear ho0); obtain ⟨Ao8, co8, eo8⟩ := Kd.R_slice HO103.out; subst eo8; obtain ⟨Ao9, co9, eo9⟩ := Kd.R_slice HO106.out; subst eo9) | ((with_reducible refine gate_callee (f := 114) rfl ?_); refine goesL9 (some 9) rfl rfl Try.func114 (by kernel_rfl) rfl #[.slice Ao8 t101.length co8, .slice Ao9 t104.length co9] rfl ?_; (with_reducible refine (rel_Rel_uint32.calls k _ _ t101 _ _ t104 t107 _ ?side1 ?side2 ?side3 ?side4 A5.out).mono ?_); (case side1 => exact lp9 (Kd.R_reads' HO103.out).2.2); (case side2 => exact (Kd.R_reads' HO103.out).2.1); (case side3 => exact lp9 (Kd.R_reads' HO106.out).2.2); (case side4 => exact (Kd.R_reads' HO106.out).2.1); rintro e w' ⟨rfl, ⟨nd, rfl⟩⟩; refine ⟨_, rfl, ?_⟩))
 go_ret
 exact ⟨by first | rfl | (simp [errW_none, errW_some] <;> rfl) | (simp [*, errW_none, errW_some] <;> rfl), bp9 HB.out⟩
def rel_Inv.T6 : Bool × List (List Nat × List Nat) := (true, [([], []), ([], []), ([1], [1]), ([0, 2], [0, 2]), ([3], [3]), ([], []), ([5], [5]), ([6], [6]), ([7], [7]), ([4, 8], [4, 8]), ([0, 2, 0, 1, 2, 3, 4, 5, 6, 7, 8, 9], [0, 2]), ([10, 9, 0, 1, 2, 3, 4, 5, 6, 7, 8, 9], [9, 10])])
def rel_Inv.B6 : List Nat := [0, 0, 2, 7, 15, 0, 32, 96, 224, 511, 1023, 2047]
theorem rel_Inv.tab6 : rtab .any (opsOf Try.f50 6) = rel_Inv.T6 := by kernel_rfl
theorem rel_Inv.bits6 : waitsOk rel_Inv.T6.2 rel_Inv.B6 = true := by kernel_rfl
def rel_Only.l0 : Nat → Int → Int → List Int → Int → Int → Option (List Int)
 | 0, _, _, _, _, _ => none
 | k + 1, x1, x2, x7, x12, x13 => if x13 < x12 then (if 0 ≤ (IntKind.u64.wrap (x13)) then (if (Go.bits .and .u32 (shr .u32 x1 (IntKind.u64.wrap (x13))) 1) = 0 then (if 0 ≤ x13 then (if x13 < (x7.length : Int) then ((some (x7.set (x13 : Int).toNat 0 : List Int)).bind fun y104 => (rel_Only.l0 k x1 x2 (y104.set (x13 : Int).toNat (Go.bits .and .u32 (rd y104 x13) x2)) x12 (wrap64 (x13 + 1)))) else (none)) else (none)) else (if 0 ≤ x13 then (if x13 < (x7.length : Int) then (rel_Only.l0 k x1 x2 (x7.set (x13 : Int).toNat (Go.bits .and .u32 (rd x7 x13) x2)) x12 (wrap64 (x13 + 1))) else (none)) else (none))) else (none)) else (some x7)
def rel_Only.f (k : Nat) (l0 : List Int) (a1 : Int) (a2 : Int) : Option (List Int) := (rel_clean.f k l0).bind fun t101 => (rel_Only.l0 k a1 a2 t101 (t101.length : Int) 0)
theorem rel_Only.mono_l : ∀ k, (∀ y0 y1 y2 y3 y4, LeO (rel_Only.l0 k y0 y1 y2 y3 y4) (rel_Only.l0 (k + 1) y0 y1 y2 y3 y4))
 | 0 => fun _ _ _ _ _ r h => by simp [rel_Only.l0] at h
 | k + 1 => by
  have ih0 := rel_Only.mono_l k
  ·intro y0 y1 y2 y3 y4
   unfold rel_Only.l0
   repeat' (with_reducible first | exact ih0 _ _ _ _ _ | exact rel_clean.mono _ _ | exact LeO.refl _ | exact LeO.none _ | refine LeO.ite ?_ ?_ | refine LeO.bind ?_ (fun _ => ?_))
theorem rel_Only.mono : ∀ a0 a1 a2 k, LeO (rel_Only.f k a0 a1 a2) (rel_Only.f (k + 1) a0 a1 a2) := by
 intro a0 a1 a2 k
 have ih0 := rel_Only.mono_l k
 unfold rel_Only.f
 repeat' (with_reducible first | exact ih0 _ _ _ _ _ | exact rel_clean.mono _ _ | exact LeO.refl _ | exact LeO.none _ | refine LeO.ite ?_ ?_ | refine LeO.bind ?_ (fun _ => ?_))
theorem rel_Only.calls (k : Nat) (A0 : Option Addr) (c0 : Nat) (l0 : List Int) (a1 : Int) (a2 : Int) (r : List Int) (w : World) (hr0 : Kd.C (Kd.int .u32) w A0 l0.length l0) (hc0 : l0.length ≤ c0) (h : rel_Only.f k l0 a1 a2 = some r) :
  Calls Try.prog 54 #[.slice A0 l0.length c0, .int .u32 a1, .int .u32 a2] w fun e w' => ∃ v0_ : Value, e = .returned (v0_) ∧ Kd.R (Kd.int .u32) 52 w' w.heap.size (fun _ => True) v0_ r ∧ Below w.heap.size w w' := by
 have HR0 := a9_ hr0
 have HC0 := a9_ hc0
 clear hr0 hc0
 have HB := a9_ (Below.refl w.heap.size w)
 have H : ((rel_clean.f k l0).bind fun t101 => (rel_Only.l0 k a1 a2 t101 (t101.length : Int) 0)) = some r := h
 clear h
 replace H := Option.bind_eq_some_iff.mp H
 obtain ⟨t101, A40, H⟩ := H
 have A4 := a9_ A40
 clear A40
 have H' := a9_ H
 clear H
 go_enter Try.func54, Try.ntmps54
 go_wp2_with (first | ((with_reducible refine gate_callee (f := 112) rfl ?_); refine goesL9 (some 10) rfl rfl Try.func112 (by kernel_rfl) rfl #[.slice A0 l0.length c0] rfl ?_; (with_reducible refine (rel_clean.calls k _ _ l0 t101 _ ?side1 ?side2 A4.out).mono ?_); (case side1 => repeat (first | exact HR0.out | (with_reducible refine Kd.C_alloc ?_ _) | (with_reducible refine Kd.C_drewN ?_ _) | (with_reducible refine Kd.C_drew ?_))); (case side2 => exact HC0.out); rintro e w5 ⟨v102, rfl, ho0, hb⟩; refine ⟨_, rfl, ?_⟩; have n0_ := a9_ (Kd.R_lower ho0 (below_size (bp9 HB.out))); have n1_ := a9_ (below_step (bp9 HB.out) hb); clear HB; have HO103 := n0_; have HB := n1_; clear n0_ n1_; (try clear hb); (try clear ho0); obtain ⟨Ao6, co6, eo6⟩ := Kd.R_slice HO103.out; subst eo6))
 go_loopg [13] k (fun kq v13 w' => ∃ (x7_1 : List Int) (x13_1 : Int), v13 = .int .i64 x13_1 ∧ Aside0 (rel_Only.l0 kq a1 a2 x7_1 (t101.length : Int) x13_1 = some r) ∧ Aside0 (kq ≤ k) ∧ Aside0 (Kd.R (Kd.int .u32) 52 w' w.heap.size (fun _ => True) (.slice Ao6 t101.length co6) x7_1) ∧ Aside0 (Below w.heap.size w w'))
 case atStart => exact ⟨(t101), (0), rs9, H', ⟨Nat.le_refl _⟩, ⟨rp9 HO103.out⟩, ⟨bp9 HB.out⟩⟩
 case round =>
  clear H'
  try clear c1
  try clear p2
  try clear c5
  obtain ⟨x7_1, x13_1, rfl, HA, HK1, HO_7, HB⟩ := hrel
  have hl7_1 := (Kd.R_reads' HO_7.out).1
  rw [hl7_1] at HO_7
  (try simp only [hl7_1])
  cases gk with
  | zero => exact absurd HA.out (by simp [rel_Only.l0])
  | succ k1 =>
   have H := HA.out
   clear HA
   simp only [rel_Only.l0] at H
   by_cases c7 : x13_1 < (t101.length : Int)
   ·rw [if_pos c7] at H
    have c7b0 : decide (x13_1 < (t101.length : Int)) = true := decide_eq_true c7
    (try (have c7b0z := c7b0; simp only [hl7_1] at c7b0z))
    clear c7
    obtain ⟨ji8, hji8⟩ : ∃ j_ : Int, (IntKind.u64.wrap (x13_1)) = j_ := ⟨_, rfl⟩
    replace H : (if 0 ≤ (ji8) then (if (Go.bits .and .u32 (shr .u32 a1 (ji8)) 1) = 0 then (if 0 ≤ x13_1 then (if x13_1 < (x7_1.length : Int) then ((some (x7_1.set (x13_1 : Int).toNat 0 : List Int)).bind fun y104 => (rel_Only.l0 k1 a1 a2 (y104.set (x13_1 : Int).toNat (Go.bits .and .u32 (rd y104 x13_1) a2)) (t101.length : Int) (wrap64 (x13_1 + 1)))) else (none)) else (none)) else (if 0 ≤ x13_1 then (if x13_1 < (x7_1.length : Int) then (rel_Only.l0 k1 a1 a2 (x7_1.set (x13_1 : Int).toNat (Go.bits .and .u32 (rd x7_1 x13_1) a2)) (t101.length : Int) (wrap64 (x13_1 + 1))) else (none)) else (none))) else (none)) = some r := by first | (rw [hji8] at H; exact H) | (simp only [hji8] at H ⊢; exact H)
    by_cases c9 : 0 ≤ (ji8)
    ·rw [if_pos c9] at H
     have c9b0 := eq_true c9
     have c9b1 : decide (0 ≤ (ji8)) = true := decide_eq_true c9
     clear c9
     obtain ⟨ji10, hji10⟩ : ∃ j_ : Int, (shr .u32 a1 (ji8)) = j_ := ⟨_, rfl⟩
     replace H : (if (Go.bits .and .u32 (ji10) 1) = 0 then (if 0 ≤ x13_1 then (if x13_1 < (x7_1.length : Int) then ((some (x7_1.set (x13_1 : Int).toNat 0 : List Int)).bind fun y104 => (rel_Only.l0 k1 a1 a2 (y104.set (x13_1 : Int).toNat (Go.bits .and .u32 (rd y104 x13_1) a2)) (t101.length : Int) (wrap64 (x13_1 + 1)))) else (none)) else (none)) else (if 0 ≤ x13_1 then (if x13_1 < (x7_1.length : Int) then (rel_Only.l0 k1 a1 a2 (x7_1.set (x13_1 : Int).toNat (Go.bits .and .u32 (rd x7_1 x13_1) a2)) (t101.length : Int) (wrap64 (x13_1 + 1))) else (none)) else (none))) = some r := by first | (rw [hji10] at H; exact H) | (simp only [hji10] at H ⊢; exact H)
     have hji10_ : (a1 / 2 ^ min (ji8).toNat 32) = ji10 := hji10
     have hji10z : (ji8) ≤ 32 → (a1 / 2 ^ (ji8).toNat) = ji10 := shr_small hji10
     by_cases c11 : (Go.bits .and .u32 (ji10) 1) = 0
     ·rw [if_pos c11] at H
      have c11b0 : ((Go.bits .and .u32 (ji10) 1) == 0) = true := beq_iff_eq.mpr c11
      (try (have c11b0z := c11b0; simp only [hl7_1] at c11b0z))
      have c11b1 : ((Go.bits .and .u32 (ji10) 1) != 0) = false := bne_eq_false_iff_eq.mpr c11
      (try (have c11b1z := c11b1; simp only [hl7_1] at c11b1z))
      clear c11
      by_cases c12 : 0 ≤ x13_1
      ·rw [if_pos c12] at H
       have c12b0 : decide (0 ≤ x13_1) = true := decide_eq_true c12
       (try (have c12b0z := c12b0; simp only [hl7_1] at c12b0z))
       clear c12
       by_cases c13 : x13_1 < (x7_1.length : Int)
       ·rw [if_pos c13] at H
        have c13b0 : decide (x13_1 < (x7_1.length : Int)) = true := decide_eq_true c13
        (try (have c13b0z := c13b0; simp only [hl7_1] at c13b0z))
        clear c13
        obtain ⟨y104, hy104⟩ : ∃ y_ : List Int, y_ = (x7_1.set (x13_1 : Int).toNat 0) := ⟨_, rfl⟩
        replace H : (rel_Only.l0 k1 a1 a2 (y104.set (x13_1 : Int).toNat (Go.bits .and .u32 (rd y104 x13_1) a2)) (t101.length : Int) (wrap64 (x13_1 + 1))) = some r := by first | (rw [hy104]; with_reducible exact H) | (have H2_ := (Option.bind_some _ _).symm.trans H; rw [hy104]; with_reducible exact H2_) | (have H2_ := (Option.bind_some _ _).symm.trans H; with_reducible exact H2_) | with_reducible exact H | (rw [hy104]; exact H) | exact H
        have Ny104 := a9_ hy104
        clear hy104
        obtain ⟨y106, hy106⟩ : ∃ y_ : List Int, y_ = (y104.set (x13_1 : Int).toNat (Go.bits .and .u32 (rd y104 x13_1) a2)) := ⟨_, rfl⟩
        replace H : (rel_Only.l0 k1 a1 a2 y106 (t101.length : Int) (wrap64 (x13_1 + 1))) = some r := by first | (rw [hy106]; with_reducible exact H) | (have H2_ := (Option.bind_some _ _).symm.trans H; rw [hy106]; with_reducible exact H2_) | (have H2_ := (Option.bind_some _ _).symm.trans H; with_reducible exact H2_) | with_reducible exact H | (rw [hy106]; exact H) | exact H
        have Ny106 := a9_ hy106
        clear hy106
        have H' := a9_ H
        clear H
        have p14 : 0 ≤ (x13_1 : Int) := of_decide_eq_true (by first | (with_reducible assumption) | assumption)
        have q14 : (x13_1 : Int) < ((x7_1.length : Int) : Int) := of_decide_eq_true (by first | (with_reducible assumption) | assumption)
        obtain ⟨go14, co14, eo14, gb14, gl14, cl14, HG14⟩ := Kd.R_form HO_7.out (by omega)
        (first | cases eo14 | (injection eo14 with ea_ en_ ec_; (first | subst ea_ | (injection ea_ with ea_; subst ea_)); subst ec_; clear en_))
        have GB14 := a9_ gb14
        have GG14 := a9_ HG14
        clear gb14 gl14 HG14
        obtain ⟨hx14_0, hf14_0⟩ := Kd.R_celln 0 HO_7.out (x13_1 : Int) p14 q14
        replace p14 := eq_true p14
        replace q14 := eq_true q14
        have HP16 := Kd.R_putg HO_7.out (x13_1 : Int) 0
        go_wp2_with (first | ((with_reducible refine gate_store (t := 52) (p := 24) rfl ?_); refine store_event (t := 52) (p := 24) (v := ?vo_w17) (w1 := (wr.setCell ⟨go14, (x13_1 : Int).toNat, none⟩ (.int .u32 0))) ?hg ?ho ?hn ?hr ?_; (case ho => rfl); (case hg => rfl); (case hn => rfl); (case hr => first | (go_simp; done) | (go_simp; rfl)); intro w17 hw; have hg : wr.grownBy w17 (some go14) := (by rw [hw]; exact HP16.2); have hp_ : Kd.R (Kd.int .u32) 52 w17 w.heap.size (fun _ => True) (.slice (some ⟨go14, 0, none⟩) x7_1.length co6) y104 := (by rw [hw, Ny104.out]; exact HP16.1); clear HP16; have n0_ := a9_ (hp_); have n1_ := a9_ ((by rw [hw]; exact below_set (HB.out) GB14.out : Below w.heap.size w w17)); clear HO_7; clear HB; have HO_7 := n0_; have HB := n1_; clear n0_ n1_; clear hg hw hp_; have p105 : 0 ≤ (x13_1 : Int) := of_decide_eq_true (by first | (with_reducible assumption) | assumption); have q105 : x13_1 < (y104.length : Int) := (by have h_ : (x13_1 : Int) < ((x7_1.length : Int) : Int) := of_decide_eq_true (by first | (with_reducible assumption) | assumption); first | (have e_ := (Kd.R_reads' HO_7.out).1; omega) | simpa only [Ny104.out, List.length_set] using h_); have ql105 : ((x13_1 : Int) < ((x7_1.length : Int) : Int)) = True := eq_true (of_decide_eq_true (by first | (with_reducible assumption) | assumption)); obtain ⟨ad105, e105, hx105_0⟩ := Kd.at_int (Kd.R_reads' HO_7.out).2.2 x13_1 p105 q105; obtain rfl : (⟨go14, 0, none⟩ : Addr) = ad105 := (by injection e105); (first | simp only [add_plain] at hx105_0 | simp only [add_at] at hx105_0 | simp only [Addr.add, Nat.zero_add] at hx105_0 | skip); replace p105 := eq_true p105; replace q105 := eq_true q105; have p15 : 0 ≤ (x13_1 : Int) := of_decide_eq_true (by first | (with_reducible assumption) | assumption); have q15 : (x13_1 : Int) < ((x7_1.length : Int) : Int) := of_decide_eq_true (by first | (with_reducible assumption) | assumption); obtain ⟨hx15_0, hf15_0⟩ := Kd.R_celln 0 HO_7.out (x13_1 : Int) p15 q15; replace p15 := eq_true p15; replace q15 := eq_true q15; obtain ⟨hy18_, hz18_⟩ := Kd.R_celln 0 HO_7.out (x13_1 : Int) (of_decide_eq_true (by first | (with_reducible assumption) | assumption)) (of_decide_eq_true (by first | (with_reducible assumption) | assumption)); have HP18 := Kd.R_putg HO_7.out (x13_1 : Int) (Go.bits .and .u32 (rd y104 x13_1) a2)) | ((with_reducible refine gate_store (t := 52) (p := 31) rfl ?_); refine store_event (t := 52) (p := 31) (v := ?vo_w19) (w1 := (w17.setCell ⟨go14, (x13_1 : Int).toNat, none⟩ (.int .u32 (Go.bits .and .u32 (rd y104 x13_1) a2)))) ?hg ?ho ?hn ?hr ?_; (case ho => rfl); (case hg => rfl); (case hn => rfl); (case hr => first | (go_simp; done) | (go_simp; rfl)); intro w19 hw; have hg : w17.grownBy w19 (some go14) := (by rw [hw]; exact HP18.2); have hp_ : Kd.R (Kd.int .u32) 52 w19 w.heap.size (fun _ => True) (.slice (some ⟨go14, 0, none⟩) x7_1.length co6) y106 := (by rw [hw, Ny106.out]; exact HP18.1); clear HP18; have n0_ := a9_ (hp_); have n1_ := a9_ ((by rw [hw]; exact below_set (HB.out) GB14.out : Below w.heap.size w w19)); clear HO_7; clear HB; have HO_7 := n0_; have HB := n1_; clear n0_ n1_; clear hg hw hp_))
        (try simp only [← hl7_1])
        go_roundg k1
        case measure => have := HK1.out; omega
        case rel => exact ⟨(y106), (wrap64 (x13_1 + 1)), rs9, H', ⟨by have := HK1.out; omega⟩, ⟨by (try simp only [hl7_1]); (with_reducible repeat (first | apply Kd.R_alloc | apply Kd.R_drewN | apply Kd.R_drew)); exact HO_7.out⟩, ⟨bp9 HB.out⟩⟩
       ·rw [if_neg c13] at H
        exact absurd H (by simp)
      ·rw [if_neg c12] at H
       exact absurd H (by simp)
     ·rw [if_neg c11] at H
      have c11b0 : ((Go.bits .and .u32 (ji10) 1) == 0) = false := beq_eq_false_iff_ne.mpr c11
      (try (have c11b0z := c11b0; simp only [hl7_1] at c11b0z))
      have c11b1 : ((Go.bits .and .u32 (ji10) 1) != 0) = true := bne_iff_ne.mpr c11
      (try (have c11b1z := c11b1; simp only [hl7_1] at c11b1z))
      by_cases c20 : 0 ≤ x13_1
      ·rw [if_pos c20] at H
       have c20b0 : decide (0 ≤ x13_1) = true := decide_eq_true c20
       (try (have c20b0z := c20b0; simp only [hl7_1] at c20b0z))
       clear c20
       by_cases c21 : x13_1 < (x7_1.length : Int)
       ·rw [if_pos c21] at H
        have c21b0 : decide (x13_1 < (x7_1.length : Int)) = true := decide_eq_true c21
        (try (have c21b0z := c21b0; simp only [hl7_1] at c21b0z))
        clear c21
        obtain ⟨y108, hy108⟩ : ∃ y_ : List Int, y_ = (x7_1.set (x13_1 : Int).toNat (Go.bits .and .u32 (rd x7_1 x13_1) a2)) := ⟨_, rfl⟩
        replace H : (rel_Only.l0 k1 a1 a2 y108 (t101.length : Int) (wrap64 (x13_1 + 1))) = some r := by first | (rw [hy108]; with_reducible exact H) | (have H2_ := (Option.bind_some _ _).symm.trans H; rw [hy108]; with_reducible exact H2_) | (have H2_ := (Option.bind_some _ _).symm.trans H; with_reducible exact H2_) | with_reducible exact H | (rw [hy108]; exact H) | exact H
        have Ny108 := a9_ hy108
        clear hy108
        have H' := a9_ H
        clear H
        have p107 : 0 ≤ (x13_1 : Int) := of_decide_eq_true (by first | (with_reducible assumption) | assumption)
        have q107 : x13_1 < (x7_1.length : Int) := of_decide_eq_true (by first | (with_reducible assumption) | assumption)
        obtain ⟨ad107, e107, hx107_0⟩ := Kd.at_int (Kd.R_reads' HO_7.out).2.2 x13_1 p107 q107
        cases e107
        replace p107 := eq_true p107
        replace q107 := eq_true q107
        have p22 : 0 ≤ (x13_1 : Int) := of_decide_eq_true (by first | (with_reducible assumption) | assumption)
        have q22 : (x13_1 : Int) < ((x7_1.length : Int) : Int) := of_decide_eq_true (by first | (with_reducible assumption) | assumption)
        obtain ⟨go22, co22, eo22, gb22, gl22, cl22, HG22⟩ := Kd.R_form HO_7.out (by omega)
        (first | cases eo22 | (injection eo22 with ea_ en_ ec_; (first | subst ea_ | (injection ea_ with ea_; subst ea_)); subst ec_; clear en_))
        have GB22 := a9_ gb22
        have GG22 := a9_ HG22
        clear gb22 gl22 HG22
        (first | simp only [add_plain] at hx107_0 | skip)
        obtain ⟨hx22_0, hf22_0⟩ := Kd.R_celln 0 HO_7.out (x13_1 : Int) p22 q22
        replace p22 := eq_true p22
        replace q22 := eq_true q22
        have HP23 := Kd.R_putg HO_7.out (x13_1 : Int) (Go.bits .and .u32 (rd x7_1 x13_1) a2)
        go_wp2_with (first | ((with_reducible refine gate_store (t := 52) (p := 31) rfl ?_); refine store_event (t := 52) (p := 31) (v := ?vo_w24) (w1 := (wr.setCell ⟨go22, (x13_1 : Int).toNat, none⟩ (.int .u32 (Go.bits .and .u32 (rd x7_1 x13_1) a2)))) ?hg ?ho ?hn ?hr ?_; (case ho => rfl); (case hg => rfl); (case hn => rfl); (case hr => first | (go_simp; done) | (go_simp; rfl)); intro w24 hw; have hg : wr.grownBy w24 (some go22) := (by rw [hw]; exact HP23.2); have hp_ : Kd.R (Kd.int .u32) 52 w24 w.heap.size (fun _ => True) (.slice (some ⟨go22, 0, none⟩) x7_1.length co6) y108 := (by rw [hw, Ny108.out]; exact HP23.1); clear HP23; have n0_ := a9_ (hp_); have n1_ := a9_ ((by rw [hw]; exact below_set (HB.out) GB22.out : Below w.heap.size w w24)); clear HO_7; clear HB; have HO_7 := n0_; have HB := n1_; clear n0_ n1_; clear hg hw hp_))
        (try simp only [← hl7_1])
        go_roundg k1
        case measure => have := HK1.out; omega
        case rel => exact ⟨(y108), (wrap64 (x13_1 + 1)), rs9, H', ⟨by have := HK1.out; omega⟩, ⟨by (try simp only [hl7_1]); (with_reducible repeat (first | apply Kd.R_alloc | apply Kd.R_drewN | apply Kd.R_drew)); exact HO_7.out⟩, ⟨bp9 HB.out⟩⟩
       ·rw [if_neg c21] at H
        exact absurd H (by simp)
      ·rw [if_neg c20] at H
       exact absurd H (by simp)
    ·rw [if_neg c9] at H
     exact absurd H (by simp)
   ·rw [if_neg c7] at H
    have c7b0 : decide (x13_1 < (t101.length : Int)) = false := decide_eq_false c7
    (try (have c7b0z := c7b0; simp only [hl7_1] at c7b0z))
    clear c7
    obtain rfl := Option.some.inj H
    go_wp2
    go_ret
    exact ⟨_, rt9, by (with_reducible repeat (first | apply Kd.R_alloc | apply Kd.R_drewN | apply Kd.R_drew)); exact HO_7.out, bp9 HB.out⟩
end Go.Proofs.Ytbamkkdikeedoaa.G
