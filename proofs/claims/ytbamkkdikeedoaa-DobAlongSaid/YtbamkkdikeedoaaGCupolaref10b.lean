-- Written by drive.py, a program of this seat's session, out of the translation.
import Derived.Test.YtbamkkdikeedoaaG0
import Derived.Test.YtbamkkdikeedoaaGCupolaref05
import Derived.Test.YtbamkkdikeedoaaGCupolaref10
import Derived.Test.YtbamkkdikeedoaaGCupolaref10j
import Derived.Test.YtbamkkdikeedoaaHandCz
namespace Go.Proofs.Ytbamkkdikeedoaa.G
open Go.RowKit Go.Proofs.YtbamkkdikeedoaaW.PrintWords Go.Proofs.YtbamkkdikeedoaaW.PrintLast Go.Proofs.YtbamkkdikeedoaaW.PrintMore
theorem hide9 {P : Program} {c : Code} {Q : Exit → Act → World → Prop} {a : Act} {w : World} (h : ∀ Q' : Exit → Act → World → Prop, (∀ e a w, Q e a w → Q' e a w) → c.wp P Q' a w) : c.wp P Q a w := h Q (fun _ _ _ q => q)
theorem cz2 {w : World} {g : Nat} {t : TypeId} {a0 a1 : Value} (h : w.heap[g]? = some (.cells #[a0, a1] t (0, 0))) : w.cell? ⟨g, 0, none⟩ = some a0 ∧ w.cell? ⟨g, 1, none⟩ = some a1 ∧ w.frozen? ⟨g, 0, none⟩ = false ∧ w.frozen? ⟨g, 1, none⟩ = false :=
  ⟨blk_cell h 0, blk_cell h 1, blk_frozen h 0, blk_frozen h 1⟩
theorem cz16 {w : World} {g : Nat} {t : TypeId} {a0 a1 a2 a3 a4 a5 a6 a7 a8 a9 a10 a11 a12 a13 a14 a15 : Value} (h : w.heap[g]? = some (.cells #[a0, a1, a2, a3, a4, a5, a6, a7, a8, a9, a10, a11, a12, a13, a14, a15] t (0, 0))) : w.cell? ⟨g, 0, none⟩ = some a0 ∧ w.cell? ⟨g, 1, none⟩ = some a1 ∧ w.cell? ⟨g, 2, none⟩ = some a2 ∧ w.cell? ⟨g, 3, none⟩ = some a3 ∧ w.cell? ⟨g, 4, none⟩ = some a4 ∧ w.cell? ⟨g, 5, none⟩ = some a5 ∧ w.cell? ⟨g, 6, none⟩ = some a6 ∧ w.cell? ⟨g, 7, none⟩ = some a7 ∧ w.cell? ⟨g, 8, none⟩ = some a8 ∧ w.cell? ⟨g, 9, none⟩ = some a9 ∧ w.cell? ⟨g, 10, none⟩ = some a10 ∧ w.cell? ⟨g, 11, none⟩ = some a11 ∧ w.cell? ⟨g, 12, none⟩ = some a12 ∧ w.cell? ⟨g, 13, none⟩ = some a13 ∧ w.cell? ⟨g, 14, none⟩ = some a14 ∧ w.cell? ⟨g, 15, none⟩ = some a15 ∧ w.frozen? ⟨g, 0, none⟩ = false ∧ w.frozen? ⟨g, 1, none⟩ = false ∧ w.frozen? ⟨g, 2, none⟩ = false ∧ w.frozen? ⟨g, 3, none⟩ = false ∧ w.frozen? ⟨g, 4, none⟩ = false ∧ w.frozen? ⟨g, 5, none⟩ = false ∧ w.frozen? ⟨g, 6, none⟩ = false ∧ w.frozen? ⟨g, 7, none⟩ = false ∧ w.frozen? ⟨g, 8, none⟩ = false ∧ w.frozen? ⟨g, 9, none⟩ = false ∧ w.frozen? ⟨g, 10, none⟩ = false ∧ w.frozen? ⟨g, 11, none⟩ = false ∧ w.frozen? ⟨g, 12, none⟩ = false ∧ w.frozen? ⟨g, 13, none⟩ = false ∧ w.frozen? ⟨g, 14, none⟩ = false ∧ w.frozen? ⟨g, 15, none⟩ = false :=
  ⟨blk_cell h 0, blk_cell h 1, blk_cell h 2, blk_cell h 3, blk_cell h 4, blk_cell h 5, blk_cell h 6, blk_cell h 7, blk_cell h 8, blk_cell h 9, blk_cell h 10, blk_cell h 11, blk_cell h 12, blk_cell h 13, blk_cell h 14, blk_cell h 15, blk_frozen h 0, blk_frozen h 1, blk_frozen h 2, blk_frozen h 3, blk_frozen h 4, blk_frozen h 5, blk_frozen h 6, blk_frozen h 7, blk_frozen h 8, blk_frozen h 9, blk_frozen h 10, blk_frozen h 11, blk_frozen h 12, blk_frozen h 13, blk_frozen h 14, blk_frozen h 15⟩
theorem far_b {w : World} {g : Nat} {t : TypeId} {cs : Array Value} (h : w.heap[g]? = some (.cells cs t (0, 0))) {g' i : Nat} (hp : Aside0 (g ≠ g')) (u : Value) : (w.setCell ⟨g', i, none⟩ u).heap[g]? = some (.cells cs t (0, 0)) := blk_far h hp.out u
theorem far_r {α : Type} {d : Kd α} {e b : Nat} {ok : Nat → Prop} {v : Value} {xs : List α} {w : World} {g i : Nat} (hk : ∀ k, ok k → k ≠ g) (h : d.R e w b ok v xs) (u : Value) : d.R e (w.setCell ⟨g, i, none⟩ u) b ok v xs := Kd.R_far h hk u
theorem far_s {α : Type} {d : Kd α} {e b : Nat} {ok : Nat → Prop} {v : Value} {xs : List α} {w : World} {g i : Nat} (hk : ∀ k, ok k → k ≠ g) (h : Kd.S d e w b ok v xs) (u : Value) : Kd.S d e (w.setCell ⟨g, i, none⟩ u) b ok v xs := Kd.S_far h hk u
theorem put_l {w : World} {g : Nat} {t : TypeId} {l l' : List Value} (h : w.heap[g]? = some (.cells l.toArray t (0, 0))) {i : Nat} {u : Value} (e : l.set i u = l') : (w.setCell ⟨g, i, none⟩ u).heap[g]? = some (.cells l'.toArray t (0, 0)) := blk_put h i u (by rw [← e]; exact List.setIfInBounds_toArray ..)
def LiftF (g : Nat) (w1 w2 : World) : Prop := ∀ (α : Type) (d : Kd α) (e b : Nat) (ok : Nat → Prop) (v : Value) (xs : List α), (∀ k, ok k → k ≠ g) → d.R e w1 b ok v xs → d.R e w2 b ok v xs
theorem ty9 {α : Type} {d : Kd α} {e b : Nat} {ok : Nat → Prop} {v : Value} {xs : List α} {w1 w2 : World} {g t : Nat} {cells : Array Value} (h : d.R e w1 b ok v xs) (hb : w1.heap[g]? = some (.cells cells t (0, 0))) (ht : ∀ q, q ∈ e :: d.E → q ≠ t := by decide) (hw : LiftF g w1 w2 := by (intro _ _ _ _ _ _ _ hk h; with_reducible repeat (first | exact h | apply Kd.R_alloc | apply Kd.R_drewN | apply Kd.R_drew | refine far_r hk ?_ _))) : d.R e w2 b ok v xs := Kd.R_mono (hw α d e b _ v xs (fun _ h => h.2) (Kd.R_types h hb ht)) (fun _ h => h.1)
def LiftS (w1 w2 : World) : Prop := ∀ (α : Type) (d : Kd α) (e b : Nat) (ok : Nat → Prop) (v : Value) (xs : List α), Kd.S d e w1 b ok v xs → Kd.S d e w2 b ok v xs
theorem sp9 {α : Type} {d : Kd α} {e b : Nat} {ok : Nat → Prop} {v : Value} {xs : List α} {w1 w2 : World} (h : Kd.S d e w1 b ok v xs) (hw : LiftS w1 w2 := by (intro _ _ _ _ _ _ _ h; (with_reducible repeat (first | apply Kd.S_alloc | apply Kd.S_drewN | apply Kd.S_drew)); exact h)) : Kd.S d e w2 b ok v xs := hw α d e b ok v xs h
def LiftT (g : Nat) (w1 w2 : World) : Prop := ∀ (α : Type) (d : Kd α) (e b : Nat) (ok : Nat → Prop) (v : Value) (xs : List α), (∀ k, ok k → k ≠ g) → Kd.S d e w1 b ok v xs → Kd.S d e w2 b ok v xs
theorem tz9 {α : Type} {d : Kd α} {e b : Nat} {ok : Nat → Prop} {v : Value} {xs : List α} {w1 w2 : World} {g t : Nat} {cells : Array Value} (h : Kd.S d e w1 b ok v xs) (hb : w1.heap[g]? = some (.cells cells t (0, 0))) (ht : ∀ q, q ∈ e :: d.E → q ≠ t := by decide) (hw : LiftT g w1 w2 := by (intro _ _ _ _ _ _ _ hk h; with_reducible repeat (first | exact h | apply Kd.S_alloc | apply Kd.S_drewN | apply Kd.S_drew | refine far_s hk ?_ _))) : Kd.S d e w2 b ok v xs := Kd.S_mono (hw α d e b _ v xs (fun _ h => h.2) (Kd.S_types h hb ht)) (fun _ h => h.1)
def LiftG (g : Nat) (w1 w2 : World) : Prop := ∀ (t : TypeId) (cs : Array Value), w1.heap[g]? = some (.cells cs t (0, 0)) → w2.heap[g]? = some (.cells cs t (0, 0))
theorem kf9 {g : Nat} {t : TypeId} {cs : Array Value} {w1 w2 : World} (h : w1.heap[g]? = some (.cells cs t (0, 0))) (hw : LiftG g w1 w2 := by (intro _ _ h; with_reducible repeat (first | exact h | refine blk_drewN ?_ _ | refine blk_drew ?_ | refine blk_alloc ?_ _ | refine far_b ?_ (by assumption) _))) : w2.heap[g]? = some (.cells cs t (0, 0)) := hw t cs h
def LiftB2 (g : Nat) (cs cs' : Array Value) (w1 w2 : World) : Prop := ∀ (t : TypeId), w1.heap[g]? = some (.cells cs t (0, 0)) → w2.heap[g]? = some (.cells cs' t (0, 0))
theorem kb9 {g : Nat} {t : TypeId} {cs cs' : Array Value} {w1 w2 : World} (h : w1.heap[g]? = some (.cells cs t (0, 0))) (hw : LiftB2 g cs cs' w1 w2 := by (intro _ h; (with_reducible repeat (first | exact h | refine blk_drewN ?_ _ | refine blk_drew ?_ | refine blk_alloc ?_ _ | apply put_l | refine far_b ?_ (by assumption) _)); all_goals exact (rfl : List.set _ _ _ = _))) : w2.heap[g]? = some (.cells cs' t (0, 0)) := hw t h
set_option linter.unusedVariables false
set_option linter.unusedSimpArgs false
set_option maxHeartbeats 40000000 in
set_option maxRecDepth 100000 in
theorem cupolaref10_Join.calls (k : Nat) (A0 : Option Addr) (c0 : Nat) (l0 : List (S117)) (r1 : List (S26)) (r2 : List Int) (r3 : List Int) (r4 : List Int) (r5 : List Int) (r6 : List Int) (r7 : List (List Int)) (r8 : Int) (w : World) (hr0 : Kd.C k117 w A0 l0.length l0) (hc0 : l0.length ≤ c0) (h : cupolaref10_Join.f k l0 = some (r1, r2, r3, r4, r5, r6, r7, r8)) :
  Calls Try.prog 108 #[.slice A0 l0.length c0] w fun e w' => ∃ v0_ v1_ v2_ v3_ v4_ v5_ v6_ : Value, e = .returned (.tuple #[.agg #[v0_, v1_, v2_, v3_, v4_, v5_, v6_], .int .i64 r8]) ∧ Kd.R k26 26 w' w.heap.size (fun _ => True) v0_ r1 ∧ Kd.R (Kd.int .u32) 52 w' w.heap.size (fun k_ => some k_ ≠ (v2_ : Value).ownBlock ∧ some k_ ≠ (v3_ : Value).ownBlock ∧ some k_ ≠ (v4_ : Value).ownBlock ∧ some k_ ≠ (v5_ : Value).ownBlock) v1_ r2 ∧ Kd.R (Kd.int .u32) 52 w' w.heap.size (fun k_ => some k_ ≠ (v1_ : Value).ownBlock ∧ some k_ ≠ (v3_ : Value).ownBlock ∧ some k_ ≠ (v4_ : Value).ownBlock ∧ some k_ ≠ (v5_ : Value).ownBlock) v2_ r3 ∧ Kd.R (Kd.int .u32) 52 w' w.heap.size (fun k_ => some k_ ≠ (v1_ : Value).ownBlock ∧ some k_ ≠ (v2_ : Value).ownBlock ∧ some k_ ≠ (v4_ : Value).ownBlock ∧ some k_ ≠ (v5_ : Value).ownBlock) v3_ r4 ∧ Kd.R (Kd.int .u32) 52 w' w.heap.size (fun k_ => some k_ ≠ (v1_ : Value).ownBlock ∧ some k_ ≠ (v2_ : Value).ownBlock ∧ some k_ ≠ (v3_ : Value).ownBlock ∧ some k_ ≠ (v5_ : Value).ownBlock) v4_ r5 ∧ Kd.R (Kd.int .u32) 52 w' w.heap.size (fun k_ => some k_ ≠ (v1_ : Value).ownBlock ∧ some k_ ≠ (v2_ : Value).ownBlock ∧ some k_ ≠ (v3_ : Value).ownBlock ∧ some k_ ≠ (v4_ : Value).ownBlock) v5_ r6 ∧ Kd.S (Kd.slice 2 (Kd.int .i64)) 23 w' w.heap.size (fun _ => True) v6_ r7 ∧ Below w.heap.size w w' := by
 have hu76 := Try.underlying76
 have hu117 := Try.underlying117
 have hu26 := Try.underlying26
 have hu46 := Try.underlying46
 have HR0 := a9_ hr0
 have HC0 := a9_ hc0
 clear hr0 hc0
 have HB := a9_ (Below.refl w.heap.size w)
 have H : (cupolaref10_Join.l0 k l0 0 0) = some (r1, r2, r3, r4, r5, r6, r7, r8) := h
 clear h
 have H' := a9_ H
 clear H
 go_enter Try.func108, Try.ntmps108
 refine hide9 fun Q9 hQ9 => ?_
 go_wp2_with (first | ((with_reducible refine gate_dst (N := 2) rfl ?_); refine box9 (N := 2) (cs := #[.slice none 0 0, .slice none 0 0, .slice none 0 0, .slice none 0 0, .slice none 0 0, .slice none 0 0, .slice none 0 0]) (t := 76) ?_; intro gb101 hg w2 hbox hb; have n0_ := a9_ (below_step (bp9 HB.out) hb); have n1_ := a9_ (hbox); have n2_ := a9_ ((by rw [hg]; exact (below_size (bp9 HB.out)) : w.heap.size ≤ gb101)); have n3_ := n2_; clear HB; have HB := n0_; have BK101 := n1_; have GW101 := n2_; have GE101 := n3_; clear n0_ n1_ n2_ n3_; clear hb hbox hg) | ((with_reducible refine gate_dst (N := 4) rfl ?_); refine box9 (N := 4) (cs := #[.slice none 0 0, .slice none 0 0, .slice none 0 0, .slice none 0 0, .slice none 0 0, .slice none 0 0, .slice none 0 0]) (t := 76) ?_; intro gb102 hg w3 hbox hb; have n0_ := a9_ (blk_below (kp9 BK101.out) hb); have n1_ := a9_ (below_step (bp9 HB.out) hb); have n2_ := a9_ (hbox); have n3_ := a9_ ((by rw [hg]; exact (below_size (bp9 HB.out)) : w.heap.size ≤ gb102)); have n4_ := n3_; have n5_ := a9_ ((by rw [hg]; exact Nat.ne_of_lt (blk_lt (kp9 BK101.out)) : gb101 ≠ gb102)); have n6_ := a9_ ((by rw [hg]; exact Nat.ne_of_gt (blk_lt (kp9 BK101.out)) : gb102 ≠ gb101)); clear BK101; clear HB; have BK101 := n0_; have HB := n1_; have BK102 := n2_; have GW102 := n3_; have GE102 := n4_; have NB101_102 := n5_; have NB102_101 := n6_; clear n0_ n1_ n2_ n3_ n4_ n5_ n6_; clear hb hbox hg; have hnb4 := NB102_101.out; have hnc4 := NB101_102.out; obtain ⟨hcz5_0, hcz5_1, hcz5_2, hcz5_3, hcz5_4, hcz5_5, hcz5_6, hfz5_0, hfz5_1, hfz5_2, hfz5_3, hfz5_4, hfz5_5, hfz5_6⟩ := cz7 BK102.out))
 go_loopg [5, 6] k (fun kq v5 v6 w' => ∃ (x5_1 : Int) (x6_1 : Int), v5 = .int .i64 x5_1 ∧ v6 = .int .i64 x6_1 ∧ Aside0 (cupolaref10_Join.l0 kq l0 x5_1 x6_1 = some (r1, r2, r3, r4, r5, r6, r7, r8)) ∧ Aside0 (kq ≤ k) ∧ Aside0 (w'.heap[gb101]? = some (.cells #[(.slice none 0 0), (.slice none 0 0), (.slice none 0 0), (.slice none 0 0), (.slice none 0 0), (.slice none 0 0), (.slice none 0 0)] 76 (0, 0))) ∧ Aside0 (w'.heap[gb102]? = some (.cells #[(.slice none 0 0), (.slice none 0 0), (.slice none 0 0), (.slice none 0 0), (.slice none 0 0), (.slice none 0 0), (.slice none 0 0)] 76 (0, 0))) ∧ Aside0 (Below w.heap.size w w'))
 case atStart => exact ⟨(0), (0), rs9, rs9, H', ⟨Nat.le_refl _⟩, ⟨kf9 BK101.out⟩, ⟨kb9 BK102.out⟩, ⟨bp9 HB.out⟩⟩
 case round =>
  refine Classical.byContradiction fun hn9 => ?_
  let rec part0 : False := by
   refine hn9 ?_
   clear hn9
   clear H'
   try clear c1
   try clear p2
   try clear c4
   try clear hcz5_0 hcz5_1 hcz5_2 hcz5_3 hcz5_4 hcz5_5 hcz5_6
   try clear hfz5_0 hfz5_1 hfz5_2 hfz5_3 hfz5_4 hfz5_5 hfz5_6
   obtain ⟨x5_1, x6_1, rfl, rfl, HA, HK1, BK101, BK102, HB⟩ := hrel
   cases gk with
   | zero => exact absurd HA.out (by simp [cupolaref10_Join.l0])
   | succ k1 =>
    have H := HA.out
    clear HA
    simp only [cupolaref10_Join.l0] at H
    by_cases c6 : x6_1 < (l0.length : Int)
    ·rw [if_pos c6] at H
     have c6b0 : decide (x6_1 < (l0.length : Int)) = true := decide_eq_true c6
     clear c6
     by_cases c7 : 0 ≤ x6_1
     ·rw [if_pos c7] at H
      have c7b0 : decide (0 ≤ x6_1) = true := decide_eq_true c7
      clear c7
      have H' := a9_ H
      clear H
      have p103 : 0 ≤ (x6_1 : Int) := of_decide_eq_true (by first | (with_reducible assumption) | assumption)
      have q103 : x6_1 < (l0.length : Int) := of_decide_eq_true (by first | (with_reducible assumption) | assumption)
      obtain ⟨ad103, A103_0, c103_0, A103_1, c103_1, A103_2, c103_2, A103_3, c103_3, A103_4, c103_4, e103, hx103_0, hx103_1, hx103_2, hx103_3, hx103_4, hx103_5, hx103_6, hx103_7, hx103_8, hx103_9, hx103_10, hx103_11, hx103_12, hx103_13, hx103_14, hx103_15, hl103_0, hi103_0, hl103_1, hi103_1, hl103_2, hi103_2, hl103_3, hi103_3, hl103_4, hi103_4⟩ := at_T117 HR0.out x6_1 p103 q103
      cases e103
      replace hx103_0 := hb9 HB.out hx103_0
      replace hx103_1 := hb9 HB.out hx103_1
      replace hx103_2 := hb9 HB.out hx103_2
      replace hx103_3 := hb9 HB.out hx103_3
      replace hx103_4 := hb9 HB.out hx103_4
      replace hx103_5 := hb9 HB.out hx103_5
      replace hx103_6 := hb9 HB.out hx103_6
      replace hx103_7 := hb9 HB.out hx103_7
      replace hx103_8 := hb9 HB.out hx103_8
      replace hx103_9 := hb9 HB.out hx103_9
      replace hx103_10 := hb9 HB.out hx103_10
      replace hx103_11 := hb9 HB.out hx103_11
      replace hx103_12 := hb9 HB.out hx103_12
      replace hx103_13 := hb9 HB.out hx103_13
      replace hx103_14 := hb9 HB.out hx103_14
      replace hx103_15 := hb9 HB.out hx103_15
      have HR103_0 := a9_ hi103_0
      have HC103_0 := a9_ hl103_0
      clear hi103_0 hl103_0
      have HR103_1 := a9_ hi103_1
      have HC103_1 := a9_ hl103_1
      clear hi103_1 hl103_1
      have HR103_2 := a9_ hi103_2
      have HC103_2 := a9_ hl103_2
      clear hi103_2 hl103_2
      have HR103_3 := a9_ hi103_3
      have HC103_3 := a9_ hl103_3
      clear hi103_3 hl103_3
      have HR103_4 := a9_ hi103_4
      have HC103_4 := a9_ hl103_4
      clear hi103_4 hl103_4
      replace p103 := eq_true p103
      replace q103 := eq_true q103
      go_wp2
      go_roundg k1
      case measure => have := HK1.out; omega
      case rel => exact ⟨(wrap64 (x5_1 + (((rd_T117 l0 x6_1).f0).length : Int))), (wrap64 (x6_1 + 1)), rs9, rs9, H', ⟨by have := HK1.out; omega⟩, ⟨kp9 BK101.out⟩, ⟨kp9 BK102.out⟩, ⟨bp9 HB.out⟩⟩
     ·rw [if_neg c7] at H
      exact absurd H (by simp)
    ·rw [if_neg c6] at H
     have c6b0 : decide (x6_1 < (l0.length : Int)) = false := decide_eq_false c6
     clear c6
     by_cases c8 : x5_1 > 24
     ·rw [if_pos c8] at H
      have c8b0 : decide (24 < x5_1) = true := decide_eq_true c8
      clear c8
      simp only [Option.some.injEq, Prod.mk.injEq] at H
      obtain ⟨rfl, rfl, rfl, rfl, rfl, rfl, rfl, rfl⟩ := H
      have hnb9 := NB102_101.out
      have hnc9 := NB101_102.out
      obtain ⟨hcz10_0, hcz10_1, hcz10_2, hcz10_3, hcz10_4, hcz10_5, hcz10_6, hfz10_0, hfz10_1, hfz10_2, hfz10_3, hfz10_4, hfz10_5, hfz10_6⟩ := cz7 BK102.out
      obtain ⟨hcz11_0, hcz11_1, hcz11_2, hcz11_3, hcz11_4, hcz11_5, hcz11_6, hfz11_0, hfz11_1, hfz11_2, hfz11_3, hfz11_4, hfz11_5, hfz11_6⟩ := cz7 BK101.out
      go_wp2
      refine bodyPost_ret (results_ct rfl _ _ gb101 76 #[.slice none 0 0, .slice none 0 0, .slice none 0 0, .slice none 0 0, .slice none 0 0, .slice none 0 0, .slice none 0 0] (0, 0) _ rfl (kb9 BK101.out) Try.underlying76 rfl (by kernel_rfl)) rfl ?_
      exact ⟨_, _, _, _, _, _, _, by first | rfl | (simp [errW_none, errW_some] <;> rfl) | (simp [*, errW_none, errW_some] <;> rfl), by first | exact Kd.R_nil _ _ _ _ _ | exact Kd.N_nil _ _ _ _ _ | exact Kd.V_nil _ _ _ _ _ | exact Kd.Q_nil _ _ _ _ _ | exact Kd.S_nil _ _ _ _ _, by first | exact Kd.R_nil _ _ _ _ _ | exact Kd.N_nil _ _ _ _ _ | exact Kd.V_nil _ _ _ _ _ | exact Kd.Q_nil _ _ _ _ _ | exact Kd.S_nil _ _ _ _ _, by first | exact Kd.R_nil _ _ _ _ _ | exact Kd.N_nil _ _ _ _ _ | exact Kd.V_nil _ _ _ _ _ | exact Kd.Q_nil _ _ _ _ _ | exact Kd.S_nil _ _ _ _ _, by first | exact Kd.R_nil _ _ _ _ _ | exact Kd.N_nil _ _ _ _ _ | exact Kd.V_nil _ _ _ _ _ | exact Kd.Q_nil _ _ _ _ _ | exact Kd.S_nil _ _ _ _ _, by first | exact Kd.R_nil _ _ _ _ _ | exact Kd.N_nil _ _ _ _ _ | exact Kd.V_nil _ _ _ _ _ | exact Kd.Q_nil _ _ _ _ _ | exact Kd.S_nil _ _ _ _ _, by first | exact Kd.R_nil _ _ _ _ _ | exact Kd.N_nil _ _ _ _ _ | exact Kd.V_nil _ _ _ _ _ | exact Kd.Q_nil _ _ _ _ _ | exact Kd.S_nil _ _ _ _ _, by first | exact Kd.S_nil _ _ _ _ _ | exact Kd.N_nil _ _ _ _ _ | exact Kd.V_nil _ _ _ _ _ | exact Kd.Q_nil _ _ _ _ _ | exact Kd.R_nil _ _ _ _ _, bp9 HB.out⟩
     ·rw [if_neg c8] at H
      have c8b0 : decide (24 < x5_1) = false := decide_eq_false c8
      clear c8
      have H' := a9_ H
      clear H
      go_wp2
      go_loopg [7] k1 (fun kq v7 w' => ∃ (x7_2 : Int), v7 = .int .i64 x7_2 ∧ Aside0 (cupolaref10_Join.l1 kq l0 x5_1 x7_2 = some (r1, r2, r3, r4, r5, r6, r7, r8)) ∧ Aside0 (kq ≤ k1) ∧ Aside0 (w'.heap[gb101]? = some (.cells #[(.slice none 0 0), (.slice none 0 0), (.slice none 0 0), (.slice none 0 0), (.slice none 0 0), (.slice none 0 0), (.slice none 0 0)] 76 (0, 0))) ∧ Aside0 (w'.heap[gb102]? = some (.cells #[(.slice none 0 0), (.slice none 0 0), (.slice none 0 0), (.slice none 0 0), (.slice none 0 0), (.slice none 0 0), (.slice none 0 0)] 76 (0, 0))) ∧ Aside0 (Below w.heap.size w w'))
      case atStart => exact ⟨(0), rs9, H', ⟨Nat.le_refl _⟩, ⟨kp9 BK101.out⟩, ⟨kp9 BK102.out⟩, ⟨bp9 HB.out⟩⟩
      case round =>
       refine Classical.byContradiction fun hn9 => ?_
       let rec part1 : False := by
        refine hn9 ?_
        clear hn9
        clear H'
        try clear c1
        try clear p1
        try clear q1
        try clear hx1
        try clear p2
        try clear c4
        try clear c6
        try clear c6b0
        try clear p6
        try clear c7
        try clear c7b0
        try clear c8
        try clear c8b0
        try clear c9
        try clear c10
        try clear p10
        try clear q10
        try clear hx10
        try clear hcz10_0 hcz10_1 hcz10_2 hcz10_3 hcz10_4 hcz10_5 hcz10_6
        try clear hcz11_0 hcz11_1 hcz11_2 hcz11_3 hcz11_4 hcz11_5 hcz11_6
        try clear hcz5_0 hcz5_1 hcz5_2 hcz5_3 hcz5_4 hcz5_5 hcz5_6
        try clear hfz10_0 hfz10_1 hfz10_2 hfz10_3 hfz10_4 hfz10_5 hfz10_6
        try clear hfz11_0 hfz11_1 hfz11_2 hfz11_3 hfz11_4 hfz11_5 hfz11_6
        try clear hfz5_0 hfz5_1 hfz5_2 hfz5_3 hfz5_4 hfz5_5 hfz5_6
        try clear hx103_0
        try clear hx103_1
        try clear hx103_10
        try clear hx103_11
        try clear hx103_12
        try clear hx103_13
        try clear hx103_14
        try clear hx103_15
        try clear hx103_2
        try clear hx103_3
        try clear hx103_4
        try clear hx103_5
        try clear hx103_6
        try clear hx103_7
        try clear hx103_8
        try clear hx103_9
        try clear p103
        try clear p2
        try clear q103
        obtain ⟨x7_2, rfl, HA, HK2, BK101, BK102, HB⟩ := hrel
        cases gk with
        | zero => exact absurd HA.out (by simp [cupolaref10_Join.l1])
        | succ k2 =>
         have H := HA.out
         clear HA
         simp only [cupolaref10_Join.l1] at H
         by_cases c12 : x7_2 < (l0.length : Int)
         ·rw [if_pos c12] at H
          have c12b0 : decide (x7_2 < (l0.length : Int)) = true := decide_eq_true c12
          clear c12
          by_cases c13 : 0 ≤ x7_2
          ·rw [if_pos c13] at H
           have c13b0 : decide (0 ≤ x7_2) = true := decide_eq_true c13
           clear c13
           replace H := Option.bind_eq_some_iff.mp H
           obtain ⟨t105, A140, H⟩ := H
           replace H : (if t105 = true then (cupolaref10_Join.l1 k2 l0 x5_1 (wrap64 (x7_2 + 1))) else (some (([] : List (S26)), ([] : List Int), ([] : List Int), ([] : List Int), ([] : List Int), ([] : List Int), ([] : List (List Int)), 2))) = some (r1, r2, r3, r4, r5, r6, r7, r8) := H
           have A14 := a9_ A140
           clear A140
           by_cases c15 : t105 = true
           ·subst c15
            rw [if_pos rfl] at H
            have H' := a9_ H
            clear H
            have p104 : 0 ≤ (x7_2 : Int) := of_decide_eq_true (by first | (with_reducible assumption) | assumption)
            have q104 : x7_2 < (l0.length : Int) := of_decide_eq_true (by first | (with_reducible assumption) | assumption)
            obtain ⟨ad104, A104_0, c104_0, A104_1, c104_1, A104_2, c104_2, A104_3, c104_3, A104_4, c104_4, e104, hx104_0, hx104_1, hx104_2, hx104_3, hx104_4, hx104_5, hx104_6, hx104_7, hx104_8, hx104_9, hx104_10, hx104_11, hx104_12, hx104_13, hx104_14, hx104_15, hl104_0, hi104_0, hl104_1, hi104_1, hl104_2, hi104_2, hl104_3, hi104_3, hl104_4, hi104_4⟩ := at_T117 HR0.out x7_2 p104 q104
            cases e104
            replace hx104_0 := hb9 HB.out hx104_0
            replace hx104_1 := hb9 HB.out hx104_1
            replace hx104_2 := hb9 HB.out hx104_2
            replace hx104_3 := hb9 HB.out hx104_3
            replace hx104_4 := hb9 HB.out hx104_4
            replace hx104_5 := hb9 HB.out hx104_5
            replace hx104_6 := hb9 HB.out hx104_6
            replace hx104_7 := hb9 HB.out hx104_7
            replace hx104_8 := hb9 HB.out hx104_8
            replace hx104_9 := hb9 HB.out hx104_9
            replace hx104_10 := hb9 HB.out hx104_10
            replace hx104_11 := hb9 HB.out hx104_11
            replace hx104_12 := hb9 HB.out hx104_12
            replace hx104_13 := hb9 HB.out hx104_13
            replace hx104_14 := hb9 HB.out hx104_14
            replace hx104_15 := hb9 HB.out hx104_15
            have HR104_0 := a9_ hi104_0
            have HC104_0 := a9_ hl104_0
            clear hi104_0 hl104_0
            have HR104_1 := a9_ hi104_1
            have HC104_1 := a9_ hl104_1
            clear hi104_1 hl104_1
            have HR104_2 := a9_ hi104_2
            have HC104_2 := a9_ hl104_2
            clear hi104_2 hl104_2
            have HR104_3 := a9_ hi104_3
            have HC104_3 := a9_ hl104_3
            clear hi104_3 hl104_3
            have HR104_4 := a9_ hi104_4
            have HC104_4 := a9_ hl104_4
            clear hi104_4 hl104_4
            replace p104 := eq_true p104
            replace q104 := eq_true q104
            go_wp2_with (first | ((with_reducible refine gate_callee (f := 149) rfl ?_); refine goesL9 (some 48) rfl rfl Try.func149 (by kernel_rfl) rfl #[.agg #[.slice A104_0 ((rd_T117 l0 x7_2).f0).length c104_0, .slice A104_1 ((rd_T117 l0 x7_2).f1).length c104_1, .slice A104_2 ((rd_T117 l0 x7_2).f2).length c104_2, .slice A104_3 ((rd_T117 l0 x7_2).f3).length c104_3, .slice A104_4 ((rd_T117 l0 x7_2).f4).length c104_4, .int .i64 ((rd_T117 l0 x7_2).f5.f0.f0), .int .i64 ((rd_T117 l0 x7_2).f5.f0.f1), .int .i64 ((rd_T117 l0 x7_2).f5.f0.f2), .int .i64 ((rd_T117 l0 x7_2).f5.f0.f3), .int .u32 ((rd_T117 l0 x7_2).f5.f1.f0), .int .u32 ((rd_T117 l0 x7_2).f5.f1.f1), .int .u32 ((rd_T117 l0 x7_2).f5.f1.f2), .int .u32 ((rd_T117 l0 x7_2).f5.f1.f3), .int .i64 ((rd_T117 l0 x7_2).f6), .int .i64 ((rd_T117 l0 x7_2).f7), .int .i64 ((rd_T117 l0 x7_2).f8)]] rfl ?_; (with_reducible refine (cupolaref10_fine.calls k2 _ _ ((rd_T117 l0 x7_2).f0) _ _ ((rd_T117 l0 x7_2).f1) _ _ ((rd_T117 l0 x7_2).f2) _ _ ((rd_T117 l0 x7_2).f3) _ _ ((rd_T117 l0 x7_2).f4) ((rd_T117 l0 x7_2).f5.f0.f0) ((rd_T117 l0 x7_2).f5.f0.f1) ((rd_T117 l0 x7_2).f5.f0.f2) ((rd_T117 l0 x7_2).f5.f0.f3) ((rd_T117 l0 x7_2).f5.f1.f0) ((rd_T117 l0 x7_2).f5.f1.f1) ((rd_T117 l0 x7_2).f5.f1.f2) ((rd_T117 l0 x7_2).f5.f1.f3) ((rd_T117 l0 x7_2).f6) ((rd_T117 l0 x7_2).f7) ((rd_T117 l0 x7_2).f8) true _ ?side1 ?side2 ?side3 ?side4 ?side5 ?side6 ?side7 ?side8 ?side9 ?side10 A14.out).mono ?_); (case side1 => exact cp9 HR104_0.out HB.out); (case side2 => exact HC104_0.out); (case side3 => exact cp9 HR104_1.out HB.out); (case side4 => exact HC104_1.out); (case side5 => exact cp9 HR104_2.out HB.out); (case side6 => exact HC104_2.out); (case side7 => exact cp9 HR104_3.out HB.out); (case side8 => exact HC104_3.out); (case side9 => exact cp9 HR104_4.out HB.out); (case side10 => exact HC104_4.out); rintro e w16 ⟨rfl, hb⟩; refine ⟨_, rfl, ?_⟩; have n0_ := a9_ (blk_below (kp9 BK101.out) hb); have n1_ := a9_ (blk_below (kp9 BK102.out) hb); have n2_ := a9_ (below_step (bp9 HB.out) hb); clear BK101; clear BK102; clear HB; have BK101 := n0_; have BK102 := n1_; have HB := n2_; clear n0_ n1_ n2_; (try clear hb); (try clear hi)))
            go_roundg k2
            case measure => have := HK1.out; have := HK2.out; omega
            case rel => exact ⟨(wrap64 (x7_2 + 1)), rs9, H', ⟨by have := HK1.out; have := HK2.out; omega⟩, ⟨kp9 BK101.out⟩, ⟨kp9 BK102.out⟩, ⟨bp9 HB.out⟩⟩
           ·replace c15 := Bool.eq_false_iff.mpr c15
            subst c15
            rw [if_neg (show ¬ (false = true) by decide)] at H
            simp only [Option.some.injEq, Prod.mk.injEq] at H
            obtain ⟨rfl, rfl, rfl, rfl, rfl, rfl, rfl, rfl⟩ := H
            have p104 : 0 ≤ (x7_2 : Int) := of_decide_eq_true (by first | (with_reducible assumption) | assumption)
            have q104 : x7_2 < (l0.length : Int) := of_decide_eq_true (by first | (with_reducible assumption) | assumption)
            obtain ⟨ad104, A104_0, c104_0, A104_1, c104_1, A104_2, c104_2, A104_3, c104_3, A104_4, c104_4, e104, hx104_0, hx104_1, hx104_2, hx104_3, hx104_4, hx104_5, hx104_6, hx104_7, hx104_8, hx104_9, hx104_10, hx104_11, hx104_12, hx104_13, hx104_14, hx104_15, hl104_0, hi104_0, hl104_1, hi104_1, hl104_2, hi104_2, hl104_3, hi104_3, hl104_4, hi104_4⟩ := at_T117 HR0.out x7_2 p104 q104
            cases e104
            replace hx104_0 := hb9 HB.out hx104_0
            replace hx104_1 := hb9 HB.out hx104_1
            replace hx104_2 := hb9 HB.out hx104_2
            replace hx104_3 := hb9 HB.out hx104_3
            replace hx104_4 := hb9 HB.out hx104_4
            replace hx104_5 := hb9 HB.out hx104_5
            replace hx104_6 := hb9 HB.out hx104_6
            replace hx104_7 := hb9 HB.out hx104_7
            replace hx104_8 := hb9 HB.out hx104_8
            replace hx104_9 := hb9 HB.out hx104_9
            replace hx104_10 := hb9 HB.out hx104_10
            replace hx104_11 := hb9 HB.out hx104_11
            replace hx104_12 := hb9 HB.out hx104_12
            replace hx104_13 := hb9 HB.out hx104_13
            replace hx104_14 := hb9 HB.out hx104_14
            replace hx104_15 := hb9 HB.out hx104_15
            have HR104_0 := a9_ hi104_0
            have HC104_0 := a9_ hl104_0
            clear hi104_0 hl104_0
            have HR104_1 := a9_ hi104_1
            have HC104_1 := a9_ hl104_1
            clear hi104_1 hl104_1
            have HR104_2 := a9_ hi104_2
            have HC104_2 := a9_ hl104_2
            clear hi104_2 hl104_2
            have HR104_3 := a9_ hi104_3
            have HC104_3 := a9_ hl104_3
            clear hi104_3 hl104_3
            have HR104_4 := a9_ hi104_4
            have HC104_4 := a9_ hl104_4
            clear hi104_4 hl104_4
            replace p104 := eq_true p104
            replace q104 := eq_true q104
            go_wp2_with (first | ((with_reducible refine gate_callee (f := 149) rfl ?_); refine goesL9 (some 48) rfl rfl Try.func149 (by kernel_rfl) rfl #[.agg #[.slice A104_0 ((rd_T117 l0 x7_2).f0).length c104_0, .slice A104_1 ((rd_T117 l0 x7_2).f1).length c104_1, .slice A104_2 ((rd_T117 l0 x7_2).f2).length c104_2, .slice A104_3 ((rd_T117 l0 x7_2).f3).length c104_3, .slice A104_4 ((rd_T117 l0 x7_2).f4).length c104_4, .int .i64 ((rd_T117 l0 x7_2).f5.f0.f0), .int .i64 ((rd_T117 l0 x7_2).f5.f0.f1), .int .i64 ((rd_T117 l0 x7_2).f5.f0.f2), .int .i64 ((rd_T117 l0 x7_2).f5.f0.f3), .int .u32 ((rd_T117 l0 x7_2).f5.f1.f0), .int .u32 ((rd_T117 l0 x7_2).f5.f1.f1), .int .u32 ((rd_T117 l0 x7_2).f5.f1.f2), .int .u32 ((rd_T117 l0 x7_2).f5.f1.f3), .int .i64 ((rd_T117 l0 x7_2).f6), .int .i64 ((rd_T117 l0 x7_2).f7), .int .i64 ((rd_T117 l0 x7_2).f8)]] rfl ?_; (with_reducible refine (cupolaref10_fine.calls k2 _ _ ((rd_T117 l0 x7_2).f0) _ _ ((rd_T117 l0 x7_2).f1) _ _ ((rd_T117 l0 x7_2).f2) _ _ ((rd_T117 l0 x7_2).f3) _ _ ((rd_T117 l0 x7_2).f4) ((rd_T117 l0 x7_2).f5.f0.f0) ((rd_T117 l0 x7_2).f5.f0.f1) ((rd_T117 l0 x7_2).f5.f0.f2) ((rd_T117 l0 x7_2).f5.f0.f3) ((rd_T117 l0 x7_2).f5.f1.f0) ((rd_T117 l0 x7_2).f5.f1.f1) ((rd_T117 l0 x7_2).f5.f1.f2) ((rd_T117 l0 x7_2).f5.f1.f3) ((rd_T117 l0 x7_2).f6) ((rd_T117 l0 x7_2).f7) ((rd_T117 l0 x7_2).f8) false _ ?side1 ?side2 ?side3 ?side4 ?side5 ?side6 ?side7 ?side8 ?side9 ?side10 A14.out).mono ?_); (case side1 => exact cp9 HR104_0.out HB.out); (case side2 => exact HC104_0.out); (case side3 => exact cp9 HR104_1.out HB.out); (case side4 => exact HC104_1.out); (case side5 => exact cp9 HR104_2.out HB.out); (case side6 => exact HC104_2.out); (case side7 => exact cp9 HR104_3.out HB.out); (case side8 => exact HC104_3.out); (case side9 => exact cp9 HR104_4.out HB.out); (case side10 => exact HC104_4.out); rintro e w17 ⟨rfl, hb⟩; refine ⟨_, rfl, ?_⟩; have n0_ := a9_ (blk_below (kp9 BK101.out) hb); have n1_ := a9_ (blk_below (kp9 BK102.out) hb); have n2_ := a9_ (below_step (bp9 HB.out) hb); clear BK101; clear BK102; clear HB; have BK101 := n0_; have BK102 := n1_; have HB := n2_; clear n0_ n1_ n2_; (try clear hb); have hnb18 := NB102_101.out; have hnc18 := NB101_102.out; obtain ⟨hcz19_0, hcz19_1, hcz19_2, hcz19_3, hcz19_4, hcz19_5, hcz19_6, hfz19_0, hfz19_1, hfz19_2, hfz19_3, hfz19_4, hfz19_5, hfz19_6⟩ := cz7 BK102.out; obtain ⟨hcz20_0, hcz20_1, hcz20_2, hcz20_3, hcz20_4, hcz20_5, hcz20_6, hfz20_0, hfz20_1, hfz20_2, hfz20_3, hfz20_4, hfz20_5, hfz20_6⟩ := cz7 BK101.out))
            refine bodyPost_ret (results_ct rfl _ _ gb101 76 #[.slice none 0 0, .slice none 0 0, .slice none 0 0, .slice none 0 0, .slice none 0 0, .slice none 0 0, .slice none 0 0] (0, 0) _ rfl (kb9 BK101.out) Try.underlying76 rfl (by kernel_rfl)) rfl ?_
            exact ⟨_, _, _, _, _, _, _, by first | rfl | (simp [errW_none, errW_some] <;> rfl) | (simp [*, errW_none, errW_some] <;> rfl), by first | exact Kd.R_nil _ _ _ _ _ | exact Kd.N_nil _ _ _ _ _ | exact Kd.V_nil _ _ _ _ _ | exact Kd.Q_nil _ _ _ _ _ | exact Kd.S_nil _ _ _ _ _, by first | exact Kd.R_nil _ _ _ _ _ | exact Kd.N_nil _ _ _ _ _ | exact Kd.V_nil _ _ _ _ _ | exact Kd.Q_nil _ _ _ _ _ | exact Kd.S_nil _ _ _ _ _, by first | exact Kd.R_nil _ _ _ _ _ | exact Kd.N_nil _ _ _ _ _ | exact Kd.V_nil _ _ _ _ _ | exact Kd.Q_nil _ _ _ _ _ | exact Kd.S_nil _ _ _ _ _, by first | exact Kd.R_nil _ _ _ _ _ | exact Kd.N_nil _ _ _ _ _ | exact Kd.V_nil _ _ _ _ _ | exact Kd.Q_nil _ _ _ _ _ | exact Kd.S_nil _ _ _ _ _, by first | exact Kd.R_nil _ _ _ _ _ | exact Kd.N_nil _ _ _ _ _ | exact Kd.V_nil _ _ _ _ _ | exact Kd.Q_nil _ _ _ _ _ | exact Kd.S_nil _ _ _ _ _, by first | exact Kd.R_nil _ _ _ _ _ | exact Kd.N_nil _ _ _ _ _ | exact Kd.V_nil _ _ _ _ _ | exact Kd.Q_nil _ _ _ _ _ | exact Kd.S_nil _ _ _ _ _, by first | exact Kd.S_nil _ _ _ _ _ | exact Kd.N_nil _ _ _ _ _ | exact Kd.V_nil _ _ _ _ _ | exact Kd.Q_nil _ _ _ _ _ | exact Kd.R_nil _ _ _ _ _, bp9 HB.out⟩
          ·rw [if_neg c13] at H
           exact absurd H (by simp)
         ·rw [if_neg c12] at H
          have c12b0 : decide (x7_2 < (l0.length : Int)) = false := decide_eq_false c12
          clear c12
          have H' := a9_ H
          clear H
          go_wp2
          go_loopg [8, 9, 10, 11, 12, 13] k2 (fun kq v8 v9 v10 v11 v12 v13 w' => ∃ (x8_3 : List (S46)) (x9_3 : List (S46)) (x10_3 : List (S46)) (x11_3 : List (S46)) (x12_3 : List (S46)) (x13_3 : Int) (x103000_3 : List (S26)) (x103006_3 : List (List Int)) (u103000 : Value) (u103006 : Value), v13 = .int .i64 x13_3 ∧ Aside0 (cupolaref10_Join.l2 kq l0 x5_1 x8_3 x9_3 x10_3 x11_3 x12_3 x13_3 x103000_3 x103006_3 = some (r1, r2, r3, r4, r5, r6, r7, r8)) ∧ Aside0 (kq ≤ k2) ∧ Aside0 (Kd.R k46 46 w' w.heap.size (fun k_ => some k_ ≠ (v9 : Value).ownBlock ∧ some k_ ≠ (v10 : Value).ownBlock ∧ some k_ ≠ (v11 : Value).ownBlock ∧ some k_ ≠ (v12 : Value).ownBlock) v8 x8_3) ∧ Aside0 (Kd.R k46 46 w' w.heap.size (fun k_ => some k_ ≠ (v8 : Value).ownBlock ∧ some k_ ≠ (v10 : Value).ownBlock ∧ some k_ ≠ (v11 : Value).ownBlock ∧ some k_ ≠ (v12 : Value).ownBlock) v9 x9_3) ∧ Aside0 (Kd.R k46 46 w' w.heap.size (fun k_ => some k_ ≠ (v8 : Value).ownBlock ∧ some k_ ≠ (v9 : Value).ownBlock ∧ some k_ ≠ (v11 : Value).ownBlock ∧ some k_ ≠ (v12 : Value).ownBlock) v10 x10_3) ∧ Aside0 (Kd.R k46 46 w' w.heap.size (fun k_ => some k_ ≠ (v8 : Value).ownBlock ∧ some k_ ≠ (v9 : Value).ownBlock ∧ some k_ ≠ (v10 : Value).ownBlock ∧ some k_ ≠ (v12 : Value).ownBlock) v11 x11_3) ∧ Aside0 (Kd.R k46 46 w' w.heap.size (fun k_ => some k_ ≠ (v8 : Value).ownBlock ∧ some k_ ≠ (v9 : Value).ownBlock ∧ some k_ ≠ (v10 : Value).ownBlock ∧ some k_ ≠ (v11 : Value).ownBlock) v12 x12_3) ∧ Aside0 (Kd.R k26 26 w' w.heap.size (fun _ => True) u103000 x103000_3) ∧ Aside0 (Kd.S (Kd.slice 2 (Kd.int .i64)) 23 w' w.heap.size (fun _ => True) u103006 x103006_3) ∧ Aside0 (w'.heap[gb101]? = some (.cells #[(.slice none 0 0), (.slice none 0 0), (.slice none 0 0), (.slice none 0 0), (.slice none 0 0), (.slice none 0 0), (.slice none 0 0)] 76 (0, 0))) ∧ Aside0 (w'.heap[gb102]? = some (.cells #[u103000, (.slice none 0 0), (.slice none 0 0), (.slice none 0 0), (.slice none 0 0), (.slice none 0 0), u103006] 76 (0, 0))) ∧ Aside0 (Below w.heap.size w w'))
          case atStart => exact ⟨(([] : List (S46))), (([] : List (S46))), (([] : List (S46))), (([] : List (S46))), (([] : List (S46))), (0), (([] : List (S26))), (([] : List (List Int))), (.slice none 0 0), (.slice none 0 0), rs9, H', ⟨Nat.le_refl _⟩, ⟨by first | exact Kd.R_nil _ _ _ _ _ | exact Kd.N_nil _ _ _ _ _ | exact Kd.V_nil _ _ _ _ _ | exact Kd.Q_nil _ _ _ _ _ | exact Kd.S_nil _ _ _ _ _⟩, ⟨by first | exact Kd.R_nil _ _ _ _ _ | exact Kd.N_nil _ _ _ _ _ | exact Kd.V_nil _ _ _ _ _ | exact Kd.Q_nil _ _ _ _ _ | exact Kd.S_nil _ _ _ _ _⟩, ⟨by first | exact Kd.R_nil _ _ _ _ _ | exact Kd.N_nil _ _ _ _ _ | exact Kd.V_nil _ _ _ _ _ | exact Kd.Q_nil _ _ _ _ _ | exact Kd.S_nil _ _ _ _ _⟩, ⟨by first | exact Kd.R_nil _ _ _ _ _ | exact Kd.N_nil _ _ _ _ _ | exact Kd.V_nil _ _ _ _ _ | exact Kd.Q_nil _ _ _ _ _ | exact Kd.S_nil _ _ _ _ _⟩, ⟨by first | exact Kd.R_nil _ _ _ _ _ | exact Kd.N_nil _ _ _ _ _ | exact Kd.V_nil _ _ _ _ _ | exact Kd.Q_nil _ _ _ _ _ | exact Kd.S_nil _ _ _ _ _⟩, ⟨by first | exact Kd.R_nil _ _ _ _ _ | exact Kd.N_nil _ _ _ _ _ | exact Kd.V_nil _ _ _ _ _ | exact Kd.Q_nil _ _ _ _ _ | exact Kd.S_nil _ _ _ _ _⟩, ⟨by first | exact Kd.S_nil _ _ _ _ _ | exact Kd.N_nil _ _ _ _ _ | exact Kd.V_nil _ _ _ _ _ | exact Kd.Q_nil _ _ _ _ _ | exact Kd.R_nil _ _ _ _ _⟩, ⟨kp9 BK101.out⟩, ⟨kp9 BK102.out⟩, ⟨bp9 HB.out⟩⟩
          case round =>
           refine Classical.byContradiction fun hn9 => ?_
           let rec part2 : False := by
            refine hn9 ?_
            clear hn9
            clear H'
            try clear c1
            try clear p1
            try clear q1
            try clear hx1
            try clear p2
            try clear c4
            try clear c6
            try clear c6b0
            try clear p6
            try clear c7
            try clear c7b0
            try clear c8
            try clear c8b0
            try clear c9
            try clear c10
            try clear p10
            try clear q10
            try clear hx10
            try clear c12
            try clear c12b0
            try clear c13
            try clear c13b0
            try clear c14
            try clear c15
            try clear c18
            try clear hcz10_0 hcz10_1 hcz10_2 hcz10_3 hcz10_4 hcz10_5 hcz10_6
            try clear hcz11_0 hcz11_1 hcz11_2 hcz11_3 hcz11_4 hcz11_5 hcz11_6
            try clear hcz19_0 hcz19_1 hcz19_2 hcz19_3 hcz19_4 hcz19_5 hcz19_6
            try clear hcz20_0 hcz20_1 hcz20_2 hcz20_3 hcz20_4 hcz20_5 hcz20_6
            try clear hcz5_0 hcz5_1 hcz5_2 hcz5_3 hcz5_4 hcz5_5 hcz5_6
            try clear hfz10_0 hfz10_1 hfz10_2 hfz10_3 hfz10_4 hfz10_5 hfz10_6
            try clear hfz11_0 hfz11_1 hfz11_2 hfz11_3 hfz11_4 hfz11_5 hfz11_6
            try clear hfz19_0 hfz19_1 hfz19_2 hfz19_3 hfz19_4 hfz19_5 hfz19_6
            try clear hfz20_0 hfz20_1 hfz20_2 hfz20_3 hfz20_4 hfz20_5 hfz20_6
            try clear hfz5_0 hfz5_1 hfz5_2 hfz5_3 hfz5_4 hfz5_5 hfz5_6
            try clear hx103_0
            try clear hx103_1
            try clear hx103_10
            try clear hx103_11
            try clear hx103_12
            try clear hx103_13
            try clear hx103_14
            try clear hx103_15
            try clear hx103_2
            try clear hx103_3
            try clear hx103_4
            try clear hx103_5
            try clear hx103_6
            try clear hx103_7
            try clear hx103_8
            try clear hx103_9
            try clear hx104_0
            try clear hx104_1
            try clear hx104_10
            try clear hx104_11
            try clear hx104_12
            try clear hx104_13
            try clear hx104_14
            try clear hx104_15
            try clear hx104_2
            try clear hx104_3
            try clear hx104_4
            try clear hx104_5
            try clear hx104_6
            try clear hx104_7
            try clear hx104_8
            try clear hx104_9
            try clear p1
            try clear p10
            try clear p103
            try clear p104
            try clear p2
            try clear p6
            try clear q1
            try clear q10
            try clear q103
            try clear q104
            obtain ⟨x8_3, x9_3, x10_3, x11_3, x12_3, x13_3, x103000_3, x103006_3, u103000, u103006, rfl, HA, HK3, HO_8, HO_9, HO_10, HO_11, HO_12, HO_103000, HO_103006, BK101, BK102, HB⟩ := hrel
            cases gk with
            | zero => exact absurd HA.out (by simp [cupolaref10_Join.l2])
            | succ k3 =>
             have H := HA.out
             clear HA
             simp only [cupolaref10_Join.l2] at H
             by_cases c21 : x13_3 < (l0.length : Int)
             ·rw [if_pos c21] at H
              have c21b0 : decide (x13_3 < (l0.length : Int)) = true := decide_eq_true c21
              clear c21
              by_cases c22 : 0 ≤ x13_3
              ·rw [if_pos c22] at H
               have c22b0 : decide (0 ≤ x13_3) = true := decide_eq_true c22
               clear c22
               have H' := a9_ H
               clear H
               have hnb23 := NB102_101.out
               have hnc23 := NB101_102.out
               obtain ⟨hcz24_0, hcz24_1, hcz24_2, hcz24_3, hcz24_4, hcz24_5, hcz24_6, hfz24_0, hfz24_1, hfz24_2, hfz24_3, hfz24_4, hfz24_5, hfz24_6⟩ := cz7 BK102.out
               obtain ⟨Ao25, co25, eo25⟩ := Kd.R_slice HO_103000.out
               subst eo25
               have p106 : 0 ≤ (x13_3 : Int) := of_decide_eq_true (by first | (with_reducible assumption) | assumption)
               have q106 : x13_3 < (l0.length : Int) := of_decide_eq_true (by first | (with_reducible assumption) | assumption)
               obtain ⟨ad106, A106_0, c106_0, A106_1, c106_1, A106_2, c106_2, A106_3, c106_3, A106_4, c106_4, e106, hx106_0, hx106_1, hx106_2, hx106_3, hx106_4, hx106_5, hx106_6, hx106_7, hx106_8, hx106_9, hx106_10, hx106_11, hx106_12, hx106_13, hx106_14, hx106_15, hl106_0, hi106_0, hl106_1, hi106_1, hl106_2, hi106_2, hl106_3, hi106_3, hl106_4, hi106_4⟩ := at_T117 HR0.out x13_3 p106 q106
               cases e106
               replace hx106_0 := hb9 HB.out hx106_0
               replace hx106_1 := hb9 HB.out hx106_1
               replace hx106_2 := hb9 HB.out hx106_2
               replace hx106_3 := hb9 HB.out hx106_3
               replace hx106_4 := hb9 HB.out hx106_4
               replace hx106_5 := hb9 HB.out hx106_5
               replace hx106_6 := hb9 HB.out hx106_6
               replace hx106_7 := hb9 HB.out hx106_7
               replace hx106_8 := hb9 HB.out hx106_8
               replace hx106_9 := hb9 HB.out hx106_9
               replace hx106_10 := hb9 HB.out hx106_10
               replace hx106_11 := hb9 HB.out hx106_11
               replace hx106_12 := hb9 HB.out hx106_12
               replace hx106_13 := hb9 HB.out hx106_13
               replace hx106_14 := hb9 HB.out hx106_14
               replace hx106_15 := hb9 HB.out hx106_15
               have HR106_0 := a9_ hi106_0
               have HC106_0 := a9_ hl106_0
               clear hi106_0 hl106_0
               have HR106_1 := a9_ hi106_1
               have HC106_1 := a9_ hl106_1
               clear hi106_1 hl106_1
               have HR106_2 := a9_ hi106_2
               have HC106_2 := a9_ hl106_2
               clear hi106_2 hl106_2
               have HR106_3 := a9_ hi106_3
               have HC106_3 := a9_ hl106_3
               clear hi106_3 hl106_3
               have HR106_4 := a9_ hi106_4
               have HC106_4 := a9_ hl106_4
               clear hi106_4 hl106_4
               replace p106 := eq_true p106
               replace q106 := eq_true q106
               go_wp2_with (first | ((with_reducible refine gate_dst (N := 15) rfl ?_); refine box9 (N := 15) (cs := #[.slice none 0 0, .slice none 0 0, .slice none 0 0, .slice none 0 0, .slice none 0 0, .int .i64 0, .int .i64 0, .int .i64 0, .int .i64 0, .int .u32 0, .int .u32 0, .int .u32 0, .int .u32 0, .int .i64 0, .int .i64 0, .int .i64 0]) (t := 117) ?_; intro gb107 hg w26 hbox hb; have n0_ := a9_ (Kd.R_below (rp9 HO_8.out) hb); have n1_ := a9_ (Kd.R_below (rp9 HO_9.out) hb); have n2_ := a9_ (Kd.R_below (rp9 HO_10.out) hb); have n3_ := a9_ (Kd.R_below (rp9 HO_11.out) hb); have n4_ := a9_ (Kd.R_below (rp9 HO_12.out) hb); have n5_ := a9_ (Kd.R_below (rp9 HO_103000.out) hb); have n6_ := a9_ (Kd.S_below (sp9 HO_103006.out) hb); have n7_ := a9_ (blk_below (kp9 BK101.out) hb); have n8_ := a9_ (blk_below (kp9 BK102.out) hb); have n9_ := a9_ (below_step (bp9 HB.out) hb); have n10_ := a9_ (hbox); have n11_ := a9_ ((by rw [hg]; exact (below_size (bp9 HB.out)) : w.heap.size ≤ gb107)); have n12_ := n11_; have n13_ := a9_ ((by rw [hg]; exact Nat.ne_of_lt (blk_lt (kp9 BK101.out)) : gb101 ≠ gb107)); have n14_ := a9_ ((by rw [hg]; exact Nat.ne_of_gt (blk_lt (kp9 BK101.out)) : gb107 ≠ gb101)); have n15_ := a9_ ((by rw [hg]; exact Nat.ne_of_lt (blk_lt (kp9 BK102.out)) : gb102 ≠ gb107)); have n16_ := a9_ ((by rw [hg]; exact Nat.ne_of_gt (blk_lt (kp9 BK102.out)) : gb107 ≠ gb102)); clear HO_8; clear HO_9; clear HO_10; clear HO_11; clear HO_12; clear HO_103000; clear HO_103006; clear BK101; clear BK102; clear HB; have HO_8 := n0_; have HO_9 := n1_; have HO_10 := n2_; have HO_11 := n3_; have HO_12 := n4_; have HO_103000 := n5_; have HO_103006 := n6_; have BK101 := n7_; have BK102 := n8_; have HB := n9_; have BK107 := n10_; have GW107 := n11_; have GE107 := n12_; have NB101_107 := n13_; have NB107_101 := n14_; have NB102_107 := n15_; have NB107_102 := n16_; clear n0_ n1_ n2_ n3_ n4_ n5_ n6_ n7_ n8_ n9_ n10_ n11_ n12_ n13_ n14_ n15_ n16_; clear hb hbox hg; have hnb27 := NB107_101.out; have hnc27 := NB101_107.out; have hnb28 := NB107_102.out; have hnc28 := NB102_107.out; obtain ⟨hcz29_0, hcz29_1, hcz29_2, hcz29_3, hcz29_4, hcz29_5, hcz29_6, hcz29_7, hcz29_8, hcz29_9, hcz29_10, hcz29_11, hcz29_12, hcz29_13, hcz29_14, hcz29_15, hfz29_0, hfz29_1, hfz29_2, hfz29_3, hfz29_4, hfz29_5, hfz29_6, hfz29_7, hfz29_8, hfz29_9, hfz29_10, hfz29_11, hfz29_12, hfz29_13, hfz29_14, hfz29_15⟩ := cz16 BK107.out))
               go_loopg [8, 9, 10, 11, 12, 16] k3 (fun kq v8 v9 v10 v11 v12 v16 w' => ∃ (x8_4 : List (S46)) (x9_4 : List (S46)) (x10_4 : List (S46)) (x11_4 : List (S46)) (x12_4 : List (S46)) (x16_4 : Int) (x103000_4 : List (S26)) (u103000 : Value), v16 = .int .i64 x16_4 ∧ Aside0 (cupolaref10_Join.l3 kq l0 x5_1 x8_4 x9_4 x10_4 x11_4 x12_4 x13_3 (x103000_3.length : Int) x16_4 x103000_4 x103006_3 ((rd_T117 l0 x13_3).f0) ((rd_T117 l0 x13_3).f1) ((rd_T117 l0 x13_3).f2) ((rd_T117 l0 x13_3).f3) ((rd_T117 l0 x13_3).f4) ((rd_T117 l0 x13_3).f5.f0.f0) ((rd_T117 l0 x13_3).f5.f0.f1) ((rd_T117 l0 x13_3).f5.f0.f2) ((rd_T117 l0 x13_3).f5.f0.f3) ((rd_T117 l0 x13_3).f5.f1.f0) ((rd_T117 l0 x13_3).f5.f1.f1) ((rd_T117 l0 x13_3).f5.f1.f2) ((rd_T117 l0 x13_3).f5.f1.f3) ((rd_T117 l0 x13_3).f6) ((rd_T117 l0 x13_3).f7) ((rd_T117 l0 x13_3).f8) = some (r1, r2, r3, r4, r5, r6, r7, r8)) ∧ Aside0 (kq ≤ k3) ∧ Aside0 (Kd.R k46 46 w' w.heap.size (fun k_ => some k_ ≠ (v9 : Value).ownBlock ∧ some k_ ≠ (v10 : Value).ownBlock ∧ some k_ ≠ (v11 : Value).ownBlock ∧ some k_ ≠ (v12 : Value).ownBlock) v8 x8_4) ∧ Aside0 (Kd.R k46 46 w' w.heap.size (fun k_ => some k_ ≠ (v8 : Value).ownBlock ∧ some k_ ≠ (v10 : Value).ownBlock ∧ some k_ ≠ (v11 : Value).ownBlock ∧ some k_ ≠ (v12 : Value).ownBlock) v9 x9_4) ∧ Aside0 (Kd.R k46 46 w' w.heap.size (fun k_ => some k_ ≠ (v8 : Value).ownBlock ∧ some k_ ≠ (v9 : Value).ownBlock ∧ some k_ ≠ (v11 : Value).ownBlock ∧ some k_ ≠ (v12 : Value).ownBlock) v10 x10_4) ∧ Aside0 (Kd.R k46 46 w' w.heap.size (fun k_ => some k_ ≠ (v8 : Value).ownBlock ∧ some k_ ≠ (v9 : Value).ownBlock ∧ some k_ ≠ (v10 : Value).ownBlock ∧ some k_ ≠ (v12 : Value).ownBlock) v11 x11_4) ∧ Aside0 (Kd.R k46 46 w' w.heap.size (fun k_ => some k_ ≠ (v8 : Value).ownBlock ∧ some k_ ≠ (v9 : Value).ownBlock ∧ some k_ ≠ (v10 : Value).ownBlock ∧ some k_ ≠ (v11 : Value).ownBlock) v12 x12_4) ∧ Aside0 (Kd.R k26 26 w' w.heap.size (fun _ => True) u103000 x103000_4) ∧ Aside0 (Kd.S (Kd.slice 2 (Kd.int .i64)) 23 w' w.heap.size (fun _ => True) u103006 x103006_3) ∧ Aside0 (w'.heap[gb101]? = some (.cells #[(.slice none 0 0), (.slice none 0 0), (.slice none 0 0), (.slice none 0 0), (.slice none 0 0), (.slice none 0 0), (.slice none 0 0)] 76 (0, 0))) ∧ Aside0 (w'.heap[gb102]? = some (.cells #[u103000, (.slice none 0 0), (.slice none 0 0), (.slice none 0 0), (.slice none 0 0), (.slice none 0 0), u103006] 76 (0, 0))) ∧ Aside0 (w'.heap[gb107]? = some (.cells #[(.slice A106_0 ((rd_T117 l0 x13_3).f0).length c106_0), (.slice A106_1 ((rd_T117 l0 x13_3).f1).length c106_1), (.slice A106_2 ((rd_T117 l0 x13_3).f2).length c106_2), (.slice A106_3 ((rd_T117 l0 x13_3).f3).length c106_3), (.slice A106_4 ((rd_T117 l0 x13_3).f4).length c106_4), .int .i64 ((rd_T117 l0 x13_3).f5.f0.f0), .int .i64 ((rd_T117 l0 x13_3).f5.f0.f1), .int .i64 ((rd_T117 l0 x13_3).f5.f0.f2), .int .i64 ((rd_T117 l0 x13_3).f5.f0.f3), .int .u32 ((rd_T117 l0 x13_3).f5.f1.f0), .int .u32 ((rd_T117 l0 x13_3).f5.f1.f1), .int .u32 ((rd_T117 l0 x13_3).f5.f1.f2), .int .u32 ((rd_T117 l0 x13_3).f5.f1.f3), .int .i64 ((rd_T117 l0 x13_3).f6), .int .i64 ((rd_T117 l0 x13_3).f7), .int .i64 ((rd_T117 l0 x13_3).f8)] 117 (0, 0))) ∧ Aside0 (Below w.heap.size w w'))
               case atStart => exact ⟨(x8_3), (x9_3), (x10_3), (x11_3), (x12_3), (0), (x103000_3), (.slice Ao25 x103000_3.length co25), rs9, H', ⟨Nat.le_refl _⟩, ⟨rp9 (Kd.R_mono (Kd.R_far (p := ⟨gb107, 15, none⟩) (Kd.R_far (p := ⟨gb107, 14, none⟩) (Kd.R_far (p := ⟨gb107, 13, none⟩) (Kd.R_far (p := ⟨gb107, 12, none⟩) (Kd.R_far (p := ⟨gb107, 11, none⟩) (Kd.R_far (p := ⟨gb107, 10, none⟩) (Kd.R_far (p := ⟨gb107, 9, none⟩) (Kd.R_far (p := ⟨gb107, 8, none⟩) (Kd.R_far (p := ⟨gb107, 7, none⟩) (Kd.R_far (p := ⟨gb107, 6, none⟩) (Kd.R_far (p := ⟨gb107, 5, none⟩) (Kd.R_far (p := ⟨gb107, 4, none⟩) (Kd.R_far (p := ⟨gb107, 3, none⟩) (Kd.R_far (p := ⟨gb107, 2, none⟩) (Kd.R_far (p := ⟨gb107, 1, none⟩) (Kd.R_far (p := ⟨gb107, 0, none⟩) (Kd.R_types HO_8.out BK107.out (by decide)) (fun _ hk => hk.2) (.slice A106_0 ((rd_T117 l0 x13_3).f0).length c106_0)) (fun _ hk => hk.2) (.slice A106_1 ((rd_T117 l0 x13_3).f1).length c106_1)) (fun _ hk => hk.2) (.slice A106_2 ((rd_T117 l0 x13_3).f2).length c106_2)) (fun _ hk => hk.2) (.slice A106_3 ((rd_T117 l0 x13_3).f3).length c106_3)) (fun _ hk => hk.2) (.slice A106_4 ((rd_T117 l0 x13_3).f4).length c106_4)) (fun _ hk => hk.2) (.int .i64 ((rd_T117 l0 x13_3).f5.f0.f0))) (fun _ hk => hk.2) (.int .i64 ((rd_T117 l0 x13_3).f5.f0.f1))) (fun _ hk => hk.2) (.int .i64 ((rd_T117 l0 x13_3).f5.f0.f2))) (fun _ hk => hk.2) (.int .i64 ((rd_T117 l0 x13_3).f5.f0.f3))) (fun _ hk => hk.2) (.int .u32 ((rd_T117 l0 x13_3).f5.f1.f0))) (fun _ hk => hk.2) (.int .u32 ((rd_T117 l0 x13_3).f5.f1.f1))) (fun _ hk => hk.2) (.int .u32 ((rd_T117 l0 x13_3).f5.f1.f2))) (fun _ hk => hk.2) (.int .u32 ((rd_T117 l0 x13_3).f5.f1.f3))) (fun _ hk => hk.2) (.int .i64 ((rd_T117 l0 x13_3).f6))) (fun _ hk => hk.2) (.int .i64 ((rd_T117 l0 x13_3).f7))) (fun _ hk => hk.2) (.int .i64 ((rd_T117 l0 x13_3).f8))) (fun _ hk => ⟨hk.1.1, ⟨hk.1.2.1, ⟨hk.1.2.2.1, hk.1.2.2.2⟩⟩⟩))⟩, ⟨rp9 (Kd.R_mono (Kd.R_far (p := ⟨gb107, 15, none⟩) (Kd.R_far (p := ⟨gb107, 14, none⟩) (Kd.R_far (p := ⟨gb107, 13, none⟩) (Kd.R_far (p := ⟨gb107, 12, none⟩) (Kd.R_far (p := ⟨gb107, 11, none⟩) (Kd.R_far (p := ⟨gb107, 10, none⟩) (Kd.R_far (p := ⟨gb107, 9, none⟩) (Kd.R_far (p := ⟨gb107, 8, none⟩) (Kd.R_far (p := ⟨gb107, 7, none⟩) (Kd.R_far (p := ⟨gb107, 6, none⟩) (Kd.R_far (p := ⟨gb107, 5, none⟩) (Kd.R_far (p := ⟨gb107, 4, none⟩) (Kd.R_far (p := ⟨gb107, 3, none⟩) (Kd.R_far (p := ⟨gb107, 2, none⟩) (Kd.R_far (p := ⟨gb107, 1, none⟩) (Kd.R_far (p := ⟨gb107, 0, none⟩) (Kd.R_types HO_9.out BK107.out (by decide)) (fun _ hk => hk.2) (.slice A106_0 ((rd_T117 l0 x13_3).f0).length c106_0)) (fun _ hk => hk.2) (.slice A106_1 ((rd_T117 l0 x13_3).f1).length c106_1)) (fun _ hk => hk.2) (.slice A106_2 ((rd_T117 l0 x13_3).f2).length c106_2)) (fun _ hk => hk.2) (.slice A106_3 ((rd_T117 l0 x13_3).f3).length c106_3)) (fun _ hk => hk.2) (.slice A106_4 ((rd_T117 l0 x13_3).f4).length c106_4)) (fun _ hk => hk.2) (.int .i64 ((rd_T117 l0 x13_3).f5.f0.f0))) (fun _ hk => hk.2) (.int .i64 ((rd_T117 l0 x13_3).f5.f0.f1))) (fun _ hk => hk.2) (.int .i64 ((rd_T117 l0 x13_3).f5.f0.f2))) (fun _ hk => hk.2) (.int .i64 ((rd_T117 l0 x13_3).f5.f0.f3))) (fun _ hk => hk.2) (.int .u32 ((rd_T117 l0 x13_3).f5.f1.f0))) (fun _ hk => hk.2) (.int .u32 ((rd_T117 l0 x13_3).f5.f1.f1))) (fun _ hk => hk.2) (.int .u32 ((rd_T117 l0 x13_3).f5.f1.f2))) (fun _ hk => hk.2) (.int .u32 ((rd_T117 l0 x13_3).f5.f1.f3))) (fun _ hk => hk.2) (.int .i64 ((rd_T117 l0 x13_3).f6))) (fun _ hk => hk.2) (.int .i64 ((rd_T117 l0 x13_3).f7))) (fun _ hk => hk.2) (.int .i64 ((rd_T117 l0 x13_3).f8))) (fun _ hk => ⟨hk.1.1, ⟨hk.1.2.1, ⟨hk.1.2.2.1, hk.1.2.2.2⟩⟩⟩))⟩, ⟨rp9 (Kd.R_mono (Kd.R_far (p := ⟨gb107, 15, none⟩) (Kd.R_far (p := ⟨gb107, 14, none⟩) (Kd.R_far (p := ⟨gb107, 13, none⟩) (Kd.R_far (p := ⟨gb107, 12, none⟩) (Kd.R_far (p := ⟨gb107, 11, none⟩) (Kd.R_far (p := ⟨gb107, 10, none⟩) (Kd.R_far (p := ⟨gb107, 9, none⟩) (Kd.R_far (p := ⟨gb107, 8, none⟩) (Kd.R_far (p := ⟨gb107, 7, none⟩) (Kd.R_far (p := ⟨gb107, 6, none⟩) (Kd.R_far (p := ⟨gb107, 5, none⟩) (Kd.R_far (p := ⟨gb107, 4, none⟩) (Kd.R_far (p := ⟨gb107, 3, none⟩) (Kd.R_far (p := ⟨gb107, 2, none⟩) (Kd.R_far (p := ⟨gb107, 1, none⟩) (Kd.R_far (p := ⟨gb107, 0, none⟩) (Kd.R_types HO_10.out BK107.out (by decide)) (fun _ hk => hk.2) (.slice A106_0 ((rd_T117 l0 x13_3).f0).length c106_0)) (fun _ hk => hk.2) (.slice A106_1 ((rd_T117 l0 x13_3).f1).length c106_1)) (fun _ hk => hk.2) (.slice A106_2 ((rd_T117 l0 x13_3).f2).length c106_2)) (fun _ hk => hk.2) (.slice A106_3 ((rd_T117 l0 x13_3).f3).length c106_3)) (fun _ hk => hk.2) (.slice A106_4 ((rd_T117 l0 x13_3).f4).length c106_4)) (fun _ hk => hk.2) (.int .i64 ((rd_T117 l0 x13_3).f5.f0.f0))) (fun _ hk => hk.2) (.int .i64 ((rd_T117 l0 x13_3).f5.f0.f1))) (fun _ hk => hk.2) (.int .i64 ((rd_T117 l0 x13_3).f5.f0.f2))) (fun _ hk => hk.2) (.int .i64 ((rd_T117 l0 x13_3).f5.f0.f3))) (fun _ hk => hk.2) (.int .u32 ((rd_T117 l0 x13_3).f5.f1.f0))) (fun _ hk => hk.2) (.int .u32 ((rd_T117 l0 x13_3).f5.f1.f1))) (fun _ hk => hk.2) (.int .u32 ((rd_T117 l0 x13_3).f5.f1.f2))) (fun _ hk => hk.2) (.int .u32 ((rd_T117 l0 x13_3).f5.f1.f3))) (fun _ hk => hk.2) (.int .i64 ((rd_T117 l0 x13_3).f6))) (fun _ hk => hk.2) (.int .i64 ((rd_T117 l0 x13_3).f7))) (fun _ hk => hk.2) (.int .i64 ((rd_T117 l0 x13_3).f8))) (fun _ hk => ⟨hk.1.1, ⟨hk.1.2.1, ⟨hk.1.2.2.1, hk.1.2.2.2⟩⟩⟩))⟩, ⟨rp9 (Kd.R_mono (Kd.R_far (p := ⟨gb107, 15, none⟩) (Kd.R_far (p := ⟨gb107, 14, none⟩) (Kd.R_far (p := ⟨gb107, 13, none⟩) (Kd.R_far (p := ⟨gb107, 12, none⟩) (Kd.R_far (p := ⟨gb107, 11, none⟩) (Kd.R_far (p := ⟨gb107, 10, none⟩) (Kd.R_far (p := ⟨gb107, 9, none⟩) (Kd.R_far (p := ⟨gb107, 8, none⟩) (Kd.R_far (p := ⟨gb107, 7, none⟩) (Kd.R_far (p := ⟨gb107, 6, none⟩) (Kd.R_far (p := ⟨gb107, 5, none⟩) (Kd.R_far (p := ⟨gb107, 4, none⟩) (Kd.R_far (p := ⟨gb107, 3, none⟩) (Kd.R_far (p := ⟨gb107, 2, none⟩) (Kd.R_far (p := ⟨gb107, 1, none⟩) (Kd.R_far (p := ⟨gb107, 0, none⟩) (Kd.R_types HO_11.out BK107.out (by decide)) (fun _ hk => hk.2) (.slice A106_0 ((rd_T117 l0 x13_3).f0).length c106_0)) (fun _ hk => hk.2) (.slice A106_1 ((rd_T117 l0 x13_3).f1).length c106_1)) (fun _ hk => hk.2) (.slice A106_2 ((rd_T117 l0 x13_3).f2).length c106_2)) (fun _ hk => hk.2) (.slice A106_3 ((rd_T117 l0 x13_3).f3).length c106_3)) (fun _ hk => hk.2) (.slice A106_4 ((rd_T117 l0 x13_3).f4).length c106_4)) (fun _ hk => hk.2) (.int .i64 ((rd_T117 l0 x13_3).f5.f0.f0))) (fun _ hk => hk.2) (.int .i64 ((rd_T117 l0 x13_3).f5.f0.f1))) (fun _ hk => hk.2) (.int .i64 ((rd_T117 l0 x13_3).f5.f0.f2))) (fun _ hk => hk.2) (.int .i64 ((rd_T117 l0 x13_3).f5.f0.f3))) (fun _ hk => hk.2) (.int .u32 ((rd_T117 l0 x13_3).f5.f1.f0))) (fun _ hk => hk.2) (.int .u32 ((rd_T117 l0 x13_3).f5.f1.f1))) (fun _ hk => hk.2) (.int .u32 ((rd_T117 l0 x13_3).f5.f1.f2))) (fun _ hk => hk.2) (.int .u32 ((rd_T117 l0 x13_3).f5.f1.f3))) (fun _ hk => hk.2) (.int .i64 ((rd_T117 l0 x13_3).f6))) (fun _ hk => hk.2) (.int .i64 ((rd_T117 l0 x13_3).f7))) (fun _ hk => hk.2) (.int .i64 ((rd_T117 l0 x13_3).f8))) (fun _ hk => ⟨hk.1.1, ⟨hk.1.2.1, ⟨hk.1.2.2.1, hk.1.2.2.2⟩⟩⟩))⟩, ⟨rp9 (Kd.R_mono (Kd.R_far (p := ⟨gb107, 15, none⟩) (Kd.R_far (p := ⟨gb107, 14, none⟩) (Kd.R_far (p := ⟨gb107, 13, none⟩) (Kd.R_far (p := ⟨gb107, 12, none⟩) (Kd.R_far (p := ⟨gb107, 11, none⟩) (Kd.R_far (p := ⟨gb107, 10, none⟩) (Kd.R_far (p := ⟨gb107, 9, none⟩) (Kd.R_far (p := ⟨gb107, 8, none⟩) (Kd.R_far (p := ⟨gb107, 7, none⟩) (Kd.R_far (p := ⟨gb107, 6, none⟩) (Kd.R_far (p := ⟨gb107, 5, none⟩) (Kd.R_far (p := ⟨gb107, 4, none⟩) (Kd.R_far (p := ⟨gb107, 3, none⟩) (Kd.R_far (p := ⟨gb107, 2, none⟩) (Kd.R_far (p := ⟨gb107, 1, none⟩) (Kd.R_far (p := ⟨gb107, 0, none⟩) (Kd.R_types HO_12.out BK107.out (by decide)) (fun _ hk => hk.2) (.slice A106_0 ((rd_T117 l0 x13_3).f0).length c106_0)) (fun _ hk => hk.2) (.slice A106_1 ((rd_T117 l0 x13_3).f1).length c106_1)) (fun _ hk => hk.2) (.slice A106_2 ((rd_T117 l0 x13_3).f2).length c106_2)) (fun _ hk => hk.2) (.slice A106_3 ((rd_T117 l0 x13_3).f3).length c106_3)) (fun _ hk => hk.2) (.slice A106_4 ((rd_T117 l0 x13_3).f4).length c106_4)) (fun _ hk => hk.2) (.int .i64 ((rd_T117 l0 x13_3).f5.f0.f0))) (fun _ hk => hk.2) (.int .i64 ((rd_T117 l0 x13_3).f5.f0.f1))) (fun _ hk => hk.2) (.int .i64 ((rd_T117 l0 x13_3).f5.f0.f2))) (fun _ hk => hk.2) (.int .i64 ((rd_T117 l0 x13_3).f5.f0.f3))) (fun _ hk => hk.2) (.int .u32 ((rd_T117 l0 x13_3).f5.f1.f0))) (fun _ hk => hk.2) (.int .u32 ((rd_T117 l0 x13_3).f5.f1.f1))) (fun _ hk => hk.2) (.int .u32 ((rd_T117 l0 x13_3).f5.f1.f2))) (fun _ hk => hk.2) (.int .u32 ((rd_T117 l0 x13_3).f5.f1.f3))) (fun _ hk => hk.2) (.int .i64 ((rd_T117 l0 x13_3).f6))) (fun _ hk => hk.2) (.int .i64 ((rd_T117 l0 x13_3).f7))) (fun _ hk => hk.2) (.int .i64 ((rd_T117 l0 x13_3).f8))) (fun _ hk => ⟨hk.1.1, ⟨hk.1.2.1, ⟨hk.1.2.2.1, hk.1.2.2.2⟩⟩⟩))⟩, ⟨ty9 HO_103000.out BK107.out⟩, ⟨tz9 HO_103006.out BK107.out⟩, ⟨kf9 BK101.out⟩, ⟨kf9 BK102.out⟩, ⟨kb9 BK107.out⟩, ⟨bp9 HB.out⟩⟩
               case round =>
                refine Classical.byContradiction fun hn9 => ?_
                let rec part3 : False := by
                 refine hn9 ?_
                 clear hn9
                 clear H'
                 try clear c1
                 try clear p1
                 try clear q1
                 try clear hx1
                 try clear c2
                 try clear p2
                 try clear c4
                 try clear c6
                 try clear c6b0
                 try clear p6
                 try clear c7
                 try clear c7b0
                 try clear c8
                 try clear c8b0
                 try clear c9
                 try clear c10
                 try clear p10
                 try clear q10
                 try clear hx10
                 try clear c12
                 try clear c12b0
                 try clear c13
                 try clear c13b0
                 try clear c14
                 try clear c15
                 try clear c18
                 try clear c21
                 try clear c21b0
                 try clear c22
                 try clear c22b0
                 try clear c23
                 try clear c27
                 try clear c28
                 try clear hcz10_0 hcz10_1 hcz10_2 hcz10_3 hcz10_4 hcz10_5 hcz10_6
                 try clear hcz11_0 hcz11_1 hcz11_2 hcz11_3 hcz11_4 hcz11_5 hcz11_6
                 try clear hcz19_0 hcz19_1 hcz19_2 hcz19_3 hcz19_4 hcz19_5 hcz19_6
                 try clear hcz20_0 hcz20_1 hcz20_2 hcz20_3 hcz20_4 hcz20_5 hcz20_6
                 try clear hcz24_0 hcz24_1 hcz24_2 hcz24_3 hcz24_4 hcz24_5 hcz24_6
                 try clear hcz29_0 hcz29_1 hcz29_10 hcz29_11 hcz29_12 hcz29_13 hcz29_14 hcz29_15 hcz29_2 hcz29_3 hcz29_4 hcz29_5 hcz29_6 hcz29_7 hcz29_8 hcz29_9
                 try clear hcz5_0 hcz5_1 hcz5_2 hcz5_3 hcz5_4 hcz5_5 hcz5_6
                 try clear hfz10_0 hfz10_1 hfz10_2 hfz10_3 hfz10_4 hfz10_5 hfz10_6
                 try clear hfz11_0 hfz11_1 hfz11_2 hfz11_3 hfz11_4 hfz11_5 hfz11_6
                 try clear hfz19_0 hfz19_1 hfz19_2 hfz19_3 hfz19_4 hfz19_5 hfz19_6
                 try clear hfz20_0 hfz20_1 hfz20_2 hfz20_3 hfz20_4 hfz20_5 hfz20_6
                 try clear hfz24_0 hfz24_1 hfz24_2 hfz24_3 hfz24_4 hfz24_5 hfz24_6
                 try clear hfz29_0 hfz29_1 hfz29_10 hfz29_11 hfz29_12 hfz29_13 hfz29_14 hfz29_15 hfz29_2 hfz29_3 hfz29_4 hfz29_5 hfz29_6 hfz29_7 hfz29_8 hfz29_9
                 try clear hfz5_0 hfz5_1 hfz5_2 hfz5_3 hfz5_4 hfz5_5 hfz5_6
                 try clear hx103_0
                 try clear hx103_1
                 try clear hx103_10
                 try clear hx103_11
                 try clear hx103_12
                 try clear hx103_13
                 try clear hx103_14
                 try clear hx103_15
                 try clear hx103_2
                 try clear hx103_3
                 try clear hx103_4
                 try clear hx103_5
                 try clear hx103_6
                 try clear hx103_7
                 try clear hx103_8
                 try clear hx103_9
                 try clear hx104_0
                 try clear hx104_1
                 try clear hx104_10
                 try clear hx104_11
                 try clear hx104_12
                 try clear hx104_13
                 try clear hx104_14
                 try clear hx104_15
                 try clear hx104_2
                 try clear hx104_3
                 try clear hx104_4
                 try clear hx104_5
                 try clear hx104_6
                 try clear hx104_7
                 try clear hx104_8
                 try clear hx104_9
                 try clear hx106_0
                 try clear hx106_1
                 try clear hx106_10
                 try clear hx106_11
                 try clear hx106_12
                 try clear hx106_13
                 try clear hx106_14
                 try clear hx106_15
                 try clear hx106_2
                 try clear hx106_3
                 try clear hx106_4
                 try clear hx106_5
                 try clear hx106_6
                 try clear hx106_7
                 try clear hx106_8
                 try clear hx106_9
                 try clear p1
                 try clear p10
                 try clear p103
                 try clear p104
                 try clear p106
                 try clear p2
                 try clear p6
                 try clear q1
                 try clear q10
                 try clear q103
                 try clear q104
                 try clear q106
                 obtain ⟨x8_4, x9_4, x10_4, x11_4, x12_4, x16_4, x103000_4, u103000, rfl, HA, HK4, HO_8, HO_9, HO_10, HO_11, HO_12, HO_103000, HO_103006, BK101, BK102, BK107, HB⟩ := hrel
                 cases gk with
                 | zero => exact absurd HA.out (by simp [cupolaref10_Join.l3])
                 | succ k4 =>
                  have H := HA.out
                  clear HA
                  simp only [cupolaref10_Join.l3] at H
                  by_cases c30 : x16_4 < (((rd_T117 l0 x13_3).f0).length : Int)
                  ·rw [if_pos c30] at H
                   have c30b0 : decide (x16_4 < (((rd_T117 l0 x13_3).f0).length : Int)) = true := decide_eq_true c30
                   clear c30
                   by_cases c31 : 0 ≤ x16_4
                   ·rw [if_pos c31] at H
                    have c31b0 : decide (0 ≤ x16_4) = true := decide_eq_true c31
                    clear c31
                    by_cases c32 : x103000_4.length < 3518437208883
                    ·rw [if_pos c32] at H
                     have LMc32 := a9_ c32
                     clear c32
                     obtain ⟨y116, hy116⟩ : ∃ y_ : List (S26), y_ = (x103000_4 ++ [(⟨x13_3, (rd_T26 ((rd_T117 l0 x13_3).f0) x16_4).f1, (rd_T26 ((rd_T117 l0 x13_3).f0) x16_4).f2, (rd_T26 ((rd_T117 l0 x13_3).f0) x16_4).f3, (rd_T26 ((rd_T117 l0 x13_3).f0) x16_4).f4, (rd_T26 ((rd_T117 l0 x13_3).f0) x16_4).f5, (rd_T26 ((rd_T117 l0 x13_3).f0) x16_4).f6⟩ : S26)]) := ⟨_, rfl⟩
                     replace H : (cupolaref10_Join.l4 k4 l0 x5_1 x8_4 x9_4 x10_4 x11_4 x12_4 x13_3 (x103000_3.length : Int) x16_4 0 y116 x103006_3 ((rd_T117 l0 x13_3).f0) ((rd_T117 l0 x13_3).f1) ((rd_T117 l0 x13_3).f2) ((rd_T117 l0 x13_3).f3) ((rd_T117 l0 x13_3).f4) ((rd_T117 l0 x13_3).f5.f0.f0) ((rd_T117 l0 x13_3).f5.f0.f1) ((rd_T117 l0 x13_3).f5.f0.f2) ((rd_T117 l0 x13_3).f5.f0.f3) ((rd_T117 l0 x13_3).f5.f1.f0) ((rd_T117 l0 x13_3).f5.f1.f1) ((rd_T117 l0 x13_3).f5.f1.f2) ((rd_T117 l0 x13_3).f5.f1.f3) ((rd_T117 l0 x13_3).f6) ((rd_T117 l0 x13_3).f7) ((rd_T117 l0 x13_3).f8)) = some (r1, r2, r3, r4, r5, r6, r7, r8) := by first | (rw [hy116]; with_reducible exact H) | (have H2_ := (Option.bind_some _ _).symm.trans H; rw [hy116]; with_reducible exact H2_) | (have H2_ := (Option.bind_some _ _).symm.trans H; with_reducible exact H2_) | with_reducible exact H | (rw [hy116]; exact H) | exact H
                     have Ny116 := a9_ hy116
                     clear hy116
                     have H' := a9_ H
                     clear H
                     have hnb33 := NB107_101.out
                     have hnc33 := NB101_107.out
                     have hnb34 := NB107_102.out
                     have hnc34 := NB102_107.out
                     obtain ⟨hcz35_0, hcz35_1, hcz35_2, hcz35_3, hcz35_4, hcz35_5, hcz35_6, hcz35_7, hcz35_8, hcz35_9, hcz35_10, hcz35_11, hcz35_12, hcz35_13, hcz35_14, hcz35_15, hfz35_0, hfz35_1, hfz35_2, hfz35_3, hfz35_4, hfz35_5, hfz35_6, hfz35_7, hfz35_8, hfz35_9, hfz35_10, hfz35_11, hfz35_12, hfz35_13, hfz35_14, hfz35_15⟩ := cz16 BK107.out
                     have p114 : 0 ≤ (x16_4 : Int) := of_decide_eq_true (by first | (with_reducible assumption) | assumption)
                     have q114 : x16_4 < (((rd_T117 l0 x13_3).f0).length : Int) := of_decide_eq_true (by first | (with_reducible assumption) | assumption)
                     obtain ⟨ad114, e114, hx114_0, hx114_1, hx114_2, hx114_3, hx114_4, hx114_5, hx114_6⟩ := at_T26 HR106_0.out x16_4 p114 q114
                     cases e114
                     replace hx114_0 := hb9 HB.out hx114_0
                     replace hx114_1 := hb9 HB.out hx114_1
                     replace hx114_2 := hb9 HB.out hx114_2
                     replace hx114_3 := hb9 HB.out hx114_3
                     replace hx114_4 := hb9 HB.out hx114_4
                     replace hx114_5 := hb9 HB.out hx114_5
                     replace hx114_6 := hb9 HB.out hx114_6
                     replace p114 := eq_true p114
                     replace q114 := eq_true q114
                     go_wp2_with (first | ((with_reducible refine gate_dst (N := 17) rfl ?_); refine box9 (N := 17) (cs := #[.int .i64 0, .int .i64 0, .int .i64 0, .int .i64 0, .bool false, .bool false, .bool false]) (t := 26) ?_; intro gb115 hg w36 hbox hb; have n0_ := a9_ (Kd.R_below (rp9 HO_8.out) hb); have n1_ := a9_ (Kd.R_below (rp9 HO_9.out) hb); have n2_ := a9_ (Kd.R_below (rp9 HO_10.out) hb); have n3_ := a9_ (Kd.R_below (rp9 HO_11.out) hb); have n4_ := a9_ (Kd.R_below (rp9 HO_12.out) hb); have n5_ := a9_ (Kd.R_below (Kd.R_elderB (rp9 HO_103000.out) gb115 (Nat.le_of_eq hg.symm)) hb); have n6_ := a9_ (Kd.S_below (sp9 HO_103006.out) hb); have n7_ := a9_ (blk_below (kp9 BK101.out) hb); have n8_ := a9_ (blk_below (kp9 BK102.out) hb); have n9_ := a9_ (blk_below (kp9 BK107.out) hb); have n10_ := a9_ (below_step (bp9 HB.out) hb); have n11_ := a9_ (hbox); have n12_ := a9_ ((by rw [hg]; exact (below_size (bp9 HB.out)) : w.heap.size ≤ gb115)); have n13_ := n12_; have n14_ := a9_ ((by rw [hg]; exact Nat.ne_of_lt (blk_lt (kp9 BK101.out)) : gb101 ≠ gb115)); have n15_ := a9_ ((by rw [hg]; exact Nat.ne_of_gt (blk_lt (kp9 BK101.out)) : gb115 ≠ gb101)); have n16_ := a9_ ((by rw [hg]; exact Nat.ne_of_lt (blk_lt (kp9 BK102.out)) : gb102 ≠ gb115)); have n17_ := a9_ ((by rw [hg]; exact Nat.ne_of_gt (blk_lt (kp9 BK102.out)) : gb115 ≠ gb102)); have n18_ := a9_ ((by rw [hg]; exact Nat.ne_of_lt (blk_lt (kp9 BK107.out)) : gb107 ≠ gb115)); have n19_ := a9_ ((by rw [hg]; exact Nat.ne_of_gt (blk_lt (kp9 BK107.out)) : gb115 ≠ gb107)); clear HO_8; clear HO_9; clear HO_10; clear HO_11; clear HO_12; clear HO_103000; clear HO_103006; clear BK101; clear BK102; clear BK107; clear HB; have HO_8 := n0_; have HO_9 := n1_; have HO_10 := n2_; have HO_11 := n3_; have HO_12 := n4_; have HO_103000 := n5_; have HO_103006 := n6_; have BK101 := n7_; have BK102 := n8_; have BK107 := n9_; have HB := n10_; have BK115 := n11_; have GW115 := n12_; have GE115 := n13_; have NB101_115 := n14_; have NB115_101 := n15_; have NB102_115 := n16_; have NB115_102 := n17_; have NB107_115 := n18_; have NB115_107 := n19_; clear n0_ n1_ n2_ n3_ n4_ n5_ n6_ n7_ n8_ n9_ n10_ n11_ n12_ n13_ n14_ n15_ n16_ n17_ n18_ n19_; clear hb hbox hg; have hnb37 := NB115_101.out; have hnc37 := NB101_115.out; have hnb38 := NB115_102.out; have hnc38 := NB102_115.out; have hnb39 := NB115_107.out; have hnc39 := NB107_115.out; obtain ⟨hcz40_0, hcz40_1, hcz40_2, hcz40_3, hcz40_4, hcz40_5, hcz40_6, hfz40_0, hfz40_1, hfz40_2, hfz40_3, hfz40_4, hfz40_5, hfz40_6⟩ := cz7 BK115.out; have hnb41 := NB102_101.out; have hnc41 := NB101_102.out; obtain ⟨hcz42_0, hcz42_1, hcz42_2, hcz42_3, hcz42_4, hcz42_5, hcz42_6, hfz42_0, hfz42_1, hfz42_2, hfz42_3, hfz42_4, hfz42_5, hfz42_6⟩ := cz7 BK102.out) | ((with_reducible refine gate_builtin (b := .append) (xs := #[.tmp 79, .tmp 81]) rfl ?_); at_builtin; refine Kd.R_append k26 (w0 := w) w.heap.size rfl (.tmp 79) (.tmp 81) 22 26 (.agg #[(.int .i64 0), (.int .i64 0), (.int .i64 0), (.int .i64 0), (.bool false), (.bool false), (.bool false)]) 40 rfl Try.underlying22 info26 rfl (by decide) (by omega) u103000 x103000_4 (⟨x13_3, (rd_T26 ((rd_T117 l0 x13_3).f0) x16_4).f1, (rd_T26 ((rd_T117 l0 x13_3).f0) x16_4).f2, (rd_T26 ((rd_T117 l0 x13_3).f0) x16_4).f3, (rd_T26 ((rd_T117 l0 x13_3).f0) x16_4).f4, (rd_T26 ((rd_T117 l0 x13_3).f0) x16_4).f5, (rd_T26 ((rd_T117 l0 x13_3).f0) x16_4).f6⟩ : S26) [.int .i64 x13_3, .int .i64 ((rd_T26 ((rd_T117 l0 x13_3).f0) x16_4).f1), .int .i64 ((rd_T26 ((rd_T117 l0 x13_3).f0) x16_4).f2), .int .i64 ((rd_T26 ((rd_T117 l0 x13_3).f0) x16_4).f3), .bool ((rd_T26 ((rd_T117 l0 x13_3).f0) x16_4).f4), .bool ((rd_T26 ((rd_T117 l0 x13_3).f0) x16_4).f5), .bool ((rd_T26 ((rd_T117 l0 x13_3).f0) x16_4).f6)] (fun k_ => k_ ≠ gb115) (fun _ => False) rfl (by first | (go_simp; done) | (go_simp; rfl)) ?aP (fun _ hk => hk.elim) ?aF ?aO ?aB ?aS ?aL ?_; (case aP => exact k26_mkM _ _ _ (⟨x13_3, (rd_T26 ((rd_T117 l0 x13_3).f0) x16_4).f1, (rd_T26 ((rd_T117 l0 x13_3).f0) x16_4).f2, (rd_T26 ((rd_T117 l0 x13_3).f0) x16_4).f3, (rd_T26 ((rd_T117 l0 x13_3).f0) x16_4).f4, (rd_T26 ((rd_T117 l0 x13_3).f0) x16_4).f5, (rd_T26 ((rd_T117 l0 x13_3).f0) x16_4).f6⟩ : S26)); (case aB => exact (bp9 HB.out)); (case aF => exact (fun k_ hk => Kd.freshB (g := gb115) (o := .cells #[.int .i64 x13_3, .int .i64 ((rd_T26 ((rd_T117 l0 x13_3).f0) x16_4).f1), .int .i64 ((rd_T26 ((rd_T117 l0 x13_3).f0) x16_4).f2), .int .i64 ((rd_T26 ((rd_T117 l0 x13_3).f0) x16_4).f3), .bool ((rd_T26 ((rd_T117 l0 x13_3).f0) x16_4).f4), .bool ((rd_T26 ((rd_T117 l0 x13_3).f0) x16_4).f5), .bool ((rd_T26 ((rd_T117 l0 x13_3).f0) x16_4).f6)] 26 (0, 0)) (kb9 BK115.out) k_ hk)); (case aO => exact (rp9 (Kd.R_mono (Kd.R_far (p := ⟨gb115, 0, none⟩) (Kd.R_far (p := ⟨gb115, 6, none⟩) (Kd.R_far (p := ⟨gb115, 5, none⟩) (Kd.R_far (p := ⟨gb115, 4, none⟩) (Kd.R_far (p := ⟨gb115, 3, none⟩) (Kd.R_far (p := ⟨gb115, 2, none⟩) (Kd.R_far (p := ⟨gb115, 1, none⟩) (Kd.R_far (p := ⟨gb115, 0, none⟩) (Kd.R_mono HO_103000.out (fun k_ hk => (⟨hk, hk.2⟩ : _ ∧ k_ ≠ gb115))) (fun _ hk => hk.2) (.int .i64 ((rd_T26 ((rd_T117 l0 x13_3).f0) x16_4).f0))) (fun _ hk => hk.2) (.int .i64 ((rd_T26 ((rd_T117 l0 x13_3).f0) x16_4).f1))) (fun _ hk => hk.2) (.int .i64 ((rd_T26 ((rd_T117 l0 x13_3).f0) x16_4).f2))) (fun _ hk => hk.2) (.int .i64 ((rd_T26 ((rd_T117 l0 x13_3).f0) x16_4).f3))) (fun _ hk => hk.2) (.bool ((rd_T26 ((rd_T117 l0 x13_3).f0) x16_4).f4))) (fun _ hk => hk.2) (.bool ((rd_T26 ((rd_T117 l0 x13_3).f0) x16_4).f5))) (fun _ hk => hk.2) (.bool ((rd_T26 ((rd_T117 l0 x13_3).f0) x16_4).f6))) (fun _ hk => hk.2) (.int .i64 x13_3)) (fun _ hk => hk.1.2)))); (case aS => exact (below_size (bp9 HB.out))); (case aL => have := LMc32.out; omega); intro v117 w43 ho hb hg hat; rw [← Ny116.out] at ho; have n0_ := a9_ (Kd.R_over' (ty9 HO_8.out BK115.out) (Kd.R_typed (rp9 (Kd.R_mono (Kd.R_far (p := ⟨gb115, 0, none⟩) (Kd.R_far (p := ⟨gb115, 6, none⟩) (Kd.R_far (p := ⟨gb115, 5, none⟩) (Kd.R_far (p := ⟨gb115, 4, none⟩) (Kd.R_far (p := ⟨gb115, 3, none⟩) (Kd.R_far (p := ⟨gb115, 2, none⟩) (Kd.R_far (p := ⟨gb115, 1, none⟩) (Kd.R_far (p := ⟨gb115, 0, none⟩) (Kd.R_mono HO_103000.out (fun k_ hk => (⟨hk, hk.2⟩ : _ ∧ k_ ≠ gb115))) (fun _ hk => hk.2) (.int .i64 ((rd_T26 ((rd_T117 l0 x13_3).f0) x16_4).f0))) (fun _ hk => hk.2) (.int .i64 ((rd_T26 ((rd_T117 l0 x13_3).f0) x16_4).f1))) (fun _ hk => hk.2) (.int .i64 ((rd_T26 ((rd_T117 l0 x13_3).f0) x16_4).f2))) (fun _ hk => hk.2) (.int .i64 ((rd_T26 ((rd_T117 l0 x13_3).f0) x16_4).f3))) (fun _ hk => hk.2) (.bool ((rd_T26 ((rd_T117 l0 x13_3).f0) x16_4).f4))) (fun _ hk => hk.2) (.bool ((rd_T26 ((rd_T117 l0 x13_3).f0) x16_4).f5))) (fun _ hk => hk.2) (.bool ((rd_T26 ((rd_T117 l0 x13_3).f0) x16_4).f6))) (fun _ hk => hk.2) (.int .i64 x13_3)) (fun _ h_ => h_.1)))) (by decide) hg); have n1_ := a9_ (Kd.R_over' (ty9 HO_9.out BK115.out) (Kd.R_typed (rp9 (Kd.R_mono (Kd.R_far (p := ⟨gb115, 0, none⟩) (Kd.R_far (p := ⟨gb115, 6, none⟩) (Kd.R_far (p := ⟨gb115, 5, none⟩) (Kd.R_far (p := ⟨gb115, 4, none⟩) (Kd.R_far (p := ⟨gb115, 3, none⟩) (Kd.R_far (p := ⟨gb115, 2, none⟩) (Kd.R_far (p := ⟨gb115, 1, none⟩) (Kd.R_far (p := ⟨gb115, 0, none⟩) (Kd.R_mono HO_103000.out (fun k_ hk => (⟨hk, hk.2⟩ : _ ∧ k_ ≠ gb115))) (fun _ hk => hk.2) (.int .i64 ((rd_T26 ((rd_T117 l0 x13_3).f0) x16_4).f0))) (fun _ hk => hk.2) (.int .i64 ((rd_T26 ((rd_T117 l0 x13_3).f0) x16_4).f1))) (fun _ hk => hk.2) (.int .i64 ((rd_T26 ((rd_T117 l0 x13_3).f0) x16_4).f2))) (fun _ hk => hk.2) (.int .i64 ((rd_T26 ((rd_T117 l0 x13_3).f0) x16_4).f3))) (fun _ hk => hk.2) (.bool ((rd_T26 ((rd_T117 l0 x13_3).f0) x16_4).f4))) (fun _ hk => hk.2) (.bool ((rd_T26 ((rd_T117 l0 x13_3).f0) x16_4).f5))) (fun _ hk => hk.2) (.bool ((rd_T26 ((rd_T117 l0 x13_3).f0) x16_4).f6))) (fun _ hk => hk.2) (.int .i64 x13_3)) (fun _ h_ => h_.1)))) (by decide) hg); have n2_ := a9_ (Kd.R_over' (ty9 HO_10.out BK115.out) (Kd.R_typed (rp9 (Kd.R_mono (Kd.R_far (p := ⟨gb115, 0, none⟩) (Kd.R_far (p := ⟨gb115, 6, none⟩) (Kd.R_far (p := ⟨gb115, 5, none⟩) (Kd.R_far (p := ⟨gb115, 4, none⟩) (Kd.R_far (p := ⟨gb115, 3, none⟩) (Kd.R_far (p := ⟨gb115, 2, none⟩) (Kd.R_far (p := ⟨gb115, 1, none⟩) (Kd.R_far (p := ⟨gb115, 0, none⟩) (Kd.R_mono HO_103000.out (fun k_ hk => (⟨hk, hk.2⟩ : _ ∧ k_ ≠ gb115))) (fun _ hk => hk.2) (.int .i64 ((rd_T26 ((rd_T117 l0 x13_3).f0) x16_4).f0))) (fun _ hk => hk.2) (.int .i64 ((rd_T26 ((rd_T117 l0 x13_3).f0) x16_4).f1))) (fun _ hk => hk.2) (.int .i64 ((rd_T26 ((rd_T117 l0 x13_3).f0) x16_4).f2))) (fun _ hk => hk.2) (.int .i64 ((rd_T26 ((rd_T117 l0 x13_3).f0) x16_4).f3))) (fun _ hk => hk.2) (.bool ((rd_T26 ((rd_T117 l0 x13_3).f0) x16_4).f4))) (fun _ hk => hk.2) (.bool ((rd_T26 ((rd_T117 l0 x13_3).f0) x16_4).f5))) (fun _ hk => hk.2) (.bool ((rd_T26 ((rd_T117 l0 x13_3).f0) x16_4).f6))) (fun _ hk => hk.2) (.int .i64 x13_3)) (fun _ h_ => h_.1)))) (by decide) hg); have n3_ := a9_ (Kd.R_over' (ty9 HO_11.out BK115.out) (Kd.R_typed (rp9 (Kd.R_mono (Kd.R_far (p := ⟨gb115, 0, none⟩) (Kd.R_far (p := ⟨gb115, 6, none⟩) (Kd.R_far (p := ⟨gb115, 5, none⟩) (Kd.R_far (p := ⟨gb115, 4, none⟩) (Kd.R_far (p := ⟨gb115, 3, none⟩) (Kd.R_far (p := ⟨gb115, 2, none⟩) (Kd.R_far (p := ⟨gb115, 1, none⟩) (Kd.R_far (p := ⟨gb115, 0, none⟩) (Kd.R_mono HO_103000.out (fun k_ hk => (⟨hk, hk.2⟩ : _ ∧ k_ ≠ gb115))) (fun _ hk => hk.2) (.int .i64 ((rd_T26 ((rd_T117 l0 x13_3).f0) x16_4).f0))) (fun _ hk => hk.2) (.int .i64 ((rd_T26 ((rd_T117 l0 x13_3).f0) x16_4).f1))) (fun _ hk => hk.2) (.int .i64 ((rd_T26 ((rd_T117 l0 x13_3).f0) x16_4).f2))) (fun _ hk => hk.2) (.int .i64 ((rd_T26 ((rd_T117 l0 x13_3).f0) x16_4).f3))) (fun _ hk => hk.2) (.bool ((rd_T26 ((rd_T117 l0 x13_3).f0) x16_4).f4))) (fun _ hk => hk.2) (.bool ((rd_T26 ((rd_T117 l0 x13_3).f0) x16_4).f5))) (fun _ hk => hk.2) (.bool ((rd_T26 ((rd_T117 l0 x13_3).f0) x16_4).f6))) (fun _ hk => hk.2) (.int .i64 x13_3)) (fun _ h_ => h_.1)))) (by decide) hg); have n4_ := a9_ (Kd.R_over' (ty9 HO_12.out BK115.out) (Kd.R_typed (rp9 (Kd.R_mono (Kd.R_far (p := ⟨gb115, 0, none⟩) (Kd.R_far (p := ⟨gb115, 6, none⟩) (Kd.R_far (p := ⟨gb115, 5, none⟩) (Kd.R_far (p := ⟨gb115, 4, none⟩) (Kd.R_far (p := ⟨gb115, 3, none⟩) (Kd.R_far (p := ⟨gb115, 2, none⟩) (Kd.R_far (p := ⟨gb115, 1, none⟩) (Kd.R_far (p := ⟨gb115, 0, none⟩) (Kd.R_mono HO_103000.out (fun k_ hk => (⟨hk, hk.2⟩ : _ ∧ k_ ≠ gb115))) (fun _ hk => hk.2) (.int .i64 ((rd_T26 ((rd_T117 l0 x13_3).f0) x16_4).f0))) (fun _ hk => hk.2) (.int .i64 ((rd_T26 ((rd_T117 l0 x13_3).f0) x16_4).f1))) (fun _ hk => hk.2) (.int .i64 ((rd_T26 ((rd_T117 l0 x13_3).f0) x16_4).f2))) (fun _ hk => hk.2) (.int .i64 ((rd_T26 ((rd_T117 l0 x13_3).f0) x16_4).f3))) (fun _ hk => hk.2) (.bool ((rd_T26 ((rd_T117 l0 x13_3).f0) x16_4).f4))) (fun _ hk => hk.2) (.bool ((rd_T26 ((rd_T117 l0 x13_3).f0) x16_4).f5))) (fun _ hk => hk.2) (.bool ((rd_T26 ((rd_T117 l0 x13_3).f0) x16_4).f6))) (fun _ hk => hk.2) (.int .i64 x13_3)) (fun _ h_ => h_.1)))) (by decide) hg); have n5_ := a9_ (Kd.S_over' (tz9 HO_103006.out BK115.out) (Kd.R_typed (rp9 (Kd.R_mono (Kd.R_far (p := ⟨gb115, 0, none⟩) (Kd.R_far (p := ⟨gb115, 6, none⟩) (Kd.R_far (p := ⟨gb115, 5, none⟩) (Kd.R_far (p := ⟨gb115, 4, none⟩) (Kd.R_far (p := ⟨gb115, 3, none⟩) (Kd.R_far (p := ⟨gb115, 2, none⟩) (Kd.R_far (p := ⟨gb115, 1, none⟩) (Kd.R_far (p := ⟨gb115, 0, none⟩) (Kd.R_mono HO_103000.out (fun k_ hk => (⟨hk, hk.2⟩ : _ ∧ k_ ≠ gb115))) (fun _ hk => hk.2) (.int .i64 ((rd_T26 ((rd_T117 l0 x13_3).f0) x16_4).f0))) (fun _ hk => hk.2) (.int .i64 ((rd_T26 ((rd_T117 l0 x13_3).f0) x16_4).f1))) (fun _ hk => hk.2) (.int .i64 ((rd_T26 ((rd_T117 l0 x13_3).f0) x16_4).f2))) (fun _ hk => hk.2) (.int .i64 ((rd_T26 ((rd_T117 l0 x13_3).f0) x16_4).f3))) (fun _ hk => hk.2) (.bool ((rd_T26 ((rd_T117 l0 x13_3).f0) x16_4).f4))) (fun _ hk => hk.2) (.bool ((rd_T26 ((rd_T117 l0 x13_3).f0) x16_4).f5))) (fun _ hk => hk.2) (.bool ((rd_T26 ((rd_T117 l0 x13_3).f0) x16_4).f6))) (fun _ hk => hk.2) (.int .i64 x13_3)) (fun _ h_ => h_.1)))) (by decide) hg); have n6_ := a9_ (blk_grown (kf9 BK101.out) hg (Kd.R_ne HO_103000.out BK101.out (by decide))); have n7_ := a9_ (blk_grown (kf9 BK102.out) hg (Kd.R_ne HO_103000.out BK102.out (by decide))); have n8_ := a9_ (blk_grown (kf9 BK107.out) hg (Kd.R_ne HO_103000.out BK107.out (by decide))); have n9_ := a9_ (blk_grown (g := gb115) (o := .cells #[.int .i64 x13_3, .int .i64 ((rd_T26 ((rd_T117 l0 x13_3).f0) x16_4).f1), .int .i64 ((rd_T26 ((rd_T117 l0 x13_3).f0) x16_4).f2), .int .i64 ((rd_T26 ((rd_T117 l0 x13_3).f0) x16_4).f3), .bool ((rd_T26 ((rd_T117 l0 x13_3).f0) x16_4).f4), .bool ((rd_T26 ((rd_T117 l0 x13_3).f0) x16_4).f5), .bool ((rd_T26 ((rd_T117 l0 x13_3).f0) x16_4).f6)] 26 (0, 0)) (kb9 BK115.out) hg (Kd.R_away HO_103000.out (fun _ hk => hk.2))); have n10_ := a9_ (hb); have n11_ := a9_ (ho); clear HO_8; clear HO_9; clear HO_10; clear HO_11; clear HO_12; clear HO_103006; clear BK101; clear BK102; clear BK107; clear BK115; clear HB; clear HO_103000; have HO_8 := n0_; have HO_9 := n1_; have HO_10 := n2_; have HO_11 := n3_; have HO_12 := n4_; have HO_103006 := n5_; have BK101 := n6_; have BK102 := n7_; have BK107 := n8_; have BK115 := n9_; have HB := n10_; have HO118 := n11_; clear n0_ n1_ n2_ n3_ n4_ n5_ n6_ n7_ n8_ n9_ n10_ n11_; clear ho hb hg hat; obtain ⟨Ao44, co44, eo44⟩ := Kd.R_slice HO118.out; subst eo44; obtain ⟨hcz45_0, hcz45_1, hcz45_2, hcz45_3, hcz45_4, hcz45_5, hcz45_6, hfz45_0, hfz45_1, hfz45_2, hfz45_3, hfz45_4, hfz45_5, hfz45_6⟩ := cz7 BK102.out))
                     go_loopg [8, 9, 10, 11, 12, 18] k4 (fun kq v8 v9 v10 v11 v12 v18 w' => ∃ (x8_5 : List (S46)) (x9_5 : List (S46)) (x10_5 : List (S46)) (x11_5 : List (S46)) (x12_5 : List (S46)) (x18_5 : Int), v18 = .int .i64 x18_5 ∧ Aside0 (cupolaref10_Join.l4 kq l0 x5_1 x8_5 x9_5 x10_5 x11_5 x12_5 x13_3 (x103000_3.length : Int) x16_4 x18_5 y116 x103006_3 ((rd_T117 l0 x13_3).f0) ((rd_T117 l0 x13_3).f1) ((rd_T117 l0 x13_3).f2) ((rd_T117 l0 x13_3).f3) ((rd_T117 l0 x13_3).f4) ((rd_T117 l0 x13_3).f5.f0.f0) ((rd_T117 l0 x13_3).f5.f0.f1) ((rd_T117 l0 x13_3).f5.f0.f2) ((rd_T117 l0 x13_3).f5.f0.f3) ((rd_T117 l0 x13_3).f5.f1.f0) ((rd_T117 l0 x13_3).f5.f1.f1) ((rd_T117 l0 x13_3).f5.f1.f2) ((rd_T117 l0 x13_3).f5.f1.f3) ((rd_T117 l0 x13_3).f6) ((rd_T117 l0 x13_3).f7) ((rd_T117 l0 x13_3).f8) = some (r1, r2, r3, r4, r5, r6, r7, r8)) ∧ Aside0 (kq ≤ k4) ∧ Aside0 (Kd.R k46 46 w' w.heap.size (fun k_ => some k_ ≠ (v9 : Value).ownBlock ∧ some k_ ≠ (v10 : Value).ownBlock ∧ some k_ ≠ (v11 : Value).ownBlock ∧ some k_ ≠ (v12 : Value).ownBlock) v8 x8_5) ∧ Aside0 (Kd.R k46 46 w' w.heap.size (fun k_ => some k_ ≠ (v8 : Value).ownBlock ∧ some k_ ≠ (v10 : Value).ownBlock ∧ some k_ ≠ (v11 : Value).ownBlock ∧ some k_ ≠ (v12 : Value).ownBlock) v9 x9_5) ∧ Aside0 (Kd.R k46 46 w' w.heap.size (fun k_ => some k_ ≠ (v8 : Value).ownBlock ∧ some k_ ≠ (v9 : Value).ownBlock ∧ some k_ ≠ (v11 : Value).ownBlock ∧ some k_ ≠ (v12 : Value).ownBlock) v10 x10_5) ∧ Aside0 (Kd.R k46 46 w' w.heap.size (fun k_ => some k_ ≠ (v8 : Value).ownBlock ∧ some k_ ≠ (v9 : Value).ownBlock ∧ some k_ ≠ (v10 : Value).ownBlock ∧ some k_ ≠ (v12 : Value).ownBlock) v11 x11_5) ∧ Aside0 (Kd.R k46 46 w' w.heap.size (fun k_ => some k_ ≠ (v8 : Value).ownBlock ∧ some k_ ≠ (v9 : Value).ownBlock ∧ some k_ ≠ (v10 : Value).ownBlock ∧ some k_ ≠ (v11 : Value).ownBlock) v12 x12_5) ∧ Aside0 (Kd.R k26 26 w' w.heap.size (fun k_ => k_ ≠ gb115) (.slice Ao44 y116.length co44) y116) ∧ Aside0 (Kd.S (Kd.slice 2 (Kd.int .i64)) 23 w' w.heap.size (fun _ => True) u103006 x103006_3) ∧ Aside0 (w'.heap[gb101]? = some (.cells #[(.slice none 0 0), (.slice none 0 0), (.slice none 0 0), (.slice none 0 0), (.slice none 0 0), (.slice none 0 0), (.slice none 0 0)] 76 (0, 0))) ∧ Aside0 (w'.heap[gb102]? = some (.cells #[(.slice Ao44 y116.length co44), (.slice none 0 0), (.slice none 0 0), (.slice none 0 0), (.slice none 0 0), (.slice none 0 0), u103006] 76 (0, 0))) ∧ Aside0 (w'.heap[gb107]? = some (.cells #[(.slice (some ad114) ((rd_T117 l0 x13_3).f0).length c106_0), (.slice A106_1 ((rd_T117 l0 x13_3).f1).length c106_1), (.slice A106_2 ((rd_T117 l0 x13_3).f2).length c106_2), (.slice A106_3 ((rd_T117 l0 x13_3).f3).length c106_3), (.slice A106_4 ((rd_T117 l0 x13_3).f4).length c106_4), .int .i64 ((rd_T117 l0 x13_3).f5.f0.f0), .int .i64 ((rd_T117 l0 x13_3).f5.f0.f1), .int .i64 ((rd_T117 l0 x13_3).f5.f0.f2), .int .i64 ((rd_T117 l0 x13_3).f5.f0.f3), .int .u32 ((rd_T117 l0 x13_3).f5.f1.f0), .int .u32 ((rd_T117 l0 x13_3).f5.f1.f1), .int .u32 ((rd_T117 l0 x13_3).f5.f1.f2), .int .u32 ((rd_T117 l0 x13_3).f5.f1.f3), .int .i64 ((rd_T117 l0 x13_3).f6), .int .i64 ((rd_T117 l0 x13_3).f7), .int .i64 ((rd_T117 l0 x13_3).f8)] 117 (0, 0))) ∧ Aside0 (w'.heap[gb115]? = some (.cells #[.int .i64 x13_3, .int .i64 ((rd_T26 ((rd_T117 l0 x13_3).f0) x16_4).f1), .int .i64 ((rd_T26 ((rd_T117 l0 x13_3).f0) x16_4).f2), .int .i64 ((rd_T26 ((rd_T117 l0 x13_3).f0) x16_4).f3), .bool ((rd_T26 ((rd_T117 l0 x13_3).f0) x16_4).f4), .bool ((rd_T26 ((rd_T117 l0 x13_3).f0) x16_4).f5), .bool ((rd_T26 ((rd_T117 l0 x13_3).f0) x16_4).f6)] 26 (0, 0))) ∧ Aside0 (Below w.heap.size w w'))
                     case atStart => exact ⟨(x8_4), (x9_4), (x10_4), (x11_4), (x12_4), (0), rs9, H', ⟨Nat.le_refl _⟩, ⟨rp9 (Kd.R_mono (Kd.R_far (p := ⟨gb102, 0, none⟩) (Kd.R_types HO_8.out BK102.out (by decide)) (fun _ hk => hk.2) (.slice Ao44 y116.length co44)) (fun _ hk => ⟨hk.1.1, ⟨hk.1.2.1, ⟨hk.1.2.2.1, hk.1.2.2.2⟩⟩⟩))⟩, ⟨rp9 (Kd.R_mono (Kd.R_far (p := ⟨gb102, 0, none⟩) (Kd.R_types HO_9.out BK102.out (by decide)) (fun _ hk => hk.2) (.slice Ao44 y116.length co44)) (fun _ hk => ⟨hk.1.1, ⟨hk.1.2.1, ⟨hk.1.2.2.1, hk.1.2.2.2⟩⟩⟩))⟩, ⟨rp9 (Kd.R_mono (Kd.R_far (p := ⟨gb102, 0, none⟩) (Kd.R_types HO_10.out BK102.out (by decide)) (fun _ hk => hk.2) (.slice Ao44 y116.length co44)) (fun _ hk => ⟨hk.1.1, ⟨hk.1.2.1, ⟨hk.1.2.2.1, hk.1.2.2.2⟩⟩⟩))⟩, ⟨rp9 (Kd.R_mono (Kd.R_far (p := ⟨gb102, 0, none⟩) (Kd.R_types HO_11.out BK102.out (by decide)) (fun _ hk => hk.2) (.slice Ao44 y116.length co44)) (fun _ hk => ⟨hk.1.1, ⟨hk.1.2.1, ⟨hk.1.2.2.1, hk.1.2.2.2⟩⟩⟩))⟩, ⟨rp9 (Kd.R_mono (Kd.R_far (p := ⟨gb102, 0, none⟩) (Kd.R_types HO_12.out BK102.out (by decide)) (fun _ hk => hk.2) (.slice Ao44 y116.length co44)) (fun _ hk => ⟨hk.1.1, ⟨hk.1.2.1, ⟨hk.1.2.2.1, hk.1.2.2.2⟩⟩⟩))⟩, ⟨rp9 (Kd.R_mono (Kd.R_far (p := ⟨gb102, 0, none⟩) (Kd.R_types HO118.out BK102.out (by decide)) (fun _ hk => hk.2) (.slice Ao44 y116.length co44)) (fun _ hk => hk.1))⟩, ⟨tz9 HO_103006.out BK102.out⟩, ⟨kf9 BK101.out⟩, ⟨kb9 BK102.out⟩, ⟨kf9 BK107.out⟩, ⟨kf9 BK115.out⟩, ⟨bp9 HB.out⟩⟩
                     case round =>
                      refine Classical.byContradiction fun hn9 => ?_
                      let rec part4 : False := by
                       refine hn9 ?_
                       clear hn9
                       clear H'
                       try clear c1
                       try clear p1
                       try clear q1
                       try clear hx1
                       try clear c2
                       try clear p2
                       try clear c3
                       try clear c4
                       try clear c6
                       try clear c6b0
                       try clear p6
                       try clear c7
                       try clear c7b0
                       try clear c8
                       try clear c8b0
                       try clear c9
                       try clear c10
                       try clear p10
                       try clear q10
                       try clear hx10
                       try clear p11
                       try clear q11
                       try clear hx11
                       try clear c12
                       try clear c12b0
                       try clear c13
                       try clear c13b0
                       try clear c14
                       try clear c15
                       try clear c18
                       try clear c21
                       try clear c21b0
                       try clear c22
                       try clear c22b0
                       try clear c23
                       try clear c27
                       try clear c28
                       try clear c30
                       try clear c30b0
                       try clear c31
                       try clear c31b0
                       try clear c32
                       try clear c33
                       try clear c34
                       try clear c37
                       try clear c38
                       try clear c39
                       try clear c41
                       try clear hcz10_0 hcz10_1 hcz10_2 hcz10_3 hcz10_4 hcz10_5 hcz10_6
                       try clear hcz11_0 hcz11_1 hcz11_2 hcz11_3 hcz11_4 hcz11_5 hcz11_6
                       try clear hcz19_0 hcz19_1 hcz19_2 hcz19_3 hcz19_4 hcz19_5 hcz19_6
                       try clear hcz20_0 hcz20_1 hcz20_2 hcz20_3 hcz20_4 hcz20_5 hcz20_6
                       try clear hcz24_0 hcz24_1 hcz24_2 hcz24_3 hcz24_4 hcz24_5 hcz24_6
                       try clear hcz29_0 hcz29_1 hcz29_10 hcz29_11 hcz29_12 hcz29_13 hcz29_14 hcz29_15 hcz29_2 hcz29_3 hcz29_4 hcz29_5 hcz29_6 hcz29_7 hcz29_8 hcz29_9
                       try clear hcz35_0 hcz35_1 hcz35_10 hcz35_11 hcz35_12 hcz35_13 hcz35_14 hcz35_15 hcz35_2 hcz35_3 hcz35_4 hcz35_5 hcz35_6 hcz35_7 hcz35_8 hcz35_9
                       try clear hcz40_0 hcz40_1 hcz40_2 hcz40_3 hcz40_4 hcz40_5 hcz40_6
                       try clear hcz42_0 hcz42_1 hcz42_2 hcz42_3 hcz42_4 hcz42_5 hcz42_6
                       try clear hcz45_0 hcz45_1 hcz45_2 hcz45_3 hcz45_4 hcz45_5 hcz45_6
                       try clear hcz5_0 hcz5_1 hcz5_2 hcz5_3 hcz5_4 hcz5_5 hcz5_6
                       try clear hfz10_0 hfz10_1 hfz10_2 hfz10_3 hfz10_4 hfz10_5 hfz10_6
                       try clear hfz11_0 hfz11_1 hfz11_2 hfz11_3 hfz11_4 hfz11_5 hfz11_6
                       try clear hfz19_0 hfz19_1 hfz19_2 hfz19_3 hfz19_4 hfz19_5 hfz19_6
                       try clear hfz20_0 hfz20_1 hfz20_2 hfz20_3 hfz20_4 hfz20_5 hfz20_6
                       try clear hfz24_0 hfz24_1 hfz24_2 hfz24_3 hfz24_4 hfz24_5 hfz24_6
                       try clear hfz29_0 hfz29_1 hfz29_10 hfz29_11 hfz29_12 hfz29_13 hfz29_14 hfz29_15 hfz29_2 hfz29_3 hfz29_4 hfz29_5 hfz29_6 hfz29_7 hfz29_8 hfz29_9
                       try clear hfz35_0 hfz35_1 hfz35_10 hfz35_11 hfz35_12 hfz35_13 hfz35_14 hfz35_15 hfz35_2 hfz35_3 hfz35_4 hfz35_5 hfz35_6 hfz35_7 hfz35_8 hfz35_9
                       try clear hfz40_0 hfz40_1 hfz40_2 hfz40_3 hfz40_4 hfz40_5 hfz40_6
                       try clear hfz42_0 hfz42_1 hfz42_2 hfz42_3 hfz42_4 hfz42_5 hfz42_6
                       try clear hfz45_0 hfz45_1 hfz45_2 hfz45_3 hfz45_4 hfz45_5 hfz45_6
                       try clear hfz5_0 hfz5_1 hfz5_2 hfz5_3 hfz5_4 hfz5_5 hfz5_6
                       try clear hx103_0
                       try clear hx103_1
                       try clear hx103_10
                       try clear hx103_11
                       try clear hx103_12
                       try clear hx103_13
                       try clear hx103_14
                       try clear hx103_15
                       try clear hx103_2
                       try clear hx103_3
                       try clear hx103_4
                       try clear hx103_5
                       try clear hx103_6
                       try clear hx103_7
                       try clear hx103_8
                       try clear hx103_9
                       try clear hx104_0
                       try clear hx104_1
                       try clear hx104_10
                       try clear hx104_11
                       try clear hx104_12
                       try clear hx104_13
                       try clear hx104_14
                       try clear hx104_15
                       try clear hx104_2
                       try clear hx104_3
                       try clear hx104_4
                       try clear hx104_5
                       try clear hx104_6
                       try clear hx104_7
                       try clear hx104_8
                       try clear hx104_9
                       try clear hx106_0
                       try clear hx106_1
                       try clear hx106_10
                       try clear hx106_11
                       try clear hx106_12
                       try clear hx106_13
                       try clear hx106_14
                       try clear hx106_15
                       try clear hx106_2
                       try clear hx106_3
                       try clear hx106_4
                       try clear hx106_5
                       try clear hx106_6
                       try clear hx106_7
                       try clear hx106_8
                       try clear hx106_9
                       try clear hx114_0
                       try clear hx114_1
                       try clear hx114_2
                       try clear hx114_3
                       try clear hx114_4
                       try clear hx114_5
                       try clear hx114_6
                       try clear p1
                       try clear p10
                       try clear p103
                       try clear p104
                       try clear p106
                       try clear p114
                       try clear p2
                       try clear p6
                       try clear q1
                       try clear q10
                       try clear q103
                       try clear q104
                       try clear q106
                       try clear q114
                       obtain ⟨x8_5, x9_5, x10_5, x11_5, x12_5, x18_5, rfl, HA, HK5, HO_8, HO_9, HO_10, HO_11, HO_12, HO_103000, HO_103006, BK101, BK102, BK107, BK115, HB⟩ := hrel
                       cases gk with
                       | zero => exact absurd HA.out (by simp [cupolaref10_Join.l4])
                       | succ k5 =>
                        have H := HA.out
                        clear HA
                        simp only [cupolaref10_Join.l4] at H
                        by_cases c46 : x18_5 < x16_4
                        ·rw [if_pos c46] at H
                         have c46b0 : decide (x18_5 < x16_4) = true := decide_eq_true c46
                         clear c46
                         by_cases c47 : x8_5.length < 8796093022208
                         ·rw [if_pos c47] at H
                          have LMc47 := a9_ c47
                          clear c47
                          obtain ⟨y120, hy120⟩ : ∃ y_ : List (S46), y_ = (x8_5 ++ [(⟨wrap64 ((x103000_3.length : Int) + x18_5), wrap64 ((x103000_3.length : Int) + x16_4)⟩ : S46)]) := ⟨_, rfl⟩
                          replace H : (if 0 ≤ x16_4 then (if x16_4 < (((rd_T117 l0 x13_3).f1).length : Int) then ((cupolaref10_bit.f k5 (rd ((rd_T117 l0 x13_3).f1) x16_4) x18_5).bind fun t124 => (if t124 = true then (if x9_5.length < 8796093022208 then (cupolaref10_Join.j5 k5 l0 x5_1 y120 (x9_5 ++ [(⟨wrap64 ((x103000_3.length : Int) + x18_5), wrap64 ((x103000_3.length : Int) + x16_4)⟩ : S46)]) x10_5 x11_5 x12_5 x13_3 (x103000_3.length : Int) x16_4 x18_5 y116 x103006_3 ((rd_T117 l0 x13_3).f0) ((rd_T117 l0 x13_3).f1) ((rd_T117 l0 x13_3).f2) ((rd_T117 l0 x13_3).f3) ((rd_T117 l0 x13_3).f4) ((rd_T117 l0 x13_3).f5.f0.f0) ((rd_T117 l0 x13_3).f5.f0.f1) ((rd_T117 l0 x13_3).f5.f0.f2) ((rd_T117 l0 x13_3).f5.f0.f3) ((rd_T117 l0 x13_3).f5.f1.f0) ((rd_T117 l0 x13_3).f5.f1.f1) ((rd_T117 l0 x13_3).f5.f1.f2) ((rd_T117 l0 x13_3).f5.f1.f3) ((rd_T117 l0 x13_3).f6) ((rd_T117 l0 x13_3).f7) ((rd_T117 l0 x13_3).f8) (wrap64 ((x103000_3.length : Int) + x18_5)) (wrap64 ((x103000_3.length : Int) + x16_4))) else (none)) else (cupolaref10_Join.j5 k5 l0 x5_1 y120 x9_5 x10_5 x11_5 x12_5 x13_3 (x103000_3.length : Int) x16_4 x18_5 y116 x103006_3 ((rd_T117 l0 x13_3).f0) ((rd_T117 l0 x13_3).f1) ((rd_T117 l0 x13_3).f2) ((rd_T117 l0 x13_3).f3) ((rd_T117 l0 x13_3).f4) ((rd_T117 l0 x13_3).f5.f0.f0) ((rd_T117 l0 x13_3).f5.f0.f1) ((rd_T117 l0 x13_3).f5.f0.f2) ((rd_T117 l0 x13_3).f5.f0.f3) ((rd_T117 l0 x13_3).f5.f1.f0) ((rd_T117 l0 x13_3).f5.f1.f1) ((rd_T117 l0 x13_3).f5.f1.f2) ((rd_T117 l0 x13_3).f5.f1.f3) ((rd_T117 l0 x13_3).f6) ((rd_T117 l0 x13_3).f7) ((rd_T117 l0 x13_3).f8) (wrap64 ((x103000_3.length : Int) + x18_5)) (wrap64 ((x103000_3.length : Int) + x16_4))))) else (none)) else (none)) = some (r1, r2, r3, r4, r5, r6, r7, r8) := by first | (rw [hy120]; with_reducible exact H) | (have H2_ := (Option.bind_some _ _).symm.trans H; rw [hy120]; with_reducible exact H2_) | (have H2_ := (Option.bind_some _ _).symm.trans H; with_reducible exact H2_) | with_reducible exact H | (rw [hy120]; exact H) | exact H
                          have Ny120 := a9_ hy120
                          clear hy120
                          by_cases c48 : 0 ≤ x16_4
                          ·rw [if_pos c48] at H
                           have c48b0 : decide (0 ≤ x16_4) = true := decide_eq_true c48
                           clear c48
                           by_cases c49 : x16_4 < (((rd_T117 l0 x13_3).f1).length : Int)
                           ·rw [if_pos c49] at H
                            have c49b0 : decide (x16_4 < (((rd_T117 l0 x13_3).f1).length : Int)) = true := decide_eq_true c49
                            clear c49
                            replace H := Option.bind_eq_some_iff.mp H
                            obtain ⟨t124, A500, H⟩ := H
                            replace H : (if t124 = true then (if x9_5.length < 8796093022208 then (cupolaref10_Join.j5 k5 l0 x5_1 y120 (x9_5 ++ [(⟨wrap64 ((x103000_3.length : Int) + x18_5), wrap64 ((x103000_3.length : Int) + x16_4)⟩ : S46)]) x10_5 x11_5 x12_5 x13_3 (x103000_3.length : Int) x16_4 x18_5 y116 x103006_3 ((rd_T117 l0 x13_3).f0) ((rd_T117 l0 x13_3).f1) ((rd_T117 l0 x13_3).f2) ((rd_T117 l0 x13_3).f3) ((rd_T117 l0 x13_3).f4) ((rd_T117 l0 x13_3).f5.f0.f0) ((rd_T117 l0 x13_3).f5.f0.f1) ((rd_T117 l0 x13_3).f5.f0.f2) ((rd_T117 l0 x13_3).f5.f0.f3) ((rd_T117 l0 x13_3).f5.f1.f0) ((rd_T117 l0 x13_3).f5.f1.f1) ((rd_T117 l0 x13_3).f5.f1.f2) ((rd_T117 l0 x13_3).f5.f1.f3) ((rd_T117 l0 x13_3).f6) ((rd_T117 l0 x13_3).f7) ((rd_T117 l0 x13_3).f8) (wrap64 ((x103000_3.length : Int) + x18_5)) (wrap64 ((x103000_3.length : Int) + x16_4))) else (none)) else (cupolaref10_Join.j5 k5 l0 x5_1 y120 x9_5 x10_5 x11_5 x12_5 x13_3 (x103000_3.length : Int) x16_4 x18_5 y116 x103006_3 ((rd_T117 l0 x13_3).f0) ((rd_T117 l0 x13_3).f1) ((rd_T117 l0 x13_3).f2) ((rd_T117 l0 x13_3).f3) ((rd_T117 l0 x13_3).f4) ((rd_T117 l0 x13_3).f5.f0.f0) ((rd_T117 l0 x13_3).f5.f0.f1) ((rd_T117 l0 x13_3).f5.f0.f2) ((rd_T117 l0 x13_3).f5.f0.f3) ((rd_T117 l0 x13_3).f5.f1.f0) ((rd_T117 l0 x13_3).f5.f1.f1) ((rd_T117 l0 x13_3).f5.f1.f2) ((rd_T117 l0 x13_3).f5.f1.f3) ((rd_T117 l0 x13_3).f6) ((rd_T117 l0 x13_3).f7) ((rd_T117 l0 x13_3).f8) (wrap64 ((x103000_3.length : Int) + x18_5)) (wrap64 ((x103000_3.length : Int) + x16_4)))) = some (r1, r2, r3, r4, r5, r6, r7, r8) := H
                            have A50 := a9_ A500
                            clear A500
                            have HC51 := a9_ H
                            clear H
                            go_upto_if 106 with (first | ((with_reducible refine gate_dst (N := 19) rfl ?_); refine box9 (N := 19) (cs := #[.int .i64 0, .int .i64 0]) (t := 46) ?_; intro gb119 hg w52 hbox hb; have n0_ := a9_ (Kd.R_below (Kd.R_elderB (rp9 HO_8.out) gb119 (Nat.le_of_eq hg.symm)) hb); have n1_ := a9_ (Kd.R_below (Kd.R_elderB (rp9 HO_9.out) gb119 (Nat.le_of_eq hg.symm)) hb); have n2_ := a9_ (Kd.R_below (Kd.R_elderB (rp9 HO_10.out) gb119 (Nat.le_of_eq hg.symm)) hb); have n3_ := a9_ (Kd.R_below (Kd.R_elderB (rp9 HO_11.out) gb119 (Nat.le_of_eq hg.symm)) hb); have n4_ := a9_ (Kd.R_below (Kd.R_elderB (rp9 HO_12.out) gb119 (Nat.le_of_eq hg.symm)) hb); have n5_ := a9_ (Kd.R_below (rp9 HO_103000.out) hb); have n6_ := a9_ (Kd.S_below (sp9 HO_103006.out) hb); have n7_ := a9_ (blk_below (kp9 BK101.out) hb); have n8_ := a9_ (blk_below (kp9 BK102.out) hb); have n9_ := a9_ (blk_below (kp9 BK107.out) hb); have n10_ := a9_ (blk_below (kp9 BK115.out) hb); have n11_ := a9_ (below_step (bp9 HB.out) hb); have n12_ := a9_ (hbox); have n13_ := a9_ ((by rw [hg]; exact (below_size (bp9 HB.out)) : w.heap.size ≤ gb119)); have n14_ := n13_; have n15_ := a9_ ((by rw [hg]; exact Nat.ne_of_lt (blk_lt (kp9 BK101.out)) : gb101 ≠ gb119)); have n16_ := a9_ ((by rw [hg]; exact Nat.ne_of_gt (blk_lt (kp9 BK101.out)) : gb119 ≠ gb101)); have n17_ := a9_ ((by rw [hg]; exact Nat.ne_of_lt (blk_lt (kp9 BK102.out)) : gb102 ≠ gb119)); have n18_ := a9_ ((by rw [hg]; exact Nat.ne_of_gt (blk_lt (kp9 BK102.out)) : gb119 ≠ gb102)); have n19_ := a9_ ((by rw [hg]; exact Nat.ne_of_lt (blk_lt (kp9 BK107.out)) : gb107 ≠ gb119)); have n20_ := a9_ ((by rw [hg]; exact Nat.ne_of_gt (blk_lt (kp9 BK107.out)) : gb119 ≠ gb107)); have n21_ := a9_ ((by rw [hg]; exact Nat.ne_of_lt (blk_lt (kp9 BK115.out)) : gb115 ≠ gb119)); have n22_ := a9_ ((by rw [hg]; exact Nat.ne_of_gt (blk_lt (kp9 BK115.out)) : gb119 ≠ gb115)); clear HO_8; clear HO_9; clear HO_10; clear HO_11; clear HO_12; clear HO_103000; clear HO_103006; clear BK101; clear BK102; clear BK107; clear BK115; clear HB; have HO_8 := n0_; have HO_9 := n1_; have HO_10 := n2_; have HO_11 := n3_; have HO_12 := n4_; have HO_103000 := n5_; have HO_103006 := n6_; have BK101 := n7_; have BK102 := n8_; have BK107 := n9_; have BK115 := n10_; have HB := n11_; have BK119 := n12_; have GW119 := n13_; have GE119 := n14_; have NB101_119 := n15_; have NB119_101 := n16_; have NB102_119 := n17_; have NB119_102 := n18_; have NB107_119 := n19_; have NB119_107 := n20_; have NB115_119 := n21_; have NB119_115 := n22_; clear n0_ n1_ n2_ n3_ n4_ n5_ n6_ n7_ n8_ n9_ n10_ n11_ n12_ n13_ n14_ n15_ n16_ n17_ n18_ n19_ n20_ n21_ n22_; clear hb hbox hg; have hnb53 := NB119_101.out; have hnc53 := NB101_119.out; have hnb54 := NB119_102.out; have hnc54 := NB102_119.out; have hnb55 := NB119_107.out; have hnc55 := NB107_119.out; have hnb56 := NB119_115.out; have hnc56 := NB115_119.out; obtain ⟨hcz57_0, hcz57_1, hfz57_0, hfz57_1⟩ := cz2 BK119.out) | ((with_reducible refine gate_builtin (b := .append) (xs := #[.tmp 96, .tmp 98]) rfl ?_); at_builtin; refine Kd.R_append k46 (w0 := w) w.heap.size rfl (.tmp 96) (.tmp 98) 43 46 (.agg #[(.int .i64 0), (.int .i64 0)]) 16 rfl Try.underlying43 info46 rfl (by decide) (by omega) u8 x8_5 (⟨wrap64 ((x103000_3.length : Int) + x18_5), wrap64 ((x103000_3.length : Int) + x16_4)⟩ : S46) [.int .i64 (wrap64 ((x103000_3.length : Int) + x18_5)), .int .i64 (wrap64 ((x103000_3.length : Int) + x16_4))] (fun k_ => some k_ ≠ (u9 : Value).ownBlock ∧ some k_ ≠ (u10 : Value).ownBlock ∧ some k_ ≠ (u11 : Value).ownBlock ∧ some k_ ≠ (u12 : Value).ownBlock ∧ k_ ≠ gb119) (fun _ => False) rfl (by first | (go_simp; done) | (go_simp; rfl)) ?aP (fun _ hk => hk.elim) ?aF ?aO ?aB ?aS ?aL ?_; (case aP => exact k46_mkM _ _ _ (⟨wrap64 ((x103000_3.length : Int) + x18_5), wrap64 ((x103000_3.length : Int) + x16_4)⟩ : S46)); (case aB => exact (bp9 HB.out)); (case aF => exact (fun k_ hk => ⟨Kd.fresh' (Kd.R_lt (rp9 (Kd.R_mono (Kd.R_far (p := ⟨gb119, 1, none⟩) (Kd.R_far (p := ⟨gb119, 0, none⟩) (Kd.R_mono HO_9.out (fun k_ hk => (⟨hk, hk.2⟩ : _ ∧ k_ ≠ gb119))) (fun _ hk => hk.2) (.int .i64 (wrap64 ((x103000_3.length : Int) + x18_5)))) (fun _ hk => hk.2) (.int .i64 (wrap64 ((x103000_3.length : Int) + x16_4)))) (fun _ h_ => h_.1)))) k_ hk, Kd.fresh' (Kd.R_lt (rp9 (Kd.R_mono (Kd.R_far (p := ⟨gb119, 1, none⟩) (Kd.R_far (p := ⟨gb119, 0, none⟩) (Kd.R_mono HO_10.out (fun k_ hk => (⟨hk, hk.2⟩ : _ ∧ k_ ≠ gb119))) (fun _ hk => hk.2) (.int .i64 (wrap64 ((x103000_3.length : Int) + x18_5)))) (fun _ hk => hk.2) (.int .i64 (wrap64 ((x103000_3.length : Int) + x16_4)))) (fun _ h_ => h_.1)))) k_ hk, Kd.fresh' (Kd.R_lt (rp9 (Kd.R_mono (Kd.R_far (p := ⟨gb119, 1, none⟩) (Kd.R_far (p := ⟨gb119, 0, none⟩) (Kd.R_mono HO_11.out (fun k_ hk => (⟨hk, hk.2⟩ : _ ∧ k_ ≠ gb119))) (fun _ hk => hk.2) (.int .i64 (wrap64 ((x103000_3.length : Int) + x18_5)))) (fun _ hk => hk.2) (.int .i64 (wrap64 ((x103000_3.length : Int) + x16_4)))) (fun _ h_ => h_.1)))) k_ hk, Kd.fresh' (Kd.R_lt (rp9 (Kd.R_mono (Kd.R_far (p := ⟨gb119, 1, none⟩) (Kd.R_far (p := ⟨gb119, 0, none⟩) (Kd.R_mono HO_12.out (fun k_ hk => (⟨hk, hk.2⟩ : _ ∧ k_ ≠ gb119))) (fun _ hk => hk.2) (.int .i64 (wrap64 ((x103000_3.length : Int) + x18_5)))) (fun _ hk => hk.2) (.int .i64 (wrap64 ((x103000_3.length : Int) + x16_4)))) (fun _ h_ => h_.1)))) k_ hk, Kd.freshB (g := gb119) (o := .cells #[.int .i64 (wrap64 ((x103000_3.length : Int) + x18_5)), .int .i64 (wrap64 ((x103000_3.length : Int) + x16_4))] 46 (0, 0)) (kb9 BK119.out) k_ hk⟩)); (case aO => exact (rp9 (Kd.R_mono (Kd.R_far (p := ⟨gb119, 1, none⟩) (Kd.R_far (p := ⟨gb119, 0, none⟩) (Kd.R_mono HO_8.out (fun k_ hk => (⟨hk, hk.2⟩ : _ ∧ k_ ≠ gb119))) (fun _ hk => hk.2) (.int .i64 (wrap64 ((x103000_3.length : Int) + x18_5)))) (fun _ hk => hk.2) (.int .i64 (wrap64 ((x103000_3.length : Int) + x16_4)))) (fun _ hk => ⟨hk.1.1.1, ⟨hk.1.1.2.1, ⟨hk.1.1.2.2.1, ⟨hk.1.1.2.2.2, hk.1.2⟩⟩⟩⟩)))); (case aS => exact (below_size (bp9 HB.out))); (case aL => have := LMc47.out; omega); intro v121 w58 ho hb hg hat; rw [← Ny120.out] at ho; have n0_ := a9_ (Kd.R_after (ok := (fun k_ => some k_ ≠ (u10 : Value).ownBlock ∧ some k_ ≠ (u11 : Value).ownBlock ∧ some k_ ≠ (u12 : Value).ownBlock ∧ k_ ≠ gb119)) (rp9 (Kd.R_mono (Kd.R_far (p := ⟨gb119, 1, none⟩) (Kd.R_far (p := ⟨gb119, 0, none⟩) (Kd.R_mono HO_9.out (fun k_ hk => (⟨hk, hk.2⟩ : _ ∧ k_ ≠ gb119))) (fun _ hk => hk.2) (.int .i64 (wrap64 ((x103000_3.length : Int) + x18_5)))) (fun _ hk => hk.2) (.int .i64 (wrap64 ((x103000_3.length : Int) + x16_4)))) (fun _ hk => ⟨⟨hk.1.1.2.1, ⟨hk.1.1.2.2.1, ⟨hk.1.1.2.2.2, hk.1.2⟩⟩⟩, hk.1.1.1⟩))) hg hat); have n1_ := a9_ (Kd.R_after (ok := (fun k_ => some k_ ≠ (u9 : Value).ownBlock ∧ some k_ ≠ (u11 : Value).ownBlock ∧ some k_ ≠ (u12 : Value).ownBlock ∧ k_ ≠ gb119)) (rp9 (Kd.R_mono (Kd.R_far (p := ⟨gb119, 1, none⟩) (Kd.R_far (p := ⟨gb119, 0, none⟩) (Kd.R_mono HO_10.out (fun k_ hk => (⟨hk, hk.2⟩ : _ ∧ k_ ≠ gb119))) (fun _ hk => hk.2) (.int .i64 (wrap64 ((x103000_3.length : Int) + x18_5)))) (fun _ hk => hk.2) (.int .i64 (wrap64 ((x103000_3.length : Int) + x16_4)))) (fun _ hk => ⟨⟨hk.1.1.2.1, ⟨hk.1.1.2.2.1, ⟨hk.1.1.2.2.2, hk.1.2⟩⟩⟩, hk.1.1.1⟩))) hg hat); have n2_ := a9_ (Kd.R_after (ok := (fun k_ => some k_ ≠ (u9 : Value).ownBlock ∧ some k_ ≠ (u10 : Value).ownBlock ∧ some k_ ≠ (u12 : Value).ownBlock ∧ k_ ≠ gb119)) (rp9 (Kd.R_mono (Kd.R_far (p := ⟨gb119, 1, none⟩) (Kd.R_far (p := ⟨gb119, 0, none⟩) (Kd.R_mono HO_11.out (fun k_ hk => (⟨hk, hk.2⟩ : _ ∧ k_ ≠ gb119))) (fun _ hk => hk.2) (.int .i64 (wrap64 ((x103000_3.length : Int) + x18_5)))) (fun _ hk => hk.2) (.int .i64 (wrap64 ((x103000_3.length : Int) + x16_4)))) (fun _ hk => ⟨⟨hk.1.1.2.1, ⟨hk.1.1.2.2.1, ⟨hk.1.1.2.2.2, hk.1.2⟩⟩⟩, hk.1.1.1⟩))) hg hat); have n3_ := a9_ (Kd.R_after (ok := (fun k_ => some k_ ≠ (u9 : Value).ownBlock ∧ some k_ ≠ (u10 : Value).ownBlock ∧ some k_ ≠ (u11 : Value).ownBlock ∧ k_ ≠ gb119)) (rp9 (Kd.R_mono (Kd.R_far (p := ⟨gb119, 1, none⟩) (Kd.R_far (p := ⟨gb119, 0, none⟩) (Kd.R_mono HO_12.out (fun k_ hk => (⟨hk, hk.2⟩ : _ ∧ k_ ≠ gb119))) (fun _ hk => hk.2) (.int .i64 (wrap64 ((x103000_3.length : Int) + x18_5)))) (fun _ hk => hk.2) (.int .i64 (wrap64 ((x103000_3.length : Int) + x16_4)))) (fun _ hk => ⟨⟨hk.1.1.2.1, ⟨hk.1.1.2.2.1, ⟨hk.1.1.2.2.2, hk.1.2⟩⟩⟩, hk.1.1.1⟩))) hg hat); have n4_ := a9_ (Kd.R_over' (ty9 HO_103000.out BK119.out) (Kd.R_typed (rp9 (Kd.R_mono (Kd.R_far (p := ⟨gb119, 1, none⟩) (Kd.R_far (p := ⟨gb119, 0, none⟩) (Kd.R_mono HO_8.out (fun k_ hk => (⟨hk, hk.2⟩ : _ ∧ k_ ≠ gb119))) (fun _ hk => hk.2) (.int .i64 (wrap64 ((x103000_3.length : Int) + x18_5)))) (fun _ hk => hk.2) (.int .i64 (wrap64 ((x103000_3.length : Int) + x16_4)))) (fun _ h_ => h_.1)))) (by decide) hg); have n5_ := a9_ (Kd.S_over' (tz9 HO_103006.out BK119.out) (Kd.R_typed (rp9 (Kd.R_mono (Kd.R_far (p := ⟨gb119, 1, none⟩) (Kd.R_far (p := ⟨gb119, 0, none⟩) (Kd.R_mono HO_8.out (fun k_ hk => (⟨hk, hk.2⟩ : _ ∧ k_ ≠ gb119))) (fun _ hk => hk.2) (.int .i64 (wrap64 ((x103000_3.length : Int) + x18_5)))) (fun _ hk => hk.2) (.int .i64 (wrap64 ((x103000_3.length : Int) + x16_4)))) (fun _ h_ => h_.1)))) (by decide) hg); have n6_ := a9_ (blk_grown (kf9 BK101.out) hg (Kd.R_ne HO_8.out BK101.out (by decide))); have n7_ := a9_ (blk_grown (kf9 BK102.out) hg (Kd.R_ne HO_8.out BK102.out (by decide))); have n8_ := a9_ (blk_grown (kf9 BK107.out) hg (Kd.R_ne HO_8.out BK107.out (by decide))); have n9_ := a9_ (blk_grown (kf9 BK115.out) hg (Kd.R_ne HO_8.out BK115.out (by decide))); have n10_ := a9_ (blk_grown (g := gb119) (o := .cells #[.int .i64 (wrap64 ((x103000_3.length : Int) + x18_5)), .int .i64 (wrap64 ((x103000_3.length : Int) + x16_4))] 46 (0, 0)) (kb9 BK119.out) hg (Kd.R_away HO_8.out (fun _ hk => hk.2))); have n11_ := a9_ (hb); have n12_ := a9_ (ho); clear HO_9; clear HO_10; clear HO_11; clear HO_12; clear HO_103000; clear HO_103006; clear BK101; clear BK102; clear BK107; clear BK115; clear BK119; clear HB; clear HO_8; have HO_9 := n0_; have HO_10 := n1_; have HO_11 := n2_; have HO_12 := n3_; have HO_103000 := n4_; have HO_103006 := n5_; have BK101 := n6_; have BK102 := n7_; have BK107 := n8_; have BK115 := n9_; have BK119 := n10_; have HB := n11_; have HO122 := n12_; clear n0_ n1_ n2_ n3_ n4_ n5_ n6_ n7_ n8_ n9_ n10_ n11_ n12_; clear ho hb hg hat; have hnb59 := NB107_101.out; have hnc59 := NB101_107.out; have hnb60 := NB107_102.out; have hnc60 := NB102_107.out; have hnb61 := NB107_115.out; have hnc61 := NB115_107.out; obtain ⟨hcz62_0, hcz62_1, hcz62_2, hcz62_3, hcz62_4, hcz62_5, hcz62_6, hcz62_7, hcz62_8, hcz62_9, hcz62_10, hcz62_11, hcz62_12, hcz62_13, hcz62_14, hcz62_15, hfz62_0, hfz62_1, hfz62_2, hfz62_3, hfz62_4, hfz62_5, hfz62_6, hfz62_7, hfz62_8, hfz62_9, hfz62_10, hfz62_11, hfz62_12, hfz62_13, hfz62_14, hfz62_15⟩ := cz16 BK107.out; have p123 : 0 ≤ (x16_4 : Int) := of_decide_eq_true (by first | (with_reducible assumption) | assumption); have q123 : x16_4 < (((rd_T117 l0 x13_3).f1).length : Int) := of_decide_eq_true (by first | (with_reducible assumption) | assumption); obtain ⟨ad123, e123, hx123_0⟩ := Kd.at_int HR106_1.out x16_4 p123 q123; cases e123; replace hx123_0 := hb9 HB.out hx123_0; replace p123 := eq_true p123; replace q123 := eq_true q123) | ((with_reducible refine gate_callee (f := 150) rfl ?_); refine goesL9 (some 106) rfl rfl Try.func150 (by kernel_rfl) rfl #[.int .u32 (rd ((rd_T117 l0 x13_3).f1) x16_4), .int .i64 x18_5] rfl ?_; (with_reducible refine (cupolaref10_bit.calls k5 (rd ((rd_T117 l0 x13_3).f1) x16_4) x18_5 t124 _ A50.out).mono ?_); rintro e w' ⟨rfl, ⟨nd, rfl⟩⟩; refine ⟨_, rfl, ?_⟩))
                            (try simp only [Act.put, List.setIfInBounds_toArray, List.set_cons_zero, List.set_cons_succ])
                            let z9 := bodyPost Try.prog Try.f108
                            (go_cut [9] (fun v9 wc => ∃ (kq : Nat) (x9_50 : List (S46)), Aside0 (cupolaref10_Join.j5 kq l0 x5_1 y120 x9_50 x10_5 x11_5 x12_5 x13_3 (x103000_3.length : Int) x16_4 x18_5 y116 x103006_3 ((rd_T117 l0 x13_3).f0) ((rd_T117 l0 x13_3).f1) ((rd_T117 l0 x13_3).f2) ((rd_T117 l0 x13_3).f3) ((rd_T117 l0 x13_3).f4) ((rd_T117 l0 x13_3).f5.f0.f0) ((rd_T117 l0 x13_3).f5.f0.f1) ((rd_T117 l0 x13_3).f5.f0.f2) ((rd_T117 l0 x13_3).f5.f0.f3) ((rd_T117 l0 x13_3).f5.f1.f0) ((rd_T117 l0 x13_3).f5.f1.f1) ((rd_T117 l0 x13_3).f5.f1.f2) ((rd_T117 l0 x13_3).f5.f1.f3) ((rd_T117 l0 x13_3).f6) ((rd_T117 l0 x13_3).f7) ((rd_T117 l0 x13_3).f8) (wrap64 ((x103000_3.length : Int) + x18_5)) (wrap64 ((x103000_3.length : Int) + x16_4)) = some (r1, r2, r3, r4, r5, r6, r7, r8)) ∧ Aside0 (kq ≤ k5) ∧ Aside0 (Kd.R k46 46 wc w.heap.size (fun k_ => some k_ ≠ (v9 : Value).ownBlock ∧ some k_ ≠ (u10 : Value).ownBlock ∧ some k_ ≠ (u11 : Value).ownBlock ∧ some k_ ≠ (u12 : Value).ownBlock ∧ k_ ≠ gb119) v121 y120) ∧ Aside0 (Kd.R k46 46 wc w.heap.size (fun k_ => some k_ ≠ (v121 : Value).ownBlock ∧ some k_ ≠ (u10 : Value).ownBlock ∧ some k_ ≠ (u11 : Value).ownBlock ∧ some k_ ≠ (u12 : Value).ownBlock ∧ k_ ≠ gb119) v9 x9_50) ∧ Aside0 (Kd.R k46 46 wc w.heap.size (fun k_ => some k_ ≠ (v121 : Value).ownBlock ∧ some k_ ≠ (v9 : Value).ownBlock ∧ some k_ ≠ (u11 : Value).ownBlock ∧ some k_ ≠ (u12 : Value).ownBlock ∧ k_ ≠ gb119) u10 x10_5) ∧ Aside0 (Kd.R k46 46 wc w.heap.size (fun k_ => some k_ ≠ (v121 : Value).ownBlock ∧ some k_ ≠ (v9 : Value).ownBlock ∧ some k_ ≠ (u10 : Value).ownBlock ∧ some k_ ≠ (u12 : Value).ownBlock ∧ k_ ≠ gb119) u11 x11_5) ∧ Aside0 (Kd.R k46 46 wc w.heap.size (fun k_ => some k_ ≠ (v121 : Value).ownBlock ∧ some k_ ≠ (v9 : Value).ownBlock ∧ some k_ ≠ (u10 : Value).ownBlock ∧ some k_ ≠ (u11 : Value).ownBlock ∧ k_ ≠ gb119) u12 x12_5) ∧ Aside0 (Kd.R k26 26 wc w.heap.size (fun k_ => k_ ≠ gb115) (.slice Ao44 y116.length co44) y116) ∧ Aside0 (Kd.S (Kd.slice 2 (Kd.int .i64)) 23 wc w.heap.size (fun _ => True) u103006 x103006_3) ∧ Aside0 (wc.heap[gb101]? = some (.cells #[(.slice none 0 0), (.slice none 0 0), (.slice none 0 0), (.slice none 0 0), (.slice none 0 0), (.slice none 0 0), (.slice none 0 0)] 76 (0, 0))) ∧ Aside0 (wc.heap[gb102]? = some (.cells #[(.slice Ao44 y116.length co44), (.slice none 0 0), (.slice none 0 0), (.slice none 0 0), (.slice none 0 0), (.slice none 0 0), u103006] 76 (0, 0))) ∧ Aside0 (wc.heap[gb107]? = some (.cells #[(.slice (some ad114) ((rd_T117 l0 x13_3).f0).length c106_0), (.slice (some ad123) ((rd_T117 l0 x13_3).f1).length c106_1), (.slice A106_2 ((rd_T117 l0 x13_3).f2).length c106_2), (.slice A106_3 ((rd_T117 l0 x13_3).f3).length c106_3), (.slice A106_4 ((rd_T117 l0 x13_3).f4).length c106_4), .int .i64 ((rd_T117 l0 x13_3).f5.f0.f0), .int .i64 ((rd_T117 l0 x13_3).f5.f0.f1), .int .i64 ((rd_T117 l0 x13_3).f5.f0.f2), .int .i64 ((rd_T117 l0 x13_3).f5.f0.f3), .int .u32 ((rd_T117 l0 x13_3).f5.f1.f0), .int .u32 ((rd_T117 l0 x13_3).f5.f1.f1), .int .u32 ((rd_T117 l0 x13_3).f5.f1.f2), .int .u32 ((rd_T117 l0 x13_3).f5.f1.f3), .int .i64 ((rd_T117 l0 x13_3).f6), .int .i64 ((rd_T117 l0 x13_3).f7), .int .i64 ((rd_T117 l0 x13_3).f8)] 117 (0, 0))) ∧ Aside0 (wc.heap[gb115]? = some (.cells #[.int .i64 x13_3, .int .i64 ((rd_T26 ((rd_T117 l0 x13_3).f0) x16_4).f1), .int .i64 ((rd_T26 ((rd_T117 l0 x13_3).f0) x16_4).f2), .int .i64 ((rd_T26 ((rd_T117 l0 x13_3).f0) x16_4).f3), .bool ((rd_T26 ((rd_T117 l0 x13_3).f0) x16_4).f4), .bool ((rd_T26 ((rd_T117 l0 x13_3).f0) x16_4).f5), .bool ((rd_T26 ((rd_T117 l0 x13_3).f0) x16_4).f6)] 26 (0, 0))) ∧ Aside0 (wc.heap[gb119]? = some (.cells #[.int .i64 (wrap64 ((x103000_3.length : Int) + x18_5)), .int .i64 (wrap64 ((x103000_3.length : Int) + x16_4))] 46 (0, 0))) ∧ Aside0 (Below w.heap.size w wc))) <;> clear z9
                            case first =>
                             refine Classical.byContradiction fun hn9 => ?_
                             let rec part5 : False := by
                              refine hn9 ?_
                              clear hn9
                              have H := HC51.out
                              clear HC51
                              by_cases c63 : t124 = true
                              ·subst c63
                               rw [if_pos rfl] at H
                               by_cases c64 : x9_5.length < 8796093022208
                               ·rw [if_pos c64] at H
                                have LMc64 := a9_ c64
                                clear c64
                                obtain ⟨y125, hy125⟩ : ∃ y_ : List (S46), y_ = (x9_5 ++ [(⟨wrap64 ((x103000_3.length : Int) + x18_5), wrap64 ((x103000_3.length : Int) + x16_4)⟩ : S46)]) := ⟨_, rfl⟩
                                replace H : (cupolaref10_Join.j5 k5 l0 x5_1 y120 y125 x10_5 x11_5 x12_5 x13_3 (x103000_3.length : Int) x16_4 x18_5 y116 x103006_3 ((rd_T117 l0 x13_3).f0) ((rd_T117 l0 x13_3).f1) ((rd_T117 l0 x13_3).f2) ((rd_T117 l0 x13_3).f3) ((rd_T117 l0 x13_3).f4) ((rd_T117 l0 x13_3).f5.f0.f0) ((rd_T117 l0 x13_3).f5.f0.f1) ((rd_T117 l0 x13_3).f5.f0.f2) ((rd_T117 l0 x13_3).f5.f0.f3) ((rd_T117 l0 x13_3).f5.f1.f0) ((rd_T117 l0 x13_3).f5.f1.f1) ((rd_T117 l0 x13_3).f5.f1.f2) ((rd_T117 l0 x13_3).f5.f1.f3) ((rd_T117 l0 x13_3).f6) ((rd_T117 l0 x13_3).f7) ((rd_T117 l0 x13_3).f8) (wrap64 ((x103000_3.length : Int) + x18_5)) (wrap64 ((x103000_3.length : Int) + x16_4))) = some (r1, r2, r3, r4, r5, r6, r7, r8) := by first | (rw [hy125]; with_reducible exact H) | (have H2_ := (Option.bind_some _ _).symm.trans H; rw [hy125]; with_reducible exact H2_) | (have H2_ := (Option.bind_some _ _).symm.trans H; with_reducible exact H2_) | with_reducible exact H | (rw [hy125]; exact H) | exact H
                                have Ny125 := a9_ hy125
                                clear hy125
                                have H' := a9_ H
                                clear H
                                have hnb65 := NB119_101.out
                                have hnc65 := NB101_119.out
                                have hnb66 := NB119_102.out
                                have hnc66 := NB102_119.out
                                have hnb67 := NB119_107.out
                                have hnc67 := NB107_119.out
                                have hnb68 := NB119_115.out
                                have hnc68 := NB115_119.out
                                obtain ⟨hcz69_0, hcz69_1, hfz69_0, hfz69_1⟩ := cz2 BK119.out
                                go_wp2_with (first | ((with_reducible refine gate_builtin (b := .append) (xs := #[.tmp 107, .tmp 109]) rfl ?_); at_builtin; refine Kd.R_append k46 (w0 := w) w.heap.size rfl (.tmp 107) (.tmp 109) 43 46 (.agg #[(.int .i64 0), (.int .i64 0)]) 16 rfl Try.underlying43 info46 rfl (by decide) (by omega) u9 x9_5 (⟨wrap64 ((x103000_3.length : Int) + x18_5), wrap64 ((x103000_3.length : Int) + x16_4)⟩ : S46) [.int .i64 (wrap64 ((x103000_3.length : Int) + x18_5)), .int .i64 (wrap64 ((x103000_3.length : Int) + x16_4))] (fun k_ => some k_ ≠ (u10 : Value).ownBlock ∧ some k_ ≠ (u11 : Value).ownBlock ∧ some k_ ≠ (u12 : Value).ownBlock ∧ some k_ ≠ (v121 : Value).ownBlock ∧ k_ ≠ gb119) (fun _ => False) rfl rfl ?aP (fun _ hk => hk.elim) ?aF ?aO ?aB ?aS ?aL ?_; (case aP => exact k46_mkM _ _ _ (⟨wrap64 ((x103000_3.length : Int) + x18_5), wrap64 ((x103000_3.length : Int) + x16_4)⟩ : S46)); (case aB => exact (bp9 HB.out)); (case aF => exact (fun k_ hk => ⟨Kd.fresh' (Kd.R_lt (rp9 HO_10.out)) k_ hk, Kd.fresh' (Kd.R_lt (rp9 HO_11.out)) k_ hk, Kd.fresh' (Kd.R_lt (rp9 HO_12.out)) k_ hk, Kd.fresh' (Kd.R_lt (rp9 HO122.out)) k_ hk, Kd.freshB (kp9 BK119.out) k_ hk⟩)); (case aO => exact (rp9 (Kd.R_mono HO_9.out (fun _ hk => ⟨hk.1.1, ⟨hk.1.2.1, ⟨hk.1.2.2.1, ⟨hk.2, hk.1.2.2.2⟩⟩⟩⟩)))); (case aS => exact (below_size (bp9 HB.out))); (case aL => have := LMc64.out; omega); intro v126 w70 ho hb hg hat; rw [← Ny125.out] at ho; have n0_ := a9_ (Kd.R_after (ok := (fun k_ => some k_ ≠ (u11 : Value).ownBlock ∧ some k_ ≠ (u12 : Value).ownBlock ∧ some k_ ≠ (v121 : Value).ownBlock ∧ k_ ≠ gb119)) (rp9 (Kd.R_mono HO_10.out (fun _ hk => ⟨⟨hk.1.2.1, ⟨hk.1.2.2.1, ⟨hk.2, hk.1.2.2.2⟩⟩⟩, hk.1.1⟩))) hg hat); have n1_ := a9_ (Kd.R_after (ok := (fun k_ => some k_ ≠ (u10 : Value).ownBlock ∧ some k_ ≠ (u12 : Value).ownBlock ∧ some k_ ≠ (v121 : Value).ownBlock ∧ k_ ≠ gb119)) (rp9 (Kd.R_mono HO_11.out (fun _ hk => ⟨⟨hk.1.2.1, ⟨hk.1.2.2.1, ⟨hk.2, hk.1.2.2.2⟩⟩⟩, hk.1.1⟩))) hg hat); have n2_ := a9_ (Kd.R_after (ok := (fun k_ => some k_ ≠ (u10 : Value).ownBlock ∧ some k_ ≠ (u11 : Value).ownBlock ∧ some k_ ≠ (v121 : Value).ownBlock ∧ k_ ≠ gb119)) (rp9 (Kd.R_mono HO_12.out (fun _ hk => ⟨⟨hk.1.2.1, ⟨hk.1.2.2.1, ⟨hk.2, hk.1.2.2.2⟩⟩⟩, hk.1.1⟩))) hg hat); have n3_ := a9_ (Kd.R_over' (rp9 HO_103000.out) (Kd.R_typed (rp9 HO_9.out)) (by decide) hg); have n4_ := a9_ (Kd.S_over' (sp9 HO_103006.out) (Kd.R_typed (rp9 HO_9.out)) (by decide) hg); have n5_ := a9_ (blk_grown (kp9 BK101.out) hg (Kd.R_ne HO_9.out BK101.out (by decide))); have n6_ := a9_ (blk_grown (kp9 BK102.out) hg (Kd.R_ne HO_9.out BK102.out (by decide))); have n7_ := a9_ (blk_grown (kp9 BK107.out) hg (Kd.R_ne HO_9.out BK107.out (by decide))); have n8_ := a9_ (blk_grown (kp9 BK115.out) hg (Kd.R_ne HO_9.out BK115.out (by decide))); have n9_ := a9_ (blk_grown (kp9 BK119.out) hg (Kd.R_away HO_9.out (fun _ hk => hk.1.2.2.2))); have n10_ := a9_ (Kd.R_after (ok := (fun k_ => some k_ ≠ (u10 : Value).ownBlock ∧ some k_ ≠ (u11 : Value).ownBlock ∧ some k_ ≠ (u12 : Value).ownBlock ∧ k_ ≠ gb119)) (rp9 (Kd.R_mono HO122.out (fun _ hk => ⟨⟨hk.2.1, ⟨hk.2.2.1, ⟨hk.2.2.2.1, hk.2.2.2.2⟩⟩⟩, hk.1⟩))) hg hat); have n11_ := a9_ (hb); have n12_ := a9_ (ho); clear HO_10; clear HO_11; clear HO_12; clear HO_103000; clear HO_103006; clear BK101; clear BK102; clear BK107; clear BK115; clear BK119; clear HO122; clear HB; clear HO_9; have HO_10 := n0_; have HO_11 := n1_; have HO_12 := n2_; have HO_103000 := n3_; have HO_103006 := n4_; have BK101 := n5_; have BK102 := n6_; have BK107 := n7_; have BK115 := n8_; have BK119 := n9_; have HO122 := n10_; have HB := n11_; have HO127 := n12_; clear n0_ n1_ n2_ n3_ n4_ n5_ n6_ n7_ n8_ n9_ n10_ n11_ n12_; clear ho hb hg hat))
                                go_meet
                                case rel => exact ⟨_, (y125), H', ⟨by have := HK1.out; have := HK2.out; have := HK3.out; have := HK4.out; have := HK5.out; first | omega | exact Nat.le_refl _⟩, ⟨rp9 (Kd.R_mono HO122.out (fun _ hk => ⟨hk.2, ⟨hk.1.1, ⟨hk.1.2.1, ⟨hk.1.2.2.1, hk.1.2.2.2⟩⟩⟩⟩))⟩, ⟨rp9 (Kd.R_mono HO127.out (fun _ hk => ⟨hk.2.2.2.1, ⟨hk.1, ⟨hk.2.1, ⟨hk.2.2.1, hk.2.2.2.2⟩⟩⟩⟩))⟩, ⟨rp9 (Kd.R_mono HO_10.out (fun _ hk => ⟨hk.1.2.2.1, ⟨hk.2, ⟨hk.1.1, ⟨hk.1.2.1, hk.1.2.2.2⟩⟩⟩⟩))⟩, ⟨rp9 (Kd.R_mono HO_11.out (fun _ hk => ⟨hk.1.2.2.1, ⟨hk.2, ⟨hk.1.1, ⟨hk.1.2.1, hk.1.2.2.2⟩⟩⟩⟩))⟩, ⟨rp9 (Kd.R_mono HO_12.out (fun _ hk => ⟨hk.1.2.2.1, ⟨hk.2, ⟨hk.1.1, ⟨hk.1.2.1, hk.1.2.2.2⟩⟩⟩⟩))⟩, ⟨rp9 HO_103000.out⟩, ⟨sp9 HO_103006.out⟩, ⟨kp9 BK101.out⟩, ⟨kp9 BK102.out⟩, ⟨kp9 BK107.out⟩, ⟨kp9 BK115.out⟩, ⟨kp9 BK119.out⟩, ⟨bp9 HB.out⟩⟩
                               ·rw [if_neg c64] at H
                                exact absurd H (by simp)
                              ·replace c63 := Bool.eq_false_iff.mpr c63
                               subst c63
                               rw [if_neg (show ¬ (false = true) by decide)] at H
                               have H' := a9_ H
                               clear H
                               go_wp2
                               go_meet
                               case rel => exact ⟨_, (x9_5), H', ⟨by have := HK1.out; have := HK2.out; have := HK3.out; have := HK4.out; have := HK5.out; first | omega | exact Nat.le_refl _⟩, ⟨rp9 HO122.out⟩, ⟨rp9 (Kd.R_mono HO_9.out (fun _ hk => ⟨hk.2, ⟨hk.1.1, ⟨hk.1.2.1, ⟨hk.1.2.2.1, hk.1.2.2.2⟩⟩⟩⟩))⟩, ⟨rp9 (Kd.R_mono HO_10.out (fun _ hk => ⟨hk.2, ⟨hk.1.1, ⟨hk.1.2.1, ⟨hk.1.2.2.1, hk.1.2.2.2⟩⟩⟩⟩))⟩, ⟨rp9 (Kd.R_mono HO_11.out (fun _ hk => ⟨hk.2, ⟨hk.1.1, ⟨hk.1.2.1, ⟨hk.1.2.2.1, hk.1.2.2.2⟩⟩⟩⟩))⟩, ⟨rp9 (Kd.R_mono HO_12.out (fun _ hk => ⟨hk.2, ⟨hk.1.1, ⟨hk.1.2.1, ⟨hk.1.2.2.1, hk.1.2.2.2⟩⟩⟩⟩))⟩, ⟨rp9 HO_103000.out⟩, ⟨sp9 HO_103006.out⟩, ⟨kp9 BK101.out⟩, ⟨kp9 BK102.out⟩, ⟨kp9 BK107.out⟩, ⟨kp9 BK115.out⟩, ⟨kp9 BK119.out⟩, ⟨bp9 HB.out⟩⟩
                             exact part5
                            case rest =>
                             refine Classical.byContradiction fun hn9 => ?_
                             let rec part6 : False := by
                              refine hn9 ?_
                              clear hn9
                              clear HC51
                              try clear c1
                              try clear p1
                              try clear q1
                              try clear hx1
                              try clear c2
                              try clear p2
                              try clear c3
                              try clear c4
                              try clear c5
                              try clear c6
                              try clear c6b0
                              try clear p6
                              try clear c7
                              try clear c7b0
                              try clear c8
                              try clear c8b0
                              try clear c9
                              try clear c10
                              try clear p10
                              try clear q10
                              try clear hx10
                              try clear p11
                              try clear q11
                              try clear hx11
                              try clear c12
                              try clear c12b0
                              try clear p12
                              try clear q12
                              try clear hx12
                              try clear c13
                              try clear c13b0
                              try clear c14
                              try clear c15
                              try clear c18
                              try clear c21
                              try clear c21b0
                              try clear c22
                              try clear c22b0
                              try clear c23
                              try clear c27
                              try clear c28
                              try clear c30
                              try clear c30b0
                              try clear c31
                              try clear c31b0
                              try clear c32
                              try clear c33
                              try clear c34
                              try clear c37
                              try clear c38
                              try clear c39
                              try clear c41
                              try clear c46
                              try clear c46b0
                              try clear c47
                              try clear c48
                              try clear c48b0
                              try clear c49
                              try clear c49b0
                              try clear c53
                              try clear c54
                              try clear c55
                              try clear c56
                              try clear c59
                              try clear c60
                              try clear c61
                              try clear c63
                              try clear c64
                              try clear p64
                              try clear c65
                              try clear c66
                              try clear c67
                              try clear c68
                              try clear hcz10_0 hcz10_1 hcz10_2 hcz10_3 hcz10_4 hcz10_5 hcz10_6
                              try clear hcz11_0 hcz11_1 hcz11_2 hcz11_3 hcz11_4 hcz11_5 hcz11_6
                              try clear hcz19_0 hcz19_1 hcz19_2 hcz19_3 hcz19_4 hcz19_5 hcz19_6
                              try clear hcz20_0 hcz20_1 hcz20_2 hcz20_3 hcz20_4 hcz20_5 hcz20_6
                              try clear hcz24_0 hcz24_1 hcz24_2 hcz24_3 hcz24_4 hcz24_5 hcz24_6
                              try clear hcz29_0 hcz29_1 hcz29_10 hcz29_11 hcz29_12 hcz29_13 hcz29_14 hcz29_15 hcz29_2 hcz29_3 hcz29_4 hcz29_5 hcz29_6 hcz29_7 hcz29_8 hcz29_9
                              try clear hcz35_0 hcz35_1 hcz35_10 hcz35_11 hcz35_12 hcz35_13 hcz35_14 hcz35_15 hcz35_2 hcz35_3 hcz35_4 hcz35_5 hcz35_6 hcz35_7 hcz35_8 hcz35_9
                              try clear hcz40_0 hcz40_1 hcz40_2 hcz40_3 hcz40_4 hcz40_5 hcz40_6
                              try clear hcz42_0 hcz42_1 hcz42_2 hcz42_3 hcz42_4 hcz42_5 hcz42_6
                              try clear hcz45_0 hcz45_1 hcz45_2 hcz45_3 hcz45_4 hcz45_5 hcz45_6
                              try clear hcz57_0 hcz57_1
                              try clear hcz5_0 hcz5_1 hcz5_2 hcz5_3 hcz5_4 hcz5_5 hcz5_6
                              try clear hcz62_0 hcz62_1 hcz62_10 hcz62_11 hcz62_12 hcz62_13 hcz62_14 hcz62_15 hcz62_2 hcz62_3 hcz62_4 hcz62_5 hcz62_6 hcz62_7 hcz62_8 hcz62_9
                              try clear hcz69_0 hcz69_1
                              try clear hfz10_0 hfz10_1 hfz10_2 hfz10_3 hfz10_4 hfz10_5 hfz10_6
                              try clear hfz11_0 hfz11_1 hfz11_2 hfz11_3 hfz11_4 hfz11_5 hfz11_6
                              try clear hfz19_0 hfz19_1 hfz19_2 hfz19_3 hfz19_4 hfz19_5 hfz19_6
                              try clear hfz20_0 hfz20_1 hfz20_2 hfz20_3 hfz20_4 hfz20_5 hfz20_6
                              try clear hfz24_0 hfz24_1 hfz24_2 hfz24_3 hfz24_4 hfz24_5 hfz24_6
                              try clear hfz29_0 hfz29_1 hfz29_10 hfz29_11 hfz29_12 hfz29_13 hfz29_14 hfz29_15 hfz29_2 hfz29_3 hfz29_4 hfz29_5 hfz29_6 hfz29_7 hfz29_8 hfz29_9
                              try clear hfz35_0 hfz35_1 hfz35_10 hfz35_11 hfz35_12 hfz35_13 hfz35_14 hfz35_15 hfz35_2 hfz35_3 hfz35_4 hfz35_5 hfz35_6 hfz35_7 hfz35_8 hfz35_9
                              try clear hfz40_0 hfz40_1 hfz40_2 hfz40_3 hfz40_4 hfz40_5 hfz40_6
                              try clear hfz42_0 hfz42_1 hfz42_2 hfz42_3 hfz42_4 hfz42_5 hfz42_6
                              try clear hfz45_0 hfz45_1 hfz45_2 hfz45_3 hfz45_4 hfz45_5 hfz45_6
                              try clear hfz57_0 hfz57_1
                              try clear hfz5_0 hfz5_1 hfz5_2 hfz5_3 hfz5_4 hfz5_5 hfz5_6
                              try clear hfz62_0 hfz62_1 hfz62_10 hfz62_11 hfz62_12 hfz62_13 hfz62_14 hfz62_15 hfz62_2 hfz62_3 hfz62_4 hfz62_5 hfz62_6 hfz62_7 hfz62_8 hfz62_9
                              try clear hfz69_0 hfz69_1
                              try clear hx103_0
                              try clear hx103_1
                              try clear hx103_10
                              try clear hx103_11
                              try clear hx103_12
                              try clear hx103_13
                              try clear hx103_14
                              try clear hx103_15
                              try clear hx103_2
                              try clear hx103_3
                              try clear hx103_4
                              try clear hx103_5
                              try clear hx103_6
                              try clear hx103_7
                              try clear hx103_8
                              try clear hx103_9
                              try clear hx104_0
                              try clear hx104_1
                              try clear hx104_10
                              try clear hx104_11
                              try clear hx104_12
                              try clear hx104_13
                              try clear hx104_14
                              try clear hx104_15
                              try clear hx104_2
                              try clear hx104_3
                              try clear hx104_4
                              try clear hx104_5
                              try clear hx104_6
                              try clear hx104_7
                              try clear hx104_8
                              try clear hx104_9
                              try clear hx106_0
                              try clear hx106_1
                              try clear hx106_10
                              try clear hx106_11
                              try clear hx106_12
                              try clear hx106_13
                              try clear hx106_14
                              try clear hx106_15
                              try clear hx106_2
                              try clear hx106_3
                              try clear hx106_4
                              try clear hx106_5
                              try clear hx106_6
                              try clear hx106_7
                              try clear hx106_8
                              try clear hx106_9
                              try clear hx114_0
                              try clear hx114_1
                              try clear hx114_2
                              try clear hx114_3
                              try clear hx114_4
                              try clear hx114_5
                              try clear hx114_6
                              try clear hx123_0
                              try clear p1
                              try clear p10
                              try clear p103
                              try clear p104
                              try clear p106
                              try clear p11
                              try clear p114
                              try clear p123
                              try clear p2
                              try clear p6
                              try clear q1
                              try clear q10
                              try clear q103
                              try clear q104
                              try clear q106
                              try clear q11
                              try clear q114
                              try clear q123
                              obtain ⟨kq, x9_50, HA, HJ50, HO_8, HO_9, HO_10, HO_11, HO_12, HO_103000, HO_103006, BK101, BK102, BK107, BK115, BK119, HB⟩ := hcut
                              cases kq with
                              | zero => exact absurd HA.out (by simp [cupolaref10_Join.j5])
                              | succ kj50 =>
                               have H := HA.out
                               clear HA
                               simp only [cupolaref10_Join.j5] at H
                               by_cases c71 : 0 ≤ x16_4
                               ·rw [if_pos c71] at H
                                have c71b0 : decide (0 ≤ x16_4) = true := decide_eq_true c71
                                clear c71
                                by_cases c72 : x16_4 < (((rd_T117 l0 x13_3).f2).length : Int)
                                ·rw [if_pos c72] at H
                                 have c72b0 : decide (x16_4 < (((rd_T117 l0 x13_3).f2).length : Int)) = true := decide_eq_true c72
                                 clear c72
                                 replace H := Option.bind_eq_some_iff.mp H
                                 obtain ⟨t129, A730, H⟩ := H
                                 replace H : (if t129 = true then (if x10_5.length < 8796093022208 then (cupolaref10_Join.j6 kj50 l0 x5_1 y120 x9_50 (x10_5 ++ [(⟨(wrap64 ((x103000_3.length : Int) + x18_5)), (wrap64 ((x103000_3.length : Int) + x16_4))⟩ : S46)]) x11_5 x12_5 x13_3 (x103000_3.length : Int) x16_4 x18_5 y116 x103006_3 ((rd_T117 l0 x13_3).f0) ((rd_T117 l0 x13_3).f1) ((rd_T117 l0 x13_3).f2) ((rd_T117 l0 x13_3).f3) ((rd_T117 l0 x13_3).f4) ((rd_T117 l0 x13_3).f5.f0.f0) ((rd_T117 l0 x13_3).f5.f0.f1) ((rd_T117 l0 x13_3).f5.f0.f2) ((rd_T117 l0 x13_3).f5.f0.f3) ((rd_T117 l0 x13_3).f5.f1.f0) ((rd_T117 l0 x13_3).f5.f1.f1) ((rd_T117 l0 x13_3).f5.f1.f2) ((rd_T117 l0 x13_3).f5.f1.f3) ((rd_T117 l0 x13_3).f6) ((rd_T117 l0 x13_3).f7) ((rd_T117 l0 x13_3).f8) (wrap64 ((x103000_3.length : Int) + x18_5)) (wrap64 ((x103000_3.length : Int) + x16_4))) else (none)) else (cupolaref10_Join.j6 kj50 l0 x5_1 y120 x9_50 x10_5 x11_5 x12_5 x13_3 (x103000_3.length : Int) x16_4 x18_5 y116 x103006_3 ((rd_T117 l0 x13_3).f0) ((rd_T117 l0 x13_3).f1) ((rd_T117 l0 x13_3).f2) ((rd_T117 l0 x13_3).f3) ((rd_T117 l0 x13_3).f4) ((rd_T117 l0 x13_3).f5.f0.f0) ((rd_T117 l0 x13_3).f5.f0.f1) ((rd_T117 l0 x13_3).f5.f0.f2) ((rd_T117 l0 x13_3).f5.f0.f3) ((rd_T117 l0 x13_3).f5.f1.f0) ((rd_T117 l0 x13_3).f5.f1.f1) ((rd_T117 l0 x13_3).f5.f1.f2) ((rd_T117 l0 x13_3).f5.f1.f3) ((rd_T117 l0 x13_3).f6) ((rd_T117 l0 x13_3).f7) ((rd_T117 l0 x13_3).f8) (wrap64 ((x103000_3.length : Int) + x18_5)) (wrap64 ((x103000_3.length : Int) + x16_4)))) = some (r1, r2, r3, r4, r5, r6, r7, r8) := H
                                 have A73 := a9_ A730
                                 clear A730
                                 have HC74 := a9_ H
                                 clear H
                                 have hnb75 := NB107_101.out
                                 have hnc75 := NB101_107.out
                                 have hnb76 := NB107_102.out
                                 have hnc76 := NB102_107.out
                                 have hnb77 := NB107_115.out
                                 have hnc77 := NB115_107.out
                                 have hnb78 := NB107_119.out
                                 have hnc78 := NB119_107.out
                                 obtain ⟨hcz79_0, hcz79_1, hcz79_2, hcz79_3, hcz79_4, hcz79_5, hcz79_6, hcz79_7, hcz79_8, hcz79_9, hcz79_10, hcz79_11, hcz79_12, hcz79_13, hcz79_14, hcz79_15, hfz79_0, hfz79_1, hfz79_2, hfz79_3, hfz79_4, hfz79_5, hfz79_6, hfz79_7, hfz79_8, hfz79_9, hfz79_10, hfz79_11, hfz79_12, hfz79_13, hfz79_14, hfz79_15⟩ := cz16 BK107.out
                                 have p128 : 0 ≤ (x16_4 : Int) := of_decide_eq_true (by first | (with_reducible assumption) | assumption)
                                 have q128 : x16_4 < (((rd_T117 l0 x13_3).f2).length : Int) := of_decide_eq_true (by first | (with_reducible assumption) | assumption)
                                 obtain ⟨ad128, e128, hx128_0⟩ := Kd.at_int HR106_2.out x16_4 p128 q128
                                 cases e128
                                 replace hx128_0 := hb9 HB.out hx128_0
                                 replace p128 := eq_true p128
                                 replace q128 := eq_true q128
                                 go_upto_if 117 with (first | ((with_reducible refine gate_callee (f := 150) rfl ?_); refine goesL9 (some 117) rfl rfl Try.func150 (by kernel_rfl) rfl #[.int .u32 (rd ((rd_T117 l0 x13_3).f2) x16_4), .int .i64 x18_5] rfl ?_; (with_reducible refine (cupolaref10_bit.calls kj50 (rd ((rd_T117 l0 x13_3).f2) x16_4) x18_5 t129 _ A73.out).mono ?_); rintro e w' ⟨rfl, ⟨nd, rfl⟩⟩; refine ⟨_, rfl, ?_⟩))
                                 (try simp only [Act.put, List.setIfInBounds_toArray, List.set_cons_zero, List.set_cons_succ])
                                 let z9 := bodyPost Try.prog Try.f108
                                 (go_cut [10] (fun v10 wc => ∃ (kq : Nat) (x10_73 : List (S46)), Aside0 (cupolaref10_Join.j6 kq l0 x5_1 y120 x9_50 x10_73 x11_5 x12_5 x13_3 (x103000_3.length : Int) x16_4 x18_5 y116 x103006_3 ((rd_T117 l0 x13_3).f0) ((rd_T117 l0 x13_3).f1) ((rd_T117 l0 x13_3).f2) ((rd_T117 l0 x13_3).f3) ((rd_T117 l0 x13_3).f4) ((rd_T117 l0 x13_3).f5.f0.f0) ((rd_T117 l0 x13_3).f5.f0.f1) ((rd_T117 l0 x13_3).f5.f0.f2) ((rd_T117 l0 x13_3).f5.f0.f3) ((rd_T117 l0 x13_3).f5.f1.f0) ((rd_T117 l0 x13_3).f5.f1.f1) ((rd_T117 l0 x13_3).f5.f1.f2) ((rd_T117 l0 x13_3).f5.f1.f3) ((rd_T117 l0 x13_3).f6) ((rd_T117 l0 x13_3).f7) ((rd_T117 l0 x13_3).f8) (wrap64 ((x103000_3.length : Int) + x18_5)) (wrap64 ((x103000_3.length : Int) + x16_4)) = some (r1, r2, r3, r4, r5, r6, r7, r8)) ∧ Aside0 (kq ≤ kj50) ∧ Aside0 (Kd.R k46 46 wc w.heap.size (fun k_ => some k_ ≠ (u9 : Value).ownBlock ∧ some k_ ≠ (v10 : Value).ownBlock ∧ some k_ ≠ (u11 : Value).ownBlock ∧ some k_ ≠ (u12 : Value).ownBlock ∧ k_ ≠ gb119) v121 y120) ∧ Aside0 (Kd.R k46 46 wc w.heap.size (fun k_ => some k_ ≠ (v121 : Value).ownBlock ∧ some k_ ≠ (v10 : Value).ownBlock ∧ some k_ ≠ (u11 : Value).ownBlock ∧ some k_ ≠ (u12 : Value).ownBlock ∧ k_ ≠ gb119) u9 x9_50) ∧ Aside0 (Kd.R k46 46 wc w.heap.size (fun k_ => some k_ ≠ (v121 : Value).ownBlock ∧ some k_ ≠ (u9 : Value).ownBlock ∧ some k_ ≠ (u11 : Value).ownBlock ∧ some k_ ≠ (u12 : Value).ownBlock ∧ k_ ≠ gb119) v10 x10_73) ∧ Aside0 (Kd.R k46 46 wc w.heap.size (fun k_ => some k_ ≠ (v121 : Value).ownBlock ∧ some k_ ≠ (u9 : Value).ownBlock ∧ some k_ ≠ (v10 : Value).ownBlock ∧ some k_ ≠ (u12 : Value).ownBlock ∧ k_ ≠ gb119) u11 x11_5) ∧ Aside0 (Kd.R k46 46 wc w.heap.size (fun k_ => some k_ ≠ (v121 : Value).ownBlock ∧ some k_ ≠ (u9 : Value).ownBlock ∧ some k_ ≠ (v10 : Value).ownBlock ∧ some k_ ≠ (u11 : Value).ownBlock ∧ k_ ≠ gb119) u12 x12_5) ∧ Aside0 (Kd.R k26 26 wc w.heap.size (fun k_ => k_ ≠ gb115) (.slice Ao44 y116.length co44) y116) ∧ Aside0 (Kd.S (Kd.slice 2 (Kd.int .i64)) 23 wc w.heap.size (fun _ => True) u103006 x103006_3) ∧ Aside0 (wc.heap[gb101]? = some (.cells #[(.slice none 0 0), (.slice none 0 0), (.slice none 0 0), (.slice none 0 0), (.slice none 0 0), (.slice none 0 0), (.slice none 0 0)] 76 (0, 0))) ∧ Aside0 (wc.heap[gb102]? = some (.cells #[(.slice Ao44 y116.length co44), (.slice none 0 0), (.slice none 0 0), (.slice none 0 0), (.slice none 0 0), (.slice none 0 0), u103006] 76 (0, 0))) ∧ Aside0 (wc.heap[gb107]? = some (.cells #[(.slice (some ad114) ((rd_T117 l0 x13_3).f0).length c106_0), (.slice (some ad123) ((rd_T117 l0 x13_3).f1).length c106_1), (.slice (some ad128) ((rd_T117 l0 x13_3).f2).length c106_2), (.slice A106_3 ((rd_T117 l0 x13_3).f3).length c106_3), (.slice A106_4 ((rd_T117 l0 x13_3).f4).length c106_4), .int .i64 ((rd_T117 l0 x13_3).f5.f0.f0), .int .i64 ((rd_T117 l0 x13_3).f5.f0.f1), .int .i64 ((rd_T117 l0 x13_3).f5.f0.f2), .int .i64 ((rd_T117 l0 x13_3).f5.f0.f3), .int .u32 ((rd_T117 l0 x13_3).f5.f1.f0), .int .u32 ((rd_T117 l0 x13_3).f5.f1.f1), .int .u32 ((rd_T117 l0 x13_3).f5.f1.f2), .int .u32 ((rd_T117 l0 x13_3).f5.f1.f3), .int .i64 ((rd_T117 l0 x13_3).f6), .int .i64 ((rd_T117 l0 x13_3).f7), .int .i64 ((rd_T117 l0 x13_3).f8)] 117 (0, 0))) ∧ Aside0 (wc.heap[gb115]? = some (.cells #[.int .i64 x13_3, .int .i64 ((rd_T26 ((rd_T117 l0 x13_3).f0) x16_4).f1), .int .i64 ((rd_T26 ((rd_T117 l0 x13_3).f0) x16_4).f2), .int .i64 ((rd_T26 ((rd_T117 l0 x13_3).f0) x16_4).f3), .bool ((rd_T26 ((rd_T117 l0 x13_3).f0) x16_4).f4), .bool ((rd_T26 ((rd_T117 l0 x13_3).f0) x16_4).f5), .bool ((rd_T26 ((rd_T117 l0 x13_3).f0) x16_4).f6)] 26 (0, 0))) ∧ Aside0 (wc.heap[gb119]? = some (.cells #[.int .i64 (wrap64 ((x103000_3.length : Int) + x18_5)), .int .i64 (wrap64 ((x103000_3.length : Int) + x16_4))] 46 (0, 0))) ∧ Aside0 (Below w.heap.size w wc))) <;> clear z9
                                 case first =>
                                  refine Classical.byContradiction fun hn9 => ?_
                                  let rec part7 : False := by
                                   refine hn9 ?_
                                   clear hn9
                                   have H := HC74.out
                                   clear HC74
                                   by_cases c80 : t129 = true
                                   ·subst c80
                                    rw [if_pos rfl] at H
                                    by_cases c81 : x10_5.length < 8796093022208
                                    ·rw [if_pos c81] at H
                                     have LMc81 := a9_ c81
                                     clear c81
                                     obtain ⟨y130, hy130⟩ : ∃ y_ : List (S46), y_ = (x10_5 ++ [(⟨(wrap64 ((x103000_3.length : Int) + x18_5)), (wrap64 ((x103000_3.length : Int) + x16_4))⟩ : S46)]) := ⟨_, rfl⟩
                                     replace H : (cupolaref10_Join.j6 kj50 l0 x5_1 y120 x9_50 y130 x11_5 x12_5 x13_3 (x103000_3.length : Int) x16_4 x18_5 y116 x103006_3 ((rd_T117 l0 x13_3).f0) ((rd_T117 l0 x13_3).f1) ((rd_T117 l0 x13_3).f2) ((rd_T117 l0 x13_3).f3) ((rd_T117 l0 x13_3).f4) ((rd_T117 l0 x13_3).f5.f0.f0) ((rd_T117 l0 x13_3).f5.f0.f1) ((rd_T117 l0 x13_3).f5.f0.f2) ((rd_T117 l0 x13_3).f5.f0.f3) ((rd_T117 l0 x13_3).f5.f1.f0) ((rd_T117 l0 x13_3).f5.f1.f1) ((rd_T117 l0 x13_3).f5.f1.f2) ((rd_T117 l0 x13_3).f5.f1.f3) ((rd_T117 l0 x13_3).f6) ((rd_T117 l0 x13_3).f7) ((rd_T117 l0 x13_3).f8) (wrap64 ((x103000_3.length : Int) + x18_5)) (wrap64 ((x103000_3.length : Int) + x16_4))) = some (r1, r2, r3, r4, r5, r6, r7, r8) := by first | (rw [hy130]; with_reducible exact H) | (have H2_ := (Option.bind_some _ _).symm.trans H; rw [hy130]; with_reducible exact H2_) | (have H2_ := (Option.bind_some _ _).symm.trans H; with_reducible exact H2_) | with_reducible exact H | (rw [hy130]; exact H) | exact H
                                     have Ny130 := a9_ hy130
                                     clear hy130
                                     have H' := a9_ H
                                     clear H
                                     have hnb82 := NB119_101.out
                                     have hnc82 := NB101_119.out
                                     have hnb83 := NB119_102.out
                                     have hnc83 := NB102_119.out
                                     have hnb84 := NB119_107.out
                                     have hnc84 := NB107_119.out
                                     have hnb85 := NB119_115.out
                                     have hnc85 := NB115_119.out
                                     obtain ⟨hcz86_0, hcz86_1, hfz86_0, hfz86_1⟩ := cz2 BK119.out
                                     go_wp2_with (first | ((with_reducible refine gate_builtin (b := .append) (xs := #[.tmp 118, .tmp 120]) rfl ?_); at_builtin; refine Kd.R_append k46 (w0 := w) w.heap.size rfl (.tmp 118) (.tmp 120) 43 46 (.agg #[(.int .i64 0), (.int .i64 0)]) 16 rfl Try.underlying43 info46 rfl (by decide) (by omega) u10 x10_5 (⟨(wrap64 ((x103000_3.length : Int) + x18_5)), (wrap64 ((x103000_3.length : Int) + x16_4))⟩ : S46) [.int .i64 (wrap64 ((x103000_3.length : Int) + x18_5)), .int .i64 (wrap64 ((x103000_3.length : Int) + x16_4))] (fun k_ => some k_ ≠ (v121 : Value).ownBlock ∧ some k_ ≠ (u9 : Value).ownBlock ∧ some k_ ≠ (u11 : Value).ownBlock ∧ some k_ ≠ (u12 : Value).ownBlock ∧ k_ ≠ gb119) (fun _ => False) rfl rfl ?aP (fun _ hk => hk.elim) ?aF ?aO ?aB ?aS ?aL ?_; (case aP => exact k46_mkM _ _ _ (⟨(wrap64 ((x103000_3.length : Int) + x18_5)), (wrap64 ((x103000_3.length : Int) + x16_4))⟩ : S46)); (case aB => exact (bp9 HB.out)); (case aF => exact (fun k_ hk => ⟨Kd.fresh' (Kd.R_lt (rp9 HO_8.out)) k_ hk, Kd.fresh' (Kd.R_lt (rp9 HO_9.out)) k_ hk, Kd.fresh' (Kd.R_lt (rp9 HO_11.out)) k_ hk, Kd.fresh' (Kd.R_lt (rp9 HO_12.out)) k_ hk, Kd.freshB (kp9 BK119.out) k_ hk⟩)); (case aO => exact (rp9 HO_10.out)); (case aS => exact (below_size (bp9 HB.out))); (case aL => have := LMc81.out; omega); intro v131 w87 ho hb hg hat; rw [← Ny130.out] at ho; have n0_ := a9_ (Kd.R_after (ok := (fun k_ => some k_ ≠ (u9 : Value).ownBlock ∧ some k_ ≠ (u11 : Value).ownBlock ∧ some k_ ≠ (u12 : Value).ownBlock ∧ k_ ≠ gb119)) (rp9 (Kd.R_mono HO_8.out (fun _ hk => ⟨⟨hk.1, ⟨hk.2.2.1, ⟨hk.2.2.2.1, hk.2.2.2.2⟩⟩⟩, hk.2.1⟩))) hg hat); have n1_ := a9_ (Kd.R_after (ok := (fun k_ => some k_ ≠ (v121 : Value).ownBlock ∧ some k_ ≠ (u11 : Value).ownBlock ∧ some k_ ≠ (u12 : Value).ownBlock ∧ k_ ≠ gb119)) (rp9 (Kd.R_mono HO_9.out (fun _ hk => ⟨⟨hk.1, ⟨hk.2.2.1, ⟨hk.2.2.2.1, hk.2.2.2.2⟩⟩⟩, hk.2.1⟩))) hg hat); have n2_ := a9_ (Kd.R_after (ok := (fun k_ => some k_ ≠ (v121 : Value).ownBlock ∧ some k_ ≠ (u9 : Value).ownBlock ∧ some k_ ≠ (u12 : Value).ownBlock ∧ k_ ≠ gb119)) (rp9 (Kd.R_mono HO_11.out (fun _ hk => ⟨⟨hk.1, ⟨hk.2.1, ⟨hk.2.2.2.1, hk.2.2.2.2⟩⟩⟩, hk.2.2.1⟩))) hg hat); have n3_ := a9_ (Kd.R_after (ok := (fun k_ => some k_ ≠ (v121 : Value).ownBlock ∧ some k_ ≠ (u9 : Value).ownBlock ∧ some k_ ≠ (u11 : Value).ownBlock ∧ k_ ≠ gb119)) (rp9 (Kd.R_mono HO_12.out (fun _ hk => ⟨⟨hk.1, ⟨hk.2.1, ⟨hk.2.2.2.1, hk.2.2.2.2⟩⟩⟩, hk.2.2.1⟩))) hg hat); have n4_ := a9_ (Kd.R_over' (rp9 HO_103000.out) (Kd.R_typed (rp9 HO_10.out)) (by decide) hg); have n5_ := a9_ (Kd.S_over' (sp9 HO_103006.out) (Kd.R_typed (rp9 HO_10.out)) (by decide) hg); have n6_ := a9_ (blk_grown (kp9 BK101.out) hg (Kd.R_ne HO_10.out BK101.out (by decide))); have n7_ := a9_ (blk_grown (kp9 BK102.out) hg (Kd.R_ne HO_10.out BK102.out (by decide))); have n8_ := a9_ (blk_grown (kp9 BK107.out) hg (Kd.R_ne HO_10.out BK107.out (by decide))); have n9_ := a9_ (blk_grown (kp9 BK115.out) hg (Kd.R_ne HO_10.out BK115.out (by decide))); have n10_ := a9_ (blk_grown (kp9 BK119.out) hg (Kd.R_away HO_10.out (fun _ hk => hk.2.2.2.2))); have n11_ := a9_ (hb); have n12_ := a9_ (ho); clear HO_8; clear HO_9; clear HO_11; clear HO_12; clear HO_103000; clear HO_103006; clear BK101; clear BK102; clear BK107; clear BK115; clear BK119; clear HB; clear HO_10; have HO_8 := n0_; have HO_9 := n1_; have HO_11 := n2_; have HO_12 := n3_; have HO_103000 := n4_; have HO_103006 := n5_; have BK101 := n6_; have BK102 := n7_; have BK107 := n8_; have BK115 := n9_; have BK119 := n10_; have HB := n11_; have HO132 := n12_; clear n0_ n1_ n2_ n3_ n4_ n5_ n6_ n7_ n8_ n9_ n10_ n11_ n12_; clear ho hb hg hat))
                                     go_meet
                                     case rel => exact ⟨_, (y130), H', ⟨by have := HK1.out; have := HK2.out; have := HK3.out; have := HK4.out; have := HK5.out; have := HJ50.out; first | omega | exact Nat.le_refl _⟩, ⟨rp9 (Kd.R_mono HO_8.out (fun _ hk => ⟨hk.1.1, ⟨hk.2, ⟨hk.1.2.1, ⟨hk.1.2.2.1, hk.1.2.2.2⟩⟩⟩⟩))⟩, ⟨rp9 (Kd.R_mono HO_9.out (fun _ hk => ⟨hk.1.1, ⟨hk.2, ⟨hk.1.2.1, ⟨hk.1.2.2.1, hk.1.2.2.2⟩⟩⟩⟩))⟩, ⟨rp9 HO132.out⟩, ⟨rp9 (Kd.R_mono HO_11.out (fun _ hk => ⟨hk.1.1, ⟨hk.1.2.1, ⟨hk.2, ⟨hk.1.2.2.1, hk.1.2.2.2⟩⟩⟩⟩))⟩, ⟨rp9 (Kd.R_mono HO_12.out (fun _ hk => ⟨hk.1.1, ⟨hk.1.2.1, ⟨hk.2, ⟨hk.1.2.2.1, hk.1.2.2.2⟩⟩⟩⟩))⟩, ⟨rp9 HO_103000.out⟩, ⟨sp9 HO_103006.out⟩, ⟨kp9 BK101.out⟩, ⟨kp9 BK102.out⟩, ⟨kp9 BK107.out⟩, ⟨kp9 BK115.out⟩, ⟨kp9 BK119.out⟩, ⟨bp9 HB.out⟩⟩
                                    ·rw [if_neg c81] at H
                                     exact absurd H (by simp)
                                   ·replace c80 := Bool.eq_false_iff.mpr c80
                                    subst c80
                                    rw [if_neg (show ¬ (false = true) by decide)] at H
                                    have H' := a9_ H
                                    clear H
                                    go_wp2
                                    go_meet
                                    case rel => exact ⟨_, (x10_5), H', ⟨by have := HK1.out; have := HK2.out; have := HK3.out; have := HK4.out; have := HK5.out; have := HJ50.out; first | omega | exact Nat.le_refl _⟩, ⟨rp9 HO_8.out⟩, ⟨rp9 HO_9.out⟩, ⟨rp9 HO_10.out⟩, ⟨rp9 HO_11.out⟩, ⟨rp9 HO_12.out⟩, ⟨rp9 HO_103000.out⟩, ⟨sp9 HO_103006.out⟩, ⟨kp9 BK101.out⟩, ⟨kp9 BK102.out⟩, ⟨kp9 BK107.out⟩, ⟨kp9 BK115.out⟩, ⟨kp9 BK119.out⟩, ⟨bp9 HB.out⟩⟩
                                  exact part7
                                 case rest =>
                                  refine Classical.byContradiction fun hn9 => ?_
                                  let rec part8 : False := by
                                   refine hn9 ?_
                                   clear hn9
                                   clear HC74
                                   try clear c1
                                   try clear p1
                                   try clear q1
                                   try clear hx1
                                   try clear c2
                                   try clear p2
                                   try clear c3
                                   try clear c4
                                   try clear c5
                                   try clear c6
                                   try clear c6b0
                                   try clear p6
                                   try clear c7
                                   try clear c7b0
                                   try clear c8
                                   try clear c8b0
                                   try clear c9
                                   try clear c10
                                   try clear p10
                                   try clear q10
                                   try clear hx10
                                   try clear p11
                                   try clear q11
                                   try clear hx11
                                   try clear c12
                                   try clear c12b0
                                   try clear p12
                                   try clear q12
                                   try clear hx12
                                   try clear c13
                                   try clear c13b0
                                   try clear c14
                                   try clear c15
                                   try clear c18
                                   try clear c21
                                   try clear c21b0
                                   try clear c22
                                   try clear c22b0
                                   try clear c23
                                   try clear c27
                                   try clear c28
                                   try clear c30
                                   try clear c30b0
                                   try clear c31
                                   try clear c31b0
                                   try clear c32
                                   try clear c33
                                   try clear c34
                                   try clear c37
                                   try clear c38
                                   try clear c39
                                   try clear c41
                                   try clear c46
                                   try clear c46b0
                                   try clear c47
                                   try clear c48
                                   try clear c48b0
                                   try clear c49
                                   try clear c49b0
                                   try clear c53
                                   try clear c54
                                   try clear c55
                                   try clear c56
                                   try clear c59
                                   try clear c60
                                   try clear c61
                                   try clear c63
                                   try clear c64
                                   try clear p64
                                   try clear c65
                                   try clear c66
                                   try clear c67
                                   try clear c68
                                   try clear c71
                                   try clear c71b0
                                   try clear c72
                                   try clear c72b0
                                   try clear c75
                                   try clear c76
                                   try clear c77
                                   try clear c78
                                   try clear c80
                                   try clear c81
                                   try clear c82
                                   try clear c83
                                   try clear c84
                                   try clear c85
                                   try clear hcz10_0 hcz10_1 hcz10_2 hcz10_3 hcz10_4 hcz10_5 hcz10_6
                                   try clear hcz11_0 hcz11_1 hcz11_2 hcz11_3 hcz11_4 hcz11_5 hcz11_6
                                   try clear hcz19_0 hcz19_1 hcz19_2 hcz19_3 hcz19_4 hcz19_5 hcz19_6
                                   try clear hcz20_0 hcz20_1 hcz20_2 hcz20_3 hcz20_4 hcz20_5 hcz20_6
                                   try clear hcz24_0 hcz24_1 hcz24_2 hcz24_3 hcz24_4 hcz24_5 hcz24_6
                                   try clear hcz29_0 hcz29_1 hcz29_10 hcz29_11 hcz29_12 hcz29_13 hcz29_14 hcz29_15 hcz29_2 hcz29_3 hcz29_4 hcz29_5 hcz29_6 hcz29_7 hcz29_8 hcz29_9
                                   try clear hcz35_0 hcz35_1 hcz35_10 hcz35_11 hcz35_12 hcz35_13 hcz35_14 hcz35_15 hcz35_2 hcz35_3 hcz35_4 hcz35_5 hcz35_6 hcz35_7 hcz35_8 hcz35_9
                                   try clear hcz40_0 hcz40_1 hcz40_2 hcz40_3 hcz40_4 hcz40_5 hcz40_6
                                   try clear hcz42_0 hcz42_1 hcz42_2 hcz42_3 hcz42_4 hcz42_5 hcz42_6
                                   try clear hcz45_0 hcz45_1 hcz45_2 hcz45_3 hcz45_4 hcz45_5 hcz45_6
                                   try clear hcz57_0 hcz57_1
                                   try clear hcz5_0 hcz5_1 hcz5_2 hcz5_3 hcz5_4 hcz5_5 hcz5_6
                                   try clear hcz62_0 hcz62_1 hcz62_10 hcz62_11 hcz62_12 hcz62_13 hcz62_14 hcz62_15 hcz62_2 hcz62_3 hcz62_4 hcz62_5 hcz62_6 hcz62_7 hcz62_8 hcz62_9
                                   try clear hcz69_0 hcz69_1
                                   try clear hcz79_0 hcz79_1 hcz79_10 hcz79_11 hcz79_12 hcz79_13 hcz79_14 hcz79_15 hcz79_2 hcz79_3 hcz79_4 hcz79_5 hcz79_6 hcz79_7 hcz79_8 hcz79_9
                                   try clear hcz86_0 hcz86_1
                                   try clear hfz10_0 hfz10_1 hfz10_2 hfz10_3 hfz10_4 hfz10_5 hfz10_6
                                   try clear hfz11_0 hfz11_1 hfz11_2 hfz11_3 hfz11_4 hfz11_5 hfz11_6
                                   try clear hfz19_0 hfz19_1 hfz19_2 hfz19_3 hfz19_4 hfz19_5 hfz19_6
                                   try clear hfz20_0 hfz20_1 hfz20_2 hfz20_3 hfz20_4 hfz20_5 hfz20_6
                                   try clear hfz24_0 hfz24_1 hfz24_2 hfz24_3 hfz24_4 hfz24_5 hfz24_6
                                   try clear hfz29_0 hfz29_1 hfz29_10 hfz29_11 hfz29_12 hfz29_13 hfz29_14 hfz29_15 hfz29_2 hfz29_3 hfz29_4 hfz29_5 hfz29_6 hfz29_7 hfz29_8 hfz29_9
                                   try clear hfz35_0 hfz35_1 hfz35_10 hfz35_11 hfz35_12 hfz35_13 hfz35_14 hfz35_15 hfz35_2 hfz35_3 hfz35_4 hfz35_5 hfz35_6 hfz35_7 hfz35_8 hfz35_9
                                   try clear hfz40_0 hfz40_1 hfz40_2 hfz40_3 hfz40_4 hfz40_5 hfz40_6
                                   try clear hfz42_0 hfz42_1 hfz42_2 hfz42_3 hfz42_4 hfz42_5 hfz42_6
                                   try clear hfz45_0 hfz45_1 hfz45_2 hfz45_3 hfz45_4 hfz45_5 hfz45_6
                                   try clear hfz57_0 hfz57_1
                                   try clear hfz5_0 hfz5_1 hfz5_2 hfz5_3 hfz5_4 hfz5_5 hfz5_6
                                   try clear hfz62_0 hfz62_1 hfz62_10 hfz62_11 hfz62_12 hfz62_13 hfz62_14 hfz62_15 hfz62_2 hfz62_3 hfz62_4 hfz62_5 hfz62_6 hfz62_7 hfz62_8 hfz62_9
                                   try clear hfz69_0 hfz69_1
                                   try clear hfz79_0 hfz79_1 hfz79_10 hfz79_11 hfz79_12 hfz79_13 hfz79_14 hfz79_15 hfz79_2 hfz79_3 hfz79_4 hfz79_5 hfz79_6 hfz79_7 hfz79_8 hfz79_9
                                   try clear hfz86_0 hfz86_1
                                   try clear hx103_0
                                   try clear hx103_1
                                   try clear hx103_10
                                   try clear hx103_11
                                   try clear hx103_12
                                   try clear hx103_13
                                   try clear hx103_14
                                   try clear hx103_15
                                   try clear hx103_2
                                   try clear hx103_3
                                   try clear hx103_4
                                   try clear hx103_5
                                   try clear hx103_6
                                   try clear hx103_7
                                   try clear hx103_8
                                   try clear hx103_9
                                   try clear hx104_0
                                   try clear hx104_1
                                   try clear hx104_10
                                   try clear hx104_11
                                   try clear hx104_12
                                   try clear hx104_13
                                   try clear hx104_14
                                   try clear hx104_15
                                   try clear hx104_2
                                   try clear hx104_3
                                   try clear hx104_4
                                   try clear hx104_5
                                   try clear hx104_6
                                   try clear hx104_7
                                   try clear hx104_8
                                   try clear hx104_9
                                   try clear hx106_0
                                   try clear hx106_1
                                   try clear hx106_10
                                   try clear hx106_11
                                   try clear hx106_12
                                   try clear hx106_13
                                   try clear hx106_14
                                   try clear hx106_15
                                   try clear hx106_2
                                   try clear hx106_3
                                   try clear hx106_4
                                   try clear hx106_5
                                   try clear hx106_6
                                   try clear hx106_7
                                   try clear hx106_8
                                   try clear hx106_9
                                   try clear hx114_0
                                   try clear hx114_1
                                   try clear hx114_2
                                   try clear hx114_3
                                   try clear hx114_4
                                   try clear hx114_5
                                   try clear hx114_6
                                   try clear hx123_0
                                   try clear hx128_0
                                   try clear p1
                                   try clear p10
                                   try clear p103
                                   try clear p104
                                   try clear p106
                                   try clear p11
                                   try clear p114
                                   try clear p12
                                   try clear p123
                                   try clear p128
                                   try clear p2
                                   try clear p6
                                   try clear p64
                                   try clear q1
                                   try clear q10
                                   try clear q103
                                   try clear q104
                                   try clear q106
                                   try clear q11
                                   try clear q114
                                   try clear q12
                                   try clear q123
                                   try clear q128
                                   obtain ⟨kq, x10_73, HA, HJ73, HO_8, HO_9, HO_10, HO_11, HO_12, HO_103000, HO_103006, BK101, BK102, BK107, BK115, BK119, HB⟩ := hcut
                                   cases kq with
                                   | zero => exact absurd HA.out (by simp [cupolaref10_Join.j6])
                                   | succ kj73 =>
                                    have H := HA.out
                                    clear HA
                                    simp only [cupolaref10_Join.j6] at H
                                    by_cases c88 : 0 ≤ x16_4
                                    ·rw [if_pos c88] at H
                                     have c88b0 : decide (0 ≤ x16_4) = true := decide_eq_true c88
                                     clear c88
                                     by_cases c89 : x16_4 < (((rd_T117 l0 x13_3).f3).length : Int)
                                     ·rw [if_pos c89] at H
                                      have c89b0 : decide (x16_4 < (((rd_T117 l0 x13_3).f3).length : Int)) = true := decide_eq_true c89
                                      clear c89
                                      replace H := Option.bind_eq_some_iff.mp H
                                      obtain ⟨t134, A900, H⟩ := H
                                      replace H : (if t134 = true then (if x11_5.length < 8796093022208 then ((some (x11_5 ++ [(⟨(wrap64 ((x103000_3.length : Int) + x18_5)), (wrap64 ((x103000_3.length : Int) + x16_4))⟩ : S46)] : List (S46))).bind fun y135 => (if x16_4 < (((rd_T117 l0 x13_3).f4).length : Int) then (if (rd ((rd_T117 l0 x13_3).f4) x16_4) = x18_5 then (if x12_5.length < 8796093022208 then (cupolaref10_Join.l4 kj73 l0 x5_1 y120 x9_50 x10_73 y135 (x12_5 ++ [(⟨(wrap64 ((x103000_3.length : Int) + x18_5)), (wrap64 ((x103000_3.length : Int) + x16_4))⟩ : S46)]) x13_3 (x103000_3.length : Int) x16_4 (wrap64 (x18_5 + 1)) y116 x103006_3 ((rd_T117 l0 x13_3).f0) ((rd_T117 l0 x13_3).f1) ((rd_T117 l0 x13_3).f2) ((rd_T117 l0 x13_3).f3) ((rd_T117 l0 x13_3).f4) ((rd_T117 l0 x13_3).f5.f0.f0) ((rd_T117 l0 x13_3).f5.f0.f1) ((rd_T117 l0 x13_3).f5.f0.f2) ((rd_T117 l0 x13_3).f5.f0.f3) ((rd_T117 l0 x13_3).f5.f1.f0) ((rd_T117 l0 x13_3).f5.f1.f1) ((rd_T117 l0 x13_3).f5.f1.f2) ((rd_T117 l0 x13_3).f5.f1.f3) ((rd_T117 l0 x13_3).f6) ((rd_T117 l0 x13_3).f7) ((rd_T117 l0 x13_3).f8)) else (none)) else (cupolaref10_Join.l4 kj73 l0 x5_1 y120 x9_50 x10_73 y135 x12_5 x13_3 (x103000_3.length : Int) x16_4 (wrap64 (x18_5 + 1)) y116 x103006_3 ((rd_T117 l0 x13_3).f0) ((rd_T117 l0 x13_3).f1) ((rd_T117 l0 x13_3).f2) ((rd_T117 l0 x13_3).f3) ((rd_T117 l0 x13_3).f4) ((rd_T117 l0 x13_3).f5.f0.f0) ((rd_T117 l0 x13_3).f5.f0.f1) ((rd_T117 l0 x13_3).f5.f0.f2) ((rd_T117 l0 x13_3).f5.f0.f3) ((rd_T117 l0 x13_3).f5.f1.f0) ((rd_T117 l0 x13_3).f5.f1.f1) ((rd_T117 l0 x13_3).f5.f1.f2) ((rd_T117 l0 x13_3).f5.f1.f3) ((rd_T117 l0 x13_3).f6) ((rd_T117 l0 x13_3).f7) ((rd_T117 l0 x13_3).f8))) else (none))) else (none)) else (if x16_4 < (((rd_T117 l0 x13_3).f4).length : Int) then (if (rd ((rd_T117 l0 x13_3).f4) x16_4) = x18_5 then (if x12_5.length < 8796093022208 then (cupolaref10_Join.l4 kj73 l0 x5_1 y120 x9_50 x10_73 x11_5 (x12_5 ++ [(⟨(wrap64 ((x103000_3.length : Int) + x18_5)), (wrap64 ((x103000_3.length : Int) + x16_4))⟩ : S46)]) x13_3 (x103000_3.length : Int) x16_4 (wrap64 (x18_5 + 1)) y116 x103006_3 ((rd_T117 l0 x13_3).f0) ((rd_T117 l0 x13_3).f1) ((rd_T117 l0 x13_3).f2) ((rd_T117 l0 x13_3).f3) ((rd_T117 l0 x13_3).f4) ((rd_T117 l0 x13_3).f5.f0.f0) ((rd_T117 l0 x13_3).f5.f0.f1) ((rd_T117 l0 x13_3).f5.f0.f2) ((rd_T117 l0 x13_3).f5.f0.f3) ((rd_T117 l0 x13_3).f5.f1.f0) ((rd_T117 l0 x13_3).f5.f1.f1) ((rd_T117 l0 x13_3).f5.f1.f2) ((rd_T117 l0 x13_3).f5.f1.f3) ((rd_T117 l0 x13_3).f6) ((rd_T117 l0 x13_3).f7) ((rd_T117 l0 x13_3).f8)) else (none)) else (cupolaref10_Join.l4 kj73 l0 x5_1 y120 x9_50 x10_73 x11_5 x12_5 x13_3 (x103000_3.length : Int) x16_4 (wrap64 (x18_5 + 1)) y116 x103006_3 ((rd_T117 l0 x13_3).f0) ((rd_T117 l0 x13_3).f1) ((rd_T117 l0 x13_3).f2) ((rd_T117 l0 x13_3).f3) ((rd_T117 l0 x13_3).f4) ((rd_T117 l0 x13_3).f5.f0.f0) ((rd_T117 l0 x13_3).f5.f0.f1) ((rd_T117 l0 x13_3).f5.f0.f2) ((rd_T117 l0 x13_3).f5.f0.f3) ((rd_T117 l0 x13_3).f5.f1.f0) ((rd_T117 l0 x13_3).f5.f1.f1) ((rd_T117 l0 x13_3).f5.f1.f2) ((rd_T117 l0 x13_3).f5.f1.f3) ((rd_T117 l0 x13_3).f6) ((rd_T117 l0 x13_3).f7) ((rd_T117 l0 x13_3).f8))) else (none))) = some (r1, r2, r3, r4, r5, r6, r7, r8) := H
                                      have A90 := a9_ A900
                                      clear A900
                                      by_cases c91 : t134 = true
                                      ·subst c91
                                       rw [if_pos rfl] at H
                                       by_cases c92 : x11_5.length < 8796093022208
                                       ·rw [if_pos c92] at H
                                        have LMc92 := a9_ c92
                                        clear c92
                                        obtain ⟨y135, hy135⟩ : ∃ y_ : List (S46), y_ = (x11_5 ++ [(⟨(wrap64 ((x103000_3.length : Int) + x18_5)), (wrap64 ((x103000_3.length : Int) + x16_4))⟩ : S46)]) := ⟨_, rfl⟩
                                        replace H : (if x16_4 < (((rd_T117 l0 x13_3).f4).length : Int) then (if (rd ((rd_T117 l0 x13_3).f4) x16_4) = x18_5 then (if x12_5.length < 8796093022208 then (cupolaref10_Join.l4 kj73 l0 x5_1 y120 x9_50 x10_73 y135 (x12_5 ++ [(⟨(wrap64 ((x103000_3.length : Int) + x18_5)), (wrap64 ((x103000_3.length : Int) + x16_4))⟩ : S46)]) x13_3 (x103000_3.length : Int) x16_4 (wrap64 (x18_5 + 1)) y116 x103006_3 ((rd_T117 l0 x13_3).f0) ((rd_T117 l0 x13_3).f1) ((rd_T117 l0 x13_3).f2) ((rd_T117 l0 x13_3).f3) ((rd_T117 l0 x13_3).f4) ((rd_T117 l0 x13_3).f5.f0.f0) ((rd_T117 l0 x13_3).f5.f0.f1) ((rd_T117 l0 x13_3).f5.f0.f2) ((rd_T117 l0 x13_3).f5.f0.f3) ((rd_T117 l0 x13_3).f5.f1.f0) ((rd_T117 l0 x13_3).f5.f1.f1) ((rd_T117 l0 x13_3).f5.f1.f2) ((rd_T117 l0 x13_3).f5.f1.f3) ((rd_T117 l0 x13_3).f6) ((rd_T117 l0 x13_3).f7) ((rd_T117 l0 x13_3).f8)) else (none)) else (cupolaref10_Join.l4 kj73 l0 x5_1 y120 x9_50 x10_73 y135 x12_5 x13_3 (x103000_3.length : Int) x16_4 (wrap64 (x18_5 + 1)) y116 x103006_3 ((rd_T117 l0 x13_3).f0) ((rd_T117 l0 x13_3).f1) ((rd_T117 l0 x13_3).f2) ((rd_T117 l0 x13_3).f3) ((rd_T117 l0 x13_3).f4) ((rd_T117 l0 x13_3).f5.f0.f0) ((rd_T117 l0 x13_3).f5.f0.f1) ((rd_T117 l0 x13_3).f5.f0.f2) ((rd_T117 l0 x13_3).f5.f0.f3) ((rd_T117 l0 x13_3).f5.f1.f0) ((rd_T117 l0 x13_3).f5.f1.f1) ((rd_T117 l0 x13_3).f5.f1.f2) ((rd_T117 l0 x13_3).f5.f1.f3) ((rd_T117 l0 x13_3).f6) ((rd_T117 l0 x13_3).f7) ((rd_T117 l0 x13_3).f8))) else (none)) = some (r1, r2, r3, r4, r5, r6, r7, r8) := by first | (rw [hy135]; with_reducible exact H) | (have H2_ := (Option.bind_some _ _).symm.trans H; rw [hy135]; with_reducible exact H2_) | (have H2_ := (Option.bind_some _ _).symm.trans H; with_reducible exact H2_) | with_reducible exact H | (rw [hy135]; exact H) | exact H
                                        have Ny135 := a9_ hy135
                                        clear hy135
                                        by_cases c93 : x16_4 < (((rd_T117 l0 x13_3).f4).length : Int)
                                        ·rw [if_pos c93] at H
                                         have c93b0 : decide (x16_4 < (((rd_T117 l0 x13_3).f4).length : Int)) = true := decide_eq_true c93
                                         clear c93
                                         by_cases c94 : (rd ((rd_T117 l0 x13_3).f4) x16_4) = x18_5
                                         ·rw [if_pos c94] at H
                                          have c94b0 : ((rd ((rd_T117 l0 x13_3).f4) x16_4) == x18_5) = true := beq_iff_eq.mpr c94
                                          have c94b1 : ((rd ((rd_T117 l0 x13_3).f4) x16_4) != x18_5) = false := bne_eq_false_iff_eq.mpr c94
                                          clear c94
                                          by_cases c95 : x12_5.length < 8796093022208
                                          ·rw [if_pos c95] at H
                                           have LMc95 := a9_ c95
                                           clear c95
                                           obtain ⟨y139, hy139⟩ : ∃ y_ : List (S46), y_ = (x12_5 ++ [(⟨(wrap64 ((x103000_3.length : Int) + x18_5)), (wrap64 ((x103000_3.length : Int) + x16_4))⟩ : S46)]) := ⟨_, rfl⟩
                                           replace H : (cupolaref10_Join.l4 kj73 l0 x5_1 y120 x9_50 x10_73 y135 y139 x13_3 (x103000_3.length : Int) x16_4 (wrap64 (x18_5 + 1)) y116 x103006_3 ((rd_T117 l0 x13_3).f0) ((rd_T117 l0 x13_3).f1) ((rd_T117 l0 x13_3).f2) ((rd_T117 l0 x13_3).f3) ((rd_T117 l0 x13_3).f4) ((rd_T117 l0 x13_3).f5.f0.f0) ((rd_T117 l0 x13_3).f5.f0.f1) ((rd_T117 l0 x13_3).f5.f0.f2) ((rd_T117 l0 x13_3).f5.f0.f3) ((rd_T117 l0 x13_3).f5.f1.f0) ((rd_T117 l0 x13_3).f5.f1.f1) ((rd_T117 l0 x13_3).f5.f1.f2) ((rd_T117 l0 x13_3).f5.f1.f3) ((rd_T117 l0 x13_3).f6) ((rd_T117 l0 x13_3).f7) ((rd_T117 l0 x13_3).f8)) = some (r1, r2, r3, r4, r5, r6, r7, r8) := by first | (rw [hy139]; with_reducible exact H) | (have H2_ := (Option.bind_some _ _).symm.trans H; rw [hy139]; with_reducible exact H2_) | (have H2_ := (Option.bind_some _ _).symm.trans H; with_reducible exact H2_) | with_reducible exact H | (rw [hy139]; exact H) | exact H
                                           have Ny139 := a9_ hy139
                                           clear hy139
                                           have H' := a9_ H
                                           clear H
                                           have hnb96 := NB107_101.out
                                           have hnc96 := NB101_107.out
                                           have hnb97 := NB107_102.out
                                           have hnc97 := NB102_107.out
                                           have hnb98 := NB107_115.out
                                           have hnc98 := NB115_107.out
                                           have hnb99 := NB107_119.out
                                           have hnc99 := NB119_107.out
                                           obtain ⟨hcz100_0, hcz100_1, hcz100_2, hcz100_3, hcz100_4, hcz100_5, hcz100_6, hcz100_7, hcz100_8, hcz100_9, hcz100_10, hcz100_11, hcz100_12, hcz100_13, hcz100_14, hcz100_15, hfz100_0, hfz100_1, hfz100_2, hfz100_3, hfz100_4, hfz100_5, hfz100_6, hfz100_7, hfz100_8, hfz100_9, hfz100_10, hfz100_11, hfz100_12, hfz100_13, hfz100_14, hfz100_15⟩ := cz16 BK107.out
                                           have p133 : 0 ≤ (x16_4 : Int) := of_decide_eq_true (by first | (with_reducible assumption) | assumption)
                                           have q133 : x16_4 < (((rd_T117 l0 x13_3).f3).length : Int) := of_decide_eq_true (by first | (with_reducible assumption) | assumption)
                                           obtain ⟨ad133, e133, hx133_0⟩ := Kd.at_int HR106_3.out x16_4 p133 q133
                                           cases e133
                                           replace hx133_0 := hb9 HB.out hx133_0
                                           replace p133 := eq_true p133
                                           replace q133 := eq_true q133
                                           go_wp2_with (first | ((with_reducible refine gate_callee (f := 150) rfl ?_); refine goesL9 (some 128) rfl rfl Try.func150 (by kernel_rfl) rfl #[.int .u32 (rd ((rd_T117 l0 x13_3).f3) x16_4), .int .i64 x18_5] rfl ?_; (with_reducible refine (cupolaref10_bit.calls kj73 (rd ((rd_T117 l0 x13_3).f3) x16_4) x18_5 true _ A90.out).mono ?_); rintro e w' ⟨rfl, ⟨nd, rfl⟩⟩; refine ⟨_, rfl, ?_⟩; have hnb101 := NB119_101.out; have hnc101 := NB101_119.out; have hnb102 := NB119_102.out; have hnc102 := NB102_119.out; have hnb103 := NB119_115.out; have hnc103 := NB115_119.out; obtain ⟨hcz104_0, hcz104_1, hfz104_0, hfz104_1⟩ := cz2 BK119.out) | ((with_reducible refine gate_builtin (b := .append) (xs := #[.tmp 129, .tmp 131]) rfl ?_); at_builtin; refine Kd.R_append k46 (w0 := w) w.heap.size rfl (.tmp 129) (.tmp 131) 43 46 (.agg #[(.int .i64 0), (.int .i64 0)]) 16 rfl Try.underlying43 info46 rfl (by decide) (by omega) u11 x11_5 (⟨(wrap64 ((x103000_3.length : Int) + x18_5)), (wrap64 ((x103000_3.length : Int) + x16_4))⟩ : S46) [.int .i64 (wrap64 ((x103000_3.length : Int) + x18_5)), .int .i64 (wrap64 ((x103000_3.length : Int) + x16_4))] (fun k_ => some k_ ≠ (v121 : Value).ownBlock ∧ some k_ ≠ (u9 : Value).ownBlock ∧ some k_ ≠ (u10 : Value).ownBlock ∧ some k_ ≠ (u12 : Value).ownBlock ∧ k_ ≠ gb119) (fun _ => False) rfl rfl ?aP (fun _ hk => hk.elim) ?aF ?aO ?aB ?aS ?aL ?_; (case aP => exact k46_mkM _ _ _ (⟨(wrap64 ((x103000_3.length : Int) + x18_5)), (wrap64 ((x103000_3.length : Int) + x16_4))⟩ : S46)); (case aB => exact (bp9 HB.out)); (case aF => exact (fun k_ hk => ⟨Kd.fresh' (Kd.R_lt (rp9 HO_8.out)) k_ hk, Kd.fresh' (Kd.R_lt (rp9 HO_9.out)) k_ hk, Kd.fresh' (Kd.R_lt (rp9 HO_10.out)) k_ hk, Kd.fresh' (Kd.R_lt (rp9 HO_12.out)) k_ hk, Kd.freshB (kp9 BK119.out) k_ hk⟩)); (case aO => exact (rp9 HO_11.out)); (case aS => exact (below_size (bp9 HB.out))); (case aL => have := LMc92.out; omega); intro v136 w105 ho hb hg hat; rw [← Ny135.out] at ho; have n0_ := a9_ (Kd.R_after (ok := (fun k_ => some k_ ≠ (u9 : Value).ownBlock ∧ some k_ ≠ (u10 : Value).ownBlock ∧ some k_ ≠ (u12 : Value).ownBlock ∧ k_ ≠ gb119)) (rp9 (Kd.R_mono HO_8.out (fun _ hk => ⟨⟨hk.1, ⟨hk.2.1, ⟨hk.2.2.2.1, hk.2.2.2.2⟩⟩⟩, hk.2.2.1⟩))) hg hat); have n1_ := a9_ (Kd.R_after (ok := (fun k_ => some k_ ≠ (v121 : Value).ownBlock ∧ some k_ ≠ (u10 : Value).ownBlock ∧ some k_ ≠ (u12 : Value).ownBlock ∧ k_ ≠ gb119)) (rp9 (Kd.R_mono HO_9.out (fun _ hk => ⟨⟨hk.1, ⟨hk.2.1, ⟨hk.2.2.2.1, hk.2.2.2.2⟩⟩⟩, hk.2.2.1⟩))) hg hat); have n2_ := a9_ (Kd.R_after (ok := (fun k_ => some k_ ≠ (v121 : Value).ownBlock ∧ some k_ ≠ (u9 : Value).ownBlock ∧ some k_ ≠ (u12 : Value).ownBlock ∧ k_ ≠ gb119)) (rp9 (Kd.R_mono HO_10.out (fun _ hk => ⟨⟨hk.1, ⟨hk.2.1, ⟨hk.2.2.2.1, hk.2.2.2.2⟩⟩⟩, hk.2.2.1⟩))) hg hat); have n3_ := a9_ (Kd.R_after (ok := (fun k_ => some k_ ≠ (v121 : Value).ownBlock ∧ some k_ ≠ (u9 : Value).ownBlock ∧ some k_ ≠ (u10 : Value).ownBlock ∧ k_ ≠ gb119)) (rp9 (Kd.R_mono HO_12.out (fun _ hk => ⟨⟨hk.1, ⟨hk.2.1, ⟨hk.2.2.1, hk.2.2.2.2⟩⟩⟩, hk.2.2.2.1⟩))) hg hat); have n4_ := a9_ (Kd.R_over' (rp9 HO_103000.out) (Kd.R_typed (rp9 HO_11.out)) (by decide) hg); have n5_ := a9_ (Kd.S_over' (sp9 HO_103006.out) (Kd.R_typed (rp9 HO_11.out)) (by decide) hg); have n6_ := a9_ (blk_grown (kp9 BK101.out) hg (Kd.R_ne HO_11.out BK101.out (by decide))); have n7_ := a9_ (blk_grown (kp9 BK102.out) hg (Kd.R_ne HO_11.out BK102.out (by decide))); have n8_ := a9_ (blk_grown (kp9 BK107.out) hg (Kd.R_ne HO_11.out BK107.out (by decide))); have n9_ := a9_ (blk_grown (kp9 BK115.out) hg (Kd.R_ne HO_11.out BK115.out (by decide))); have n10_ := a9_ (blk_grown (kp9 BK119.out) hg (Kd.R_away HO_11.out (fun _ hk => hk.2.2.2.2))); have n11_ := a9_ (hb); have n12_ := a9_ (ho); clear HO_8; clear HO_9; clear HO_10; clear HO_12; clear HO_103000; clear HO_103006; clear BK101; clear BK102; clear BK107; clear BK115; clear BK119; clear HB; clear HO_11; have HO_8 := n0_; have HO_9 := n1_; have HO_10 := n2_; have HO_12 := n3_; have HO_103000 := n4_; have HO_103006 := n5_; have BK101 := n6_; have BK102 := n7_; have BK107 := n8_; have BK115 := n9_; have BK119 := n10_; have HB := n11_; have HO137 := n12_; clear n0_ n1_ n2_ n3_ n4_ n5_ n6_ n7_ n8_ n9_ n10_ n11_ n12_; clear ho hb hg hat; obtain ⟨hcz106_0, hcz106_1, hcz106_2, hcz106_3, hcz106_4, hcz106_5, hcz106_6, hcz106_7, hcz106_8, hcz106_9, hcz106_10, hcz106_11, hcz106_12, hcz106_13, hcz106_14, hcz106_15, hfz106_0, hfz106_1, hfz106_2, hfz106_3, hfz106_4, hfz106_5, hfz106_6, hfz106_7, hfz106_8, hfz106_9, hfz106_10, hfz106_11, hfz106_12, hfz106_13, hfz106_14, hfz106_15⟩ := cz16 BK107.out; have p138 : 0 ≤ (x16_4 : Int) := of_decide_eq_true (by first | (with_reducible assumption) | assumption); have q138 : x16_4 < (((rd_T117 l0 x13_3).f4).length : Int) := of_decide_eq_true (by first | (with_reducible assumption) | assumption); obtain ⟨ad138, e138, hx138_0⟩ := Kd.at_int HR106_4.out x16_4 p138 q138; cases e138; replace hx138_0 := hb9 HB.out hx138_0; replace p138 := eq_true p138; replace q138 := eq_true q138; obtain ⟨hcz107_0, hcz107_1, hfz107_0, hfz107_1⟩ := cz2 BK119.out) | ((with_reducible refine gate_builtin (b := .append) (xs := #[.tmp 140, .tmp 142]) rfl ?_); at_builtin; refine Kd.R_append k46 (w0 := w) w.heap.size rfl (.tmp 140) (.tmp 142) 43 46 (.agg #[(.int .i64 0), (.int .i64 0)]) 16 rfl Try.underlying43 info46 rfl (by decide) (by omega) u12 x12_5 (⟨(wrap64 ((x103000_3.length : Int) + x18_5)), (wrap64 ((x103000_3.length : Int) + x16_4))⟩ : S46) [.int .i64 (wrap64 ((x103000_3.length : Int) + x18_5)), .int .i64 (wrap64 ((x103000_3.length : Int) + x16_4))] (fun k_ => some k_ ≠ (v121 : Value).ownBlock ∧ some k_ ≠ (u9 : Value).ownBlock ∧ some k_ ≠ (u10 : Value).ownBlock ∧ some k_ ≠ (v136 : Value).ownBlock ∧ k_ ≠ gb119) (fun _ => False) rfl rfl ?aP (fun _ hk => hk.elim) ?aF ?aO ?aB ?aS ?aL ?_; (case aP => exact k46_mkM _ _ _ (⟨(wrap64 ((x103000_3.length : Int) + x18_5)), (wrap64 ((x103000_3.length : Int) + x16_4))⟩ : S46)); (case aB => exact (bp9 HB.out)); (case aF => exact (fun k_ hk => ⟨Kd.fresh' (Kd.R_lt (rp9 HO_8.out)) k_ hk, Kd.fresh' (Kd.R_lt (rp9 HO_9.out)) k_ hk, Kd.fresh' (Kd.R_lt (rp9 HO_10.out)) k_ hk, Kd.fresh' (Kd.R_lt (rp9 HO137.out)) k_ hk, Kd.freshB (kp9 BK119.out) k_ hk⟩)); (case aO => exact (rp9 (Kd.R_mono HO_12.out (fun _ hk => ⟨hk.1.1, ⟨hk.1.2.1, ⟨hk.1.2.2.1, ⟨hk.2, hk.1.2.2.2⟩⟩⟩⟩)))); (case aS => exact (below_size (bp9 HB.out))); (case aL => have := LMc95.out; omega); intro v140 w108 ho hb hg hat; rw [← Ny139.out] at ho; have n0_ := a9_ (Kd.R_after (ok := (fun k_ => some k_ ≠ (u9 : Value).ownBlock ∧ some k_ ≠ (u10 : Value).ownBlock ∧ some k_ ≠ (v136 : Value).ownBlock ∧ k_ ≠ gb119)) (rp9 (Kd.R_mono HO_8.out (fun _ hk => ⟨⟨hk.1.1, ⟨hk.1.2.1, ⟨hk.2, hk.1.2.2.2⟩⟩⟩, hk.1.2.2.1⟩))) hg hat); have n1_ := a9_ (Kd.R_after (ok := (fun k_ => some k_ ≠ (v121 : Value).ownBlock ∧ some k_ ≠ (u10 : Value).ownBlock ∧ some k_ ≠ (v136 : Value).ownBlock ∧ k_ ≠ gb119)) (rp9 (Kd.R_mono HO_9.out (fun _ hk => ⟨⟨hk.1.1, ⟨hk.1.2.1, ⟨hk.2, hk.1.2.2.2⟩⟩⟩, hk.1.2.2.1⟩))) hg hat); have n2_ := a9_ (Kd.R_after (ok := (fun k_ => some k_ ≠ (v121 : Value).ownBlock ∧ some k_ ≠ (u9 : Value).ownBlock ∧ some k_ ≠ (v136 : Value).ownBlock ∧ k_ ≠ gb119)) (rp9 (Kd.R_mono HO_10.out (fun _ hk => ⟨⟨hk.1.1, ⟨hk.1.2.1, ⟨hk.2, hk.1.2.2.2⟩⟩⟩, hk.1.2.2.1⟩))) hg hat); have n3_ := a9_ (Kd.R_over' (rp9 HO_103000.out) (Kd.R_typed (rp9 HO_12.out)) (by decide) hg); have n4_ := a9_ (Kd.S_over' (sp9 HO_103006.out) (Kd.R_typed (rp9 HO_12.out)) (by decide) hg); have n5_ := a9_ (blk_grown (kp9 BK101.out) hg (Kd.R_ne HO_12.out BK101.out (by decide))); have n6_ := a9_ (blk_grown (kp9 BK102.out) hg (Kd.R_ne HO_12.out BK102.out (by decide))); have n7_ := a9_ (blk_grown (kp9 BK107.out) hg (Kd.R_ne HO_12.out BK107.out (by decide))); have n8_ := a9_ (blk_grown (kp9 BK115.out) hg (Kd.R_ne HO_12.out BK115.out (by decide))); have n9_ := a9_ (blk_grown (kp9 BK119.out) hg (Kd.R_away HO_12.out (fun _ hk => hk.1.2.2.2))); have n10_ := a9_ (Kd.R_after (ok := (fun k_ => some k_ ≠ (v121 : Value).ownBlock ∧ some k_ ≠ (u9 : Value).ownBlock ∧ some k_ ≠ (u10 : Value).ownBlock ∧ k_ ≠ gb119)) (rp9 (Kd.R_mono HO137.out (fun _ hk => ⟨⟨hk.1, ⟨hk.2.1, ⟨hk.2.2.1, hk.2.2.2.2⟩⟩⟩, hk.2.2.2.1⟩))) hg hat); have n11_ := a9_ (hb); have n12_ := a9_ (ho); clear HO_8; clear HO_9; clear HO_10; clear HO_103000; clear HO_103006; clear BK101; clear BK102; clear BK107; clear BK115; clear BK119; clear HO137; clear HB; clear HO_12; have HO_8 := n0_; have HO_9 := n1_; have HO_10 := n2_; have HO_103000 := n3_; have HO_103006 := n4_; have BK101 := n5_; have BK102 := n6_; have BK107 := n7_; have BK115 := n8_; have BK119 := n9_; have HO137 := n10_; have HB := n11_; have HO141 := n12_; clear n0_ n1_ n2_ n3_ n4_ n5_ n6_ n7_ n8_ n9_ n10_ n11_ n12_; clear ho hb hg hat))
                                           go_roundg kj73
                                           case measure => have := HK1.out; have := HK2.out; have := HK3.out; have := HK4.out; have := HK5.out; have := HJ50.out; have := HJ73.out; omega
                                           case rel => exact ⟨(y120), (x9_50), (x10_73), (y135), (y139), (wrap64 (x18_5 + 1)), rs9, H', ⟨by have := HK1.out; have := HK2.out; have := HK3.out; have := HK4.out; have := HK5.out; have := HJ50.out; have := HJ73.out; omega⟩, ⟨rp9 (Kd.R_mono HO_8.out (fun _ hk => ⟨hk.1.1, ⟨hk.1.2.1, ⟨hk.1.2.2.1, hk.2⟩⟩⟩))⟩, ⟨rp9 (Kd.R_mono HO_9.out (fun _ hk => ⟨hk.1.1, ⟨hk.1.2.1, ⟨hk.1.2.2.1, hk.2⟩⟩⟩))⟩, ⟨rp9 (Kd.R_mono HO_10.out (fun _ hk => ⟨hk.1.1, ⟨hk.1.2.1, ⟨hk.1.2.2.1, hk.2⟩⟩⟩))⟩, ⟨rp9 (Kd.R_mono HO137.out (fun _ hk => ⟨hk.1.1, ⟨hk.1.2.1, ⟨hk.1.2.2.1, hk.2⟩⟩⟩))⟩, ⟨rp9 (Kd.R_mono HO141.out (fun _ hk => ⟨hk.1, ⟨hk.2.1, ⟨hk.2.2.1, hk.2.2.2.1⟩⟩⟩))⟩, ⟨rp9 HO_103000.out⟩, ⟨sp9 HO_103006.out⟩, ⟨kp9 BK101.out⟩, ⟨kp9 BK102.out⟩, ⟨kp9 BK107.out⟩, ⟨kp9 BK115.out⟩, ⟨bp9 HB.out⟩⟩
                                          ·rw [if_neg c95] at H
                                           exact absurd H (by simp)
                                         ·rw [if_neg c94] at H
                                          have c94b0 : ((rd ((rd_T117 l0 x13_3).f4) x16_4) == x18_5) = false := beq_eq_false_iff_ne.mpr c94
                                          have c94b1 : ((rd ((rd_T117 l0 x13_3).f4) x16_4) != x18_5) = true := bne_iff_ne.mpr c94
                                          have H' := a9_ H
                                          clear H
                                          have hnb109 := NB107_101.out
                                          have hnc109 := NB101_107.out
                                          have hnb110 := NB107_102.out
                                          have hnc110 := NB102_107.out
                                          have hnb111 := NB107_115.out
                                          have hnc111 := NB115_107.out
                                          have hnb112 := NB107_119.out
                                          have hnc112 := NB119_107.out
                                          obtain ⟨hcz113_0, hcz113_1, hcz113_2, hcz113_3, hcz113_4, hcz113_5, hcz113_6, hcz113_7, hcz113_8, hcz113_9, hcz113_10, hcz113_11, hcz113_12, hcz113_13, hcz113_14, hcz113_15, hfz113_0, hfz113_1, hfz113_2, hfz113_3, hfz113_4, hfz113_5, hfz113_6, hfz113_7, hfz113_8, hfz113_9, hfz113_10, hfz113_11, hfz113_12, hfz113_13, hfz113_14, hfz113_15⟩ := cz16 BK107.out
                                          have p133 : 0 ≤ (x16_4 : Int) := of_decide_eq_true (by first | (with_reducible assumption) | assumption)
                                          have q133 : x16_4 < (((rd_T117 l0 x13_3).f3).length : Int) := of_decide_eq_true (by first | (with_reducible assumption) | assumption)
                                          obtain ⟨ad133, e133, hx133_0⟩ := Kd.at_int HR106_3.out x16_4 p133 q133
                                          cases e133
                                          replace hx133_0 := hb9 HB.out hx133_0
                                          replace p133 := eq_true p133
                                          replace q133 := eq_true q133
                                          go_wp2_with (first | ((with_reducible refine gate_callee (f := 150) rfl ?_); refine goesL9 (some 128) rfl rfl Try.func150 (by kernel_rfl) rfl #[.int .u32 (rd ((rd_T117 l0 x13_3).f3) x16_4), .int .i64 x18_5] rfl ?_; (with_reducible refine (cupolaref10_bit.calls kj73 (rd ((rd_T117 l0 x13_3).f3) x16_4) x18_5 true _ A90.out).mono ?_); rintro e w' ⟨rfl, ⟨nd, rfl⟩⟩; refine ⟨_, rfl, ?_⟩; have hnb114 := NB119_101.out; have hnc114 := NB101_119.out; have hnb115 := NB119_102.out; have hnc115 := NB102_119.out; have hnb116 := NB119_115.out; have hnc116 := NB115_119.out; obtain ⟨hcz117_0, hcz117_1, hfz117_0, hfz117_1⟩ := cz2 BK119.out) | ((with_reducible refine gate_builtin (b := .append) (xs := #[.tmp 129, .tmp 131]) rfl ?_); at_builtin; refine Kd.R_append k46 (w0 := w) w.heap.size rfl (.tmp 129) (.tmp 131) 43 46 (.agg #[(.int .i64 0), (.int .i64 0)]) 16 rfl Try.underlying43 info46 rfl (by decide) (by omega) u11 x11_5 (⟨(wrap64 ((x103000_3.length : Int) + x18_5)), (wrap64 ((x103000_3.length : Int) + x16_4))⟩ : S46) [.int .i64 (wrap64 ((x103000_3.length : Int) + x18_5)), .int .i64 (wrap64 ((x103000_3.length : Int) + x16_4))] (fun k_ => some k_ ≠ (v121 : Value).ownBlock ∧ some k_ ≠ (u9 : Value).ownBlock ∧ some k_ ≠ (u10 : Value).ownBlock ∧ some k_ ≠ (u12 : Value).ownBlock ∧ k_ ≠ gb119) (fun _ => False) rfl rfl ?aP (fun _ hk => hk.elim) ?aF ?aO ?aB ?aS ?aL ?_; (case aP => exact k46_mkM _ _ _ (⟨(wrap64 ((x103000_3.length : Int) + x18_5)), (wrap64 ((x103000_3.length : Int) + x16_4))⟩ : S46)); (case aB => exact (bp9 HB.out)); (case aF => exact (fun k_ hk => ⟨Kd.fresh' (Kd.R_lt (rp9 HO_8.out)) k_ hk, Kd.fresh' (Kd.R_lt (rp9 HO_9.out)) k_ hk, Kd.fresh' (Kd.R_lt (rp9 HO_10.out)) k_ hk, Kd.fresh' (Kd.R_lt (rp9 HO_12.out)) k_ hk, Kd.freshB (kp9 BK119.out) k_ hk⟩)); (case aO => exact (rp9 HO_11.out)); (case aS => exact (below_size (bp9 HB.out))); (case aL => have := LMc92.out; omega); intro v136 w118 ho hb hg hat; rw [← Ny135.out] at ho; have n0_ := a9_ (Kd.R_after (ok := (fun k_ => some k_ ≠ (u9 : Value).ownBlock ∧ some k_ ≠ (u10 : Value).ownBlock ∧ some k_ ≠ (u12 : Value).ownBlock ∧ k_ ≠ gb119)) (rp9 (Kd.R_mono HO_8.out (fun _ hk => ⟨⟨hk.1, ⟨hk.2.1, ⟨hk.2.2.2.1, hk.2.2.2.2⟩⟩⟩, hk.2.2.1⟩))) hg hat); have n1_ := a9_ (Kd.R_after (ok := (fun k_ => some k_ ≠ (v121 : Value).ownBlock ∧ some k_ ≠ (u10 : Value).ownBlock ∧ some k_ ≠ (u12 : Value).ownBlock ∧ k_ ≠ gb119)) (rp9 (Kd.R_mono HO_9.out (fun _ hk => ⟨⟨hk.1, ⟨hk.2.1, ⟨hk.2.2.2.1, hk.2.2.2.2⟩⟩⟩, hk.2.2.1⟩))) hg hat); have n2_ := a9_ (Kd.R_after (ok := (fun k_ => some k_ ≠ (v121 : Value).ownBlock ∧ some k_ ≠ (u9 : Value).ownBlock ∧ some k_ ≠ (u12 : Value).ownBlock ∧ k_ ≠ gb119)) (rp9 (Kd.R_mono HO_10.out (fun _ hk => ⟨⟨hk.1, ⟨hk.2.1, ⟨hk.2.2.2.1, hk.2.2.2.2⟩⟩⟩, hk.2.2.1⟩))) hg hat); have n3_ := a9_ (Kd.R_after (ok := (fun k_ => some k_ ≠ (v121 : Value).ownBlock ∧ some k_ ≠ (u9 : Value).ownBlock ∧ some k_ ≠ (u10 : Value).ownBlock ∧ k_ ≠ gb119)) (rp9 (Kd.R_mono HO_12.out (fun _ hk => ⟨⟨hk.1, ⟨hk.2.1, ⟨hk.2.2.1, hk.2.2.2.2⟩⟩⟩, hk.2.2.2.1⟩))) hg hat); have n4_ := a9_ (Kd.R_over' (rp9 HO_103000.out) (Kd.R_typed (rp9 HO_11.out)) (by decide) hg); have n5_ := a9_ (Kd.S_over' (sp9 HO_103006.out) (Kd.R_typed (rp9 HO_11.out)) (by decide) hg); have n6_ := a9_ (blk_grown (kp9 BK101.out) hg (Kd.R_ne HO_11.out BK101.out (by decide))); have n7_ := a9_ (blk_grown (kp9 BK102.out) hg (Kd.R_ne HO_11.out BK102.out (by decide))); have n8_ := a9_ (blk_grown (kp9 BK107.out) hg (Kd.R_ne HO_11.out BK107.out (by decide))); have n9_ := a9_ (blk_grown (kp9 BK115.out) hg (Kd.R_ne HO_11.out BK115.out (by decide))); have n10_ := a9_ (blk_grown (kp9 BK119.out) hg (Kd.R_away HO_11.out (fun _ hk => hk.2.2.2.2))); have n11_ := a9_ (hb); have n12_ := a9_ (ho); clear HO_8; clear HO_9; clear HO_10; clear HO_12; clear HO_103000; clear HO_103006; clear BK101; clear BK102; clear BK107; clear BK115; clear BK119; clear HB; clear HO_11; have HO_8 := n0_; have HO_9 := n1_; have HO_10 := n2_; have HO_12 := n3_; have HO_103000 := n4_; have HO_103006 := n5_; have BK101 := n6_; have BK102 := n7_; have BK107 := n8_; have BK115 := n9_; have BK119 := n10_; have HB := n11_; have HO137 := n12_; clear n0_ n1_ n2_ n3_ n4_ n5_ n6_ n7_ n8_ n9_ n10_ n11_ n12_; clear ho hb hg hat; obtain ⟨hcz119_0, hcz119_1, hcz119_2, hcz119_3, hcz119_4, hcz119_5, hcz119_6, hcz119_7, hcz119_8, hcz119_9, hcz119_10, hcz119_11, hcz119_12, hcz119_13, hcz119_14, hcz119_15, hfz119_0, hfz119_1, hfz119_2, hfz119_3, hfz119_4, hfz119_5, hfz119_6, hfz119_7, hfz119_8, hfz119_9, hfz119_10, hfz119_11, hfz119_12, hfz119_13, hfz119_14, hfz119_15⟩ := cz16 BK107.out; have p138 : 0 ≤ (x16_4 : Int) := of_decide_eq_true (by first | (with_reducible assumption) | assumption); have q138 : x16_4 < (((rd_T117 l0 x13_3).f4).length : Int) := of_decide_eq_true (by first | (with_reducible assumption) | assumption); obtain ⟨ad138, e138, hx138_0⟩ := Kd.at_int HR106_4.out x16_4 p138 q138; cases e138; replace hx138_0 := hb9 HB.out hx138_0; replace p138 := eq_true p138; replace q138 := eq_true q138))
                                          go_roundg kj73
                                          case measure => have := HK1.out; have := HK2.out; have := HK3.out; have := HK4.out; have := HK5.out; have := HJ50.out; have := HJ73.out; omega
                                          case rel => exact ⟨(y120), (x9_50), (x10_73), (y135), (x12_5), (wrap64 (x18_5 + 1)), rs9, H', ⟨by have := HK1.out; have := HK2.out; have := HK3.out; have := HK4.out; have := HK5.out; have := HJ50.out; have := HJ73.out; omega⟩, ⟨rp9 (Kd.R_mono HO_8.out (fun _ hk => ⟨hk.1.1, ⟨hk.1.2.1, ⟨hk.2, hk.1.2.2.1⟩⟩⟩))⟩, ⟨rp9 (Kd.R_mono HO_9.out (fun _ hk => ⟨hk.1.1, ⟨hk.1.2.1, ⟨hk.2, hk.1.2.2.1⟩⟩⟩))⟩, ⟨rp9 (Kd.R_mono HO_10.out (fun _ hk => ⟨hk.1.1, ⟨hk.1.2.1, ⟨hk.2, hk.1.2.2.1⟩⟩⟩))⟩, ⟨rp9 (Kd.R_mono HO137.out (fun _ hk => ⟨hk.1, ⟨hk.2.1, ⟨hk.2.2.1, hk.2.2.2.1⟩⟩⟩))⟩, ⟨rp9 (Kd.R_mono HO_12.out (fun _ hk => ⟨hk.1.1, ⟨hk.1.2.1, ⟨hk.1.2.2.1, hk.2⟩⟩⟩))⟩, ⟨rp9 HO_103000.out⟩, ⟨sp9 HO_103006.out⟩, ⟨kp9 BK101.out⟩, ⟨kp9 BK102.out⟩, ⟨kp9 BK107.out⟩, ⟨kp9 BK115.out⟩, ⟨bp9 HB.out⟩⟩
                                        ·rw [if_neg c93] at H
                                         exact absurd H (by simp)
                                       ·rw [if_neg c92] at H
                                        exact absurd H (by simp)
                                      ·replace c91 := Bool.eq_false_iff.mpr c91
                                       subst c91
                                       rw [if_neg (show ¬ (false = true) by decide)] at H
                                       by_cases c120 : x16_4 < (((rd_T117 l0 x13_3).f4).length : Int)
                                       ·rw [if_pos c120] at H
                                        have c120b0 : decide (x16_4 < (((rd_T117 l0 x13_3).f4).length : Int)) = true := decide_eq_true c120
                                        clear c120
                                        by_cases c121 : (rd ((rd_T117 l0 x13_3).f4) x16_4) = x18_5
                                        ·rw [if_pos c121] at H
                                         have c121b0 : ((rd ((rd_T117 l0 x13_3).f4) x16_4) == x18_5) = true := beq_iff_eq.mpr c121
                                         have c121b1 : ((rd ((rd_T117 l0 x13_3).f4) x16_4) != x18_5) = false := bne_eq_false_iff_eq.mpr c121
                                         clear c121
                                         by_cases c122 : x12_5.length < 8796093022208
                                         ·rw [if_pos c122] at H
                                          have LMc122 := a9_ c122
                                          clear c122
                                          obtain ⟨y143, hy143⟩ : ∃ y_ : List (S46), y_ = (x12_5 ++ [(⟨(wrap64 ((x103000_3.length : Int) + x18_5)), (wrap64 ((x103000_3.length : Int) + x16_4))⟩ : S46)]) := ⟨_, rfl⟩
                                          replace H : (cupolaref10_Join.l4 kj73 l0 x5_1 y120 x9_50 x10_73 x11_5 y143 x13_3 (x103000_3.length : Int) x16_4 (wrap64 (x18_5 + 1)) y116 x103006_3 ((rd_T117 l0 x13_3).f0) ((rd_T117 l0 x13_3).f1) ((rd_T117 l0 x13_3).f2) ((rd_T117 l0 x13_3).f3) ((rd_T117 l0 x13_3).f4) ((rd_T117 l0 x13_3).f5.f0.f0) ((rd_T117 l0 x13_3).f5.f0.f1) ((rd_T117 l0 x13_3).f5.f0.f2) ((rd_T117 l0 x13_3).f5.f0.f3) ((rd_T117 l0 x13_3).f5.f1.f0) ((rd_T117 l0 x13_3).f5.f1.f1) ((rd_T117 l0 x13_3).f5.f1.f2) ((rd_T117 l0 x13_3).f5.f1.f3) ((rd_T117 l0 x13_3).f6) ((rd_T117 l0 x13_3).f7) ((rd_T117 l0 x13_3).f8)) = some (r1, r2, r3, r4, r5, r6, r7, r8) := by first | (rw [hy143]; with_reducible exact H) | (have H2_ := (Option.bind_some _ _).symm.trans H; rw [hy143]; with_reducible exact H2_) | (have H2_ := (Option.bind_some _ _).symm.trans H; with_reducible exact H2_) | with_reducible exact H | (rw [hy143]; exact H) | exact H
                                          have Ny143 := a9_ hy143
                                          clear hy143
                                          have H' := a9_ H
                                          clear H
                                          have hnb123 := NB107_101.out
                                          have hnc123 := NB101_107.out
                                          have hnb124 := NB107_102.out
                                          have hnc124 := NB102_107.out
                                          have hnb125 := NB107_115.out
                                          have hnc125 := NB115_107.out
                                          have hnb126 := NB107_119.out
                                          have hnc126 := NB119_107.out
                                          obtain ⟨hcz127_0, hcz127_1, hcz127_2, hcz127_3, hcz127_4, hcz127_5, hcz127_6, hcz127_7, hcz127_8, hcz127_9, hcz127_10, hcz127_11, hcz127_12, hcz127_13, hcz127_14, hcz127_15, hfz127_0, hfz127_1, hfz127_2, hfz127_3, hfz127_4, hfz127_5, hfz127_6, hfz127_7, hfz127_8, hfz127_9, hfz127_10, hfz127_11, hfz127_12, hfz127_13, hfz127_14, hfz127_15⟩ := cz16 BK107.out
                                          have p133 : 0 ≤ (x16_4 : Int) := of_decide_eq_true (by first | (with_reducible assumption) | assumption)
                                          have q133 : x16_4 < (((rd_T117 l0 x13_3).f3).length : Int) := of_decide_eq_true (by first | (with_reducible assumption) | assumption)
                                          obtain ⟨ad133, e133, hx133_0⟩ := Kd.at_int HR106_3.out x16_4 p133 q133
                                          cases e133
                                          replace hx133_0 := hb9 HB.out hx133_0
                                          replace p133 := eq_true p133
                                          replace q133 := eq_true q133
                                          go_wp2_with (first | ((with_reducible refine gate_callee (f := 150) rfl ?_); refine goesL9 (some 128) rfl rfl Try.func150 (by kernel_rfl) rfl #[.int .u32 (rd ((rd_T117 l0 x13_3).f3) x16_4), .int .i64 x18_5] rfl ?_; (with_reducible refine (cupolaref10_bit.calls kj73 (rd ((rd_T117 l0 x13_3).f3) x16_4) x18_5 false _ A90.out).mono ?_); rintro e w' ⟨rfl, ⟨nd, rfl⟩⟩; refine ⟨_, rfl, ?_⟩; have p142 : 0 ≤ (x16_4 : Int) := of_decide_eq_true (by first | (with_reducible assumption) | assumption); have q142 : x16_4 < (((rd_T117 l0 x13_3).f4).length : Int) := of_decide_eq_true (by first | (with_reducible assumption) | assumption); obtain ⟨ad142, e142, hx142_0⟩ := Kd.at_int HR106_4.out x16_4 p142 q142; cases e142; replace hx142_0 := hb9 HB.out hx142_0; replace p142 := eq_true p142; replace q142 := eq_true q142; have hnb128 := NB119_101.out; have hnc128 := NB101_119.out; have hnb129 := NB119_102.out; have hnc129 := NB102_119.out; have hnb130 := NB119_115.out; have hnc130 := NB115_119.out; obtain ⟨hcz131_0, hcz131_1, hfz131_0, hfz131_1⟩ := cz2 BK119.out) | ((with_reducible refine gate_builtin (b := .append) (xs := #[.tmp 140, .tmp 142]) rfl ?_); at_builtin; refine Kd.R_append k46 (w0 := w) w.heap.size rfl (.tmp 140) (.tmp 142) 43 46 (.agg #[(.int .i64 0), (.int .i64 0)]) 16 rfl Try.underlying43 info46 rfl (by decide) (by omega) u12 x12_5 (⟨(wrap64 ((x103000_3.length : Int) + x18_5)), (wrap64 ((x103000_3.length : Int) + x16_4))⟩ : S46) [.int .i64 (wrap64 ((x103000_3.length : Int) + x18_5)), .int .i64 (wrap64 ((x103000_3.length : Int) + x16_4))] (fun k_ => some k_ ≠ (v121 : Value).ownBlock ∧ some k_ ≠ (u9 : Value).ownBlock ∧ some k_ ≠ (u10 : Value).ownBlock ∧ some k_ ≠ (u11 : Value).ownBlock ∧ k_ ≠ gb119) (fun _ => False) rfl rfl ?aP (fun _ hk => hk.elim) ?aF ?aO ?aB ?aS ?aL ?_; (case aP => exact k46_mkM _ _ _ (⟨(wrap64 ((x103000_3.length : Int) + x18_5)), (wrap64 ((x103000_3.length : Int) + x16_4))⟩ : S46)); (case aB => exact (bp9 HB.out)); (case aF => exact (fun k_ hk => ⟨Kd.fresh' (Kd.R_lt (rp9 HO_8.out)) k_ hk, Kd.fresh' (Kd.R_lt (rp9 HO_9.out)) k_ hk, Kd.fresh' (Kd.R_lt (rp9 HO_10.out)) k_ hk, Kd.fresh' (Kd.R_lt (rp9 HO_11.out)) k_ hk, Kd.freshB (kp9 BK119.out) k_ hk⟩)); (case aO => exact (rp9 HO_12.out)); (case aS => exact (below_size (bp9 HB.out))); (case aL => have := LMc122.out; omega); intro v144 w132 ho hb hg hat; rw [← Ny143.out] at ho; have n0_ := a9_ (Kd.R_after (ok := (fun k_ => some k_ ≠ (u9 : Value).ownBlock ∧ some k_ ≠ (u10 : Value).ownBlock ∧ some k_ ≠ (u11 : Value).ownBlock ∧ k_ ≠ gb119)) (rp9 (Kd.R_mono HO_8.out (fun _ hk => ⟨⟨hk.1, ⟨hk.2.1, ⟨hk.2.2.1, hk.2.2.2.2⟩⟩⟩, hk.2.2.2.1⟩))) hg hat); have n1_ := a9_ (Kd.R_after (ok := (fun k_ => some k_ ≠ (v121 : Value).ownBlock ∧ some k_ ≠ (u10 : Value).ownBlock ∧ some k_ ≠ (u11 : Value).ownBlock ∧ k_ ≠ gb119)) (rp9 (Kd.R_mono HO_9.out (fun _ hk => ⟨⟨hk.1, ⟨hk.2.1, ⟨hk.2.2.1, hk.2.2.2.2⟩⟩⟩, hk.2.2.2.1⟩))) hg hat); have n2_ := a9_ (Kd.R_after (ok := (fun k_ => some k_ ≠ (v121 : Value).ownBlock ∧ some k_ ≠ (u9 : Value).ownBlock ∧ some k_ ≠ (u11 : Value).ownBlock ∧ k_ ≠ gb119)) (rp9 (Kd.R_mono HO_10.out (fun _ hk => ⟨⟨hk.1, ⟨hk.2.1, ⟨hk.2.2.1, hk.2.2.2.2⟩⟩⟩, hk.2.2.2.1⟩))) hg hat); have n3_ := a9_ (Kd.R_after (ok := (fun k_ => some k_ ≠ (v121 : Value).ownBlock ∧ some k_ ≠ (u9 : Value).ownBlock ∧ some k_ ≠ (u10 : Value).ownBlock ∧ k_ ≠ gb119)) (rp9 (Kd.R_mono HO_11.out (fun _ hk => ⟨⟨hk.1, ⟨hk.2.1, ⟨hk.2.2.1, hk.2.2.2.2⟩⟩⟩, hk.2.2.2.1⟩))) hg hat); have n4_ := a9_ (Kd.R_over' (rp9 HO_103000.out) (Kd.R_typed (rp9 HO_12.out)) (by decide) hg); have n5_ := a9_ (Kd.S_over' (sp9 HO_103006.out) (Kd.R_typed (rp9 HO_12.out)) (by decide) hg); have n6_ := a9_ (blk_grown (kp9 BK101.out) hg (Kd.R_ne HO_12.out BK101.out (by decide))); have n7_ := a9_ (blk_grown (kp9 BK102.out) hg (Kd.R_ne HO_12.out BK102.out (by decide))); have n8_ := a9_ (blk_grown (kp9 BK107.out) hg (Kd.R_ne HO_12.out BK107.out (by decide))); have n9_ := a9_ (blk_grown (kp9 BK115.out) hg (Kd.R_ne HO_12.out BK115.out (by decide))); have n10_ := a9_ (blk_grown (kp9 BK119.out) hg (Kd.R_away HO_12.out (fun _ hk => hk.2.2.2.2))); have n11_ := a9_ (hb); have n12_ := a9_ (ho); clear HO_8; clear HO_9; clear HO_10; clear HO_11; clear HO_103000; clear HO_103006; clear BK101; clear BK102; clear BK107; clear BK115; clear BK119; clear HB; clear HO_12; have HO_8 := n0_; have HO_9 := n1_; have HO_10 := n2_; have HO_11 := n3_; have HO_103000 := n4_; have HO_103006 := n5_; have BK101 := n6_; have BK102 := n7_; have BK107 := n8_; have BK115 := n9_; have BK119 := n10_; have HB := n11_; have HO145 := n12_; clear n0_ n1_ n2_ n3_ n4_ n5_ n6_ n7_ n8_ n9_ n10_ n11_ n12_; clear ho hb hg hat))
                                          go_roundg kj73
                                          case measure => have := HK1.out; have := HK2.out; have := HK3.out; have := HK4.out; have := HK5.out; have := HJ50.out; have := HJ73.out; omega
                                          case rel => exact ⟨(y120), (x9_50), (x10_73), (x11_5), (y143), (wrap64 (x18_5 + 1)), rs9, H', ⟨by have := HK1.out; have := HK2.out; have := HK3.out; have := HK4.out; have := HK5.out; have := HJ50.out; have := HJ73.out; omega⟩, ⟨rp9 (Kd.R_mono HO_8.out (fun _ hk => ⟨hk.1.1, ⟨hk.1.2.1, ⟨hk.1.2.2.1, hk.2⟩⟩⟩))⟩, ⟨rp9 (Kd.R_mono HO_9.out (fun _ hk => ⟨hk.1.1, ⟨hk.1.2.1, ⟨hk.1.2.2.1, hk.2⟩⟩⟩))⟩, ⟨rp9 (Kd.R_mono HO_10.out (fun _ hk => ⟨hk.1.1, ⟨hk.1.2.1, ⟨hk.1.2.2.1, hk.2⟩⟩⟩))⟩, ⟨rp9 (Kd.R_mono HO_11.out (fun _ hk => ⟨hk.1.1, ⟨hk.1.2.1, ⟨hk.1.2.2.1, hk.2⟩⟩⟩))⟩, ⟨rp9 (Kd.R_mono HO145.out (fun _ hk => ⟨hk.1, ⟨hk.2.1, ⟨hk.2.2.1, hk.2.2.2.1⟩⟩⟩))⟩, ⟨rp9 HO_103000.out⟩, ⟨sp9 HO_103006.out⟩, ⟨kp9 BK101.out⟩, ⟨kp9 BK102.out⟩, ⟨kp9 BK107.out⟩, ⟨kp9 BK115.out⟩, ⟨bp9 HB.out⟩⟩
                                         ·rw [if_neg c122] at H
                                          exact absurd H (by simp)
                                        ·rw [if_neg c121] at H
                                         have c121b0 : ((rd ((rd_T117 l0 x13_3).f4) x16_4) == x18_5) = false := beq_eq_false_iff_ne.mpr c121
                                         have c121b1 : ((rd ((rd_T117 l0 x13_3).f4) x16_4) != x18_5) = true := bne_iff_ne.mpr c121
                                         have H' := a9_ H
                                         clear H
                                         have hnb133 := NB107_101.out
                                         have hnc133 := NB101_107.out
                                         have hnb134 := NB107_102.out
                                         have hnc134 := NB102_107.out
                                         have hnb135 := NB107_115.out
                                         have hnc135 := NB115_107.out
                                         have hnb136 := NB107_119.out
                                         have hnc136 := NB119_107.out
                                         obtain ⟨hcz137_0, hcz137_1, hcz137_2, hcz137_3, hcz137_4, hcz137_5, hcz137_6, hcz137_7, hcz137_8, hcz137_9, hcz137_10, hcz137_11, hcz137_12, hcz137_13, hcz137_14, hcz137_15, hfz137_0, hfz137_1, hfz137_2, hfz137_3, hfz137_4, hfz137_5, hfz137_6, hfz137_7, hfz137_8, hfz137_9, hfz137_10, hfz137_11, hfz137_12, hfz137_13, hfz137_14, hfz137_15⟩ := cz16 BK107.out
                                         have p133 : 0 ≤ (x16_4 : Int) := of_decide_eq_true (by first | (with_reducible assumption) | assumption)
                                         have q133 : x16_4 < (((rd_T117 l0 x13_3).f3).length : Int) := of_decide_eq_true (by first | (with_reducible assumption) | assumption)
                                         obtain ⟨ad133, e133, hx133_0⟩ := Kd.at_int HR106_3.out x16_4 p133 q133
                                         cases e133
                                         replace hx133_0 := hb9 HB.out hx133_0
                                         replace p133 := eq_true p133
                                         replace q133 := eq_true q133
                                         go_wp2_with (first | ((with_reducible refine gate_callee (f := 150) rfl ?_); refine goesL9 (some 128) rfl rfl Try.func150 (by kernel_rfl) rfl #[.int .u32 (rd ((rd_T117 l0 x13_3).f3) x16_4), .int .i64 x18_5] rfl ?_; (with_reducible refine (cupolaref10_bit.calls kj73 (rd ((rd_T117 l0 x13_3).f3) x16_4) x18_5 false _ A90.out).mono ?_); rintro e w' ⟨rfl, ⟨nd, rfl⟩⟩; refine ⟨_, rfl, ?_⟩; have p142 : 0 ≤ (x16_4 : Int) := of_decide_eq_true (by first | (with_reducible assumption) | assumption); have q142 : x16_4 < (((rd_T117 l0 x13_3).f4).length : Int) := of_decide_eq_true (by first | (with_reducible assumption) | assumption); obtain ⟨ad142, e142, hx142_0⟩ := Kd.at_int HR106_4.out x16_4 p142 q142; cases e142; replace hx142_0 := hb9 HB.out hx142_0; replace p142 := eq_true p142; replace q142 := eq_true q142))
                                         go_roundg kj73
                                         case measure => have := HK1.out; have := HK2.out; have := HK3.out; have := HK4.out; have := HK5.out; have := HJ50.out; have := HJ73.out; omega
                                         case rel => exact ⟨(y120), (x9_50), (x10_73), (x11_5), (x12_5), (wrap64 (x18_5 + 1)), rs9, H', ⟨by have := HK1.out; have := HK2.out; have := HK3.out; have := HK4.out; have := HK5.out; have := HJ50.out; have := HJ73.out; omega⟩, ⟨rp9 (Kd.R_mono HO_8.out (fun _ hk => ⟨hk.1, ⟨hk.2.1, ⟨hk.2.2.1, hk.2.2.2.1⟩⟩⟩))⟩, ⟨rp9 (Kd.R_mono HO_9.out (fun _ hk => ⟨hk.1, ⟨hk.2.1, ⟨hk.2.2.1, hk.2.2.2.1⟩⟩⟩))⟩, ⟨rp9 (Kd.R_mono HO_10.out (fun _ hk => ⟨hk.1, ⟨hk.2.1, ⟨hk.2.2.1, hk.2.2.2.1⟩⟩⟩))⟩, ⟨rp9 (Kd.R_mono HO_11.out (fun _ hk => ⟨hk.1, ⟨hk.2.1, ⟨hk.2.2.1, hk.2.2.2.1⟩⟩⟩))⟩, ⟨rp9 (Kd.R_mono HO_12.out (fun _ hk => ⟨hk.1, ⟨hk.2.1, ⟨hk.2.2.1, hk.2.2.2.1⟩⟩⟩))⟩, ⟨rp9 HO_103000.out⟩, ⟨sp9 HO_103006.out⟩, ⟨kp9 BK101.out⟩, ⟨kp9 BK102.out⟩, ⟨kp9 BK107.out⟩, ⟨kp9 BK115.out⟩, ⟨bp9 HB.out⟩⟩
                                       ·rw [if_neg c120] at H
                                        exact absurd H (by simp)
                                     ·rw [if_neg c89] at H
                                      exact absurd H (by simp)
                                    ·rw [if_neg c88] at H
                                     exact absurd H (by simp)
                                  exact part8
                                ·rw [if_neg c72] at H
                                 exact absurd H (by simp)
                               ·rw [if_neg c71] at H
                                exact absurd H (by simp)
                             exact part6
                           ·rw [if_neg c49] at H
                            exact absurd H (by simp)
                          ·rw [if_neg c48] at H
                           exact absurd H (by simp)
                         ·rw [if_neg c47] at H
                          exact absurd H (by simp)
                        ·rw [if_neg c46] at H
                         have c46b0 : decide (x18_5 < x16_4) = false := decide_eq_false c46
                         clear c46
                         have H' := a9_ H
                         clear H
                         go_wp2
                         go_roundg k5
                         case measure => have := HK1.out; have := HK2.out; have := HK3.out; have := HK4.out; have := HK5.out; omega
                         case rel => exact ⟨(x8_5), (x9_5), (x10_5), (x11_5), (x12_5), (wrap64 (x16_4 + 1)), (y116), (.slice Ao44 y116.length co44), rs9, H', ⟨by have := HK1.out; have := HK2.out; have := HK3.out; have := HK4.out; have := HK5.out; omega⟩, ⟨rp9 HO_8.out⟩, ⟨rp9 HO_9.out⟩, ⟨rp9 HO_10.out⟩, ⟨rp9 HO_11.out⟩, ⟨rp9 HO_12.out⟩, ⟨rp9 (Kd.R_mono HO_103000.out (fun _ hk => trivial))⟩, ⟨sp9 HO_103006.out⟩, ⟨kp9 BK101.out⟩, ⟨kp9 BK102.out⟩, ⟨kp9 BK107.out⟩, ⟨bp9 HB.out⟩⟩
                      exact part4
                    ·rw [if_neg c32] at H
                     exact absurd H (by simp)
                   ·rw [if_neg c31] at H
                    exact absurd H (by simp)
                  ·rw [if_neg c30] at H
                   have c30b0 : decide (x16_4 < (((rd_T117 l0 x13_3).f0).length : Int)) = false := decide_eq_false c30
                   clear c30
                   obtain ⟨y108, hy108⟩ : ∃ y_ : List Int, y_ = (([((rd_T117 l0 x13_3).f5.f0.f0), ((rd_T117 l0 x13_3).f5.f0.f1), ((rd_T117 l0 x13_3).f5.f0.f2), ((rd_T117 l0 x13_3).f5.f0.f3)] : List Int)) := ⟨_, rfl⟩
                   replace H : (if x103006_3.length < 5864062014805 then (cupolaref10_Join.l2 k4 l0 x5_1 x8_4 x9_4 x10_4 x11_4 x12_4 (wrap64 (x13_3 + 1)) x103000_4 (x103006_3 ++ [y108])) else (none)) = some (r1, r2, r3, r4, r5, r6, r7, r8) := by first | (rw [hy108]; with_reducible exact H) | (have H2_ := (Option.bind_some _ _).symm.trans H; rw [hy108]; with_reducible exact H2_) | (have H2_ := (Option.bind_some _ _).symm.trans H; with_reducible exact H2_) | with_reducible exact H | (rw [hy108]; exact H) | exact H
                   have Ny108 := a9_ hy108
                   clear hy108
                   by_cases c138 : x103006_3.length < 5864062014805
                   ·rw [if_pos c138] at H
                    have LMc138 := a9_ c138
                    clear c138
                    obtain ⟨y111, hy111⟩ : ∃ y_ : List (List Int), y_ = (x103006_3 ++ [y108]) := ⟨_, rfl⟩
                    replace H : (cupolaref10_Join.l2 k4 l0 x5_1 x8_4 x9_4 x10_4 x11_4 x12_4 (wrap64 (x13_3 + 1)) x103000_4 y111) = some (r1, r2, r3, r4, r5, r6, r7, r8) := by first | (rw [hy111]; with_reducible exact H) | (have H2_ := (Option.bind_some _ _).symm.trans H; rw [hy111]; with_reducible exact H2_) | (have H2_ := (Option.bind_some _ _).symm.trans H; with_reducible exact H2_) | with_reducible exact H | (rw [hy111]; exact H) | exact H
                    have Ny111 := a9_ hy111
                    clear hy111
                    have H' := a9_ H
                    clear H
                    have hnb139 := NB107_101.out
                    have hnc139 := NB101_107.out
                    have hnb140 := NB107_102.out
                    have hnc140 := NB102_107.out
                    obtain ⟨hcz141_0, hcz141_1, hcz141_2, hcz141_3, hcz141_4, hcz141_5, hcz141_6, hcz141_7, hcz141_8, hcz141_9, hcz141_10, hcz141_11, hcz141_12, hcz141_13, hcz141_14, hcz141_15, hfz141_0, hfz141_1, hfz141_2, hfz141_3, hfz141_4, hfz141_5, hfz141_6, hfz141_7, hfz141_8, hfz141_9, hfz141_10, hfz141_11, hfz141_12, hfz141_13, hfz141_14, hfz141_15⟩ := cz16 BK107.out
                    have hnb142 := NB102_101.out
                    have hnc142 := NB101_102.out
                    obtain ⟨hcz143_0, hcz143_1, hcz143_2, hcz143_3, hcz143_4, hcz143_5, hcz143_6, hfz143_0, hfz143_1, hfz143_2, hfz143_3, hfz143_4, hfz143_5, hfz143_6⟩ := cz7 BK102.out
                    go_wp2_with (first | ((with_reducible refine gate_dst (N := 162) rfl ?_); refine Kd.R_lit (Kd.int .i64) _ 2 ?hg (N := 162) ?hd (xs := ([((rd_T117 l0 x13_3).f5.f0.f0), ((rd_T117 l0 x13_3).f5.f0.f1), ((rd_T117 l0 x13_3).f5.f0.f2), ((rd_T117 l0 x13_3).f5.f0.f3)] : List Int)) (inner := [.int .i64 ((rd_T117 l0 x13_3).f5.f0.f0), .int .i64 ((rd_T117 l0 x13_3).f5.f0.f1), .int .i64 ((rd_T117 l0 x13_3).f5.f0.f2), .int .i64 ((rd_T117 l0 x13_3).f5.f0.f3)]) (ok := fun _ => True) (okp := fun _ => True) ?hr ?hp (fun _ hk => hk) trivial (Below.refl _ _) (Nat.le_refl _) (by simp) ?_; (case hd => rfl); (case hg => rfl); (case hr => first | (go_simp; done) | (go_simp; rfl)); (case hp => exact (Reps.one (show Kd.M (Kd.int .i64) _ _ _ ((rd_T117 l0 x13_3).f5.f0.f0) [.int .i64 ((rd_T117 l0 x13_3).f5.f0.f0)] from rfl) (Reps.one (show Kd.M (Kd.int .i64) _ _ _ ((rd_T117 l0 x13_3).f5.f0.f1) [.int .i64 ((rd_T117 l0 x13_3).f5.f0.f1)] from rfl) (Reps.one (show Kd.M (Kd.int .i64) _ _ _ ((rd_T117 l0 x13_3).f5.f0.f2) [.int .i64 ((rd_T117 l0 x13_3).f5.f0.f2)] from rfl) (Reps.one (show Kd.M (Kd.int .i64) _ _ _ ((rd_T117 l0 x13_3).f5.f0.f3) [.int .i64 ((rd_T117 l0 x13_3).f5.f0.f3)] from rfl) (Reps.none _ _)))))); intro v109 w144 ho145 hb hg_ hnew_; clear hg_ hnew_; (first | rw [← Ny108.out] at ho145 | (simp only [Int.reduceToNat] at ho145; rw [← Ny108.out] at ho145)); have n0_ := a9_ (Kd.R_below (rp9 HO_8.out) hb); have n1_ := a9_ (Kd.R_below (rp9 HO_9.out) hb); have n2_ := a9_ (Kd.R_below (rp9 HO_10.out) hb); have n3_ := a9_ (Kd.R_below (rp9 HO_11.out) hb); have n4_ := a9_ (Kd.R_below (rp9 HO_12.out) hb); have n5_ := a9_ (Kd.R_below (rp9 HO_103000.out) hb); have n6_ := a9_ (Kd.S_elder' (sp9 HO_103006.out) (Kd.R_base ho145) hb); have n7_ := a9_ (Kd.R_lower ho145 (below_size (bp9 HB.out))); have n8_ := a9_ (blk_below (kp9 BK101.out) hb); have n9_ := a9_ (blk_below (kp9 BK102.out) hb); have n10_ := a9_ (blk_below (kp9 BK107.out) hb); have n11_ := a9_ (below_step (bp9 HB.out) hb); clear HO_8; clear HO_9; clear HO_10; clear HO_11; clear HO_12; clear HO_103000; clear HO_103006; clear BK101; clear BK102; clear BK107; clear HB; have HO_8 := n0_; have HO_9 := n1_; have HO_10 := n2_; have HO_11 := n3_; have HO_12 := n4_; have HO_103000 := n5_; have HO_103006 := n6_; have HO110 := n7_; have BK101 := n8_; have BK102 := n9_; have BK107 := n10_; have HB := n11_; clear n0_ n1_ n2_ n3_ n4_ n5_ n6_ n7_ n8_ n9_ n10_ n11_; clear hb ho145; obtain ⟨Ao147, co147, eo147⟩ := Kd.R_slice HO110.out; subst eo147) | ((with_reducible refine gate_builtin (b := .append) (xs := #[.tmp 145, .tmp 163]) rfl ?_); at_builtin; refine Kd.S_append (Kd.slice 2 (Kd.int .i64)) (w0 := w) w.heap.size rfl (.tmp 145) (.tmp 163) 29 23 (.slice none 0 0) 24 rfl Try.underlying29 info23 rfl (by decide) (by omega) u103006 x103006_3 y108 [.slice Ao147 y108.length co147] (fun _ => True) (fun k_ => some k_ = (.slice Ao147 y108.length co147 : Value).ownBlock) rfl rfl ?aP (fun k_ hk_ => ((Kd.R_mono (ok' := fun k_ => ((fun _ => True)) k_ ∧ some k_ ≠ (u103006 : Value).ownBlock) (Kd.R_apart' (HO110.out) (Kd.S_typed HO_103006.out) (by decide)) (fun k_ hk => ⟨trivial, hk.2⟩))).1 k_ hk_.symm) ?aF ?aO ?aB ?aS ?aL ?_; (case aP => exact Kd.M_row (Kd.R_mono (Kd.R_tight rfl (Kd.R_mono (ok' := fun k_ => ((fun _ => True)) k_ ∧ some k_ ≠ (u103006 : Value).ownBlock) (Kd.R_apart' (HO110.out) (Kd.S_typed HO_103006.out) (by decide)) (fun k_ hk => ⟨trivial, hk.2⟩))) (fun _ h_ => h_))); (case aB => exact (bp9 HB.out)); (case aF => exact (fun _ _ => trivial)); (case aO => exact (sp9 (Kd.S_mono HO_103006.out (fun k_ hk => ⟨trivial, fun e_ => hk.2 e_⟩)))); (case aS => exact (below_size (bp9 HB.out))); (case aL => have := LMc138.out; omega); intro v112 w146 ho hb hg hat; rw [← Ny111.out] at ho; have n0_ := a9_ (Kd.R_over' (rp9 HO_8.out) (Kd.S_typed (sp9 HO_103006.out)) (by decide) hg); have n1_ := a9_ (Kd.R_over' (rp9 HO_9.out) (Kd.S_typed (sp9 HO_103006.out)) (by decide) hg); have n2_ := a9_ (Kd.R_over' (rp9 HO_10.out) (Kd.S_typed (sp9 HO_103006.out)) (by decide) hg); have n3_ := a9_ (Kd.R_over' (rp9 HO_11.out) (Kd.S_typed (sp9 HO_103006.out)) (by decide) hg); have n4_ := a9_ (Kd.R_over' (rp9 HO_12.out) (Kd.S_typed (sp9 HO_103006.out)) (by decide) hg); have n5_ := a9_ (Kd.R_over' (rp9 HO_103000.out) (Kd.S_typed (sp9 HO_103006.out)) (by decide) hg); have n6_ := a9_ (blk_grown (kp9 BK101.out) hg (Kd.S_ne HO_103006.out BK101.out (by decide))); have n7_ := a9_ (blk_grown (kp9 BK102.out) hg (Kd.S_ne HO_103006.out BK102.out (by decide))); have n8_ := a9_ (blk_grown (kp9 BK107.out) hg (Kd.S_ne HO_103006.out BK107.out (by decide))); have n9_ := a9_ (hb); have n10_ := a9_ (ho); clear HO_8; clear HO_9; clear HO_10; clear HO_11; clear HO_12; clear HO_103000; clear BK101; clear BK102; clear BK107; clear HB; clear HO_103006; clear HO110; have HO_8 := n0_; have HO_9 := n1_; have HO_10 := n2_; have HO_11 := n3_; have HO_12 := n4_; have HO_103000 := n5_; have BK101 := n6_; have BK102 := n7_; have BK107 := n8_; have HB := n9_; have HO113 := n10_; clear n0_ n1_ n2_ n3_ n4_ n5_ n6_ n7_ n8_ n9_ n10_; clear ho hb hg hat; obtain ⟨Ao148, co148, eo148⟩ := Kd.S_slice HO113.out; subst eo148; obtain ⟨hcz149_0, hcz149_1, hcz149_2, hcz149_3, hcz149_4, hcz149_5, hcz149_6, hfz149_0, hfz149_1, hfz149_2, hfz149_3, hfz149_4, hfz149_5, hfz149_6⟩ := cz7 BK102.out))
                    go_roundg k4
                    case measure => have := HK1.out; have := HK2.out; have := HK3.out; have := HK4.out; omega
                    case rel => exact ⟨(x8_4), (x9_4), (x10_4), (x11_4), (x12_4), (wrap64 (x13_3 + 1)), (x103000_4), (y111), (u103000), (.slice Ao148 y111.length co148), rs9, H', ⟨by have := HK1.out; have := HK2.out; have := HK3.out; have := HK4.out; omega⟩, ⟨rp9 (Kd.R_mono (Kd.R_far (p := ⟨gb102, 6, none⟩) (Kd.R_types HO_8.out BK102.out (by decide)) (fun _ hk => hk.2) (.slice Ao148 y111.length co148)) (fun _ hk => ⟨hk.1.1, ⟨hk.1.2.1, ⟨hk.1.2.2.1, hk.1.2.2.2⟩⟩⟩))⟩, ⟨rp9 (Kd.R_mono (Kd.R_far (p := ⟨gb102, 6, none⟩) (Kd.R_types HO_9.out BK102.out (by decide)) (fun _ hk => hk.2) (.slice Ao148 y111.length co148)) (fun _ hk => ⟨hk.1.1, ⟨hk.1.2.1, ⟨hk.1.2.2.1, hk.1.2.2.2⟩⟩⟩))⟩, ⟨rp9 (Kd.R_mono (Kd.R_far (p := ⟨gb102, 6, none⟩) (Kd.R_types HO_10.out BK102.out (by decide)) (fun _ hk => hk.2) (.slice Ao148 y111.length co148)) (fun _ hk => ⟨hk.1.1, ⟨hk.1.2.1, ⟨hk.1.2.2.1, hk.1.2.2.2⟩⟩⟩))⟩, ⟨rp9 (Kd.R_mono (Kd.R_far (p := ⟨gb102, 6, none⟩) (Kd.R_types HO_11.out BK102.out (by decide)) (fun _ hk => hk.2) (.slice Ao148 y111.length co148)) (fun _ hk => ⟨hk.1.1, ⟨hk.1.2.1, ⟨hk.1.2.2.1, hk.1.2.2.2⟩⟩⟩))⟩, ⟨rp9 (Kd.R_mono (Kd.R_far (p := ⟨gb102, 6, none⟩) (Kd.R_types HO_12.out BK102.out (by decide)) (fun _ hk => hk.2) (.slice Ao148 y111.length co148)) (fun _ hk => ⟨hk.1.1, ⟨hk.1.2.1, ⟨hk.1.2.2.1, hk.1.2.2.2⟩⟩⟩))⟩, ⟨ty9 HO_103000.out BK102.out⟩, ⟨tz9 HO113.out BK102.out⟩, ⟨kf9 BK101.out⟩, ⟨kb9 BK102.out⟩, ⟨bp9 HB.out⟩⟩
                   ·rw [if_neg c138] at H
                    exact absurd H (by simp)
                exact part3
              ·rw [if_neg c22] at H
               exact absurd H (by simp)
             ·rw [if_neg c21] at H
              have c21b0 : decide (x13_3 < (l0.length : Int)) = false := decide_eq_false c21
              clear c21
              replace H := Option.bind_eq_some_iff.mp H
              obtain ⟨t146, A1500, H⟩ := H
              replace H : ((cupolaref05_Made.f k3 x5_1 x9_3).bind fun t149 => ((cupolaref05_Made.f k3 x5_1 x10_3).bind fun t152 => ((cupolaref05_Made.f k3 x5_1 x11_3).bind fun t155 => ((cupolaref05_Made.f k3 x5_1 x12_3).bind fun t158 => (some (x103000_3, t146, t149, t152, t155, t158, x103006_3, 0)))))) = some (r1, r2, r3, r4, r5, r6, r7, r8) := H
              have A150 := a9_ A1500
              clear A1500
              replace H := Option.bind_eq_some_iff.mp H
              obtain ⟨t149, A1510, H⟩ := H
              replace H : ((cupolaref05_Made.f k3 x5_1 x10_3).bind fun t152 => ((cupolaref05_Made.f k3 x5_1 x11_3).bind fun t155 => ((cupolaref05_Made.f k3 x5_1 x12_3).bind fun t158 => (some (x103000_3, t146, t149, t152, t155, t158, x103006_3, 0))))) = some (r1, r2, r3, r4, r5, r6, r7, r8) := H
              have A151 := a9_ A1510
              clear A1510
              replace H := Option.bind_eq_some_iff.mp H
              obtain ⟨t152, A1520, H⟩ := H
              replace H : ((cupolaref05_Made.f k3 x5_1 x11_3).bind fun t155 => ((cupolaref05_Made.f k3 x5_1 x12_3).bind fun t158 => (some (x103000_3, t146, t149, t152, t155, t158, x103006_3, 0)))) = some (r1, r2, r3, r4, r5, r6, r7, r8) := H
              have A152 := a9_ A1520
              clear A1520
              replace H := Option.bind_eq_some_iff.mp H
              obtain ⟨t155, A1530, H⟩ := H
              replace H : ((cupolaref05_Made.f k3 x5_1 x12_3).bind fun t158 => (some (x103000_3, t146, t149, t152, t155, t158, x103006_3, 0))) = some (r1, r2, r3, r4, r5, r6, r7, r8) := H
              have A153 := a9_ A1530
              clear A1530
              replace H := Option.bind_eq_some_iff.mp H
              obtain ⟨t158, A1540, H⟩ := H
              replace H : (some (x103000_3, t146, t149, t152, t155, t158, x103006_3, 0)) = some (r1, r2, r3, r4, r5, r6, r7, r8) := H
              have A154 := a9_ A1540
              clear A1540
              simp only [Option.some.injEq, Prod.mk.injEq] at H
              obtain ⟨rfl, rfl, rfl, rfl, rfl, rfl, rfl, rfl⟩ := H
              obtain ⟨Ao155, co155, eo155⟩ := Kd.R_slice HO_8.out
              subst eo155
              go_wp2_with (first | ((with_reducible refine gate_callee (f := 119) rfl ?_); refine goesL9 (some 168) rfl rfl Try.func119 (by kernel_rfl) rfl #[.int .i64 x5_1, .slice Ao155 x8_3.length co155] rfl ?_; (with_reducible refine (cupolaref05_Made.calls k3 x5_1 _ _ x8_3 t146 _ ?side1 ?side2 A150.out).mono ?_); (case side1 => exact lp9 (Kd.R_reads' HO_8.out).2.2); (case side2 => exact (Kd.R_reads' HO_8.out).2.1); rintro e w156 ⟨v147, rfl, ho0, hb⟩; refine ⟨_, rfl, ?_⟩; have n0_ := a9_ (Kd.R_below (rp9 HO_8.out) hb); have n1_ := a9_ (Kd.R_below (rp9 HO_9.out) hb); have n2_ := a9_ (Kd.R_below (rp9 HO_10.out) hb); have n3_ := a9_ (Kd.R_below (rp9 HO_11.out) hb); have n4_ := a9_ (Kd.R_below (rp9 HO_12.out) hb); have n5_ := a9_ (Kd.R_below (rp9 HO_103000.out) hb); have n6_ := a9_ (Kd.S_below (sp9 HO_103006.out) hb); have n7_ := a9_ (Kd.R_lower ho0 (below_size (bp9 HB.out))); have n8_ := a9_ (blk_below (kp9 BK101.out) hb); have n9_ := a9_ (blk_below (kp9 BK102.out) hb); have n10_ := a9_ (below_step (bp9 HB.out) hb); clear HO_8; clear HO_9; clear HO_10; clear HO_11; clear HO_12; clear HO_103000; clear HO_103006; clear BK101; clear BK102; clear HB; have HO_8 := n0_; have HO_9 := n1_; have HO_10 := n2_; have HO_11 := n3_; have HO_12 := n4_; have HO_103000 := n5_; have HO_103006 := n6_; have HO148 := n7_; have BK101 := n8_; have BK102 := n9_; have HB := n10_; clear n0_ n1_ n2_ n3_ n4_ n5_ n6_ n7_ n8_ n9_ n10_; (try clear hb); (try clear ho0); obtain ⟨Ao157, co157, eo157⟩ := Kd.R_slice HO148.out; subst eo157; have hnb158 := NB102_101.out; have hnc158 := NB101_102.out; obtain ⟨hcz159_0, hcz159_1, hcz159_2, hcz159_3, hcz159_4, hcz159_5, hcz159_6, hfz159_0, hfz159_1, hfz159_2, hfz159_3, hfz159_4, hfz159_5, hfz159_6⟩ := cz7 BK102.out; obtain ⟨Ao160, co160, eo160⟩ := Kd.R_slice HO_9.out; subst eo160) | ((with_reducible refine gate_callee (f := 119) rfl ?_); refine goesL9 (some 172) rfl rfl Try.func119 (by kernel_rfl) rfl #[.int .i64 x5_1, .slice Ao160 x9_3.length co160] rfl ?_; (with_reducible refine (cupolaref05_Made.calls k3 x5_1 _ _ x9_3 t149 _ ?side1 ?side2 A151.out).mono ?_); (case side1 => refine (Kd.R_reads' (e := 46) (base := w.heap.size) (ok := fun k_ => (some k_ ≠ (.slice Ao155 x8_3.length co155 : Value).ownBlock ∧ (some k_ ≠ (u10 : Value).ownBlock ∧ (some k_ ≠ (u11 : Value).ownBlock ∧ some k_ ≠ (u12 : Value).ownBlock)))) (n := x9_3.length) (c := co160) ?_).2.2; exact (ty9 HO_9.out BK102.out)); (case side2 => exact (Kd.R_reads' HO_9.out).2.1); rintro e w161 ⟨v150, rfl, ho0, hb⟩; refine ⟨_, rfl, ?_⟩; have n0_ := a9_ (Kd.R_below (ty9 HO_8.out BK102.out) hb); have n1_ := a9_ (Kd.R_below (ty9 HO_9.out BK102.out) hb); have n2_ := a9_ (Kd.R_below (ty9 HO_10.out BK102.out) hb); have n3_ := a9_ (Kd.R_below (ty9 HO_11.out BK102.out) hb); have n4_ := a9_ (Kd.R_below (ty9 HO_12.out BK102.out) hb); have n5_ := a9_ (Kd.R_below (ty9 HO_103000.out BK102.out) hb); have n6_ := a9_ (Kd.S_below (tz9 HO_103006.out BK102.out) hb); have n7_ := a9_ (Kd.R_elder' (ty9 HO148.out BK102.out) (Kd.R_base ho0) hb); have n8_ := a9_ (Kd.R_lower (Kd.R_new' ho0 (Kd.R_lt (ty9 HO148.out BK102.out))) (below_size (bp9 HB.out))); have n9_ := a9_ (blk_below (kf9 BK101.out) hb); have n10_ := a9_ (blk_below (g := gb102) (o := .cells #[u103000, .slice Ao157 t146.length co157, .slice none 0 0, .slice none 0 0, .slice none 0 0, .slice none 0 0, u103006] 76 (0, 0)) (kb9 BK102.out) hb); have n11_ := a9_ (below_step (bp9 HB.out) hb); clear HO_8; clear HO_9; clear HO_10; clear HO_11; clear HO_12; clear HO_103000; clear HO_103006; clear HO148; clear BK101; clear BK102; clear HB; have HO_8 := n0_; have HO_9 := n1_; have HO_10 := n2_; have HO_11 := n3_; have HO_12 := n4_; have HO_103000 := n5_; have HO_103006 := n6_; have HO148 := n7_; have HO151 := n8_; have BK101 := n9_; have BK102 := n10_; have HB := n11_; clear n0_ n1_ n2_ n3_ n4_ n5_ n6_ n7_ n8_ n9_ n10_ n11_; (try clear hb); (try clear ho0); obtain ⟨Ao162, co162, eo162⟩ := Kd.R_slice HO151.out; subst eo162; obtain ⟨hcz163_0, hcz163_1, hcz163_2, hcz163_3, hcz163_4, hcz163_5, hcz163_6, hfz163_0, hfz163_1, hfz163_2, hfz163_3, hfz163_4, hfz163_5, hfz163_6⟩ := cz7 BK102.out; obtain ⟨Ao164, co164, eo164⟩ := Kd.R_slice HO_10.out; subst eo164) | ((with_reducible refine gate_callee (f := 119) rfl ?_); refine goesL9 (some 176) rfl rfl Try.func119 (by kernel_rfl) rfl #[.int .i64 x5_1, .slice Ao164 x10_3.length co164] rfl ?_; (with_reducible refine (cupolaref05_Made.calls k3 x5_1 _ _ x10_3 t152 _ ?side1 ?side2 A152.out).mono ?_); (case side1 => refine (Kd.R_reads' (e := 46) (base := w.heap.size) (ok := fun k_ => (some k_ ≠ (.slice Ao155 x8_3.length co155 : Value).ownBlock ∧ (some k_ ≠ (.slice Ao160 x9_3.length co160 : Value).ownBlock ∧ (some k_ ≠ (u11 : Value).ownBlock ∧ some k_ ≠ (u12 : Value).ownBlock)))) (n := x10_3.length) (c := co164) ?_).2.2; exact (ty9 HO_10.out BK102.out)); (case side2 => exact (Kd.R_reads' HO_10.out).2.1); rintro e w165 ⟨v153, rfl, ho0, hb⟩; refine ⟨_, rfl, ?_⟩; have n0_ := a9_ (Kd.R_below (ty9 HO_8.out BK102.out) hb); have n1_ := a9_ (Kd.R_below (ty9 HO_9.out BK102.out) hb); have n2_ := a9_ (Kd.R_below (ty9 HO_10.out BK102.out) hb); have n3_ := a9_ (Kd.R_below (ty9 HO_11.out BK102.out) hb); have n4_ := a9_ (Kd.R_below (ty9 HO_12.out BK102.out) hb); have n5_ := a9_ (Kd.R_below (ty9 HO_103000.out BK102.out) hb); have n6_ := a9_ (Kd.S_below (tz9 HO_103006.out BK102.out) hb); have n7_ := a9_ (Kd.R_elder' (ty9 HO148.out BK102.out) (Kd.R_base ho0) hb); have n8_ := a9_ (Kd.R_elder' (ty9 HO151.out BK102.out) (Kd.R_base ho0) hb); have n9_ := a9_ (Kd.R_lower (Kd.R_new' (Kd.R_new' ho0 (Kd.R_lt (ty9 HO148.out BK102.out))) (Kd.R_lt (ty9 HO151.out BK102.out))) (below_size (bp9 HB.out))); have n10_ := a9_ (blk_below (kf9 BK101.out) hb); have n11_ := a9_ (blk_below (g := gb102) (o := .cells #[u103000, .slice Ao157 t146.length co157, .slice Ao162 t149.length co162, .slice none 0 0, .slice none 0 0, .slice none 0 0, u103006] 76 (0, 0)) (kb9 BK102.out) hb); have n12_ := a9_ (below_step (bp9 HB.out) hb); clear HO_8; clear HO_9; clear HO_10; clear HO_11; clear HO_12; clear HO_103000; clear HO_103006; clear HO148; clear HO151; clear BK101; clear BK102; clear HB; have HO_8 := n0_; have HO_9 := n1_; have HO_10 := n2_; have HO_11 := n3_; have HO_12 := n4_; have HO_103000 := n5_; have HO_103006 := n6_; have HO148 := n7_; have HO151 := n8_; have HO154 := n9_; have BK101 := n10_; have BK102 := n11_; have HB := n12_; clear n0_ n1_ n2_ n3_ n4_ n5_ n6_ n7_ n8_ n9_ n10_ n11_ n12_; (try clear hb); (try clear ho0); obtain ⟨Ao166, co166, eo166⟩ := Kd.R_slice HO154.out; subst eo166; obtain ⟨hcz167_0, hcz167_1, hcz167_2, hcz167_3, hcz167_4, hcz167_5, hcz167_6, hfz167_0, hfz167_1, hfz167_2, hfz167_3, hfz167_4, hfz167_5, hfz167_6⟩ := cz7 BK102.out; obtain ⟨Ao168, co168, eo168⟩ := Kd.R_slice HO_11.out; subst eo168) | ((with_reducible refine gate_callee (f := 119) rfl ?_); refine goesL9 (some 180) rfl rfl Try.func119 (by kernel_rfl) rfl #[.int .i64 x5_1, .slice Ao168 x11_3.length co168] rfl ?_; (with_reducible refine (cupolaref05_Made.calls k3 x5_1 _ _ x11_3 t155 _ ?side1 ?side2 A153.out).mono ?_); (case side1 => refine (Kd.R_reads' (e := 46) (base := w.heap.size) (ok := fun k_ => (some k_ ≠ (.slice Ao155 x8_3.length co155 : Value).ownBlock ∧ (some k_ ≠ (.slice Ao160 x9_3.length co160 : Value).ownBlock ∧ (some k_ ≠ (.slice Ao164 x10_3.length co164 : Value).ownBlock ∧ some k_ ≠ (u12 : Value).ownBlock)))) (n := x11_3.length) (c := co168) ?_).2.2; exact (ty9 HO_11.out BK102.out)); (case side2 => exact (Kd.R_reads' HO_11.out).2.1); rintro e w169 ⟨v156, rfl, ho0, hb⟩; refine ⟨_, rfl, ?_⟩; have n0_ := a9_ (Kd.R_below (ty9 HO_8.out BK102.out) hb); have n1_ := a9_ (Kd.R_below (ty9 HO_9.out BK102.out) hb); have n2_ := a9_ (Kd.R_below (ty9 HO_10.out BK102.out) hb); have n3_ := a9_ (Kd.R_below (ty9 HO_11.out BK102.out) hb); have n4_ := a9_ (Kd.R_below (ty9 HO_12.out BK102.out) hb); have n5_ := a9_ (Kd.R_below (ty9 HO_103000.out BK102.out) hb); have n6_ := a9_ (Kd.S_below (tz9 HO_103006.out BK102.out) hb); have n7_ := a9_ (Kd.R_elder' (ty9 HO148.out BK102.out) (Kd.R_base ho0) hb); have n8_ := a9_ (Kd.R_elder' (ty9 HO151.out BK102.out) (Kd.R_base ho0) hb); have n9_ := a9_ (Kd.R_elder' (ty9 HO154.out BK102.out) (Kd.R_base ho0) hb); have n10_ := a9_ (Kd.R_lower (Kd.R_new' (Kd.R_new' (Kd.R_new' ho0 (Kd.R_lt (ty9 HO148.out BK102.out))) (Kd.R_lt (ty9 HO151.out BK102.out))) (Kd.R_lt (ty9 HO154.out BK102.out))) (below_size (bp9 HB.out))); have n11_ := a9_ (blk_below (kf9 BK101.out) hb); have n12_ := a9_ (blk_below (g := gb102) (o := .cells #[u103000, .slice Ao157 t146.length co157, .slice Ao162 t149.length co162, .slice Ao166 t152.length co166, .slice none 0 0, .slice none 0 0, u103006] 76 (0, 0)) (kb9 BK102.out) hb); have n13_ := a9_ (below_step (bp9 HB.out) hb); clear HO_8; clear HO_9; clear HO_10; clear HO_11; clear HO_12; clear HO_103000; clear HO_103006; clear HO148; clear HO151; clear HO154; clear BK101; clear BK102; clear HB; have HO_8 := n0_; have HO_9 := n1_; have HO_10 := n2_; have HO_11 := n3_; have HO_12 := n4_; have HO_103000 := n5_; have HO_103006 := n6_; have HO148 := n7_; have HO151 := n8_; have HO154 := n9_; have HO157 := n10_; have BK101 := n11_; have BK102 := n12_; have HB := n13_; clear n0_ n1_ n2_ n3_ n4_ n5_ n6_ n7_ n8_ n9_ n10_ n11_ n12_ n13_; (try clear hb); (try clear ho0); obtain ⟨Ao170, co170, eo170⟩ := Kd.R_slice HO157.out; subst eo170; obtain ⟨hcz171_0, hcz171_1, hcz171_2, hcz171_3, hcz171_4, hcz171_5, hcz171_6, hfz171_0, hfz171_1, hfz171_2, hfz171_3, hfz171_4, hfz171_5, hfz171_6⟩ := cz7 BK102.out; obtain ⟨Ao172, co172, eo172⟩ := Kd.R_slice HO_12.out; subst eo172) | ((with_reducible refine gate_callee (f := 119) rfl ?_); refine goesL9 (some 184) rfl rfl Try.func119 (by kernel_rfl) rfl #[.int .i64 x5_1, .slice Ao172 x12_3.length co172] rfl ?_; (with_reducible refine (cupolaref05_Made.calls k3 x5_1 _ _ x12_3 t158 _ ?side1 ?side2 A154.out).mono ?_); (case side1 => refine (Kd.R_reads' (e := 46) (base := w.heap.size) (ok := fun k_ => (some k_ ≠ (.slice Ao155 x8_3.length co155 : Value).ownBlock ∧ (some k_ ≠ (.slice Ao160 x9_3.length co160 : Value).ownBlock ∧ (some k_ ≠ (.slice Ao164 x10_3.length co164 : Value).ownBlock ∧ some k_ ≠ (.slice Ao168 x11_3.length co168 : Value).ownBlock)))) (n := x12_3.length) (c := co172) ?_).2.2; exact (ty9 HO_12.out BK102.out)); (case side2 => exact (Kd.R_reads' HO_12.out).2.1); rintro e w173 ⟨v159, rfl, ho0, hb⟩; refine ⟨_, rfl, ?_⟩; have n0_ := a9_ (Kd.R_below (ty9 HO_8.out BK102.out) hb); have n1_ := a9_ (Kd.R_below (ty9 HO_9.out BK102.out) hb); have n2_ := a9_ (Kd.R_below (ty9 HO_10.out BK102.out) hb); have n3_ := a9_ (Kd.R_below (ty9 HO_11.out BK102.out) hb); have n4_ := a9_ (Kd.R_below (ty9 HO_12.out BK102.out) hb); have n5_ := a9_ (Kd.R_below (ty9 HO_103000.out BK102.out) hb); have n6_ := a9_ (Kd.S_below (tz9 HO_103006.out BK102.out) hb); have n7_ := a9_ (Kd.R_elder' (ty9 HO148.out BK102.out) (Kd.R_base ho0) hb); have n8_ := a9_ (Kd.R_elder' (ty9 HO151.out BK102.out) (Kd.R_base ho0) hb); have n9_ := a9_ (Kd.R_elder' (ty9 HO154.out BK102.out) (Kd.R_base ho0) hb); have n10_ := a9_ (Kd.R_elder' (ty9 HO157.out BK102.out) (Kd.R_base ho0) hb); have n11_ := a9_ (Kd.R_lower (Kd.R_new' (Kd.R_new' (Kd.R_new' (Kd.R_new' ho0 (Kd.R_lt (ty9 HO148.out BK102.out))) (Kd.R_lt (ty9 HO151.out BK102.out))) (Kd.R_lt (ty9 HO154.out BK102.out))) (Kd.R_lt (ty9 HO157.out BK102.out))) (below_size (bp9 HB.out))); have n12_ := a9_ (blk_below (kf9 BK101.out) hb); have n13_ := a9_ (blk_below (g := gb102) (o := .cells #[u103000, .slice Ao157 t146.length co157, .slice Ao162 t149.length co162, .slice Ao166 t152.length co166, .slice Ao170 t155.length co170, .slice none 0 0, u103006] 76 (0, 0)) (kb9 BK102.out) hb); have n14_ := a9_ (below_step (bp9 HB.out) hb); clear HO_8; clear HO_9; clear HO_10; clear HO_11; clear HO_12; clear HO_103000; clear HO_103006; clear HO148; clear HO151; clear HO154; clear HO157; clear BK101; clear BK102; clear HB; have HO_8 := n0_; have HO_9 := n1_; have HO_10 := n2_; have HO_11 := n3_; have HO_12 := n4_; have HO_103000 := n5_; have HO_103006 := n6_; have HO148 := n7_; have HO151 := n8_; have HO154 := n9_; have HO157 := n10_; have HO160 := n11_; have BK101 := n12_; have BK102 := n13_; have HB := n14_; clear n0_ n1_ n2_ n3_ n4_ n5_ n6_ n7_ n8_ n9_ n10_ n11_ n12_ n13_ n14_; (try clear hb); (try clear ho0); obtain ⟨Ao174, co174, eo174⟩ := Kd.R_slice HO160.out; subst eo174; obtain ⟨hcz175_0, hcz175_1, hcz175_2, hcz175_3, hcz175_4, hcz175_5, hcz175_6, hfz175_0, hfz175_1, hfz175_2, hfz175_3, hfz175_4, hfz175_5, hfz175_6⟩ := cz7 BK102.out; obtain ⟨Ao176, co176, eo176⟩ := Kd.R_slice HO_103000.out; subst eo176; obtain ⟨hcz177_0, hcz177_1, hcz177_2, hcz177_3, hcz177_4, hcz177_5, hcz177_6, hfz177_0, hfz177_1, hfz177_2, hfz177_3, hfz177_4, hfz177_5, hfz177_6⟩ := cz7 BK101.out; obtain ⟨Ao178, co178, eo178⟩ := Kd.S_slice HO_103006.out; subst eo178))
              refine bodyPost_ret (results_ct rfl _ _ gb101 76 #[.slice Ao176 x103000_3.length co176, .slice Ao157 t146.length co157, .slice Ao162 t149.length co162, .slice Ao166 t152.length co166, .slice Ao170 t155.length co170, .slice Ao174 t158.length co174, .slice Ao178 x103006_3.length co178] (0, 0) _ rfl (kb9 BK101.out) Try.underlying76 rfl (by kernel_rfl)) rfl ?_
              exact ⟨_, _, _, _, _, _, _, by first | rfl | (simp [errW_none, errW_some] <;> rfl) | (simp [*, errW_none, errW_some] <;> rfl), rp9 (Kd.R_mono (Kd.R_far (p := ⟨gb101, 6, none⟩) (Kd.R_far (p := ⟨gb101, 5, none⟩) (Kd.R_far (p := ⟨gb101, 4, none⟩) (Kd.R_far (p := ⟨gb101, 3, none⟩) (Kd.R_far (p := ⟨gb101, 2, none⟩) (Kd.R_far (p := ⟨gb101, 1, none⟩) (Kd.R_far (p := ⟨gb101, 0, none⟩) (Kd.R_far (p := ⟨gb102, 5, none⟩) (Kd.R_types (Kd.R_types HO_103000.out BK102.out (by decide)) BK101.out (by decide)) (fun _ hk => hk.1.2) (.slice Ao174 t158.length co174)) (fun _ hk => hk.2) (.slice Ao176 x103000_3.length co176)) (fun _ hk => hk.2) (.slice Ao157 t146.length co157)) (fun _ hk => hk.2) (.slice Ao162 t149.length co162)) (fun _ hk => hk.2) (.slice Ao166 t152.length co166)) (fun _ hk => hk.2) (.slice Ao170 t155.length co170)) (fun _ hk => hk.2) (.slice Ao174 t158.length co174)) (fun _ hk => hk.2) (.slice Ao178 x103006_3.length co178)) (fun _ hk => trivial)), rp9 (Kd.R_mono (Kd.R_far (p := ⟨gb101, 6, none⟩) (Kd.R_far (p := ⟨gb101, 5, none⟩) (Kd.R_far (p := ⟨gb101, 4, none⟩) (Kd.R_far (p := ⟨gb101, 3, none⟩) (Kd.R_far (p := ⟨gb101, 2, none⟩) (Kd.R_far (p := ⟨gb101, 1, none⟩) (Kd.R_far (p := ⟨gb101, 0, none⟩) (Kd.R_far (p := ⟨gb102, 5, none⟩) (Kd.R_types (Kd.R_types HO148.out BK102.out (by decide)) BK101.out (by decide)) (fun _ hk => hk.1.2) (.slice Ao174 t158.length co174)) (fun _ hk => hk.2) (.slice Ao176 x103000_3.length co176)) (fun _ hk => hk.2) (.slice Ao157 t146.length co157)) (fun _ hk => hk.2) (.slice Ao162 t149.length co162)) (fun _ hk => hk.2) (.slice Ao166 t152.length co166)) (fun _ hk => hk.2) (.slice Ao170 t155.length co170)) (fun _ hk => hk.2) (.slice Ao174 t158.length co174)) (fun _ hk => hk.2) (.slice Ao178 x103006_3.length co178)) (fun _ hk => ⟨hk.1.1.1.1.1.2, ⟨hk.1.1.1.1.2, ⟨hk.1.1.1.2, hk.1.1.2⟩⟩⟩)), rp9 (Kd.R_mono (Kd.R_far (p := ⟨gb101, 6, none⟩) (Kd.R_far (p := ⟨gb101, 5, none⟩) (Kd.R_far (p := ⟨gb101, 4, none⟩) (Kd.R_far (p := ⟨gb101, 3, none⟩) (Kd.R_far (p := ⟨gb101, 2, none⟩) (Kd.R_far (p := ⟨gb101, 1, none⟩) (Kd.R_far (p := ⟨gb101, 0, none⟩) (Kd.R_far (p := ⟨gb102, 5, none⟩) (Kd.R_types (Kd.R_types HO151.out BK102.out (by decide)) BK101.out (by decide)) (fun _ hk => hk.1.2) (.slice Ao174 t158.length co174)) (fun _ hk => hk.2) (.slice Ao176 x103000_3.length co176)) (fun _ hk => hk.2) (.slice Ao157 t146.length co157)) (fun _ hk => hk.2) (.slice Ao162 t149.length co162)) (fun _ hk => hk.2) (.slice Ao166 t152.length co166)) (fun _ hk => hk.2) (.slice Ao170 t155.length co170)) (fun _ hk => hk.2) (.slice Ao174 t158.length co174)) (fun _ hk => hk.2) (.slice Ao178 x103006_3.length co178)) (fun _ hk => ⟨hk.1.1.1.1.1.2, ⟨hk.1.1.1.1.2, ⟨hk.1.1.1.2, hk.1.1.2⟩⟩⟩)), rp9 (Kd.R_mono (Kd.R_far (p := ⟨gb101, 6, none⟩) (Kd.R_far (p := ⟨gb101, 5, none⟩) (Kd.R_far (p := ⟨gb101, 4, none⟩) (Kd.R_far (p := ⟨gb101, 3, none⟩) (Kd.R_far (p := ⟨gb101, 2, none⟩) (Kd.R_far (p := ⟨gb101, 1, none⟩) (Kd.R_far (p := ⟨gb101, 0, none⟩) (Kd.R_far (p := ⟨gb102, 5, none⟩) (Kd.R_types (Kd.R_types HO154.out BK102.out (by decide)) BK101.out (by decide)) (fun _ hk => hk.1.2) (.slice Ao174 t158.length co174)) (fun _ hk => hk.2) (.slice Ao176 x103000_3.length co176)) (fun _ hk => hk.2) (.slice Ao157 t146.length co157)) (fun _ hk => hk.2) (.slice Ao162 t149.length co162)) (fun _ hk => hk.2) (.slice Ao166 t152.length co166)) (fun _ hk => hk.2) (.slice Ao170 t155.length co170)) (fun _ hk => hk.2) (.slice Ao174 t158.length co174)) (fun _ hk => hk.2) (.slice Ao178 x103006_3.length co178)) (fun _ hk => ⟨hk.1.1.1.1.1.2, ⟨hk.1.1.1.1.2, ⟨hk.1.1.1.2, hk.1.1.2⟩⟩⟩)), rp9 (Kd.R_mono (Kd.R_far (p := ⟨gb101, 6, none⟩) (Kd.R_far (p := ⟨gb101, 5, none⟩) (Kd.R_far (p := ⟨gb101, 4, none⟩) (Kd.R_far (p := ⟨gb101, 3, none⟩) (Kd.R_far (p := ⟨gb101, 2, none⟩) (Kd.R_far (p := ⟨gb101, 1, none⟩) (Kd.R_far (p := ⟨gb101, 0, none⟩) (Kd.R_far (p := ⟨gb102, 5, none⟩) (Kd.R_types (Kd.R_types HO157.out BK102.out (by decide)) BK101.out (by decide)) (fun _ hk => hk.1.2) (.slice Ao174 t158.length co174)) (fun _ hk => hk.2) (.slice Ao176 x103000_3.length co176)) (fun _ hk => hk.2) (.slice Ao157 t146.length co157)) (fun _ hk => hk.2) (.slice Ao162 t149.length co162)) (fun _ hk => hk.2) (.slice Ao166 t152.length co166)) (fun _ hk => hk.2) (.slice Ao170 t155.length co170)) (fun _ hk => hk.2) (.slice Ao174 t158.length co174)) (fun _ hk => hk.2) (.slice Ao178 x103006_3.length co178)) (fun _ hk => ⟨hk.1.1.1.1.1.2, ⟨hk.1.1.1.1.2, ⟨hk.1.1.1.2, hk.1.1.2⟩⟩⟩)), rp9 (Kd.R_mono (Kd.R_far (p := ⟨gb101, 6, none⟩) (Kd.R_far (p := ⟨gb101, 5, none⟩) (Kd.R_far (p := ⟨gb101, 4, none⟩) (Kd.R_far (p := ⟨gb101, 3, none⟩) (Kd.R_far (p := ⟨gb101, 2, none⟩) (Kd.R_far (p := ⟨gb101, 1, none⟩) (Kd.R_far (p := ⟨gb101, 0, none⟩) (Kd.R_far (p := ⟨gb102, 5, none⟩) (Kd.R_types (Kd.R_types HO160.out BK102.out (by decide)) BK101.out (by decide)) (fun _ hk => hk.1.2) (.slice Ao174 t158.length co174)) (fun _ hk => hk.2) (.slice Ao176 x103000_3.length co176)) (fun _ hk => hk.2) (.slice Ao157 t146.length co157)) (fun _ hk => hk.2) (.slice Ao162 t149.length co162)) (fun _ hk => hk.2) (.slice Ao166 t152.length co166)) (fun _ hk => hk.2) (.slice Ao170 t155.length co170)) (fun _ hk => hk.2) (.slice Ao174 t158.length co174)) (fun _ hk => hk.2) (.slice Ao178 x103006_3.length co178)) (fun _ hk => ⟨hk.1.1.1.1.1.2, ⟨hk.1.1.1.1.2, ⟨hk.1.1.1.2, hk.1.1.2⟩⟩⟩)), sp9 (Kd.S_mono (Kd.S_far (p := ⟨gb101, 6, none⟩) (Kd.S_far (p := ⟨gb101, 5, none⟩) (Kd.S_far (p := ⟨gb101, 4, none⟩) (Kd.S_far (p := ⟨gb101, 3, none⟩) (Kd.S_far (p := ⟨gb101, 2, none⟩) (Kd.S_far (p := ⟨gb101, 1, none⟩) (Kd.S_far (p := ⟨gb101, 0, none⟩) (Kd.S_far (p := ⟨gb102, 5, none⟩) (Kd.S_types (Kd.S_types HO_103006.out BK102.out (by decide)) BK101.out (by decide)) (fun _ hk => hk.1.2) (.slice Ao174 t158.length co174)) (fun _ hk => hk.2) (.slice Ao176 x103000_3.length co176)) (fun _ hk => hk.2) (.slice Ao157 t146.length co157)) (fun _ hk => hk.2) (.slice Ao162 t149.length co162)) (fun _ hk => hk.2) (.slice Ao166 t152.length co166)) (fun _ hk => hk.2) (.slice Ao170 t155.length co170)) (fun _ hk => hk.2) (.slice Ao174 t158.length co174)) (fun _ hk => hk.2) (.slice Ao178 x103006_3.length co178)) (fun _ hk => trivial)), bp9 HB.out⟩
           exact part2
       exact part1
  exact part0
end Go.Proofs.Ytbamkkdikeedoaa.G
