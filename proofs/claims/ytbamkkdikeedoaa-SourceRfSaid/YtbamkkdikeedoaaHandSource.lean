/- By hand: source.All (its closure: HandTell). -/
import Derived.Test.YtbamkkdikeedoaaGSource
import Derived.Test.YtbamkkdikeedoaaHandTell
namespace Go.Proofs.Ytbamkkdikeedoaa.G
open Go.RowKit Go.Proofs.YtbamkkdikeedoaaW.PrintWords Go.Proofs.YtbamkkdikeedoaaW.PrintLast Go.Proofs.YtbamkkdikeedoaaW.PrintMore
attribute [local go_sem] max2_int min2_int max_two min_two max_three min_three max_four min_four   -- for this text's walks alone
set_option linter.unusedVariables false
set_option linter.unusedSimpArgs false

/-- As many ways as there are: none is told if they come to be more than 20000. -/
def manyT : List (List Int) → Int → Option Int
  | [], m => some m
  | l :: ls, m => if m * l.length > 20000 then none else manyT ls (m * l.length)
/-- All ways to read, out of whence each may read. -/
def allT (c : List (List Int)) : List (List Int) := match manyT c 1 with
  | none => []
  | some m => if m = 0 then [] else tellT c []
def source_All.f (k : Nat) (l0_0 : List (S26)) (l0_1 : List Int) (l0_2 : List Int) (l0_3 : List Int) (l0_4 : List Int) (l0_5 : List Int) (l0_6 : List (List Int)) (l1 : List Int) : Option (List (List Int)) := (source_choices.f k l0_0 l0_1 l0_2 l0_3 l0_4 l0_5 l0_6 l1).bind fun c => if c.length < 1000000 ∧ ∀ l ∈ c, l.length < 1000000 then some (allT c) else none
theorem source_All.mono : ∀ a0 a1 a2 a3 a4 a5 a6 a7 k, LeO (source_All.f k a0 a1 a2 a3 a4 a5 a6 a7) (source_All.f (k + 1) a0 a1 a2 a3 a4 a5 a6 a7) := by
  intro a0 a1 a2 a3 a4 a5 a6 a7 k
  unfold source_All.f
  exact LeO.bind (source_choices.mono _ _ _ _ _ _ _ _ _) (fun _ => LeO.refl _)
theorem tellT_length (c : List (List Int)) : ∀ (a b : List Int), (tellT c a).length = (tellT c b).length := by
  induction c with
  | nil => intro a b; rfl
  | cons l ls ih =>
    intro a b
    simp only [tellT, List.length_flatMap]
    congr 1
    exact List.map_congr_left fun n _ => ih _ _
theorem run_store_func {P : Program} {w : World} {a : Addr} {m : Mode} (f : Fn) (x y : Array Value) : (store a (.func f x y) m).run P w = stored P w a (.func f x y) m := run_store P w a _ m rfl
attribute [local go_sem] run_store_func
theorem sum_const (l : List Int) (n : Nat) : (l.map fun _ => n).sum = l.length * n := by
  induction l with
  | nil => simp
  | cons x l ih => rw [List.map_cons, List.sum_cons, ih, List.length_cons, Nat.add_mul, Nat.one_mul, Nat.add_comm]
theorem manyT_tell (c : List (List Int)) : ∀ (m r : Int), manyT c m = some r → ∀ a : List Int, r = m * (tellT c a).length ∧ (0 ≤ m → m ≤ 20000 → r ≤ 20000) := by
  induction c with
  | nil => intro m r h a; simp only [manyT, Option.some.injEq] at h; subst h; simp [tellT]
  | cons l ls ih =>
    intro m r h a
    simp only [manyT] at h
    by_cases hm : m * l.length > 20000
    · rw [if_pos hm] at h; cases h
    · rw [if_neg hm] at h
      obtain ⟨h1, h2⟩ := ih _ _ h a
      refine ⟨?_, fun h3 h4 => h2 (Int.mul_nonneg h3 (by omega)) (by omega)⟩
      have e : (tellT (l :: ls) a).length = l.length * (tellT ls a).length := by
        simp only [tellT, List.length_flatMap]
        rw [List.map_congr_left (fun n _ => tellT_length ls (a ++ [n]) a)]
        exact sum_const _ _
      rw [h1, e, Int.natCast_mul, Int.mul_assoc]

set_option maxHeartbeats 8000000 in
set_option maxRecDepth 100000 in
theorem source_All.calls (k : Nat) (A0_0 : Option Addr) (c0_0 : Nat) (l0_0 : List (S26)) (A0_1 : Option Addr) (c0_1 : Nat) (l0_1 : List Int) (A0_2 : Option Addr) (c0_2 : Nat) (l0_2 : List Int) (A0_3 : Option Addr) (c0_3 : Nat) (l0_3 : List Int) (A0_4 : Option Addr) (c0_4 : Nat) (l0_4 : List Int) (A0_5 : Option Addr) (c0_5 : Nat) (l0_5 : List Int) (A0_6 : Option Addr) (c0_6 : Nat) (l0_6 : List (List Int)) (A1 : Option Addr) (c1 : Nat) (l1 : List Int) (r : List (List Int)) (w : World) (hr0_0 : Kd.C k26 w A0_0 l0_0.length l0_0) (hc0_0 : l0_0.length ≤ c0_0) (hr0_1 : Kd.C (Kd.int .u32) w A0_1 l0_1.length l0_1) (hc0_1 : l0_1.length ≤ c0_1) (hr0_2 : Kd.C (Kd.int .u32) w A0_2 l0_2.length l0_2) (hc0_2 : l0_2.length ≤ c0_2) (hr0_3 : Kd.C (Kd.int .u32) w A0_3 l0_3.length l0_3) (hc0_3 : l0_3.length ≤ c0_3) (hr0_4 : Kd.C (Kd.int .u32) w A0_4 l0_4.length l0_4) (hc0_4 : l0_4.length ≤ c0_4) (hr0_5 : Kd.C (Kd.int .u32) w A0_5 l0_5.length l0_5) (hc0_5 : l0_5.length ≤ c0_5) (hr0_6 : Kd.C (Kd.slice 2 (Kd.int .i64)) w A0_6 l0_6.length l0_6) (hc0_6 : l0_6.length ≤ c0_6) (hr1 : Kd.C (Kd.int .i64) w A1 l1.length l1) (hc1 : l1.length ≤ c1) (h : source_All.f k l0_0 l0_1 l0_2 l0_3 l0_4 l0_5 l0_6 l1 = some r) :
    Calls Try.prog 33 #[.agg #[.slice A0_0 l0_0.length c0_0, .slice A0_1 l0_1.length c0_1, .slice A0_2 l0_2.length c0_2, .slice A0_3 l0_3.length c0_3, .slice A0_4 l0_4.length c0_4, .slice A0_5 l0_5.length c0_5, .slice A0_6 l0_6.length c0_6], .slice A1 l1.length c1] w fun e w' => ∃ v0_ : Value, e = .returned (v0_) ∧ Kd.S (Kd.slice 3 (Kd.int .i64)) 33 w' w.heap.size (fun _ => True) v0_ r ∧ Below w.heap.size w w' := by
  have hu31 := Try.underlying31
  have HR0_0 := Aside0.mk hr0_0
  have HC0_0 := Aside0.mk hc0_0
  clear hr0_0 hc0_0
  have HR0_1 := Aside0.mk hr0_1
  have HC0_1 := Aside0.mk hc0_1
  clear hr0_1 hc0_1
  have HR0_2 := Aside0.mk hr0_2
  have HC0_2 := Aside0.mk hc0_2
  clear hr0_2 hc0_2
  have HR0_3 := Aside0.mk hr0_3
  have HC0_3 := Aside0.mk hc0_3
  clear hr0_3 hc0_3
  have HR0_4 := Aside0.mk hr0_4
  have HC0_4 := Aside0.mk hc0_4
  clear hr0_4 hc0_4
  have HR0_5 := Aside0.mk hr0_5
  have HC0_5 := Aside0.mk hc0_5
  clear hr0_5 hc0_5
  have HR0_6 := Aside0.mk hr0_6
  have HC0_6 := Aside0.mk hc0_6
  clear hr0_6 hc0_6
  have HR1 := Aside0.mk hr1
  have HC1 := Aside0.mk hc1
  clear hr1 hc1
  have HB := Aside0.mk (Below.refl w.heap.size w)
  replace h := Option.bind_eq_some_iff.mp h
  obtain ⟨c, A40, H⟩ := h
  have A4 := Aside0.mk A40
  clear A40
  by_cases hcm : c.length < 1000000 ∧ ∀ l ∈ c, l.length < 1000000
  rotate_left
  · rw [if_neg hcm] at H; cases H
  rw [if_pos hcm] at H
  obtain rfl := Option.some.inj H
  clear H
  go_enter Try.func33, Try.ntmps33
  go_wp2_with (first | ((with_reducible refine gate_dst (N := 2) rfl ?_); refine box_event ?hg (N := 2) ?hd (cs := #[.slice A0_0 l0_0.length c0_0, .slice A0_1 l0_1.length c0_1, .slice A0_2 l0_2.length c0_2, .slice A0_3 l0_3.length c0_3, .slice A0_4 l0_4.length c0_4, .slice A0_5 l0_5.length c0_5, .slice A0_6 l0_6.length c0_6]) (t := 31) ?hr ?_; (case hd => rfl); (case hg => rfl); (case hr => first | (go_simp; done) | (go_simp; rfl)); intro gb101 hg w6 hbox hb; have n0_ := Aside0.mk (below_step (by repeat (first | (with_reducible first | exact HB.out | apply below_alloc | apply pw_below_drewN | apply below_drew1) | exact HB.out)) hb); have n1_ := Aside0.mk (hbox); have n2_ := Aside0.mk ((by rw [hg]; exact (below_size (by repeat (first | (with_reducible first | exact HB.out | apply below_alloc | apply pw_below_drewN | apply below_drew1) | exact HB.out))) : w.heap.size ≤ gb101)); have n3_ := Aside0.mk ((by rw [hg]; exact (below_size (by repeat (first | (with_reducible first | exact HB.out | apply below_alloc | apply pw_below_drewN | apply below_drew1) | exact HB.out))) : w.heap.size ≤ gb101)); clear HB; have HB := n0_; have BK101 := n1_; have GW101 := n2_; have GE101 := n3_; clear n0_ n1_ n2_ n3_; clear hb hbox hg; have hcz7_0 : w6.cell? ⟨gb101, 0, none⟩ = some (.slice A0_0 l0_0.length c0_0) := (blk_cell BK101.out 0).trans rfl; have hcz7_1 : w6.cell? ⟨gb101, 1, none⟩ = some (.slice A0_1 l0_1.length c0_1) := (blk_cell BK101.out 1).trans rfl; have hcz7_2 : w6.cell? ⟨gb101, 2, none⟩ = some (.slice A0_2 l0_2.length c0_2) := (blk_cell BK101.out 2).trans rfl; have hcz7_3 : w6.cell? ⟨gb101, 3, none⟩ = some (.slice A0_3 l0_3.length c0_3) := (blk_cell BK101.out 3).trans rfl; have hcz7_4 : w6.cell? ⟨gb101, 4, none⟩ = some (.slice A0_4 l0_4.length c0_4) := (blk_cell BK101.out 4).trans rfl; have hcz7_5 : w6.cell? ⟨gb101, 5, none⟩ = some (.slice A0_5 l0_5.length c0_5) := (blk_cell BK101.out 5).trans rfl; have hcz7_6 : w6.cell? ⟨gb101, 6, none⟩ = some (.slice A0_6 l0_6.length c0_6) := (blk_cell BK101.out 6).trans rfl; have hfz7_0 := blk_frozen BK101.out 0; have hfz7_1 := blk_frozen BK101.out 1; have hfz7_2 := blk_frozen BK101.out 2; have hfz7_3 := blk_frozen BK101.out 3; have hfz7_4 := blk_frozen BK101.out 4; have hfz7_5 := blk_frozen BK101.out 5; have hfz7_6 := blk_frozen BK101.out 6) | ((with_reducible refine gate_callee (f := 110) rfl ?_); refine goesL_ (some 13) rfl rfl Try.func110 (by kernel_rfl) rfl #[.agg #[.slice A0_0 l0_0.length c0_0, .slice A0_1 l0_1.length c0_1, .slice A0_2 l0_2.length c0_2, .slice A0_3 l0_3.length c0_3, .slice A0_4 l0_4.length c0_4, .slice A0_5 l0_5.length c0_5, .slice A0_6 l0_6.length c0_6], .slice A1 l1.length c1] rfl (by (try simp only [List.map_toArray, List.map_cons, List.map_nil]); first | done | rfl | (simp only [List.length_drop, List.length_take]; rfl)) ?_; (with_reducible refine (source_choices.calls k _ _ l0_0 _ _ l0_1 _ _ l0_2 _ _ l0_3 _ _ l0_4 _ _ l0_5 _ _ l0_6 _ _ l1 c _ ?side1 ?side2 ?side3 ?side4 ?side5 ?side6 ?side7 ?side8 ?side9 ?side10 ?side11 ?side12 ?side13 ?side14 ?side15 ?side16 A4.out).mono ?_); (case side1 => repeat (first | exact (Kd.C_below HR0_0.out HB.out) | (with_reducible refine Kd.C_alloc ?_ _) | (with_reducible refine Kd.C_drewN ?_ _) | (with_reducible refine Kd.C_drew ?_))); (case side2 => exact HC0_0.out); (case side3 => repeat (first | exact (Kd.C_below HR0_1.out HB.out) | (with_reducible refine Kd.C_alloc ?_ _) | (with_reducible refine Kd.C_drewN ?_ _) | (with_reducible refine Kd.C_drew ?_))); (case side4 => exact HC0_1.out); (case side5 => repeat (first | exact (Kd.C_below HR0_2.out HB.out) | (with_reducible refine Kd.C_alloc ?_ _) | (with_reducible refine Kd.C_drewN ?_ _) | (with_reducible refine Kd.C_drew ?_))); (case side6 => exact HC0_2.out); (case side7 => repeat (first | exact (Kd.C_below HR0_3.out HB.out) | (with_reducible refine Kd.C_alloc ?_ _) | (with_reducible refine Kd.C_drewN ?_ _) | (with_reducible refine Kd.C_drew ?_))); (case side8 => exact HC0_3.out); (case side9 => repeat (first | exact (Kd.C_below HR0_4.out HB.out) | (with_reducible refine Kd.C_alloc ?_ _) | (with_reducible refine Kd.C_drewN ?_ _) | (with_reducible refine Kd.C_drew ?_))); (case side10 => exact HC0_4.out); (case side11 => repeat (first | exact (Kd.C_below HR0_5.out HB.out) | (with_reducible refine Kd.C_alloc ?_ _) | (with_reducible refine Kd.C_drewN ?_ _) | (with_reducible refine Kd.C_drew ?_))); (case side12 => exact HC0_5.out); (case side13 => repeat (first | exact (Kd.C_below HR0_6.out HB.out) | (with_reducible refine Kd.C_alloc ?_ _) | (with_reducible refine Kd.C_drewN ?_ _) | (with_reducible refine Kd.C_drew ?_))); (case side14 => exact HC0_6.out); (case side15 => repeat (first | exact (Kd.C_below HR1.out HB.out) | (with_reducible refine Kd.C_alloc ?_ _) | (with_reducible refine Kd.C_drewN ?_ _) | (with_reducible refine Kd.C_drew ?_))); (case side16 => exact HC1.out); rintro e w8 ⟨v103, rfl, ho0, hb⟩; refine ⟨_, rfl, ?_⟩; have n0_ := Aside0.mk (Kd.S_lower ho0 (below_size (by repeat (first | (with_reducible first | exact HB.out | apply below_alloc | apply pw_below_drewN | apply below_drew1 | refine below_set ?_ GE101.out) | exact HB.out)))); have n1_ := Aside0.mk (blk_below (g := gb101) (o := .cells #[.slice A0_0 l0_0.length c0_0, .slice A0_1 l0_1.length c0_1, .slice A0_2 l0_2.length c0_2, .slice A0_3 l0_3.length c0_3, .slice A0_4 l0_4.length c0_4, .slice A0_5 l0_5.length c0_5, .slice A0_6 l0_6.length c0_6] 31 (0, 0)) (by (with_reducible repeat (first | refine blk_drewN ?_ _ | refine blk_drew ?_ | refine blk_alloc ?_ _)); exact BK101.out) hb); have n2_ := Aside0.mk (below_step (by repeat (first | (with_reducible first | exact HB.out | apply below_alloc | apply pw_below_drewN | apply below_drew1 | refine below_set ?_ GE101.out) | exact HB.out)) hb); clear BK101; clear HB; have HO104 := n0_; have BK101 := n1_; have HB := n2_; clear n0_ n1_ n2_; (try clear hb); (try clear hb2); (try clear hk); (try clear hi); (try clear ho0); obtain ⟨Ao9, co9, eo9⟩ := Kd.S_slice HO104.out; subst eo9) | ((with_reducible refine gate_dst (N := 5) rfl ?_); refine box_event ?hg (N := 5) ?hd (cs := #[.slice none 0 0]) (t := 35) ?hr ?_; (case hd => rfl); (case hg => rfl); (case hr => first | (go_simp; done) | (go_simp; rfl)); intro gb1 hg w10 hbox hb; have n0_ := Aside0.mk (Kd.S_below (by (with_reducible repeat (first | apply Kd.S_alloc | apply Kd.S_drewN | apply Kd.S_drew)); exact HO104.out) hb); have n1_ := Aside0.mk (below_step (by repeat (first | (with_reducible first | exact HB.out | apply below_alloc | apply pw_below_drewN | apply below_drew1) | exact HB.out)) hb); have BK1 := Aside0.mk hbox; have GE1 := Aside0.mk ((by rw [hg]; exact (below_size (by repeat (first | (with_reducible first | exact HB.out | apply below_alloc | apply pw_below_drewN | apply below_drew1) | exact HB.out))) : w.heap.size ≤ gb1)); clear HB HO104; have HO104 := n0_; have HB := n1_; clear n0_ n1_ hb hg hbox; have hczb := (blk_cell BK1.out 0).trans (rfl : _ = some (Value.slice none 0 0)); have hfzb := blk_frozen BK1.out 0))
  go_loopg [6, 16] c.length (fun kq v6 v16 w' => ∃ (x6 x16 : Int) (i : Nat), v6 = .int .i64 x6 ∧ v16 = .int .i64 x16 ∧ Aside0 (x16 = i) ∧ Aside0 (i + kq = c.length) ∧ Aside0 (0 ≤ x6 ∧ x6 ≤ 20000) ∧ Aside0 (manyT c 1 = manyT (c.drop i) x6) ∧ Aside0 (Kd.S (Kd.slice 3 (Kd.int .i64)) 33 w' w.heap.size (fun _ => True) (.slice Ao9 c.length co9) c) ∧ Aside0 (w'.heap[gb1]? = some (.cells #[.slice Ao9 c.length co9] 35 (0, 0))) ∧ Aside0 (Below w.heap.size w w'))
  case atStart => exact ⟨1, 0, 0, rfl, rfl, ⟨rfl⟩, ⟨by omega⟩, ⟨by omega⟩, ⟨rfl⟩, ⟨Kd.S_set HO104.out BK1.out (by decide) 0 _⟩, ⟨blk_put BK1.out 0 _ rfl⟩, ⟨HB.out.setCell GE1.out _⟩⟩
  case round =>
    obtain ⟨x6, x16, i, rfl, rfl, HX, HI, HM, HT, HO, HC, HBr⟩ := hrel
    cases gk with
    | zero =>
      have hi : i = c.length := by have := HI.out; omega
      have ci : decide (x16 < (c.length : Int)) = false := decide_eq_false (by have := HX.out; omega)
      have HT2 : manyT c 1 = some x6 := by have := HT.out; rw [hi, List.drop_length] at this; exact this
      by_cases hz : x6 = 0
      · have hzb : (x6 == 0) = true := beq_iff_eq.mpr hz
        have hzc : decide (x6 = 0) = true := decide_eq_true hz
        have ha : allT c = [] := by unfold allT; rw [HT2]; simp only; rw [if_pos hz]
        clear hz
        go_wp2
        go_ret
        refine ⟨_, rfl, ?_, HBr.out⟩
        rw [ha]
        exact Kd.S_nil _ _ _ _ _
      · have hzb : (x6 == 0) = false := beq_eq_false_iff_ne.mpr hz
        have hzc : decide (x6 = 0) = false := decide_eq_false hz
        have ha : allT c = tellT c [] := by unfold allT; rw [HT2]; simp only; rw [if_neg hz]
        clear hz
        have hnum := Aside0.mk (manyT_tell c 1 x6 HT2 [])
        clear HT2
        go_wp2_with (first
          | ((with_reducible refine gate_dst (N := 9) rfl ?_); refine box_event ?hg (N := 9) ?hd (cs := #[.slice none 0 0]) (t := 35) ?hr ?_; (case hd => rfl); (case hg => rfl); (case hr => first | (go_simp; done) | (go_simp; rfl)); intro gb2 hg2 w20 hbox2 hb2; have HG2 := Aside0.mk hg2; clear hg2)
          | ((with_reducible refine gate_dst (N := 10) rfl ?_); refine box_event ?hg (N := 10) ?hd (cs := #[.nilFunc]) (t := 125) ?hr ?_; (case hd => rfl); (case hg => rfl); (case hr => first | (go_simp; done) | (go_simp; rfl)); intro gb3 hg3 w21 hbox3 hb3; have hbox2' := blk_below hbox2 hb3; have hczc := (blk_cell hbox3 0).trans (rfl : _ = some Value.nilFunc); have hfzc := blk_frozen hbox3 0; have HG3 := Aside0.mk hg3; clear hg3)
          | (go_at_call 111
             have e2 := HG2.out
             have e3 := HG3.out
             have s2 := hb2.size
             have l2 := blk_lt hbox2
             have hS := Kd.S_reads' HO.out
             have hne : gb2 ≠ gb3 := by omega
             have hle2 : wr.heap.size ≤ gb2 := by omega
             have hle3 : wr.heap.size ≤ gb3 := by omega
             clear e2 e3
             refine (source_All_1.calls wr gb1 gb2 gb3 Ao9 co9 c HC.out hS.2.2 hS.2.1 hcm.1 hle2 hle3 hne c.length [] rfl (Nat.zero_le _) none 0 (.slice none 0 0) [] _ ((below_step hb2 hb3).setCell hle3 _) (blk_far hbox2' (p := ⟨gb3, 0, none⟩) hne _) (blk_put hbox3 0 _ rfl) (Kd.S_nil _ _ _ _ _) (Kd.R_nil _ _ _ _ _) ?hlen).mono ?_
             case hlen =>
               have h8 := hnum.out.1
               have h9 := HM.out
               show 0 + (tellT c []).length ≤ 20000
               omega
             rintro e w30 ⟨vo2, rfl, B2, G2, G3, R2, _⟩
             obtain ⟨Av, cv, rfl⟩ := Kd.S_slice R2
             have hczd := (blk_cell G2 0).trans rfl
             have hfzd := blk_frozen G2 0
             clear s2 l2 hS hne hle2 hle3 hczc hfzc
             dsimp only))
        go_ret
        refine ⟨_, rfl, ?_, below_step HBr.out B2⟩
        rw [ha]
        exact Kd.S_lower R2 HBr.out.size
    | succ k1 =>
      have hi : i < c.length := by have := HI.out; omega
      have p1 : 0 ≤ x16 := by have := HX.out; omega
      have q1 : x16 < (c.length : Int) := by have := HX.out; omega
      have ci : decide (x16 < (c.length : Int)) = true := decide_eq_true q1
      obtain ⟨ad, Al, cl, rfl, hx, hcl', hCl⟩ := at_L5 (Kd.S_reads' HO.out).2.2 x16 p1 q1
      have hgx : rd_L5 c x16 = c[i] := by rw [HX.out]; simp [rd_L5, List.getD_eq_getElem?_getD, List.getElem?_eq_getElem hi]
      have hls : (rd_L5 c x16).length < 1000000 := by rw [hgx]; exact hcm.2 _ (List.getElem_mem hi)
      have hw : wrap64 (x6 * ((rd_L5 c x16).length : Int)) = x6 * ((rd_L5 c x16).length : Int) := by
        have h9 := HM.out
        have h8 : x6 * ((rd_L5 c x16).length : Int) ≤ 20000 * ((rd_L5 c x16).length : Int) := Int.mul_le_mul_of_nonneg_right h9.2 (by omega)
        have h7 : 0 ≤ x6 * ((rd_L5 c x16).length : Int) := Int.mul_nonneg h9.1 (by omega)
        exact IntWalk.wrap64_in _ (by omega)
      have hw2 : IntKind.i64.wrap (x6 * ((rd_L5 c x16).length : Int)) = x6 * ((rd_L5 c x16).length : Int) := (i64_w _).trans hw
      have HTd : c.drop i = c[i] :: c.drop (i + 1) := List.drop_eq_getElem_cons hi
      replace p1 := eq_true p1
      replace q1 := eq_true q1
      by_cases hm : x6 * ((rd_L5 c x16).length : Int) > 20000
      · have hm0 : decide (20000 < x6 * ((rd_L5 c x16).length : Int)) = true := decide_eq_true hm
        have ha : allT c = [] := by unfold allT; rw [HT.out, HTd]; simp only [manyT]; rw [← hgx, if_pos hm]
        clear hm
        have HH := Aside0.mk hgx
        clear hgx
        go_wp2
        go_ret
        refine ⟨_, rfl, ?_, HBr.out⟩
        rw [ha]
        exact Kd.S_nil _ _ _ _ _
      · have hm0 : decide (20000 < x6 * ((rd_L5 c x16).length : Int)) = false := decide_eq_false hm
        have HT2 : manyT c 1 = manyT (c.drop (i + 1)) (x6 * ((rd_L5 c x16).length : Int)) := by rw [HT.out, HTd]; simp only [manyT]; rw [← hgx, if_neg hm]
        have HM2 := Aside0.mk (show 0 ≤ x6 * ((rd_L5 c x16).length : Int) ∧ x6 * ((rd_L5 c x16).length : Int) ≤ 20000 from ⟨Int.mul_nonneg HM.out.1 (by omega), by omega⟩)
        have HT3 := Aside0.mk HT2
        clear hm HT2
        have HH := Aside0.mk hgx
        clear hgx
        go_wp2
        go_roundg k1
        case measure => omega
        case rel => exact ⟨x6 * ((rd_L5 c x16).length : Int), wrap64 (x16 + 1), i + 1, by first | rfl | (rw [hw2]; done) | (simp [*]; done), by first | rfl | (simp; done), ⟨by have h1 := HX.out; rw [IntWalk.wrap64_in _ (by omega)]; omega⟩, ⟨by have := HI.out; omega⟩, HM2, HT3, HO, HC, HBr⟩
end Go.Proofs.Ytbamkkdikeedoaa.G
