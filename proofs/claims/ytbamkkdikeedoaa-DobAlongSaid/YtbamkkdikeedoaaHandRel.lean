/- By hand over printed lines: rel.both at any function value that computes; rel.Or, rel.And, rel.Seq. -/
import Derived.Test.YtbamkkdikeedoaaGRel
import Derived.Test.YtbamkkdikeedoaaPlainRel
import Derived.Test.YtbamkkdikeedoaaHandCz
namespace Go.Proofs.Ytbamkkdikeedoaa.G
open Go.RowKit Go.Proofs.YtbamkkdikeedoaaW.PrintWords Go.Proofs.YtbamkkdikeedoaaW.PrintLast Go.Proofs.YtbamkkdikeedoaaW.PrintMore
set_option maxHeartbeats 8000000
set_option maxRecDepth 100000
set_option linter.unusedVariables false
set_option linter.unusedSimpArgs false
section
variable {P : Program} {ops : Array Oper} {Q : Exit → Act → World → Prop}
theorem goesF_ {oi : Oper} {N : Option Tmp} {a : Act} {w : World} {K : Act → World → Prop} {f : FuncId} {fn : Func} {x : Operand} {cap : Array Value} {xs : Array Operand} {ts : Array TypeId} (hf : P.funcs[f]? = some fn) (hname : (fn.name == "runtime.NumGoroutine") = false) (hb : fn.body.isSome = true) (args : Array Value)
    (hw : Region.wanted oi (yielded ops a.tmps) = true) (hN : oi.dst = N) (hop : oi.op = .call { callee := .value x, args := xs, argTypes := ts }) (hx : a.eval x = .func (.func f) #[] cap) (hargs : xs.map a.eval = args)
    (h : Calls P f (args ++ cap) w fun e w' => ∃ v, e = .returned v ∧ K (a.put N v) w') : if Region.wanted oi (yielded ops a.tmps) = true then Oper.wp P oi a w K Q else K (a.put N undef) w := by
  refine call_ f (args ++ cap) hw hN ?_ h
  have he := enters_ hf hname hb (args ++ cap) w
  unfold execOp
  simp [hop, resolve, Deferred.ofValue, invoke, hx, hargs, he]
end
def rel_both.l0 (φ : Int → Int → Option Int) : Nat → List Int → List Int → Int → Int → Option (List Int)
 | 0, _, _, _, _ => none
 | k + 1, x7, x8, x21, x22 => if x22 < x21 then (if 0 ≤ x22 then (if x22 < (x7.length : Int) then (if x22 < (x8.length : Int) then ((φ (rd x7 x22) (rd x8 x22)).bind fun t112 => (rel_both.l0 φ k (x7.set (x22 : Int).toNat t112) x8 x21 (wrap64 (x22 + 1)))) else (none)) else (none)) else (none)) else (some x7)
def rel_both.f (φ : Int → Int → Option Int) (k : Nat) (l0 : List Int) (l1 : List Int) : Option (List Int) := (rel_clean.f k l0).bind fun t101 => ((rel_clean.f k l1).bind fun t104 => (if (t101.length : Int) = (t104.length : Int) then (rel_both.l0 φ k t101 t104 (t101.length : Int) 0) else (some (([] : List Int)))))
def rel_both.T7 : Bool × List (List Nat × List Nat) := (true, [([], []), ([], []), ([], []), ([], []), ([], []), ([3, 4], [3, 4]), ([5], [5]), ([], []), ([], []), ([7, 8], [7, 8]), ([9], [9]), ([2, 6, 10], [2, 6, 10]), ([0, 1, 0, 1, 2, 3, 4, 5, 6, 7, 8, 9, 10, 11], [0, 1]), ([12, 11, 11, 0, 1, 2, 3, 4, 5, 6, 7, 8, 9, 10, 11], [11, 12])])
def rel_both.B7 : List Nat := [0, 0, 0, 0, 0, 24, 56, 0, 0, 384, 896, 2044, 4095, 8191]
theorem rel_both.tab7 : rtab .any (opsOf Try.f121 7) = rel_both.T7 := by kernel_rfl
theorem rel_both.bits7 : waitsOk rel_both.T7.2 rel_both.B7 = true := by kernel_rfl
theorem rel_both.calls (φ : Int → Int → Option Int) (f : FuncId) (F : Func) (hF : Try.prog.funcs[f]? = some F) (hFn : (F.name == "runtime.NumGoroutine") = false) (hFb : F.body.isSome = true) (cap : Array Value) (k : Nat) (A0 : Option Addr) (c0 : Nat) (l0 : List Int) (A1 : Option Addr) (c1 : Nat) (l1 : List Int) (r : List Int) (w : World) (hr0 : Kd.C (Kd.int .u32) w A0 l0.length l0) (hc0 : l0.length ≤ c0) (hr1 : Kd.C (Kd.int .u32) w A1 l1.length l1) (hc1 : l1.length ≤ c1) (HF : ∀ w1, Below w.heap.size w w1 → ∀ a b q, φ a b = some q → Calls Try.prog f (#[.int .u32 a, .int .u32 b] ++ cap) w1 fun e w' => e = .returned (.int .u32 q) ∧ Drawn0 w1 w') (h : rel_both.f φ k l0 l1 = some r) :
  Calls Try.prog 121 #[.slice A0 l0.length c0, .slice A1 l1.length c1, .func (.func f) #[] cap] w fun e w' => ∃ v0_ : Value, e = .returned (v0_) ∧ Kd.R (Kd.int .u32) 52 w' w.heap.size (fun _ => True) v0_ r ∧ Below w.heap.size w w' := by
 have HFF := a9_ hF
 have HFN := a9_ hFn
 have HFB := a9_ hFb
 have HFC := a9_ HF
 clear hF hFn hFb HF
 have HR0 := a9_ hr0
 have HC0 := a9_ hc0
 clear hr0 hc0
 have HR1 := a9_ hr1
 have HC1 := a9_ hc1
 clear hr1 hc1
 have HB := a9_ (Below.refl w.heap.size w)
 have H : ((rel_clean.f k l0).bind fun t101 => ((rel_clean.f k l1).bind fun t104 => (if (t101.length : Int) = (t104.length : Int) then (rel_both.l0 φ k t101 t104 (t101.length : Int) 0) else (some (([] : List Int)))))) = some r := h
 clear h
 replace H := Option.bind_eq_some_iff.mp H
 obtain ⟨t101, A30, H⟩ := H
 have A3 := a9_ A30
 clear A30
 replace H := Option.bind_eq_some_iff.mp H
 obtain ⟨t104, A40, H⟩ := H
 have A4 := a9_ A40
 clear A40
 by_cases c5 : (t101.length : Int) = (t104.length : Int)
 ·rw [if_pos c5] at H
  have c5b0 : ((t101.length : Int) == (t104.length : Int)) = true := beq_iff_eq.mpr c5
  have c5b1 : ((t101.length : Int) != (t104.length : Int)) = false := bne_eq_false_iff_eq.mpr c5
  have c5b2 : (t101.length == t104.length) = true := by first | simpa using c5 | (simp at c5 ⊢; omega)
  clear c5
  have H' := a9_ H
  clear H
  go_enter Try.func121, Try.ntmps121
  go_wp2_with (first | ((with_reducible refine gate_callee (f := 112) rfl ?_); refine goesL9 (some 11) rfl rfl Try.func112 (by kernel_rfl) rfl #[.slice A0 l0.length c0] rfl ?_; (with_reducible refine (rel_clean.calls k _ _ l0 t101 _ ?side1 ?side2 A3.out).mono ?_); (case side1 => repeat (first | exact HR0.out | (with_reducible refine Kd.C_alloc ?_ _) | (with_reducible refine Kd.C_drewN ?_ _) | (with_reducible refine Kd.C_drew ?_))); (case side2 => exact HC0.out); rintro e w6 ⟨v102, rfl, ho0, hb⟩; refine ⟨_, rfl, ?_⟩; have n0_ := a9_ (Kd.R_lower ho0 (below_size (bp9 HB.out))); have n1_ := a9_ (below_step (bp9 HB.out) hb); clear HB; have HO103 := n0_; have HB := n1_; clear n0_ n1_; (try clear hb); (try clear hb2); (try clear hk); (try clear hi); (try clear ho0)) | ((with_reducible refine gate_callee (f := 112) rfl ?_); refine goesL9 (some 13) rfl rfl Try.func112 (by kernel_rfl) rfl #[.slice A1 l1.length c1] rfl ?_; (with_reducible refine (rel_clean.calls k _ _ l1 t104 _ ?side1 ?side2 A4.out).mono ?_); (case side1 => exact cp9 HR1.out HB.out); (case side2 => exact HC1.out); rintro e w7 ⟨v105, rfl, ho0, hb⟩; refine ⟨_, rfl, ?_⟩; have n0_ := a9_ (Kd.R_elder' (rp9 HO103.out) (Kd.R_base ho0) hb); have n1_ := a9_ (Kd.R_lower (Kd.R_new' ho0 (Kd.R_lt (rp9 HO103.out))) (below_size (bp9 HB.out))); have n2_ := a9_ (below_step (bp9 HB.out) hb); clear HO103; clear HB; have HO103 := n0_; have HO106 := n1_; have HB := n2_; clear n0_ n1_ n2_; (try clear hb); (try clear hb2); (try clear hk); (try clear hi); (try clear ho0); obtain ⟨Ao8, co8, eo8⟩ := Kd.R_slice HO103.out; subst eo8; obtain ⟨Ao9, co9, eo9⟩ := Kd.R_slice HO106.out; subst eo9))
  go_loopg [22] k (fun kq v22 w' => ∃ (x7_1 : List Int) (x22_1 : Int), v22 = .int .i64 x22_1 ∧ Aside0 (rel_both.l0 φ kq x7_1 t104 (t101.length : Int) x22_1 = some r) ∧ Aside0 (kq ≤ k) ∧ Aside0 (Kd.R (Kd.int .u32) 52 w' w.heap.size (fun k_ => some k_ ≠ ((.slice Ao9 t104.length co9) : Value).ownBlock) (.slice Ao8 t101.length co8) x7_1) ∧ Aside0 (Kd.R (Kd.int .u32) 52 w' w.heap.size (fun k_ => some k_ ≠ ((.slice Ao8 t101.length co8) : Value).ownBlock) (.slice Ao9 t104.length co9) t104) ∧ Aside0 (Below w.heap.size w w'))
  case atStart => exact ⟨(t101), (0), (by first | rfl | (simp; done) | (simp [*]; done)), H', ⟨Nat.le_refl _⟩, ⟨by (with_reducible repeat (first | apply Kd.R_alloc | apply Kd.R_drewN | apply Kd.R_drew)); exact Kd.R_mono HO103.out (fun _ hk => hk.2)⟩, ⟨by (with_reducible repeat (first | apply Kd.R_alloc | apply Kd.R_drewN | apply Kd.R_drew)); exact Kd.R_mono HO106.out (fun _ hk => hk.2)⟩, ⟨bp9 HB.out⟩⟩
  case round =>
   clear H'
   try clear c1
   try clear p2
   try clear c5
   try clear c5b0
   try clear c5b1
   try clear c5b2
   obtain ⟨x7_1, x22_1, rfl, HA, HK1, HO_7, HO_8, HB⟩ := hrel
   have hl7_1 := (Kd.R_reads' HO_7.out).1
   rw [hl7_1] at HO_7
   (try simp only [hl7_1])
   (try simp only [hl7_1] at HO_8)
   cases gk with
   | zero => exact absurd HA.out (by simp [rel_both.l0])
   | succ k1 =>
    have H := HA.out
    clear HA
    simp only [rel_both.l0] at H
    by_cases c10 : x22_1 < (t101.length : Int)
    ·rw [if_pos c10] at H
     have c10b0 : decide (x22_1 < (t101.length : Int)) = true := decide_eq_true c10
     (try (have c10b0z := c10b0; simp only [hl7_1] at c10b0z))
     clear c10
     by_cases c11 : 0 ≤ x22_1
     ·rw [if_pos c11] at H
      have c11b0 : decide (0 ≤ x22_1) = true := decide_eq_true c11
      (try (have c11b0z := c11b0; simp only [hl7_1] at c11b0z))
      clear c11
      by_cases c12 : x22_1 < (x7_1.length : Int)
      ·rw [if_pos c12] at H
       have c12b0 : decide (x22_1 < (x7_1.length : Int)) = true := decide_eq_true c12
       (try (have c12b0z := c12b0; simp only [hl7_1] at c12b0z))
       clear c12
       by_cases c13 : x22_1 < (t104.length : Int)
       ·rw [if_pos c13] at H
        have c13b0 : decide (x22_1 < (t104.length : Int)) = true := decide_eq_true c13
        (try (have c13b0z := c13b0; simp only [hl7_1] at c13b0z))
        clear c13
        replace H := Option.bind_eq_some_iff.mp H
        obtain ⟨t112, A140, H⟩ := H
        have A14 := a9_ A140
        clear A140
        obtain ⟨y113, hy113⟩ : ∃ y_ : List Int, y_ = (x7_1.set (x22_1 : Int).toNat t112) := ⟨_, rfl⟩
        replace H : (rel_both.l0 φ k1 y113 t104 (t101.length : Int) (wrap64 (x22_1 + 1))) = some r := by first | (rw [hy113]; with_reducible exact H) | (have H2_ := (Option.bind_some _ _).symm.trans H; rw [hy113]; with_reducible exact H2_) | (have H2_ := (Option.bind_some _ _).symm.trans H; with_reducible exact H2_) | with_reducible exact H | (rw [hy113]; exact H) | exact H
        have Ny113 := a9_ hy113
        clear hy113
        have H' := a9_ H
        clear H
        try go_wp2
        have n0_ := a9_ (Kd.R_drew HO_7.out)
        have n1_ := a9_ (Kd.R_drew HO_8.out)
        have n2_ := a9_ (below_drew1 HB.out)
        clear HO_7 HO_8 HB
        revert n0_ n1_ n2_; intro HO_7 HO_8 HB
        have p110 : 0 ≤ (x22_1 : Int) := of_decide_eq_true (by first | (with_reducible assumption) | assumption)
        have q110 : x22_1 < (x7_1.length : Int) := of_decide_eq_true (by first | (with_reducible assumption) | assumption)
        obtain ⟨ad110, e110, hx110_0⟩ := Kd.at_int (Kd.R_reads' HO_7.out).2.2 x22_1 p110 q110
        cases e110
        replace p110 := eq_true p110
        replace q110 := eq_true q110
        have p111 : 0 ≤ (x22_1 : Int) := of_decide_eq_true (by first | (with_reducible assumption) | assumption)
        have q111 : x22_1 < (t104.length : Int) := of_decide_eq_true (by first | (with_reducible assumption) | assumption)
        obtain ⟨ad111, e111, hx111_0⟩ := Kd.at_int (Kd.R_reads' HO_8.out).2.2 x22_1 p111 q111
        cases e111
        replace p111 := eq_true p111
        replace q111 := eq_true q111
        refine start_ (n := 14) (S := fun w' => w'.cell? (ad110.add (x22_1).toNat) = some (.int .u32 (rd x7_1 x22_1)) ∧ w'.cell? (ad111.add (x22_1).toNat) = some (.int .u32 (rd t104 x22_1))) (ds := [13]) #[o9, o9, o9, o9, o9, o9, o9, o9, o9, o9, o9, o9, o9, o9] (by kernel_rfl) rfl rfl ⟨hx110_0, hx111_0⟩ (fun hHeld => ?_); refine with_tabW rel_both.tab7 rel_both.bits7 (fun HT_ HW_ => ?_)
        generalize wr.drew = w16 at HO_7 HO_8 HB hx110_0 hx111_0 hHeld ⊢
        refine pure_ (i := 0) (N := some 25) (v := ?_) (a' := ?_) #[i9, o9, o9, o9, o9, o9, o9, o9, o9, o9, o9, o9, o9, o9] rfl rfl (any_of HT_.out (by kernel_rfl)) (fun _ _ _ h => h) (Or.inl ⟨by rfl, ?_⟩) ?_ ?_
        rotate_left
        ·intro w'
         go_simp
         with_reducible rfl
        rotate_left
        ·simp only [Act.put, List.setIfInBounds_toArray, List.set_cons_zero, List.set_cons_succ, i64_w, i32_w]
         rfl
        refine pure_ (i := 1) (N := some 26) (v := ?_) (a' := ?_) #[i9, i9, o9, o9, o9, o9, o9, o9, o9, o9, o9, o9, o9, o9] rfl rfl (any_of HT_.out (by kernel_rfl)) (fun _ _ _ h => h) (Or.inl ⟨by rfl, ?_⟩) ?_ ?_
        rotate_left
        ·intro w'
         go_simp
         with_reducible rfl
        rotate_left
        ·simp only [Act.put, List.setIfInBounds_toArray, List.set_cons_zero, List.set_cons_succ, i64_w, i32_w]
         rfl
        refine pure_ (i := 2) (N := some 27) (v := ?_) (a' := ?_) #[i9, i9, i9, o9, o9, o9, o9, o9, o9, o9, o9, o9, o9, o9] rfl rfl (any_of HT_.out (by kernel_rfl)) (fun _ _ _ h => h) (Or.inl ⟨by rfl, ?_⟩) ?_ ?_
        rotate_left
        ·intro w'
         go_simp
         with_reducible rfl
        rotate_left
        ·simp only [Act.put, List.setIfInBounds_toArray, List.set_cons_zero, List.set_cons_succ, i64_w, i32_w]
         rfl
        refine pure_ (i := 3) (N := some 28) (v := ?_) (a' := ?_) #[i9, i9, i9, i9, o9, o9, o9, o9, o9, o9, o9, o9, o9, o9] rfl rfl (any_of HT_.out (by kernel_rfl)) (fun _ _ _ h => h) (Or.inl ⟨by rfl, ?_⟩) ?_ ?_
        rotate_left
        ·intro w'
         go_simp
         with_reducible rfl
        rotate_left
        ·simp only [Act.put, List.setIfInBounds_toArray, List.set_cons_zero, List.set_cons_succ, i64_w, i32_w]
         rfl
        refine pure_ (i := 4) (N := some 29) (v := ?_) (a' := ?_) #[i9, i9, i9, i9, i9, o9, o9, o9, o9, o9, o9, o9, o9, o9] rfl rfl (any_of HT_.out (by kernel_rfl)) (fun _ _ _ h => h) (Or.inl ⟨by rfl, ?_⟩) ?_ ?_
        rotate_left
        ·intro w'
         go_simp
         with_reducible rfl
        rotate_left
        ·simp only [Act.put, List.setIfInBounds_toArray, List.set_cons_zero, List.set_cons_succ, i64_w, i32_w]
         rfl
        refine pure_ (i := 5) (N := some 30) (v := ?_) (a' := ?_) #[i9, i9, i9, i9, i9, i9, o9, o9, o9, o9, o9, o9, o9, o9] rfl rfl (any_of HT_.out (by kernel_rfl)) (fun _ _ _ h => h) (Or.inl ⟨by rfl, ?_⟩) ?_ ?_
        rotate_left
        ·intro w'
         go_simp
         with_reducible rfl
        rotate_left
        ·simp only [Act.put, List.setIfInBounds_toArray, List.set_cons_zero, List.set_cons_succ, i64_w, i32_w]
         rfl
        refine pure_ (i := 7) (N := some 32) (v := ?_) (a' := ?_) #[i9, i9, i9, i9, i9, i9, o9, i9, o9, o9, o9, o9, o9, o9] rfl rfl (any_of HT_.out (by kernel_rfl)) (fun _ _ _ h => h) (Or.inl ⟨by rfl, ?_⟩) ?_ ?_
        rotate_left
        ·intro w'
         go_simp
         with_reducible rfl
        rotate_left
        ·simp only [Act.put, List.setIfInBounds_toArray, List.set_cons_zero, List.set_cons_succ, i64_w, i32_w]
         rfl
        refine pure_ (i := 8) (N := some 33) (v := ?_) (a' := ?_) #[i9, i9, i9, i9, i9, i9, o9, i9, i9, o9, o9, o9, o9, o9] rfl rfl (any_of HT_.out (by kernel_rfl)) (fun _ _ _ h => h) (Or.inl ⟨by rfl, ?_⟩) ?_ ?_
        rotate_left
        ·intro w'
         go_simp
         with_reducible rfl
        rotate_left
        ·simp only [Act.put, List.setIfInBounds_toArray, List.set_cons_zero, List.set_cons_succ, i64_w, i32_w]
         rfl
        refine pure_ (i := 9) (N := some 34) (v := ?_) (a' := ?_) #[i9, i9, i9, i9, i9, i9, o9, i9, i9, i9, o9, o9, o9, o9] rfl rfl (any_of HT_.out (by kernel_rfl)) (fun _ _ _ h => h) (Or.inl ⟨by rfl, ?_⟩) ?_ ?_
        rotate_left
        ·intro w'
         go_simp
         with_reducible rfl
        rotate_left
        ·simp only [Act.put, List.setIfInBounds_toArray, List.set_cons_zero, List.set_cons_succ, i64_w, i32_w]
         rfl
        refine take_ (i := 6) (N := some 31) (v := ?_) (a' := ?_) #[i9, i9, i9, i9, i9, i9, i9, i9, i9, i9, o9, o9, o9, o9] rfl rfl (take_ofW HT_.out HW_.out (by kernel_rfl)) (fun _ _ _ h => h) (Or.inl ⟨by rfl, ?_⟩) hHeld ?_ ?_
        rotate_left
        ·rintro w' ⟨s0, s1⟩
         go_simp
         with_reducible rfl
        rotate_left
        ·simp only [Act.put, List.setIfInBounds_toArray, List.set_cons_zero, List.set_cons_succ, i64_w, i32_w]
         rfl
        refine take_ (i := 10) (N := some 35) (v := ?_) (a' := ?_) #[i9, i9, i9, i9, i9, i9, i9, i9, i9, i9, i9, o9, o9, o9] rfl rfl (take_ofW HT_.out HW_.out (by kernel_rfl)) (fun _ _ _ h => h) (Or.inl ⟨by rfl, ?_⟩) hHeld ?_ ?_
        rotate_left
        ·rintro w' ⟨s0, s1⟩
         go_simp
         with_reducible rfl
        rotate_left
        ·simp only [Act.put, List.setIfInBounds_toArray, List.set_cons_zero, List.set_cons_succ, i64_w, i32_w]
         rfl
        refine one_ (i := 11) (N := some 36) #[i9, i9, i9, i9, i9, i9, i9, i9, i9, i9, i9, i9, o9, o9] rfl rfl (one_of HT_.out (by kernel_rfl)) (by decide) (fun K hK => ?_)
        refine goesF_ HFF.out HFN.out HFB.out #[.int .u32 (rd x7_1 x22_1), .int .u32 (rd t104 x22_1)] (by rfl) rfl rfl (by first | rfl | (go_simp; rfl)) (by (try simp only [List.map_toArray, List.map_cons, List.map_nil]); first | done | rfl | (simp only [List.length_drop, List.length_take]; rfl)) ?_
        refine (HFC.out _ (by repeat (first | (with_reducible first | exact HB.out | apply below_alloc | apply pw_below_drewN | apply below_drew1) | exact HB.out)) _ _ _ A14.out).mono ?_
        rintro e w' ⟨rfl, ⟨nd, rfl⟩⟩
        refine ⟨_, rfl, ?_⟩
        have p15 : 0 ≤ (x22_1 : Int) := of_decide_eq_true (by first | (with_reducible assumption) | assumption)
        have q15 : (x22_1 : Int) < ((x7_1.length : Int) : Int) := of_decide_eq_true (by first | (with_reducible assumption) | assumption)
        obtain ⟨go15, co15, eo15, gb15, gl15, cl15, HG15⟩ := Kd.R_form HO_7.out (by omega)
        (first | cases eo15 | (injection eo15 with ea_ en_ ec_; (first | subst ea_ | (injection ea_ with ea_; subst ea_)); subst ec_; clear en_))
        have GB15 := a9_ gb15
        have GG15 := a9_ HG15
        clear gb15 gl15 HG15
        (first | simp only [add_plain] at hx110_0 | skip)
        obtain ⟨hx15_0, hf15_0⟩ := Kd.R_celln 0 HO_7.out (x22_1 : Int) p15 q15
        replace p15 := eq_true p15
        replace q15 := eq_true q15
        have HP17 := Kd.R_putn HO_7.out (x22_1 : Int) t112
        rw [← Ny113.out] at HP17
        have HQ17 := a9_ HP17
        clear HP17
        refine hK.out _ _ ⟨hHeld.1, hHeld.2⟩ (fun hHeld => ?_)
        clear hK K
        refine norm_ (a' := ?_) ?_ ?_
        rotate_left
        ·show Act.put _ (some 36) _ = _
         simp only [Act.put, List.setIfInBounds_toArray, List.set_cons_zero, List.set_cons_succ, i64_w, i32_w]
         rfl
        refine pure_ (i := 12) (N := some 37) (v := ?_) (a' := ?_) #[i9, i9, i9, i9, i9, i9, i9, i9, i9, i9, i9, i9, i9, o9] rfl rfl (any_of HT_.out (by kernel_rfl)) (fun _ _ _ h => h) (Or.inl ⟨by rfl, ?_⟩) ?_ ?_
        rotate_left
        ·intro w'
         go_simp
         with_reducible rfl
        rotate_left
        ·simp only [Act.put, List.setIfInBounds_toArray, List.set_cons_zero, List.set_cons_succ, i64_w, i32_w]
         rfl
        refine last_ (i := 13) (N := none) #[i9, i9, i9, i9, i9, i9, i9, i9, i9, i9, i9, i9, i9, i9] rfl rfl (one_of HT_.out (by kernel_rfl)) (by decide) (fun K hK => ?_)
        refine skip_ (w1 := ?_) (by rfl) rfl ?_ ?_
        rotate_left
        ·go_simp
         rfl
        refine hK.out _ _ ?_
        clear hK K
        refine done_ (done_of HT_.out (by kernel_rfl)) ?_
        try go_wp2
        (try simp only [← hl7_1])
        go_roundg k1
        case measure => have := HK1.out; omega
        case rel => exact ⟨(y113), (wrap64 (x22_1 + 1)), (by first | rfl | (simp; done) | (simp [*]; done)), H', ⟨by have := HK1.out; omega⟩, ⟨by (try simp only [hl7_1]); (with_reducible repeat (first | apply Kd.R_alloc | apply Kd.R_drewN | apply Kd.R_drew)); exact HQ17.out⟩, ⟨by (try simp only [hl7_1]); (with_reducible repeat (first | apply Kd.R_alloc | apply Kd.R_drewN | apply Kd.R_drew)); exact Kd.R_mono (Kd.R_far (p := ⟨go15, (x22_1 : Int).toNat, none⟩) (Kd.R_mono HO_8.out (fun k_ hk => (⟨hk, fun e_ => hk (by rw [e_]; rfl)⟩ : _ ∧ k_ ≠ go15))) (fun _ hk => hk.2) (.int .u32 t112)) (fun _ hk => hk.1)⟩, ⟨by repeat (first | (with_reducible first | exact HB.out | apply below_alloc | apply pw_below_drewN | apply below_drew1 | refine below_set ?_ GB15.out) | exact HB.out)⟩⟩
       ·rw [if_neg c13] at H
        exact absurd H (by simp)
      ·rw [if_neg c12] at H
       exact absurd H (by simp)
     ·rw [if_neg c11] at H
      exact absurd H (by simp)
    ·rw [if_neg c10] at H
     have c10b0 : decide (x22_1 < (t101.length : Int)) = false := decide_eq_false c10
     (try (have c10b0z := c10b0; simp only [hl7_1] at c10b0z))
     clear c10
     obtain rfl := Option.some.inj H
     go_wp2
     go_ret
     exact ⟨_, by first | rfl | (simp [errW_none, errW_some] <;> rfl) | (simp [*, errW_none, errW_some] <;> rfl), by (with_reducible repeat (first | apply Kd.R_alloc | apply Kd.R_drewN | apply Kd.R_drew)); exact Kd.R_mono HO_7.out (fun _ hk => trivial), bp9 HB.out⟩
 ·rw [if_neg c5] at H
  have c5b0 : ((t101.length : Int) == (t104.length : Int)) = false := beq_eq_false_iff_ne.mpr c5
  have c5b1 : ((t101.length : Int) != (t104.length : Int)) = true := bne_iff_ne.mpr c5
  have c5b2 : (t101.length == t104.length) = false := by first | simpa using c5 | (simp at c5 ⊢; omega)
  obtain ⟨y107, hy107⟩ : ∃ y_ : List Int, y_ = (([] : List Int)) := ⟨_, rfl⟩
  replace H : (some y107) = some r := by first | (rw [hy107]; with_reducible exact H) | (have H2_ := (Option.bind_some _ _).symm.trans H; rw [hy107]; with_reducible exact H2_) | (have H2_ := (Option.bind_some _ _).symm.trans H; with_reducible exact H2_) | with_reducible exact H | (rw [hy107]; exact H) | exact H
  have Ny107 := a9_ hy107
  clear hy107
  obtain rfl := Option.some.inj H
  go_enter Try.func121, Try.ntmps121
  go_wp2_with (first | ((with_reducible refine gate_callee (f := 112) rfl ?_); refine goesL9 (some 11) rfl rfl Try.func112 (by kernel_rfl) rfl #[.slice A0 l0.length c0] rfl ?_; (with_reducible refine (rel_clean.calls k _ _ l0 t101 _ ?side1 ?side2 A3.out).mono ?_); (case side1 => repeat (first | exact HR0.out | (with_reducible refine Kd.C_alloc ?_ _) | (with_reducible refine Kd.C_drewN ?_ _) | (with_reducible refine Kd.C_drew ?_))); (case side2 => exact HC0.out); rintro e w18 ⟨v102, rfl, ho0, hb⟩; refine ⟨_, rfl, ?_⟩; have n0_ := a9_ (Kd.R_lower ho0 (below_size (bp9 HB.out))); have n1_ := a9_ (below_step (bp9 HB.out) hb); clear HB; have HO103 := n0_; have HB := n1_; clear n0_ n1_; (try clear hb); (try clear hb2); (try clear hk); (try clear hi); (try clear ho0)) | ((with_reducible refine gate_callee (f := 112) rfl ?_); refine goesL9 (some 13) rfl rfl Try.func112 (by kernel_rfl) rfl #[.slice A1 l1.length c1] rfl ?_; (with_reducible refine (rel_clean.calls k _ _ l1 t104 _ ?side1 ?side2 A4.out).mono ?_); (case side1 => exact cp9 HR1.out HB.out); (case side2 => exact HC1.out); rintro e w19 ⟨v105, rfl, ho0, hb⟩; refine ⟨_, rfl, ?_⟩; have n0_ := a9_ (Kd.R_elder' (rp9 HO103.out) (Kd.R_base ho0) hb); have n1_ := a9_ (Kd.R_lower (Kd.R_new' ho0 (Kd.R_lt (rp9 HO103.out))) (below_size (bp9 HB.out))); have n2_ := a9_ (below_step (bp9 HB.out) hb); clear HO103; clear HB; have HO103 := n0_; have HO106 := n1_; have HB := n2_; clear n0_ n1_ n2_; (try clear hb); (try clear hb2); (try clear hk); (try clear hi); (try clear ho0); obtain ⟨Ao20, co20, eo20⟩ := Kd.R_slice HO103.out; subst eo20; obtain ⟨Ao21, co21, eo21⟩ := Kd.R_slice HO106.out; subst eo21) | ((with_reducible refine gate_dst (N := 19) rfl ?_); refine Kd.R_lit (Kd.int .u32) _ 52 ?hg (N := 19) ?hd (xs := ([] : List Int)) (inner := []) (ok := fun _ => True) (okp := fun _ => True) ?hr ?hp (fun _ hk => hk) trivial (Below.refl _ _) (Nat.le_refl _) (by simp) ?_; (case hd => rfl); (case hg => rfl); (case hr => first | (go_simp; done) | (go_simp; rfl)); (case hp => exact (Reps.none _ _)); intro v108 w22 ho23 hb hg_ hnew_; clear hg_ hnew_; (first | rw [← Ny107.out] at ho23 | (simp only [Int.reduceToNat] at ho23; rw [← Ny107.out] at ho23)); have n0_ := a9_ (Kd.R_elder' (rp9 HO103.out) (Kd.R_base ho23) hb); have n1_ := a9_ (Kd.R_elder' (rp9 HO106.out) (Kd.R_base ho23) hb); have n2_ := a9_ (Kd.R_lower (Kd.R_new' (Kd.R_new' ho23 (Kd.R_lt (rp9 HO103.out))) (Kd.R_lt (rp9 HO106.out))) (below_size (bp9 HB.out))); have n3_ := a9_ (below_step (bp9 HB.out) hb); clear HO103; clear HO106; clear HB; have HO103 := n0_; have HO106 := n1_; have HO109 := n2_; have HB := n3_; clear n0_ n1_ n2_ n3_; clear hb ho23))
  go_ret
  exact ⟨_, by first | rfl | (simp [errW_none, errW_some] <;> rfl) | (simp [*, errW_none, errW_some] <;> rfl), by (with_reducible repeat (first | apply Kd.R_alloc | apply Kd.R_drewN | apply Kd.R_drew)); exact Kd.R_mono HO109.out (fun _ hk => trivial), bp9 HB.out⟩
def rel_Seq_1.l0 : Nat → Int → List Int → Int → Int → Int → Option (Int)
 | 0, _, _, _, _, _ => none
 | k + 1, x0, x2, x6, x9, x10 => if x10 < x9 then (if 0 ≤ (IntKind.u64.wrap (x10)) then (if (Go.bits .and .u32 (shr .u32 x0 (IntKind.u64.wrap (x10))) 1) = 1 then (if 0 ≤ x10 then (if x10 < (x2.length : Int) then (rel_Seq_1.l0 k x0 x2 (Go.bits .or .u32 x6 (rd x2 x10)) x9 (wrap64 (x10 + 1))) else (none)) else (none)) else (rel_Seq_1.l0 k x0 x2 x6 x9 (wrap64 (x10 + 1)))) else (none)) else (some x6)
def rel_Seq_1.f (k : Nat) (a0 : Int) (a1 : Int) (l2 : List Int) : Option (Int) := rel_Seq_1.l0 k a0 l2 0 (l2.length : Int) 0
theorem rel_Seq_1.calls (k : Nat) (a0 : Int) (a1 : Int) (g2 : Nat) (A2 : Option Addr) (c2 : Nat) (l2 : List Int) (r : Int) (w : World) (hg2 : w.cell? ⟨g2, 0, none⟩ = some (.slice A2 l2.length c2)) (hr2 : Kd.C (Kd.int .u32) w A2 l2.length l2) (hc2 : l2.length ≤ c2) (h : rel_Seq_1.f k a0 a1 l2 = some r) :
  Calls Try.prog 124 #[.int .u32 a0, .int .u32 a1, .pointer (some ⟨g2, 0, none⟩)] w fun e w' => e = .returned (.int .u32 r) ∧ Drawn0 w w' := by
 have HR2 := a9_ hr2
 have HC2 := a9_ hc2
 clear hr2 hc2
 have H : (rel_Seq_1.l0 k a0 l2 0 (l2.length : Int) 0) = some r := h
 clear h
 have H' := a9_ H
 clear H
 go_enter Try.func124, Try.ntmps124
 go_wp2
 go_loopg [6, 10] k (fun kq v6 v10 w' => ∃ (x6_1 : Int) (x10_1 : Int), v6 = .int .u32 x6_1 ∧ v10 = .int .i64 x10_1 ∧ Aside0 (rel_Seq_1.l0 kq a0 l2 x6_1 (l2.length : Int) x10_1 = some r) ∧ Aside0 (kq ≤ k) ∧ Drawn0 w w')
 case atStart => exact ⟨(0), (0), (by first | rfl | (simp; done) | (simp [*]; done)), (by first | rfl | (simp; done) | (simp [*]; done)), H', ⟨Nat.le_refl _⟩, by repeat (first | exact Drawn0.refl _ | apply Drawn0.step)⟩
 case round =>
  clear H'
  try clear c1
  try clear c2
  try clear p2
  obtain ⟨x6_1, x10_1, rfl, rfl, HA, HK1, ⟨m1, rfl⟩⟩ := hrel
  cases gk with
  | zero => exact absurd HA.out (by simp [rel_Seq_1.l0])
  | succ k1 =>
   have H := HA.out
   clear HA
   simp only [rel_Seq_1.l0] at H
   by_cases c4 : x10_1 < (l2.length : Int)
   ·rw [if_pos c4] at H
    have c4b0 : decide (x10_1 < (l2.length : Int)) = true := decide_eq_true c4
    clear c4
    obtain ⟨ji5, hji5⟩ : ∃ j_ : Int, (IntKind.u64.wrap (x10_1)) = j_ := ⟨_, rfl⟩
    replace H : (if 0 ≤ (ji5) then (if (Go.bits .and .u32 (shr .u32 a0 (ji5)) 1) = 1 then (if 0 ≤ x10_1 then (if x10_1 < (l2.length : Int) then (rel_Seq_1.l0 k1 a0 l2 (Go.bits .or .u32 x6_1 (rd l2 x10_1)) (l2.length : Int) (wrap64 (x10_1 + 1))) else (none)) else (none)) else (rel_Seq_1.l0 k1 a0 l2 x6_1 (l2.length : Int) (wrap64 (x10_1 + 1)))) else (none)) = some r := by first | (rw [hji5] at H; exact H) | (simp only [hji5] at H ⊢; exact H)
    by_cases c6 : 0 ≤ (ji5)
    ·rw [if_pos c6] at H
     have c6b0 := eq_true c6
     have c6b1 : decide (0 ≤ (ji5)) = true := decide_eq_true c6
     clear c6
     obtain ⟨ji7, hji7⟩ : ∃ j_ : Int, (shr .u32 a0 (ji5)) = j_ := ⟨_, rfl⟩
     replace H : (if (Go.bits .and .u32 (ji7) 1) = 1 then (if 0 ≤ x10_1 then (if x10_1 < (l2.length : Int) then (rel_Seq_1.l0 k1 a0 l2 (Go.bits .or .u32 x6_1 (rd l2 x10_1)) (l2.length : Int) (wrap64 (x10_1 + 1))) else (none)) else (none)) else (rel_Seq_1.l0 k1 a0 l2 x6_1 (l2.length : Int) (wrap64 (x10_1 + 1)))) = some r := by first | (rw [hji7] at H; exact H) | (simp only [hji7] at H ⊢; exact H)
     have hji7_ : (a0 / 2 ^ min (ji5).toNat 32) = ji7 := hji7
     have hji7z : (ji5) ≤ 32 → (a0 / 2 ^ (ji5).toNat) = ji7 := shr_small hji7
     by_cases c8 : (Go.bits .and .u32 (ji7) 1) = 1
     ·rw [if_pos c8] at H
      have c8b0 : ((Go.bits .and .u32 (ji7) 1) == 1) = true := beq_iff_eq.mpr c8
      have c8b1 : ((Go.bits .and .u32 (ji7) 1) != 1) = false := bne_eq_false_iff_eq.mpr c8
      clear c8
      by_cases c9 : 0 ≤ x10_1
      ·rw [if_pos c9] at H
       have c9b0 : decide (0 ≤ x10_1) = true := decide_eq_true c9
       clear c9
       by_cases c10 : x10_1 < (l2.length : Int)
       ·rw [if_pos c10] at H
        have c10b0 : decide (x10_1 < (l2.length : Int)) = true := decide_eq_true c10
        clear c10
        have H' := a9_ H
        clear H
        have p101 : 0 ≤ (x10_1 : Int) := of_decide_eq_true (by first | (with_reducible assumption) | assumption)
        have q101 : x10_1 < (l2.length : Int) := of_decide_eq_true (by first | (with_reducible assumption) | assumption)
        obtain ⟨ad101, e101, hx101_0⟩ := Kd.at_int HR2.out x10_1 p101 q101
        cases e101
        replace p101 := eq_true p101
        replace q101 := eq_true q101
        go_wp2
        go_roundg k1
        case measure => have := HK1.out; omega
        case rel => exact ⟨(Go.bits .or .u32 x6_1 (rd l2 x10_1)), (wrap64 (x10_1 + 1)), (by first | rfl | (simp; done) | (simp [*]; done)), (by first | rfl | (simp; done) | (simp [*]; done)), H', ⟨by have := HK1.out; omega⟩, by repeat (first | exact Drawn0.refl _ | apply Drawn0.step)⟩
       ·rw [if_neg c10] at H
        exact absurd H (by simp)
      ·rw [if_neg c9] at H
       exact absurd H (by simp)
     ·rw [if_neg c8] at H
      have c8b0 : ((Go.bits .and .u32 (ji7) 1) == 1) = false := beq_eq_false_iff_ne.mpr c8
      have c8b1 : ((Go.bits .and .u32 (ji7) 1) != 1) = true := bne_iff_ne.mpr c8
      have H' := a9_ H
      clear H
      go_wp2
      go_roundg k1
      case measure => have := HK1.out; omega
      case rel => exact ⟨(x6_1), (wrap64 (x10_1 + 1)), (by first | rfl | (simp; done) | (simp [*]; done)), (by first | rfl | (simp; done) | (simp [*]; done)), H', ⟨by have := HK1.out; omega⟩, by repeat (first | exact Drawn0.refl _ | apply Drawn0.step)⟩
    ·rw [if_neg c6] at H
     exact absurd H (by simp)
   ·rw [if_neg c4] at H
    have c4b0 : decide (x10_1 < (l2.length : Int)) = false := decide_eq_false c4
    clear c4
    obtain rfl := Option.some.inj H
    go_wp2
    go_ret
    exact ⟨by first | rfl | (simp; done) | (simp [*]; done), by repeat (first | exact Drawn0.refl _ | apply Drawn0.step)⟩
def rel_Or_1.f (a0 : Int) (a1 : Int) : Option (Int) := some (Go.bits .or .u32 a0 a1)
theorem rel_Or_1.calls (a0 : Int) (a1 : Int) (r : Int) (w : World) (h : rel_Or_1.f a0 a1 = some r) :
  Calls Try.prog 122 #[.int .u32 a0, .int .u32 a1] w fun e w' => e = .returned (.int .u32 r) ∧ Drawn0 w w' := by
 have H : (some (Go.bits .or .u32 a0 a1)) = some r := h
 clear h
 obtain rfl := Option.some.inj H
 go_enter Try.func122, Try.ntmps122
 go_wp2
 go_ret
 exact ⟨by first | rfl | (simp; done) | (simp [*]; done), by repeat (first | exact Drawn0.refl _ | apply Drawn0.step)⟩
def rel_And_1.f (a0 : Int) (a1 : Int) : Option (Int) := some (Go.bits .and .u32 a0 a1)
theorem rel_And_1.calls (a0 : Int) (a1 : Int) (r : Int) (w : World) (h : rel_And_1.f a0 a1 = some r) :
  Calls Try.prog 123 #[.int .u32 a0, .int .u32 a1] w fun e w' => e = .returned (.int .u32 r) ∧ Drawn0 w w' := by
 have H : (some (Go.bits .and .u32 a0 a1)) = some r := h
 clear h
 obtain rfl := Option.some.inj H
 go_enter Try.func123, Try.ntmps123
 go_wp2
 go_ret
 exact ⟨by first | rfl | (simp; done) | (simp [*]; done), by repeat (first | exact Drawn0.refl _ | apply Drawn0.step)⟩
def rowW (l : List Int) (i : Nat) : Int := word fun k => decide (k < sz l) && mat l i k
theorem both_l0 (φ : Int → Int → Option Int) (ψ : Int → Int → Int) (n : Nat) (hn : n ≤ 32) (X Y : Nat → Int) (hφ : ∀ i, i < n → φ (X i) (Y i) = some (ψ (X i) (Y i))) : ∀ d i, i + d = n →
  Ev (fun k => rel_both.l0 φ k (tab n fun j => if j < i then ψ (X j) (Y j) else X j) (tab n Y) (n : Int) (i : Int)) (tab n fun j => ψ (X j) (Y j)) := by
 intro d
 induction d with
 | zero =>
  intro i hi
  obtain rfl : i = n := by omega
  refine Ev.step (fun k => by rw [rel_both.l0]) ?_
  refine Ev.neg (by omega) ?_
  rw [tab_congr (g := fun j => ψ (X j) (Y j)) (fun j hj => if_pos hj)]
  exact Ev.now _
 | succ d ih =>
  intro i hi
  have hin : i < n := by omega
  refine Ev.step (fun k => by rw [rel_both.l0]) ?_
  refine Ev.pos (by omega) (Ev.pos (by omega) (Ev.pos (by rw [tab_length]; omega) (Ev.pos (by rw [tab_length]; omega) ?_)))
  rw [rd_tab _ _ _ hin, rd_tab _ _ _ hin, if_neg (Nat.lt_irrefl i)]
  refine Ev.bindv (hφ i hin) ?_
  rw [Int.toNat_natCast, wrap64_succ i (by omega), tab_set]
  have e : (tab n fun j => if j = i then ψ (X i) (Y i) else if j < i then ψ (X j) (Y j) else X j) = tab n fun j => if j < i + 1 then ψ (X j) (Y j) else X j := by
   refine tab_congr fun j hj => ?_
   by_cases hji : j = i
   ·subst hji; rw [if_pos rfl, if_pos (by omega)]
   ·rw [if_neg hji]
    by_cases hlt : j < i
    ·rw [if_pos hlt, if_pos (by omega)]
    ·rw [if_neg hlt, if_neg (by omega)]
  rw [e]
  exact ih (i + 1) (by omega)
theorem both_ev (φ : Int → Int → Option Int) (ψ : Int → Int → Int) (a b : List Int) (hφ : ∀ x y, U32 x → U32 y → φ x y = some (ψ x y)) :
  Ev (fun k => rel_both.f φ k a b) (if sz a = sz b then tab (sz a) (fun i => ψ (rowW a i) (rowW b i)) else []) := by
 unfold rel_both.f
 refine Ev.bind (clean_ev a) (Ev.bind (clean_ev b) ?_)
 rw [ofM_length, ofM_length]
 by_cases h : sz a = sz b
 ·rw [if_pos h]
  refine Ev.pos (by omega) ?_
  have := both_l0 φ ψ (sz a) (sz_le a) (rowW a) (rowW b) (fun i _ => hφ _ _ (word_u32 _) (word_u32 _)) (sz a) 0 (by omega)
  have e : tab (sz a) (rowW b) = ofM (sz b) (mat b) := by rw [h]; rfl
  rw [e] at this
  exact this
 ·rw [if_neg h]
  exact Ev.neg (by omega) (Ev.now _)
def rel_Or.f (l0 : List Int) (l1 : List Int) : Option (List Int) := some (if sz l0 = sz l1 then ofM (sz l0) (fun i k => mat l0 i k || mat l1 i k) else [])
def rel_And.f (l0 : List Int) (l1 : List Int) : Option (List Int) := some (if sz l0 = sz l1 then ofM (sz l0) (fun i k => mat l0 i k && mat l1 i k) else [])
theorem or_rows (a b : List Int) (h : sz a = sz b) : (tab (sz a) fun i => Go.bits .or .u32 (rowW a i) (rowW b i)) = ofM (sz a) (fun i k => mat a i k || mat b i k) := by
 unfold ofM
 refine tab_congr fun i _ => ?_
 apply u32_ext (bits_u32 _ _ _) (word_u32 _)
 intro k hk
 rw [tb_or, rowW, rowW, tb_word, tb_word, tb_word, h]
 cases decide (k < sz b) <;> simp [hk]
theorem and_rows (a b : List Int) (h : sz a = sz b) : (tab (sz a) fun i => Go.bits .and .u32 (rowW a i) (rowW b i)) = ofM (sz a) (fun i k => mat a i k && mat b i k) := by
 unfold ofM
 refine tab_congr fun i _ => ?_
 apply u32_ext (bits_u32 _ _ _) (word_u32 _)
 intro k hk
 rw [tb_and, rowW, rowW, tb_word, tb_word, tb_word, h]
 cases decide (k < sz b) <;> simp [hk]
theorem rel_Or.calls (A0 : Option Addr) (c0 : Nat) (l0 : List Int) (A1 : Option Addr) (c1 : Nat) (l1 : List Int) (r : List Int) (w : World) (hr0 : Kd.C (Kd.int .u32) w A0 l0.length l0) (hc0 : l0.length ≤ c0) (hr1 : Kd.C (Kd.int .u32) w A1 l1.length l1) (hc1 : l1.length ≤ c1) (h : rel_Or.f l0 l1 = some r) :
  Calls Try.prog 58 #[.slice A0 l0.length c0, .slice A1 l1.length c1] w fun e w' => ∃ v0_ : Value, e = .returned (v0_) ∧ Kd.R (Kd.int .u32) 52 w' w.heap.size (fun _ => True) v0_ r ∧ Below w.heap.size w w' := by
 obtain ⟨k, hk⟩ := (both_ev rel_Or_1.f (Go.bits .or .u32) l0 l1 (fun _ _ _ _ => rfl)).rounds
 have hk' : rel_both.f rel_Or_1.f k l0 l1 = some r := by
  rw [hk, ← h]
  unfold rel_Or.f
  by_cases e : sz l0 = sz l1
  ·rw [if_pos e, if_pos e, or_rows l0 l1 e]
  ·rw [if_neg e, if_neg e]
 have HK := a9_ hk'
 have HR0 := a9_ hr0
 have HC0 := a9_ hc0
 have HR1 := a9_ hr1
 have HC1 := a9_ hc1
 clear hk hk' h hr0 hc0 hr1 hc1
 go_enter Try.func58, Try.ntmps58
 go_wp2_with (go_at_call 121; refine (rel_both.calls rel_Or_1.f 122 Try.f122 Try.func122 (by kernel_rfl) rfl #[] k _ _ l0 _ _ l1 r _ HR0.out HC0.out HR1.out HC1.out (fun w1 _ a b q hq => rel_Or_1.calls a b q w1 hq) HK.out).mono ?_; rintro e w1 ⟨v, rfl, ho, hb⟩)
 go_ret
 exact ⟨_, rfl, ho, hb⟩
theorem rel_And.calls (A0 : Option Addr) (c0 : Nat) (l0 : List Int) (A1 : Option Addr) (c1 : Nat) (l1 : List Int) (r : List Int) (w : World) (hr0 : Kd.C (Kd.int .u32) w A0 l0.length l0) (hc0 : l0.length ≤ c0) (hr1 : Kd.C (Kd.int .u32) w A1 l1.length l1) (hc1 : l1.length ≤ c1) (h : rel_And.f l0 l1 = some r) :
  Calls Try.prog 60 #[.slice A0 l0.length c0, .slice A1 l1.length c1] w fun e w' => ∃ v0_ : Value, e = .returned (v0_) ∧ Kd.R (Kd.int .u32) 52 w' w.heap.size (fun _ => True) v0_ r ∧ Below w.heap.size w w' := by
 obtain ⟨k, hk⟩ := (both_ev rel_And_1.f (Go.bits .and .u32) l0 l1 (fun _ _ _ _ => rfl)).rounds
 have hk' : rel_both.f rel_And_1.f k l0 l1 = some r := by
  rw [hk, ← h]
  unfold rel_And.f
  by_cases e : sz l0 = sz l1
  ·rw [if_pos e, if_pos e, and_rows l0 l1 e]
  ·rw [if_neg e, if_neg e]
 have HK := a9_ hk'
 have HR0 := a9_ hr0
 have HC0 := a9_ hc0
 have HR1 := a9_ hr1
 have HC1 := a9_ hc1
 clear hk hk' h hr0 hc0 hr1 hc1
 go_enter Try.func60, Try.ntmps60
 go_wp2_with (go_at_call 121; refine (rel_both.calls rel_And_1.f 123 Try.f123 Try.func123 (by kernel_rfl) rfl #[] k _ _ l0 _ _ l1 r _ HR0.out HC0.out HR1.out HC1.out (fun w1 _ a b q hq => rel_And_1.calls a b q w1 hq) HK.out).mono ?_; rintro e w1 ⟨v, rfl, ho, hb⟩)
 go_ret
 exact ⟨_, rfl, ho, hb⟩
def seqW (x : Int) (y : List Int) : Int := word fun k => (List.range y.length).any fun j => tb x j && tb (y.getD j 0) k
theorem seq1_l0 (x : Int) (hx : U32 x) (y : List Int) (hn : y.length ≤ 32) : ∀ d j, j + d = y.length →
  Ev (fun k => rel_Seq_1.l0 k x y (word fun k => (List.range j).any fun j => tb x j && tb (y.getD j 0) k) (y.length : Int) (j : Int)) (seqW x y) := by
 intro d
 induction d with
 | zero =>
  intro j hj
  obtain rfl : j = y.length := by omega
  refine Ev.step (fun k => by rw [rel_Seq_1.l0]) ?_
  exact Ev.neg (by omega) (Ev.now _)
 | succ d ih =>
  intro j hj
  have h := ih (j + 1) (by omega)
  refine Ev.step (fun k => by rw [rel_Seq_1.l0]) ?_
  refine Ev.pos (by omega) ?_
  rw [wrap_u64_nat j (by omega), shr_and_one hx, wrap64_succ j (by omega)]
  refine Ev.pos (by omega) ?_
  by_cases hb : tb x j = true
  ·refine Ev.pos (by simp [hb]) (Ev.pos (by omega) (Ev.pos (by omega) ?_))
   have e : Go.bits .or .u32 (word fun k => (List.range j).any fun j => tb x j && tb (y.getD j 0) k) (rd y (j : Int)) = word fun k => (List.range (j + 1)).any fun j => tb x j && tb (y.getD j 0) k := by
    apply u32_ext (bits_u32 _ _ _) (word_u32 _)
    intro k hk
    rw [tb_or, tb_word, tb_word, List.range_succ, List.any_append]
    simp [hk, hb, rd]
   rw [e]
   exact h
  ·refine Ev.neg (by simp [hb]) ?_
   have e : (word fun k => (List.range j).any fun j => tb x j && tb (y.getD j 0) k) = word fun k => (List.range (j + 1)).any fun j => tb x j && tb (y.getD j 0) k := by
    congr 1
    funext k
    rw [List.range_succ, List.any_append]
    simp [hb]
   rw [e]
   exact h
theorem seq1_ev (x b : Int) (hx : U32 x) (y : List Int) (hn : y.length ≤ 32) : Ev (fun k => rel_Seq_1.f k x b y) (seqW x y) := by
 unfold rel_Seq_1.f
 have := seq1_l0 x hx y hn y.length 0 (by omega)
 have e : (word fun k => (List.range 0).any fun j => tb x j && tb (y.getD j 0) k) = 0 := by
  apply u32_ext (word_u32 _) ⟨by decide, by decide⟩
  intro k hk
  rw [tb_word, tb_zero]; simp
 rw [e] at this
 exact this
def phiSeq (y : List Int) (x _b : Int) : Option Int := if 0 ≤ x ∧ x < 4294967296 then some (seqW x y) else none
def rel_Seq.f (l0 : List Int) (l1 : List Int) : Option (List Int) := some (if sz l0 = sz l1 then ofM (sz l0) (seqM (sz l0) (mat l0) (mat l1)) else [])
theorem seq_rows (a b : List Int) (h : sz a = sz b) : (tab (sz a) fun i => seqW (rowW a i) (ofM (sz b) (mat b))) = ofM (sz a) (seqM (sz a) (mat a) (mat b)) := by
 have hle := sz_le a
 have hl : (ofM (sz b) (mat b)).length = sz b := ofM_length _ _
 have hg : ∀ j, j < sz b → (ofM (sz b) (mat b)).getD j 0 = word fun k => decide (k < sz b) && mat b j k := fun j hj => getD_tab _ _ _ hj
 generalize ofM (sz b) (mat b) = y at *
 unfold ofM
 refine tab_congr fun i _ => ?_
 apply u32_ext (word_u32 _) (word_u32 _)
 intro k hk
 unfold rowW
 rw [tb_word, tb_word, hl, h, Bool.eq_iff_iff]
 simp only [hk, decide_true, Bool.true_and, List.any_eq_true, List.mem_range, Bool.and_eq_true, tb_word, decide_eq_true_eq, seqM_iff]
 constructor
 ·rintro ⟨j, hj, ⟨_, _, h1⟩, h2⟩
  rw [hg j hj, tb_word] at h2
  simp only [Bool.and_eq_true, decide_eq_true_eq] at h2
  exact ⟨h2.2.1, j, hj, h1, h2.2.2⟩
 ·rintro ⟨h0, j, hj, h1, h2⟩
  refine ⟨j, hj, ⟨by omega, hj, h1⟩, ?_⟩
  rw [hg j hj, tb_word]
  simp [hk, h0, h2]
theorem rel_Seq.calls (A0 : Option Addr) (c0 : Nat) (l0 : List Int) (A1 : Option Addr) (c1 : Nat) (l1 : List Int) (r : List Int) (w : World) (hr0 : Kd.C (Kd.int .u32) w A0 l0.length l0) (hc0 : l0.length ≤ c0) (hr1 : Kd.C (Kd.int .u32) w A1 l1.length l1) (hc1 : l1.length ≤ c1) (h : rel_Seq.f l0 l1 = some r) :
  Calls Try.prog 62 #[.slice A0 l0.length c0, .slice A1 l1.length c1] w fun e w' => ∃ v0_ : Value, e = .returned (v0_) ∧ Kd.R (Kd.int .u32) 52 w' w.heap.size (fun _ => True) v0_ r ∧ Below w.heap.size w w' := by
 have hle := sz_le l1
 have hphi : ∀ x b, U32 x → U32 b → phiSeq (ofM (sz l1) (mat l1)) x b = some (seqW x (ofM (sz l1) (mat l1))) := fun x b hx _ => by unfold phiSeq; exact if_pos hx
 obtain ⟨k, hk⟩ := (both_ev (phiSeq (ofM (sz l1) (mat l1))) (fun x _ => seqW x (ofM (sz l1) (mat l1))) l0 l1 hphi).rounds
 have hk' : rel_both.f (phiSeq (ofM (sz l1) (mat l1))) k l0 l1 = some r := by
  rw [hk, ← h]
  unfold rel_Seq.f
  by_cases e : sz l0 = sz l1
  ·rw [if_pos e, if_pos e, seq_rows l0 l1 e]
  ·rw [if_neg e, if_neg e]
 obtain ⟨m, hm⟩ := (clean_ev l1).rounds
 have hlen : (ofM (sz l1) (mat l1)).length ≤ 32 := by rw [ofM_length]; exact hle
 have HF0 : ∀ a b q, phiSeq (ofM (sz l1) (mat l1)) a b = some q → ∃ n, rel_Seq_1.f n a b (ofM (sz l1) (mat l1)) = some q := by
  intro a b q hq
  unfold phiSeq at hq
  by_cases ha : 0 ≤ a ∧ a < 4294967296
  ·rw [if_pos ha] at hq
   obtain rfl := Option.some.inj hq
   exact (seq1_ev a b ha _ hlen).rounds
  ·rw [if_neg ha] at hq; cases hq
 generalize phiSeq (ofM (sz l1) (mat l1)) = φ at *
 generalize ofM (sz l1) (mat l1) = y at *
 have HF1 := a9_ HF0
 have HK := a9_ hk'
 have HM := a9_ hm
 have HR0 := a9_ hr0
 have HC0 := a9_ hc0
 have HR1 := a9_ hr1
 have HC1 := a9_ hc1
 clear hk hk' h hr0 hc0 hr1 hc1 hm hphi HF0 hlen hle
 go_enter Try.func62, Try.ntmps62
 go_wp2_with (go_at_call 112; refine (rel_clean.calls m _ _ l1 y _ HR1.out HC1.out HM.out).mono ?_; rintro e w1 ⟨v, rfl, ho, hb⟩; obtain ⟨Ay, cy, ey⟩ := Kd.R_slice ho; subst ey; have HO := a9_ ho; have HB := a9_ hb; clear ho hb)
 have HW := a9_ (below_alloc HB.out (Obj.cells #[Value.slice Ay y.length cy] 28))
 have HCe := a9_ (show (w1.alloc (Obj.cells #[Value.slice Ay y.length cy] 28)).cell? ⟨w1.heap.size, 0, none⟩ = some (.slice Ay y.length cy) by simp)
 have HY := a9_ (Kd.C_alloc (Kd.R_reads' HO.out).2.2 (Obj.cells #[Value.slice Ay y.length cy] 28))
 have HX0 := a9_ (Kd.C_alloc (Kd.C_below HR0.out HB.out) (Obj.cells #[Value.slice Ay y.length cy] 28))
 have HX1 := a9_ (Kd.C_alloc (Kd.C_below HR1.out HB.out) (Obj.cells #[Value.slice Ay y.length cy] 28))
 have HF2 := a9_ (show ∀ w2, Below (w1.alloc (Obj.cells #[Value.slice Ay y.length cy] 28)).heap.size (w1.alloc (Obj.cells #[Value.slice Ay y.length cy] 28)) w2 → ∀ a b q, φ a b = some q → Calls Try.prog 124 (#[.int .u32 a, .int .u32 b] ++ #[.pointer (some ⟨w1.heap.size, 0, none⟩)]) w2 fun e w' => e = .returned (.int .u32 q) ∧ Drawn0 w2 w' from by
  intro w2 hb2 a b q hq
  obtain ⟨n, hn⟩ := HF1.out a b q hq
  exact rel_Seq_1.calls n a b w1.heap.size Ay cy y q w2 (pw_cell_below hb2 HCe.out) (Kd.C_below HY.out hb2) (Kd.R_reads' HO.out).2.1 hn)
 refine (rel_both.calls φ 124 Try.f124 Try.func124 (by kernel_rfl) rfl _ k _ _ l0 _ _ l1 r _ HX0.out HC0.out HX1.out HC1.out HF2.out HK.out).mono ?_
 rintro e w3 ⟨v, rfl, ho, hb⟩
 have hres := a9_ (Kd.R_lower ho (below_size HW.out))
 have hbel := a9_ (below_step HW.out hb)
 clear ho hb
 go_wp2
 go_ret
 exact ⟨_, rfl, hres.out, hbel.out⟩
end Go.Proofs.Ytbamkkdikeedoaa.G
