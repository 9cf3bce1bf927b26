/- By hand: order.Fits, its closure, slices.ContainsFunc and IndexFunc at it. -/
import Derived.Test.YtbamkkdikeedoaaHandLinear
namespace Go.Proofs.Ytbamkkdikeedoaa.G
open Go.RowKit Go.Proofs.YtbamkkdikeedoaaW.PrintWords Go.Proofs.YtbamkkdikeedoaaW.PrintLast Go.Proofs.YtbamkkdikeedoaaW.PrintMore
attribute [local go_sem] max2_int min2_int max_two min_two max_three min_three max_four min_four   -- for this text's walks alone
set_option linter.unusedVariables false
set_option linter.unusedSimpArgs false
abbrev fitW (g : Nat) : Value := .func (.func 142) #[] #[ptrW g]
/-- The closure: does the second thing stand no later? -/
def lateB (pl : List Int) (p : S46) : Bool := decide (rd pl p.f0 ≥ rd pl p.f1)
def inB (pl : List Int) (p : S46) : Prop := 0 ≤ p.f0 ∧ p.f0 < (pl.length : Int) ∧ 0 ≤ p.f1 ∧ p.f1 < (pl.length : Int)
set_option maxHeartbeats 8000000 in
set_option maxRecDepth 100000 in
theorem order_Fits_1.calls (w : World) (g : Nat) (Ap : Option Addr) (cp : Nat) (pl : List Int) (hb : w.heap[g]? = some (.cells #[.slice Ap pl.length cp] 33 (0, 0))) (hp : Kd.C (Kd.int .i64) w Ap pl.length pl) (x y : Int) (hin : inB pl ⟨x, y⟩) :
    Calls Try.prog 142 #[.agg #[.int .i64 x, .int .i64 y], ptrW g] w fun e w' => e = .returned (.bool (lateB pl ⟨x, y⟩)) ∧ Below w.heap.size w w' := by
  have hu46 := Try.underlying46
  obtain ⟨p0, q0, p1, q1⟩ := hin
  simp only at p0 q0 p1 q1
  have HB := Aside0.mk (Below.refl w.heap.size w)
  have BP := Aside0.mk hb
  have HC := Aside0.mk hp
  clear hb hp
  go_enter Try.func142, Try.ntmps142
  go_wp2_with (first
    | ((with_reducible refine gate_dst (N := 2) rfl ?_); refine box_event ?hg (N := 2) ?hd (cs := #[.int .i64 x, .int .i64 y]) (t := 46) ?hr ?_; (case hd => rfl); (case hg => rfl); (case hr => first | (go_simp; done) | (go_simp; rfl)); intro gb2 hg w6 hbox hb; have n0_ := Aside0.mk (below_step (bp9 HB.out) hb); have n1_ := Aside0.mk (blk_below (kp9 BP.out) hb); have n2_ := Aside0.mk (Kd.C_below HC.out hb); have BK2 := Aside0.mk hbox; clear HB BP HC; have HB := n0_; have BP := n1_; have HC := n2_; clear n0_ n1_ n2_ hb hg hbox; have hcz0 := (blk_cell BK2.out 0).trans (rfl : _ = some (Value.int .i64 x)); have hcz1 := (blk_cell BK2.out 1).trans (rfl : _ = some (Value.int .i64 y)); have hfz0 := blk_frozen BK2.out 0; have hfz1 := blk_frozen BK2.out 1; have hcp := (blk_cell BP.out 0).trans (rfl : _ = some (Value.slice Ap pl.length cp)); have hfp := blk_frozen BP.out 0))
  obtain ⟨ad, e0, hx0⟩ := Kd.at_int HC.out x p0 q0
  cases e0
  obtain ⟨ad1, e1, hx1⟩ := Kd.at_int HC.out y p1 q1
  obtain rfl : ad = ad1 := by injection e1
  replace p0 := eq_true p0
  replace q0 := eq_true q0
  replace p1 := eq_true p1
  replace q1 := eq_true q1
  go_quiet (fail)
  try go_wp2
  go_ret
  refine ⟨?_, bp9 HB.out⟩
  unfold lateB
  first | rfl | (simp; done) | skip
/-- slices.IndexFunc at the closure. -/
def idxF (pl : List Int) : List S46 → Int → Int
  | [], _ => -1
  | p :: ps, i => if lateB pl p = true then i else idxF pl ps (i + 1)
theorem idxF_any (pl : List Int) : ∀ (ps : List S46) (i : Int), 0 ≤ i → (idxF pl ps i ≥ 0 ↔ ps.any (lateB pl) = true)
  | [], i, h => by simp [idxF]
  | p :: ps, i, h => by
    unfold idxF
    by_cases hp : lateB pl p = true
    · rw [if_pos hp, List.any_cons, hp]; simp; omega
    · rw [if_neg hp, List.any_cons, Bool.eq_false_iff.mpr hp, Bool.false_or]
      exact idxF_any pl ps (i + 1) (by omega)
set_option maxHeartbeats 8000000 in
set_option maxRecDepth 100000 in
theorem slices_IndexFunc.calls (w : World) (g : Nat) (Ap : Option Addr) (cp : Nat) (pl : List Int) (hb : w.heap[g]? = some (.cells #[.slice Ap pl.length cp] 33 (0, 0))) (hp : Kd.C (Kd.int .i64) w Ap pl.length pl) (A : Option Addr) (c : Nat) (ps : List S46) (hC : Kd.C k46 w A ps.length ps) (hc : ps.length ≤ c) (hsm : ps.length < 1000000) (hin : ∀ p ∈ ps, inB pl p) :
    Calls Try.prog 155 #[.slice A ps.length c, fitW g] w fun e w' => e = .returned (.int .i64 (idxF pl ps 0)) ∧ Below w.heap.size w w' := by
  have hu46 := Try.underlying46
  have HB := Aside0.mk (Below.refl w.heap.size w)
  have BP := Aside0.mk hb
  have HC := Aside0.mk hp
  have HP := Aside0.mk hC
  clear hb hp hC
  go_enter Try.func155, Try.ntmps155
  go_wp2
  go_loopg [8] ps.length (fun kq v8 w' => ∃ (x : Int) (i : Nat), v8 = .int .i64 x ∧ Aside0 (x = i) ∧ Aside0 (i + kq = ps.length) ∧ Aside0 (Below w.heap.size w w') ∧ Aside0 (idxF pl (ps.drop i) (i : Int) = idxF pl ps 0))
  case atStart => exact ⟨0, 0, by first | rfl | simp, ⟨rfl⟩, ⟨by omega⟩, ⟨bp9 HB.out⟩, ⟨by rw [List.drop_zero]; rfl⟩⟩
  case round =>
    clear HB
    obtain ⟨x, i, rfl, HX, HI, HB, HQ⟩ := hrel
    cases gk with
    | zero =>
      have ci : decide (x < (ps.length : Int)) = false := decide_eq_false (by have := HX.out; have := HI.out; omega)
      have hr : idxF pl ps 0 = -1 := by have h9 := HQ.out; rw [List.drop_of_length_le (by have := HI.out; omega)] at h9; exact h9.symm
      go_wp2
      go_ret
      refine ⟨?_, HB.out⟩
      rw [hr]
      rfl
    | succ k1 =>
      have hi : i < ps.length := by have := HI.out; omega
      have ci : decide (x < (ps.length : Int)) = true := decide_eq_true (by have := HX.out; omega)
      have p1 : 0 ≤ x := by have := HX.out; omega
      have q1 : x < (ps.length : Int) := by have := HX.out; omega
      have hel : rd_T46 ps x = ps[i] := by rw [HX.out]; simp [rd_T46, List.getD_eq_getElem?_getD, List.getElem?_eq_getElem hi]
      have hinx := hin _ (List.getElem_mem hi)
      obtain ⟨ad, e0, hx0, hx1⟩ := at_T46 (Kd.C_below HP.out HB.out) x p1 q1
      cases e0
      rw [hel] at hx0 hx1
      replace p1 := eq_true p1
      replace q1 := eq_true q1
      have hQ2 := HQ.out
      rw [List.drop_eq_getElem_cons hi, idxF] at hQ2
      cases hl : lateB pl ps[i] with
      | true =>
        rw [if_pos hl] at hQ2
        go_wp2_with (first | (go_at_call 142; refine (order_Fits_1.calls _ g Ap cp pl (blk_below BP.out (bp9 HB.out)) (Kd.C_below HC.out (bp9 HB.out)) ps[i].f0 ps[i].f1 hinx).mono ?_; rintro e w20 ⟨rfl, hb⟩; have hlt : lateB pl ⟨ps[i].f0, ps[i].f1⟩ = true := hl; rw [hlt]; have HB2 := Aside0.mk (below_step (bp9 HB.out) hb); clear hb; dsimp only))
        go_ret
        refine ⟨?_, HB2.out⟩
        have h9 := HX.out
        subst h9
        rw [← hQ2]
        rfl
      | false =>
        rw [if_neg (by rw [hl]; decide)] at hQ2
        go_wp2_with (first | (go_at_call 142; refine (order_Fits_1.calls _ g Ap cp pl (blk_below BP.out (bp9 HB.out)) (Kd.C_below HC.out (bp9 HB.out)) ps[i].f0 ps[i].f1 hinx).mono ?_; rintro e w20 ⟨rfl, hb⟩; have hlt : lateB pl ⟨ps[i].f0, ps[i].f1⟩ = false := hl; rw [hlt]; have HB2 := Aside0.mk (below_step (bp9 HB.out) hb); clear hb; dsimp only))
        go_roundg k1
        case measure => omega
        case rel => exact ⟨wrap64 (x + 1), i + 1, by first | rfl | (simp; done), ⟨by have h9 := HX.out; rw [IntWalk.wrap64_in _ (by omega)]; omega⟩, ⟨by have := HI.out; omega⟩, HB2, ⟨by rw [← hQ2]; congr 1⟩⟩
set_option maxHeartbeats 8000000 in
theorem slices_ContainsFunc.calls (w : World) (g : Nat) (Ap : Option Addr) (cp : Nat) (pl : List Int) (hb : w.heap[g]? = some (.cells #[.slice Ap pl.length cp] 33 (0, 0))) (hp : Kd.C (Kd.int .i64) w Ap pl.length pl) (A : Option Addr) (c : Nat) (ps : List S46) (hC : Kd.C k46 w A ps.length ps) (hc : ps.length ≤ c) (hsm : ps.length < 1000000) (hin : ∀ p ∈ ps, inB pl p) :
    Calls Try.prog 141 #[.slice A ps.length c, fitW g] w fun e w' => e = .returned (.bool (ps.any (lateB pl))) ∧ Below w.heap.size w w' := by
  go_enter Try.func141, Try.ntmps141
  go_wp2_with (first | ((with_reducible refine gate_callee (f := 155) rfl ?_); refine goesL9 (some 7) rfl rfl Try.func155 (by kernel_rfl) rfl #[.slice A ps.length c, fitW g] rfl ?_; refine (slices_IndexFunc.calls w g Ap cp pl hb hp A c ps hC hc hsm hin).mono ?_; rintro e w8 ⟨rfl, HB⟩; refine ⟨_, rfl, ?_⟩))
  go_ret
  refine ⟨?_, HB⟩
  have hany := idxF_any pl ps 0 (by decide)
  have e1 : decide (idxF pl ps 0 ≥ 0) = ps.any (lateB pl) := by
    cases ha : ps.any (lateB pl) with
    | true => exact decide_eq_true (hany.2 ha)
    | false => exact decide_eq_false (fun h9 => by rw [hany.1 h9] at ha; cases ha)
  rw [← e1]
  rfl
instance inB_dec (pl : List Int) (p : S46) : Decidable (inB pl p) := by unfold inB; infer_instance
/-- Where each thing stands, from one; none: no order of n things. -/
def plT (n : Int) : List Int → Int → List Int → Option (List Int)
  | [], _, pl => some pl
  | k :: ks, i, pl => if k < 0 then none else if k ≥ n then none else if rd pl k > 0 then none else plT n ks (i + 1) (pl.set k.toNat (i + 1))
def order_Fits.f (k : Nat) (l0 l1 : List Int) : Option Bool := (order_size.f l1).bind fun n => if (l0.length : Int) = n then (if l0.length < 1000000 then (match plT n l0 0 (List.replicate l0.length 0) with | none => some false | some pl => (rel_Pairs.f k l1).bind fun ps => if ps.length < 1000000 ∧ ∀ p ∈ ps, inB pl p then some (!(ps.any (lateB pl))) else none) else none) else some false
theorem order_Fits.mono : ∀ a0 a1 k, LeO (order_Fits.f k a0 a1) (order_Fits.f (k + 1) a0 a1) := by
  intro a0 a1 k
  unfold order_Fits.f
  refine LeO.bind (LeO.refl _) (fun n => LeO.ite (LeO.ite ?_ (LeO.refl _)) (LeO.refl _))
  cases plT n a0 0 (List.replicate a0.length 0) with
  | none => exact LeO.refl _
  | some pl => exact LeO.bind (rel_Pairs.mono _ _) (fun _ => LeO.refl _)
set_option maxHeartbeats 8000000 in
set_option maxRecDepth 100000 in
theorem order_Fits.calls (k : Nat) (A0 : Option Addr) (c0 : Nat) (l0 : List Int) (A1 : Option Addr) (c1 : Nat) (l1 : List Int) (r : Bool) (w : World) (hr0 : Kd.C (Kd.int .i64) w A0 l0.length l0) (hc0 : l0.length ≤ c0) (hr1 : Kd.C (Kd.int .u32) w A1 l1.length l1) (hc1 : l1.length ≤ c1) (h : order_Fits.f k l0 l1 = some r) :
    Calls Try.prog 92 #[.slice A0 l0.length c0, .slice A1 l1.length c1] w fun e w' => e = .returned (.bool r) ∧ Below w.heap.size w w' := by
  have HR0 := Aside0.mk hr0
  have HC0 := Aside0.mk hc0
  have HR1 := Aside0.mk hr1
  have HC1 := Aside0.mk hc1
  clear hr0 hc0 hr1 hc1
  have HB := Aside0.mk (Below.refl w.heap.size w)
  unfold order_Fits.f at h
  obtain ⟨n, A30, H⟩ := Option.bind_eq_some_iff.mp h
  have A3 := Aside0.mk A30
  clear A30 h
  by_cases hn : (l0.length : Int) = n
  rotate_left
  · rw [if_neg hn] at H
    obtain rfl := Option.some.inj H
    clear H
    have n1 : ((l0.length : Int) == n) = false := beq_eq_false_iff_ne.mpr hn
    have n2 : ((l0.length : Int) != n) = true := bne_iff_ne.mpr hn
    clear hn
    go_enter Try.func92, Try.ntmps92
    go_wp2_with (first | ((with_reducible refine gate_callee (f := 138) rfl ?_); refine goesL9 (some 10) rfl rfl Try.func138 (by kernel_rfl) rfl #[.slice A1 l1.length c1] rfl ?_; (with_reducible refine (order_size.calls _ _ l1 n _ ?side1 HC1.out A3.out).mono ?_); (case side1 => exact cp9 HR1.out HB.out); rintro e w8 ⟨rfl, hb⟩; refine ⟨_, rfl, ?_⟩; have n0_ := Aside0.mk (below_step (bp9 HB.out) hb); clear HB; have HB := n0_; clear n0_ hb))
    go_ret
    exact ⟨rfl, bp9 HB.out⟩
  subst hn
  rw [if_pos rfl] at H
  by_cases hsm : l0.length < 1000000
  rotate_left
  · rw [if_neg hsm] at H; cases H
  rw [if_pos hsm] at H
  have HH := Aside0.mk H
  clear H
  have n1 : ((l0.length : Int) == (l0.length : Int)) = true := beq_self_eq_true _
  have n2 : ((l0.length : Int) != (l0.length : Int)) = false := bne_self_eq_false _
  go_enter Try.func92, Try.ntmps92
  go_wp2_with (first
    | ((with_reducible refine gate_callee (f := 138) rfl ?_); refine goesL9 (some 10) rfl rfl Try.func138 (by kernel_rfl) rfl #[.slice A1 l1.length c1] rfl ?_; (with_reducible refine (order_size.calls _ _ l1 _ _ ?side1 HC1.out A3.out).mono ?_); (case side1 => exact cp9 HR1.out HB.out); rintro e w8 ⟨rfl, hb⟩; refine ⟨_, rfl, ?_⟩; have n0_ := Aside0.mk (below_step (bp9 HB.out) hb); clear HB; have HB := n0_; clear n0_ hb)
    | ((with_reducible refine gate_dst (N := 16) rfl ?_); refine Kd.R_make (Kd.int .i64) (w0 := w) w.heap.size 3 rfl (N := 16) rfl 33 _ _ rfl (l0.length : Int) rfl rfl Try.underlying33 (.int .i64 0) 8 info3 rfl (by decide) (by omega) 0 (ok := fun _ => True) (okp := fun _ => True) rfl (fun _ hk => hk) trivial (by omega) (by omega) (bp9 HB.out) (below_size (bp9 HB.out)) ?_; intro v16 w10 ho16 hb hg_ hnew_; have HNEW := Aside0.mk hnew_; have HPL := Aside0.mk ho16; clear HB hg_ hnew_ ho16; have HB := Aside0.mk hb; clear hb)
    | ((with_reducible refine gate_dst (N := 6) rfl ?_); refine box_event ?hg (N := 6) ?hd (cs := #[.slice none 0 0]) (t := 33) ?hr ?_; (case hd => rfl); (case hg => rfl); (case hr => first | (go_simp; done) | (go_simp; rfl)); intro gb6 hg w11 hbox hb; have n0_ := Aside0.mk (below_step (bp9 HB.out) hb); have n1_ := Aside0.mk (Kd.R_below (rp9 HPL.out) hb); have BK6 := Aside0.mk hbox; have GE6 := Aside0.mk ((by rw [hg]; exact (below_size (bp9 HB.out)) : w.heap.size ≤ gb6)); clear HB HPL; have HB := n0_; have HPL := n1_; clear n0_ n1_ hb hg hbox; have hcz6 := (blk_cell BK6.out 0).trans (rfl : _ = some (Value.slice none 0 0)); have hfz6 := blk_frozen BK6.out 0; obtain ⟨gp, cp, rfl⟩ : ∃ gp cp, v16 = .slice (some ⟨gp, 0, none⟩) l0.length cp := (by obtain ⟨b_, hb_, _⟩ := HNEW.out; rcases Kd.own_of_R HPL.out with ⟨_, ⟨h_, _⟩ | ⟨g_, c_, _, h_, _⟩⟩; (rw [h_] at hb_; cases hb_); exact ⟨g_, c_, by rw [h_]; simp⟩)))
  go_loopg [19] l0.length (fun kq v19 w' => ∃ (x : Int) (i : Nat) (pl : List Int), v19 = .int .i64 x ∧ Aside0 (x = i) ∧ Aside0 (i + kq = l0.length) ∧ Aside0 (Below w.heap.size w w') ∧ Aside0 (w'.heap[gb6]? = some (.cells #[.slice (some ⟨gp, 0, none⟩) l0.length cp] 33 (0, 0))) ∧ Aside0 (Kd.R (Kd.int .i64) 3 w' w.heap.size (fun _ => True) (.slice (some ⟨gp, 0, none⟩) l0.length cp) pl) ∧ Aside0 (plT (l0.length : Int) (l0.drop i) (i : Int) pl = plT (l0.length : Int) l0 0 (List.replicate l0.length 0)))
  case atStart =>
    refine ⟨0, 0, List.replicate l0.length 0, by first | rfl | simp, ⟨rfl⟩, ⟨by omega⟩, ⟨below_set HB.out GE6.out⟩, ⟨blk_put BK6.out 0 _ rfl⟩, ⟨?_⟩, ⟨by rw [List.drop_zero]; rfl⟩⟩
    have h9 := Kd.R_types HPL.out BK6.out (by decide)
    simp only [Int.toNat_natCast] at h9
    exact Kd.R_mono (Kd.R_far (p := ⟨gb6, 0, none⟩) h9 (fun _ hk => hk.2) _) (fun _ _ => trivial)
  case round =>
    clear HB BK6 HPL HNEW hcz6 hfz6
    obtain ⟨x, i, pl, rfl, HX, HI, HB, BK6, HPL, HT⟩ := hrel
    have hpl : pl.length = l0.length := ((Kd.R_reads' HPL.out).1).symm
    have hczp := (blk_cell BK6.out 0).trans (rfl : _ = some (Value.slice (some ⟨gp, 0, none⟩) l0.length cp))
    have hfzp := blk_frozen BK6.out 0
    cases gk with
    | zero =>
      have ci : decide (x < (l0.length : Int)) = false := decide_eq_false (by have := HX.out; have := HI.out; omega)
      have hT := HT.out
      rw [List.drop_of_length_le (by have := HI.out; omega), plT] at hT
      have H := HH.out
      rw [← hT] at H
      obtain ⟨ps, A40, H⟩ := Option.bind_eq_some_iff.mp H
      have A4 := Aside0.mk A40
      clear A40
      by_cases hok : ps.length < 1000000 ∧ ∀ p ∈ ps, inB pl p
      rotate_left
      · rw [if_neg hok] at H; cases H
      rw [if_pos hok] at H
      obtain rfl := Option.some.inj H
      have HOK := Aside0.mk hok
      clear hok H hT
      have HLN := Aside0.mk hpl
      clear hpl
      go_wp2_with (first
        | ((with_reducible refine gate_callee (f := 38) rfl ?_); refine goesL9 (some 45) rfl rfl Try.func38 (by kernel_rfl) rfl #[.slice A1 l1.length c1] rfl ?_; (with_reducible refine (rel_Pairs.calls k _ _ l1 ps _ ?side1 ?side2 A4.out).mono ?_); (case side1 => exact cp9 HR1.out HB.out); (case side2 => exact HC1.out); rintro e w30 ⟨v45, rfl, ho0, hb⟩; refine ⟨_, rfl, ?_⟩; have HPS := Aside0.mk ho0; have n0_ := Aside0.mk (below_step (bp9 HB.out) hb); have n1_ := Aside0.mk (blk_below (kp9 BK6.out) hb); have n2_ := Aside0.mk (Kd.R_below (rp9 HPL.out) hb); clear HB BK6 HPL ho0 hb; have HB := n0_; have BK6 := n1_; have HPL := n2_; clear n0_ n1_ n2_ hczp hfzp; have hczp := (blk_cell BK6.out 0).trans (rfl : _ = some (Value.slice (some ⟨gp, 0, none⟩) l0.length cp)); have hfzp := blk_frozen BK6.out 0; obtain ⟨As, cs, rfl⟩ := Kd.R_slice HPS.out)
        | ((with_reducible refine gate_callee (f := 141) rfl ?_); refine goesL9 (some 47) rfl rfl Try.func141 (by kernel_rfl) rfl #[.slice As ps.length cs, fitW gb6] rfl ?_; refine (slices_ContainsFunc.calls _ gb6 (some ⟨gp, 0, none⟩) cp pl (by rw [HLN.out]; exact kp9 BK6.out) (by have h9 := (Kd.R_reads' HPL.out).2.2; exact lp9 h9) As cs ps (lp9 (Kd.R_reads' HPS.out).2.2) (Kd.R_reads' HPS.out).2.1 HOK.out.1 HOK.out.2).mono ?_; rintro e w31 ⟨rfl, hb⟩; refine ⟨_, rfl, ?_⟩; have n0_ := Aside0.mk (below_step (bp9 HB.out) hb); clear HB hb; have HB := n0_; clear n0_))
      go_ret
      exact ⟨rfl, HB.out⟩
    | succ k1 =>
      have hi : i < l0.length := by have := HI.out; omega
      have ci : decide (x < (l0.length : Int)) = true := decide_eq_true (by have := HX.out; omega)
      have p1 : 0 ≤ x := by have := HX.out; omega
      have q1 : x < (l0.length : Int) := by have := HX.out; omega
      obtain ⟨ad, e0, hx0⟩ := Kd.at_int (Kd.C_below HR0.out HB.out) x p1 q1
      cases e0
      have hel : rd l0 x = l0[i] := by rw [HX.out]; simp [rd, List.getD_eq_getElem?_getD, List.getElem?_eq_getElem hi]
      have hT := HT.out
      rw [List.drop_eq_getElem_cons hi, plT, ← hel] at hT
      clear hel
      replace p1 := eq_true p1
      replace q1 := eq_true q1
      by_cases k0 : rd l0 x < 0
      · rw [if_pos k0] at hT
        have H := HH.out
        rw [← hT] at H
        obtain rfl := Option.some.inj H
        have k0b : decide (rd l0 x < 0) = true := decide_eq_true k0
        clear k0 hT H
        have HLN := Aside0.mk hpl
        clear hpl
        go_wp2
        go_ret
        exact ⟨rfl, HB.out⟩
      rw [if_neg k0] at hT
      have k0b : decide (rd l0 x < 0) = false := decide_eq_false k0
      by_cases k9 : rd l0 x ≥ (l0.length : Int)
      · rw [if_pos k9] at hT
        have H := HH.out
        rw [← hT] at H
        obtain rfl := Option.some.inj H
        have k9b : decide ((l0.length : Int) ≤ rd l0 x) = true := decide_eq_true k9
        clear k0 k9 hT H
        have HLN := Aside0.mk hpl
        clear hpl
        go_wp2
        go_ret
        exact ⟨rfl, HB.out⟩
      rw [if_neg k9] at hT
      have k9b : decide ((l0.length : Int) ≤ rd l0 x) = false := decide_eq_false k9
      have p2 : 0 ≤ rd l0 x := by omega
      have q2 : rd l0 x < (pl.length : Int) := by omega
      have q3 : rd l0 x < (l0.length : Int) := by omega
      have HPLn : Kd.R (Kd.int .i64) 3 wr w.heap.size (fun _ => True) (.slice (some ⟨gp, 0, none⟩) pl.length cp) pl := by rw [hpl]; exact HPL.out
      obtain ⟨hx2, hf2⟩ := Kd.R_cell 0 HPLn (rd l0 x) p2 q2
      replace hx2 : wr.cell? ⟨gp, (rd l0 x).toNat, none⟩ = some (.int .i64 (rd pl (rd l0 x))) := hx2
      clear HPLn k0 k9
      have HLN := Aside0.mk hpl
      clear hpl
      replace p2 := eq_true p2
      replace q2 := eq_true q2
      replace q3 := eq_true q3
      by_cases k5 : rd pl (rd l0 x) > 0
      · rw [if_pos k5] at hT
        have H := HH.out
        rw [← hT] at H
        obtain rfl := Option.some.inj H
        have k5b : decide (0 < rd pl (rd l0 x)) = true := decide_eq_true k5
        clear k5 hT H
        go_wp2
        go_ret
        exact ⟨rfl, HB.out⟩
      · rw [if_neg k5] at hT
        have k5b : decide (0 < rd pl (rd l0 x)) = false := decide_eq_false k5
        have HT2 := Aside0.mk hT
        clear k5 hT HT
        have hw1 : wrap64 (x + 1) = x + 1 := by have := HX.out; exact IntWalk.wrap64_in _ (by omega)
        have HW1 := Aside0.mk hw1
        clear hw1
        have HP49 := Aside0.mk (Kd.R_putg HPL.out (rd l0 x) (wrap64 (x + 1)))
        go_wp2_with (first | ((with_reducible refine gate_store (t := 3) (p := 42) rfl ?_); refine store_event (t := 3) (p := 42) (v := ?vo_w50) (w1 := (wr.setCell ⟨gp, (rd l0 x).toNat, none⟩ (.int .i64 (wrap64 (x + 1))))) ?hg ?ho ?hn ?hr ?_; (case ho => rfl); (case hg => rfl); (case hn => rfl); (case hr => first | (go_simp; done) | (go_simp; rfl)); intro w50 hw; have n0_ : Aside0 (Kd.R (Kd.int .i64) 3 w50 w.heap.size (fun _ => True) (.slice (some ⟨gp, 0, none⟩) l0.length cp) (pl.set (rd l0 x).toNat (wrap64 (x + 1)))) := ⟨by rw [hw]; exact HP49.out.1⟩; have hg := HP49.out.2; rw [← hw] at hg; have n1_ := Aside0.mk (HB.out.grown hg HB.out.size (fun k_ hk => by injection hk with hk; rw [← hk]; exact Kd.R_base HPL.out gp rfl)); have n2_ := Aside0.mk (blk_grown BK6.out hg (Kd.R_ne HPL.out BK6.out (by decide))); clear HB BK6 HPL HP49 hw hg hx2 hf2; have HPL := n0_; have HB := n1_; have BK6 := n2_; clear n0_ n1_ n2_ hczp hfzp))
        go_roundg k1
        case measure => omega
        case rel =>
          refine ⟨wrap64 (x + 1), i + 1, _, by first | rfl | (simp; done), ⟨by rw [HW1.out, HX.out]; omega⟩, ⟨by have := HI.out; omega⟩, HB, BK6, HPL, ⟨?_⟩⟩
          rw [← HT2.out, HW1.out, HX.out, show ((i + 1 : Nat) : Int) = (i : Int) + 1 by omega]
end Go.Proofs.Ytbamkkdikeedoaa.G
