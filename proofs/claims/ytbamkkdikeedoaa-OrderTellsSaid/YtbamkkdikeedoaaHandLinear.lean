/- By hand: order.Linear and its closure that holds itself. -/
import Derived.Test.YtbamkkdikeedoaaGOrder
import Derived.Test.YtbamkkdikeedoaaHandSource
namespace Go.Proofs.Ytbamkkdikeedoaa.G
open Go.RowKit Go.Proofs.YtbamkkdikeedoaaW.PrintWords Go.Proofs.YtbamkkdikeedoaaW.PrintLast Go.Proofs.YtbamkkdikeedoaaW.PrintMore
attribute [local go_sem] max2_int min2_int max_two min_two max_three min_three max_four min_four   -- for this text's walks alone
attribute [local go_sem] run_store_func
set_option linter.unusedVariables false
set_option linter.unusedSimpArgs false

/-- What is told of each, one behind the other. -/
def linL (g : Int → Option (List (List Int))) : List Int → Option (List (List Int))
  | [] => some []
  | x :: xs => (g x).bind fun a => (linL g xs).bind fun b => some (a ++ b)
/-- What the closure tells: all ways on from these, m things more. -/
def linT (k : Nat) (r : List Int) : Nat → List Int → Int → Option (List (List Int))
  | 0, l, _ => some [l]
  | m + 1, l, d => (order_free.f k r d).bind fun fs => linL (fun x => linT k r m (l ++ [x]) (Go.bits .or .u32 d (shl .u32 1 (IntKind.u64.wrap x)))) fs
def order_Linear.f (k : Nat) (l0 : List Int) : Option (List (List Int)) := (order_size.f l0).bind fun n => if n > 6 then some [] else if n = (l0.length : Int) then (linT k l0 l0.length [] 0).bind fun out => if out.length ≤ 20000 then some out else none else some []
theorem linL_mono {g g' : Int → Option (List (List Int))} (h : ∀ x, LeO (g x) (g' x)) : ∀ l, LeO (linL g l) (linL g' l)
  | [] => LeO.refl _
  | x :: xs => LeO.bind (h x) (fun _ => LeO.bind (linL_mono h xs) (fun _ => LeO.refl _))
theorem linT_mono (k : Nat) (r : List Int) : ∀ m l d, LeO (linT k r m l d) (linT (k + 1) r m l d)
  | 0, _, _ => LeO.refl _
  | m + 1, l, d => LeO.bind (order_free.mono _ _ _) (fun fs => linL_mono (fun x => linT_mono k r m _ _) fs)
theorem order_Linear.mono : ∀ a0 k, LeO (order_Linear.f k a0) (order_Linear.f (k + 1) a0) := by
  intro a0 k
  unfold order_Linear.f
  exact LeO.bind (LeO.refl _) (fun _ => LeO.ite (LeO.refl _) (LeO.ite (LeO.bind (linT_mono _ _ _ _ _) (fun _ => LeO.refl _)) (LeO.refl _)))
theorem linL_at {g : Int → Option (List (List Int))} {fs : List Int} {i : Nat} {rest : List (List Int)} (hi : i < fs.length) (h : linL g (fs.drop i) = some rest) : ∃ a b, g (rd fs (i : Int)) = some a ∧ linL g (fs.drop (i + 1)) = some b ∧ rest = a ++ b := by
  have e : rd fs (i : Int) = fs[i] := by simp [rd, List.getD_eq_getElem?_getD, List.getElem?_eq_getElem hi]
  rw [List.drop_eq_getElem_cons hi, linL] at h
  obtain ⟨a, ha, h⟩ := Option.bind_eq_some_iff.mp h
  obtain ⟨b, hb, h⟩ := Option.bind_eq_some_iff.mp h
  exact ⟨a, b, by rw [e]; exact ha, hb, (Option.some.inj h).symm⟩

abbrev telW (g1 g2 g3 g4 : Nat) : Value := .func (.func 139) #[] #[ptrW g1, ptrW g2, ptrW g3, ptrW g4]
set_option maxHeartbeats 8000000 in
set_option maxRecDepth 100000 in
theorem order_Linear_1.calls (W0 : World) (g1 g2 g3 g4 : Nat) (k : Nat) (Ar : Option Addr) (cr : Nat) (r : List Int)
    (h1 : W0.heap[g1]? = some (.cells #[.int .i64 (r.length : Int)] 3 (0, 0))) (h3 : W0.heap[g3]? = some (.cells #[.slice Ar r.length cr] 28 (0, 0))) (hC : Kd.C (Kd.int .u32) W0 Ar r.length r) (hcl : r.length ≤ cr) (hr6 : r.length ≤ 6)
    (hg2 : W0.heap.size ≤ g2) (hg4 : W0.heap.size ≤ g4) (hg24 : g2 ≠ g4) (m : Nat) : ∀ (l : List Int) (hn : l.length + m = r.length) (d : Int) (res : List (List Int)) (hres : linT k r m l d = some res) (Af : Option Addr) (cf : Nat) (vo : Value) (out : List (List Int)) (w : World)
    (hB : Below W0.heap.size W0 w) (h2 : w.heap[g2]? = some (.cells #[vo] 35 (0, 0))) (h4 : w.heap[g4]? = some (.cells #[telW g1 g2 g3 g4] 140 (0, 0)))
    (hO : Kd.S (Kd.slice 3 (Kd.int .i64)) 33 w W0.heap.size (fun k => some k ≠ (Value.slice Af l.length cf).ownBlock) vo out) (hF : Kd.R (Kd.int .i64) 3 w W0.heap.size (fun _ => True) (.slice Af l.length cf) l)
    (hlen : out.length + res.length ≤ 20000),
    Calls Try.prog 139 #[.slice Af l.length cf, .int .u32 d, ptrW g1, ptrW g2, ptrW g3, ptrW g4] w fun e w' => ∃ vo', e = .returned (.tuple #[]) ∧ Below W0.heap.size W0 w' ∧ w'.heap[g2]? = some (.cells #[vo'] 35 (0, 0)) ∧ w'.heap[g4]? = some (.cells #[telW g1 g2 g3 g4] 140 (0, 0))
      ∧ Kd.S (Kd.slice 3 (Kd.int .i64)) 33 w' W0.heap.size (fun _ => True) vo' (out ++ res) ∧ (∀ (k : Nat) (cells : Array Value), w.heap[k]? = some (.cells cells 3 (0, 0)) → w'.heap[k]? = w.heap[k]?) := by
  induction m with
  | zero =>
    intro l hn d res hres Af cf vo out w hB h2 h4 hO hF hlen
    obtain rfl := Option.some.inj hres
    have h1w : w.heap[g1]? = some (.cells #[.int .i64 (r.length : Int)] 3 (0, 0)) := blk_below h1 hB
    have el : (l.length : Int) = (r.length : Int) := by omega
    have eb0 : ((l.length : Int) == (r.length : Int)) = true := beq_iff_eq.mpr el
    have eb1 : decide ((l.length : Int) = (r.length : Int)) = true := decide_eq_true el
    clear el
    have hc1 : w.cell? ⟨g1, 0, none⟩ = some (.int .i64 (r.length : Int)) := (blk_cell h1w 0).trans rfl
    have hf1 := blk_frozen h1w 0
    have hc2 : w.cell? ⟨g2, 0, none⟩ = some vo := (blk_cell h2 0).trans rfl
    have hf2 := blk_frozen h2 0
    go_enter Try.func139, Try.ntmps139
    have hOF := R_apart hF (Kd.S_R hO) (by decide)
    have hOF : Kd.R (Kd.int .i64) 3 w W0.heap.size (fun k => some k = (Value.slice Af l.length cf).ownBlock ∧ some k ≠ vo.ownBlock) (.slice Af l.length cf) l := ⟨fun k hk => ⟨hk.symm, (hOF.1 k hk).2⟩, hOF.2⟩
    go_wp2_with (first | ((with_reducible refine gate_builtin (b := .append) (xs := #[.tmp 14, .tmp 16]) rfl ?_); (try (refine gate_guard (by rfl) ?_; dsimp only)); at_builtin; refine Kd.S_append (Kd.slice 3 (Kd.int .i64)) (w0 := W0) W0.heap.size rfl (.tmp 14) (.tmp 16) 35 33 (.slice none 0 0) 24 rfl Try.underlying35 info33 rfl (by decide) (by omega) vo out l [.slice Af l.length cf] (fun _ => True) (fun k => some k = (Value.slice Af l.length cf).ownBlock ∧ some k ≠ vo.ownBlock) rfl rfl ?aP (fun _ hk => ⟨trivial, hk.2⟩) ?aF ?aO ?aB ?aS ?aL ?_; (case aP => exact ⟨_, rfl, by (with_reducible repeat (first | apply Kd.R_alloc | apply Kd.R_drewN | apply Kd.R_drew)); exact hOF⟩); (case aF => exact fun _ _ => trivial); (case aO => exact Kd.S_mono (ok := fun k => some k ≠ (Value.slice Af l.length cf).ownBlock) (by (with_reducible repeat (first | apply Kd.S_alloc | apply Kd.S_drewN | apply Kd.S_drew)); exact hO) (fun k hk => ⟨trivial, fun h9 => hk h9.1⟩)); (case aB => exact (by repeat (first | (with_reducible first | exact hB | apply below_alloc | apply pw_below_drewN | apply below_drew1) | exact hB))); (case aS => exact (below_size (by repeat (first | (with_reducible first | exact hB | apply below_alloc | apply pw_below_drewN | apply below_drew1) | exact hB)))); (case aL => have : [l].length = 1 := rfl; omega); intro v1 w1 hO1 hB1 hG1 hat1; have h2' := blk_grown (g := g2) (o := .cells #[vo] 35 (0, 0)) (by (with_reducible repeat (first | refine blk_drewN ?_ _ | refine blk_drew ?_ | refine blk_alloc ?_ _)); exact h2) hG1 (Kd.S_ne hO h2 (by decide)); have h4' := blk_grown (g := g4) (o := .cells #[telW g1 g2 g3 g4] 140 (0, 0)) (by (with_reducible repeat (first | refine blk_drewN ?_ _ | refine blk_drew ?_ | refine blk_alloc ?_ _)); exact h4) hG1 (Kd.S_ne hO h4 (by decide)); have hc2' : w1.cell? ⟨g2, 0, none⟩ = some vo := (blk_cell h2' 0).trans rfl; have hf2' := blk_frozen h2' 0; obtain ⟨Av, cv, rfl⟩ := Kd.S_slice hO1))
    (try simp only [Exit.inBlock, Exit.then]); refine bodyPost_ret (results_none rfl _ _ _) rfl ?_
    refine ⟨_, rfl, hB1.setCell hg2 _, blk_put h2' 0 _ rfl, blk_far h4' (p := ⟨g2, 0, none⟩) (Ne.symm hg24) _, ?_, ?_⟩
    · have h9 := Kd.S_set hO1 h2' (by decide) 0 (.slice Av (out.length + 1) cv)
      rw [show (out ++ [l]).length = out.length + 1 by simp] at h9
      exact h9
    · intro k cells hk
      have hk2 : k ≠ g2 := blk_ne hk h2 (by decide)
      exact (Below.heap_setCell w1 ⟨g2, 0, none⟩ _ k hk2).trans (hG1.block k (blk_lt hk) (Kd.S_ne hO hk (by decide)))
  | succ m ih =>
    intro l hn d res hres Af cf vo out w hB h2 h4 hO hF hlen
    rw [linT] at hres
    obtain ⟨fs, A200, hres⟩ := Option.bind_eq_some_iff.mp hres
    have A20 := Aside0.mk A200
    have HRES := Aside0.mk hres
    clear A200 hres
    have h1w : w.heap[g1]? = some (.cells #[.int .i64 (r.length : Int)] 3 (0, 0)) := blk_below h1 hB
    have h3w : w.heap[g3]? = some (.cells #[.slice Ar r.length cr] 28 (0, 0)) := blk_below h3 hB
    have eb0 : ((l.length : Int) == (r.length : Int)) = false := beq_eq_false_iff_ne.mpr (by omega)
    have eb1 : decide ((l.length : Int) = (r.length : Int)) = false := decide_eq_false (by omega)
    have hc1 : w.cell? ⟨g1, 0, none⟩ = some (.int .i64 (r.length : Int)) := (blk_cell h1w 0).trans rfl
    have hf1 := blk_frozen h1w 0
    have hc3 : w.cell? ⟨g3, 0, none⟩ = some (.slice Ar r.length cr) := (blk_cell h3w 0).trans rfl
    have hf3 := blk_frozen h3w 0
    have HFO : Aside0 ((Af = none ∧ l.length = 0 ∧ cf = 0) ∨ ∃ gf, Af = some ⟨gf, 0, none⟩ ∧ l.length ≤ cf) := ⟨by
      rcases Kd.own_of_R hF with ⟨_, h9 | ⟨g, cap, cur, h9, _⟩⟩
      · injection h9.1 with e1 e2 e3; exact .inl ⟨e1, e2, e3⟩
      · injection h9 with e1 e2 e3; exact .inr ⟨g, e1, (Kd.R_reads' hF).2.1⟩⟩
    go_enter Try.func139, Try.ntmps139
    go_wp2_with (first | ((with_reducible refine gate_callee (f := 140) rfl ?_); refine goesL9 (some 20) rfl rfl Try.func140 (by kernel_rfl) rfl #[.slice Ar r.length cr, .int .u32 d] rfl ?_; (with_reducible refine (order_free.calls k _ _ r d fs _ ?side1 hcl A20.out).mono ?_); (case side1 => exact Kd.C_below hC (by repeat (first | exact hB | apply below_alloc | apply pw_below_drewN | apply below_drew1))); rintro e w20 ⟨v20, rfl, ho20, hb20⟩; refine ⟨_, rfl, ?_⟩; have HO := Aside0.mk (Kd.S_elder' (by (with_reducible repeat (first | apply Kd.S_alloc | apply Kd.S_drewN | apply Kd.S_drew)); exact hO) (Kd.R_base ho20) hb20); have HF := Aside0.mk (Kd.R_below (by (with_reducible repeat (first | apply Kd.R_alloc | apply Kd.R_drewN | apply Kd.R_drew)); exact hF) hb20); have HS := Aside0.mk (Kd.R_lower ho20 (below_size (by repeat (first | exact hB | apply below_alloc | apply pw_below_drewN | apply below_drew1)))); have H2 := Aside0.mk (blk_below (by (with_reducible repeat (first | refine blk_drewN ?_ _ | refine blk_drew ?_ | refine blk_alloc ?_ _)); exact h2) hb20); have H4 := Aside0.mk (blk_below (by (with_reducible repeat (first | refine blk_drewN ?_ _ | refine blk_drew ?_ | refine blk_alloc ?_ _)); exact h4) hb20); have HB := Aside0.mk (below_step (by repeat (first | exact hB | apply below_alloc | apply pw_below_drewN | apply below_drew1)) hb20); have HK : Aside0 (∀ (k : Nat) (cells : Array Value), w.heap[k]? = some (.cells cells 3 (0, 0)) → w20.heap[k]? = w.heap[k]?) := ⟨fun k cells hk => by rw [hk]; exact blk_below (by (with_reducible repeat (first | refine blk_drewN ?_ _ | refine blk_drew ?_ | refine blk_alloc ?_ _)); exact hk) hb20⟩; clear ho20 hb20 hO hF h2 h4 hB hc1 hf1 hc3 hf3 h1w h3w; obtain ⟨As, cs, rfl⟩ := Kd.R_slice HS.out))
    go_loopg [22] fs.length (fun kq v22 w' => ∃ (x : Int) (i : Nat) (vo' : Value) (pre rest : List (List Int)), v22 = .int .i64 x ∧ Aside0 (x = i) ∧ Aside0 (i + kq = fs.length) ∧ Aside0 (Below W0.heap.size W0 w') ∧ Aside0 (w'.heap[g2]? = some (.cells #[vo'] 35 (0, 0))) ∧ Aside0 (w'.heap[g4]? = some (.cells #[telW g1 g2 g3 g4] 140 (0, 0)))
      ∧ Aside0 (linL (fun x => linT k r m (l ++ [x]) (Go.bits .or .u32 d (shl .u32 1 (IntKind.u64.wrap x)))) (fs.drop i) = some rest) ∧ Aside0 (res = pre ++ rest)
      ∧ Aside0 (Kd.S (Kd.slice 3 (Kd.int .i64)) 33 w' W0.heap.size (fun _ => True) vo' (out ++ pre)) ∧ Aside0 (∀ (k : Nat) (cells : Array Value), w20.heap[k]? = some (.cells cells 3 (0, 0)) → w'.heap[k]? = w20.heap[k]?))
    case atStart => exact ⟨0, 0, vo, [], res, by first | rfl | simp, ⟨rfl⟩, ⟨by omega⟩, ⟨by repeat (first | exact HB.out | apply below_drew1 | apply pw_below_drewN)⟩, ⟨H2.out⟩, ⟨H4.out⟩, ⟨HRES.out⟩, ⟨rfl⟩, ⟨by rw [List.append_nil]; (with_reducible repeat (first | apply Kd.S_alloc | apply Kd.S_drewN | apply Kd.S_drew)); exact Kd.S_mono HO.out (fun _ _ => trivial)⟩, ⟨fun k cells hk => rfl⟩⟩
    case round =>
      clear HO H2 H4 HB HRES
      obtain ⟨x, i, vo', pre, rest, rfl, HX, HI, HB, H2, H4, HL, HP, HO, HKr⟩ := hrel
      have h4c : wr.cell? ⟨g4, 0, none⟩ = some (telW g1 g2 g3 g4) := (blk_cell H4.out 0).trans rfl
      have h4f := blk_frozen H4.out 0
      cases gk with
      | zero =>
        have hi : i = fs.length := by have := HI.out; omega
        have ci : decide (x < (fs.length : Int)) = false := decide_eq_false (by have := HX.out; omega)
        have hrest : rest = [] := by have h9 := HL.out; rw [hi, List.drop_length, linL] at h9; exact (Option.some.inj h9).symm
        go_wp2
        (try simp only [Exit.inBlock, Exit.then]); refine bodyPost_end (results_none rfl _ _ _) rfl ?_
        refine ⟨vo', rfl, HB.out, H2.out, H4.out, ?_, fun k cells hk => ?_⟩
        · have h9 := HP.out
          rw [hrest, List.append_nil] at h9
          rw [h9]
          exact HO.out
        · have h9 := HK.out k cells hk
          have h8 := h9
          rw [hk] at h8
          rw [HKr.out k cells h8, h9]
      | succ k1 =>
        have hi : i < fs.length := by have := HI.out; omega
        obtain ⟨a, b, hga, hgb, hrab⟩ := linL_at hi HL.out
        have HGA := Aside0.mk hga
        have HGB := Aside0.mk hgb
        have HRAB := Aside0.mk hrab
        clear hga hgb hrab HL
        have h4d : wr.drew.heap[g4]? = some (.cells #[telW g1 g2 g3 g4] 140 (0, 0)) := blk_drew H4.out
        have ci : decide (x < (fs.length : Int)) = true := decide_eq_true (by have := HX.out; omega)
        have p1 : 0 ≤ x := by have := HX.out; omega
        have q1 : x < (fs.length : Int) := by have := HX.out; omega
        have HSr := Aside0.mk (R_kept HS.out HKr.out)
        obtain ⟨ae, rfl, hy⟩ := Kd.at_int (Kd.R_reads' HSr.out).2.2 x p1 q1
        replace p1 := eq_true p1
        replace q1 := eq_true q1
        obtain ⟨ji, hji⟩ : ∃ j_ : Int, IntKind.u64.wrap (rd fs x) = j_ := ⟨_, rfl⟩
        have cj : 0 ≤ ji := by rw [← hji, show IntKind.u64.wrap (rd fs x) = (rd fs x) % 18446744073709551616 by simp [IntKind.wrap, IntKind.bits, IntKind.signed]]; exact Int.emod_nonneg _ (by decide)
        have cjb0 := eq_true cj
        have cjb1 : decide (0 ≤ ji) = true := decide_eq_true cj
        clear cj
        obtain ⟨js, hjs⟩ : ∃ j_ : Int, (shl .u32 1 ji) = j_ := ⟨_, rfl⟩
        have hjs_ : (IntKind.u32.wrap (1 * 2 ^ min ji.toNat 32)) = js := hjs
        have hjsz : ji ≤ 32 → (IntKind.u32.wrap (1 * 2 ^ ji.toNat)) = js := shl_small hjs
        have hjsu : (IntKind.u32.wrap (2 ^ min ji.toNat 32)) = js := by have h_ := hjs_; rw [Int.one_mul] at h_; exact h_
        have hjsv : ji ≤ 32 → (IntKind.u32.wrap (2 ^ ji.toNat)) = js := fun hle_ => by have h_ := hjsz hle_; rw [Int.one_mul] at h_; exact h_
        go_wp2
        have hfr := (HFO.1)
        refine start_ (n := 16) (S := fun w' => w'.heap[g4]? = some (.cells #[telW g1 g2 g3 g4] 140 (0, 0))) (ds := [15]) #[false, false, false, false, false, false, false, false, false, false, false, false, false, false, false, false] (by kernel_rfl) rfl rfl h4d (fun hHeld => ?_)
        have HF8 := Aside0.mk (Kd.R_drew (R_kept HF.out HKr.out))
        have HO8 := Aside0.mk (Kd.S_drew HO.out)
        have HB8 := Aside0.mk (below_drew HB.out)
        have H28 := Aside0.mk (blk_drew H2.out)
        have HK8 : Aside0 (∀ (k : Nat) (cells : Array Value), w20.heap[k]? = some (.cells cells 3 (0, 0)) → wr.drew.heap[k]? = w20.heap[k]?) := ⟨fun k cells hk => HKr.out k cells hk⟩
        generalize wr.drew = w8 at h4d hHeld HF8 HO8 HB8 H28 HK8 ⊢
        refine pure_ (i := 1) (N := some 27) (v := ?_) (a' := ?_) #[false, true, false, false, false, false, false, false, false, false, false, false, false, false, false, false] rfl rfl (by kernel_rfl) (fun _ _ _ h => h) (Or.inl ⟨by rfl, ?_⟩) ?_ ?_
        rotate_left
        · intro w'
          go_simp
          with_reducible rfl
        rotate_left
        · simp only [Act.put, List.setIfInBounds_toArray, List.set_cons_zero, List.set_cons_succ, i64_w, i32_w]
          rfl
        refine pure_ (i := 2) (N := some 28) (v := ?_) (a' := ?_) #[false, true, true, false, false, false, false, false, false, false, false, false, false, false, false, false] rfl rfl (by kernel_rfl) (fun _ _ _ h => h) (Or.inl ⟨by rfl, ?_⟩) ?_ ?_
        rotate_left
        · intro w'
          go_simp
          with_reducible rfl
        rotate_left
        · simp only [Act.put, List.setIfInBounds_toArray, List.set_cons_zero, List.set_cons_succ, i64_w, i32_w]
          rfl
        refine pure_ (i := 3) (N := some 29) (v := ?_) (a' := ?_) #[false, true, true, true, false, false, false, false, false, false, false, false, false, false, false, false] rfl rfl (by kernel_rfl) (fun _ _ _ h => h) (Or.inl ⟨by rfl, ?_⟩) ?_ ?_
        rotate_left
        · intro w'
          go_simp
          with_reducible rfl
        rotate_left
        · simp only [Act.put, List.setIfInBounds_toArray, List.set_cons_zero, List.set_cons_succ, i64_w, i32_w]
          rfl
        refine pure_ (i := 4) (N := some 30) (v := ?_) (a' := ?_) #[false, true, true, true, true, false, false, false, false, false, false, false, false, false, false, false] rfl rfl (by kernel_rfl) (fun _ _ _ h => h) (Or.inl ⟨by rfl, ?_⟩) ?_ ?_
        rotate_left
        · intro w'
          go_simp
          with_reducible rfl
        rotate_left
        · simp only [Act.put, List.setIfInBounds_toArray, List.set_cons_zero, List.set_cons_succ, i64_w, i32_w]
          rfl
        refine pure_ (i := 5) (N := some 31) (v := ?_) (a' := ?_) #[false, true, true, true, true, true, false, false, false, false, false, false, false, false, false, false] rfl rfl (by kernel_rfl) (fun _ _ _ h => h) (Or.inl ⟨by rfl, ?_⟩) ?_ ?_
        rotate_left
        · intro w'
          go_simp
          with_reducible rfl
        rotate_left
        · simp only [Act.put, List.setIfInBounds_toArray, List.set_cons_zero, List.set_cons_succ, i64_w, i32_w]
          rfl
        refine pure_ (i := 6) (N := some 32) (v := .slice Af l.length l.length) (a' := ?_) #[false, true, true, true, true, true, true, false, false, false, false, false, false, false, false, false] rfl rfl (by kernel_rfl) (fun _ _ _ h => h) (Or.inl ⟨by rfl, ?_⟩) ?_ ?_
        · intro w'
          rcases hfr with ⟨rfl, hn0, rfl⟩ | ⟨gf, rfl, hcf⟩
          · simp only [hn0]
            go_simp
          · go_simp
        rotate_left
        · simp only [Act.put, List.setIfInBounds_toArray, List.set_cons_zero, List.set_cons_succ, i64_w, i32_w]
          rfl
        refine pure_ (i := 7) (N := some 33) (v := ?_) (a' := ?_) #[false, true, true, true, true, true, true, true, false, false, false, false, false, false, false, false] rfl rfl (by kernel_rfl) (fun _ _ _ h => h) (Or.inl ⟨by rfl, ?_⟩) ?_ ?_
        rotate_left
        · intro w'
          go_simp
          with_reducible rfl
        rotate_left
        · simp only [Act.put, List.setIfInBounds_toArray, List.set_cons_zero, List.set_cons_succ, i64_w, i32_w]
          rfl
        refine pure_ (i := 10) (N := some 36) (v := ?_) (a' := ?_) #[false, true, true, true, true, true, true, true, false, false, true, false, false, false, false, false] rfl rfl (by kernel_rfl) (fun _ _ _ h => h) (Or.inl ⟨by rfl, ?_⟩) ?_ ?_
        rotate_left
        · intro w'
          go_simp
          with_reducible rfl
        rotate_left
        · simp only [Act.put, List.setIfInBounds_toArray, List.set_cons_zero, List.set_cons_succ, i64_w, i32_w]
          rfl
        refine pure_ (i := 11) (N := some 37) (v := ?_) (a' := ?_) #[false, true, true, true, true, true, true, true, false, false, true, true, false, false, false, false] rfl rfl (by kernel_rfl) (fun _ _ _ h => h) (Or.inl ⟨by rfl, ?_⟩) ?_ ?_
        rotate_left
        · intro w'
          go_simp
          with_reducible rfl
        rotate_left
        · simp only [Act.put, List.setIfInBounds_toArray, List.set_cons_zero, List.set_cons_succ, i64_w, i32_w]
          rfl
        refine pure_ (i := 12) (N := some 38) (v := ?_) (a' := ?_) #[false, true, true, true, true, true, true, true, false, false, true, true, true, false, false, false] rfl rfl (by kernel_rfl) (fun _ _ _ h => h) (Or.inl ⟨by rfl, ?_⟩) ?_ ?_
        rotate_left
        · intro w'
          go_simp
          with_reducible rfl
        rotate_left
        · simp only [Act.put, List.setIfInBounds_toArray, List.set_cons_zero, List.set_cons_succ, i64_w, i32_w]
          rfl
        refine pure_ (i := 13) (N := some 39) (v := ?_) (a' := ?_) #[false, true, true, true, true, true, true, true, false, false, true, true, true, true, false, false] rfl rfl (by kernel_rfl) (fun _ _ _ h => h) (Or.inl ⟨by rfl, ?_⟩) ?_ ?_
        rotate_left
        · intro w'
          go_simp
          with_reducible rfl
        rotate_left
        · simp only [Act.put, List.setIfInBounds_toArray, List.set_cons_zero, List.set_cons_succ, i64_w, i32_w]
          rfl
        refine pure_ (i := 14) (N := some 40) (v := ?_) (a' := ?_) #[false, true, true, true, true, true, true, true, false, false, true, true, true, true, true, false] rfl rfl (by kernel_rfl) (fun _ _ _ h => h) (Or.inl ⟨by rfl, ?_⟩) ?_ ?_
        rotate_left
        · intro w'
          go_simp
          with_reducible rfl
        rotate_left
        · simp only [Act.put, List.setIfInBounds_toArray, List.set_cons_zero, List.set_cons_succ, i64_w, i32_w]
          rfl
        refine take_ (i := 0) (N := some 26) (v := ?_) (a' := ?_) #[true, true, true, true, true, true, true, true, false, false, true, true, true, true, true, false] rfl rfl (by kernel_rfl) (fun _ _ _ h => h) (Or.inl ⟨by rfl, ?_⟩) hHeld ?_ ?_
        rotate_left
        · intro w' hs
          have hsc : w'.cell? ⟨g4, 0, none⟩ = some (telW g1 g2 g3 g4) := (blk_cell hs 0).trans rfl
          have hsf := blk_frozen hs 0
          go_simp
          with_reducible rfl
        rotate_left
        · simp only [Act.put, List.setIfInBounds_toArray, List.set_cons_zero, List.set_cons_succ, i64_w, i32_w]
          rfl
        refine one_ (i := 8) (N := some 34) #[true, true, true, true, true, true, true, true, true, false, true, true, true, true, true, false] rfl rfl (by kernel_rfl) (by decide) (fun K hK => ?_)
        refine value_ (w1 := ?_) (v := ?_) (by rfl) rfl ?_ ?_
        rotate_left 2
        · go_simp
          constructor
          · rfl
          · rfl
        refine hK.out _ _ (blk_alloc hHeld _) (fun hHeld => ?_)
        clear hK K
        refine norm_ (a' := ?_) ?_ ?_
        rotate_left
        · show Act.put _ (some 34) _ = _
          simp only [Act.put, List.setIfInBounds_toArray, List.set_cons_zero, List.set_cons_succ, i64_w, i32_w]
          rfl
        refine one_ (i := 9) (N := some 35) #[true, true, true, true, true, true, true, true, true, true, true, true, true, true, true, false] rfl rfl (by kernel_rfl) (by decide) (fun K hK => ?_)
        have hrd := Kd.reads_of_C (d := 0) (Kd.C_below (Kd.R_reads' HF8.out).2.2 (below_alloc (Below.refl _ _) (.cells #[.int .i64 (rd fs x)] 3 (0, 0))))
        refine appends_step (by rfl) rfl (.tmp 32) (.tmp 34) 33 3 (.int .i64 0) 8 rfl Try.underlying33 info3 rfl Af l.length (encs (Value.int .i64) l) rfl ?hnone (encs_length _) ?holds ⟨w8.heap.size, 0, none⟩ (.int .i64 (rd fs x)) rfl (cell_one_new w8 _ 3) rfl ?b1 ?b2 ?_
        case hnone => rcases HFO.out with ⟨_, h0, _⟩ | ⟨gf, h0, _⟩; exact fun _ => h0; intro h9; rw [h0] at h9; cases h9
        case holds =>
          intro b hb j u hj
          have hj2 : j < l.length := by
            have := (List.getElem?_eq_some_iff.1 hj).1
            rwa [encs_length] at this
          obtain ⟨ad9, h9, h10⟩ := hrd.2.2 (by omega)
          obtain rfl : b = ad9 := by rw [hb] at h9; exact Option.some.inj h9
          rw [h10 j hj2, ← encs_get (enc := Value.int .i64) (d := 0) l j hj2]
          exact hj
        case b1 => simp only [maxLen]; omega
        case b2 => omega
        intro v9 w9 hown hgr
        have hHeld9 := blk_grown hHeld hgr (by simp)
        have HF9 : Aside0 (Kd.R (Kd.int .i64) 3 w9 W0.heap.size (fun _ => True) v9 (l ++ [rd fs x])) := ⟨Kd.R_of_own (by
          have h9 := own_weaken hown (base' := W0.heap.size) (Nat.le_trans HB8.out.size (by simp))
          rw [show (l ++ [rd fs x]).length = l.length + 1 by simp, encs_append]
          exact h9) (fun _ _ => trivial)⟩
        have HO9 := Aside0.mk (Kd.S_mono (ok' := fun k => some k ≠ v9.ownBlock) (Kd.S_grown (Kd.S_bound (Kd.S_alloc HO8.out (.cells #[.int .i64 (rd fs x)] 3 (0, 0)))) hgr (fun _ _ => by simp)) (fun k hk e9 => by have h8 := own_base hown k e9.symm; have h7 := hk.2.2.1; omega))
        have HB9 : Aside0 (Below W0.heap.size W0 w9) := ⟨(below_alloc HB8.out (.cells #[.int .i64 (rd fs x)] 3 (0, 0))).grown hgr (Nat.le_trans HB8.out.size (by simp)) (fun k hk => by cases hk)⟩
        have H29 := Aside0.mk (blk_grown (blk_alloc H28.out (.cells #[.int .i64 (rd fs x)] 3 (0, 0))) hgr (by simp))
        have HK9 : Aside0 (∀ (k : Nat) (cells : Array Value), w20.heap[k]? = some (.cells cells 3 (0, 0)) → w9.heap[k]? = w20.heap[k]?) := ⟨fun k cells hk => by
          have h9 := HK8.out k cells hk
          rw [hk] at h9
          rw [hk]
          exact blk_grown (blk_alloc h9 _) hgr (by simp)⟩
        refine hK.out _ _ hHeld9 (fun _ => ?_)
        clear hK K hHeld hown hgr hrd
        obtain ⟨A9, c9, rfl⟩ := Kd.R_slice HF9.out
        refine norm_ (a' := ?_) ?_ ?_
        rotate_left
        · show Act.put _ (some 35) _ = _
          simp only [Act.put, List.setIfInBounds_toArray, List.set_cons_zero, List.set_cons_succ, i64_w, i32_w]
          rfl
        refine last_ (i := 15) (N := some 41) #[true, true, true, true, true, true, true, true, true, true, true, true, true, true, true, true] rfl rfl (by kernel_rfl) (by decide) (fun K hK => ?_)
        refine goesT_ Try.func139 (by kernel_rfl) rfl #[.slice A9 (l ++ [rd fs x]).length c9, .int .u32 (Go.bits .or .u32 d js)] (by rfl) rfl rfl (by first | rfl | (go_simp; rfl)) (by (try simp only [List.map_toArray, List.map_cons, List.map_nil]); first | done | rfl | (simp only [List.length_append, List.length_cons, List.length_nil]; rfl)) ?_
        refine (ih (l ++ [rd fs x]) (by rw [List.length_append, List.length_singleton]; omega) (Go.bits .or .u32 d js) a (by have h9 := HGA.out; rw [← HX.out, hji, hjs] at h9; exact h9) A9 c9 vo' _ w9 HB9.out H29.out hHeld9 HO9.out HF9.out ?hl).mono ?_
        case hl =>
          have h8 := HP.out
          have h9 := HRAB.out
          rw [h8, h9, List.length_append, List.length_append] at hlen
          rw [List.length_append]
          omega
        rintro e w' ⟨vo2, rfl, B2, G22, G42, R2, K2⟩
        refine ⟨_, rfl, ?_⟩
        refine hK.out _ _ ?_
        clear hK K
        refine norm_ (a' := ?_) ?_ ?_
        rotate_left
        · show Act.put _ (some 41) _ = _
          simp only [Act.put, List.setIfInBounds_toArray, List.set_cons_zero, List.set_cons_succ, i64_w, i32_w]
          rfl
        refine done_ (by kernel_rfl) ?_
        try go_wp2
        go_roundg k1
        case measure => omega
        case rel =>
          refine ⟨wrap64 (x + 1), i + 1, vo2, pre ++ a, b, by first | rfl | (simp; done), ⟨?_⟩, ⟨by have := HI.out; omega⟩, ⟨B2⟩, ⟨G22⟩, ⟨G42⟩, ⟨HGB.out⟩, ⟨by rw [HP.out, HRAB.out, List.append_assoc]⟩, ⟨by rw [← List.append_assoc]; exact R2⟩, ⟨fun k cells hk => ?_⟩⟩
          · have h9 := HX.out
            have h10 := Kd.R_reads' HSr.out
            have h11 : fs.length ≤ cs := h10.2.1
            have h12 := Kd.own_of_R HSr.out
            have h13 : (fs.length : Int) ≤ 9223372036854775807 := by
              rcases h12 with ⟨_, ⟨_, h0⟩ | ⟨g, cap, cur, hv, _, _, h1, h2, _, _⟩⟩
              · omega
              · simp only [maxLen] at h2; omega
            rw [show wrap64 (x + 1) = x + 1 from IntWalk.wrap64_in _ (by omega)]
            omega
          · have h9 := HK9.out k cells hk
            rw [hk] at h9
            rw [K2 k cells h9, h9, hk]
set_option maxHeartbeats 8000000 in
set_option maxRecDepth 100000 in
theorem order_Linear.calls (k : Nat) (A0 : Option Addr) (c0 : Nat) (l0 : List Int) (r : List (List Int)) (w : World) (hr0 : Kd.C (Kd.int .u32) w A0 l0.length l0) (hc0 : l0.length ≤ c0) (h : order_Linear.f k l0 = some r) :
    Calls Try.prog 91 #[.slice A0 l0.length c0] w fun e w' => ∃ v0_ : Value, e = .returned (v0_) ∧ Kd.S (Kd.slice 3 (Kd.int .i64)) 33 w' w.heap.size (fun _ => True) v0_ r ∧ Below w.heap.size w w' := by
  have HR0 := Aside0.mk hr0
  have HC0 := Aside0.mk hc0
  clear hr0 hc0
  have HB := Aside0.mk (Below.refl w.heap.size w)
  unfold order_Linear.f at h
  obtain ⟨n, A30, H⟩ := Option.bind_eq_some_iff.mp h
  have A3 := Aside0.mk A30
  have HH := Aside0.mk H
  clear A30 h H
  have fin : ∀ (n6 : n > 6 ∨ n ≠ (l0.length : Int)), r = [] := by
    intro h
    have H := HH.out
    by_cases h1 : n > 6
    · rw [if_pos h1] at H; exact (Option.some.inj H).symm
    · rw [if_neg h1, if_neg (h.resolve_left h1)] at H; exact (Option.some.inj H).symm
  have FIN := Aside0.mk fin
  clear fin
  go_enter Try.func91, Try.ntmps91
  go_upto_region 2 with (first
    | ((with_reducible refine gate_dst (N := 1) rfl ?_); refine box_event ?hg (N := 1) ?hd (cs := #[.slice A0 l0.length c0]) (t := 28) ?hr ?_; (case hd => rfl); (case hg => rfl); (case hr => first | (go_simp; done) | (go_simp; rfl)); intro gb1 hg w6 hbox hb; have n0_ := Aside0.mk (below_step (bp9 HB.out) hb); have BK1 := Aside0.mk hbox; have GE1 := Aside0.mk ((by rw [hg]; exact (below_size (bp9 HB.out)) : w.heap.size ≤ gb1)); clear HB; have HB := n0_; clear n0_ hb hg hbox; have hcz1 := (blk_cell BK1.out 0).trans (rfl : _ = some (Value.slice A0 l0.length c0)); have hfz1 := blk_frozen BK1.out 0)
    | ((with_reducible refine gate_callee (f := 138) rfl ?_); refine goesL9 (some 7) rfl rfl Try.func138 (by kernel_rfl) rfl #[.slice A0 l0.length c0] rfl ?_; (with_reducible refine (order_size.calls _ _ l0 n _ ?side1 HC0.out A3.out).mono ?_); (case side1 => exact cp9 HR0.out HB.out); rintro e w8 ⟨rfl, hb⟩; refine ⟨_, rfl, ?_⟩; have n0_ := Aside0.mk (below_step (bp9 HB.out) hb); have n1_ := Aside0.mk (blk_below (kp9 BK1.out) hb); clear HB BK1; have HB := n0_; have BK1 := n1_; clear n0_ n1_ hb hcz1 hfz1; have hcz1 := (blk_cell BK1.out 0).trans (rfl : _ = some (Value.slice A0 l0.length c0)); have hfz1 := blk_frozen BK1.out 0)
    | ((with_reducible refine gate_dst (N := 3) rfl ?_); refine box_event ?hg (N := 3) ?hd (cs := #[.int .i64 0]) (t := 3) ?hr ?_; (case hd => rfl); (case hg => rfl); (case hr => first | (go_simp; done) | (go_simp; rfl)); intro gb3 hg w10 hbox hb; have n0_ := Aside0.mk (below_step (bp9 HB.out) hb); have n1_ := Aside0.mk (blk_below (kp9 BK1.out) hb); have BK3 := Aside0.mk hbox; have GE3 := Aside0.mk ((by rw [hg]; exact (below_size (bp9 HB.out)) : w.heap.size ≤ gb3)); have NE := Aside0.mk ((by rw [hg]; exact Nat.ne_of_lt (blk_lt (kp9 BK1.out)) : gb1 ≠ gb3)); clear HB BK1 hcz1 hfz1; have HB := n0_; have BK1 := n1_; clear n0_ n1_ hb hg hbox; have hcz1 := (blk_cell BK1.out 0).trans (rfl : _ = some (Value.slice A0 l0.length c0)); have hfz1 := blk_frozen BK1.out 0; have hcz3 := (blk_cell BK3.out 0).trans (rfl : _ = some (Value.int .i64 0)); have hfz3 := blk_frozen BK3.out 0; have hne1 := NE.out; have hne2 := Ne.symm NE.out))
  have HB1 : Aside0 (Below w.heap.size w (w10.setCell ⟨gb3, 0, none⟩ (.int .i64 n))) := ⟨below_set HB.out GE3.out⟩
  have B1 := Aside0.mk (blk_far BK1.out (p := ⟨gb3, 0, none⟩) NE.out (.int .i64 n))
  have B3 := Aside0.mk (blk_put BK3.out 0 (.int .i64 n) rfl)
  generalize w10.setCell ⟨gb3, 0, none⟩ (.int .i64 n) = W1 at HB1 B1 B3 ⊢
  clear HB BK1 BK3 hcz1 hfz1 hcz3 hfz3 hne1 hne2
  have hcz1 := (blk_cell B1.out 0).trans (rfl : _ = some (Value.slice A0 l0.length c0))
  have hfz1 := blk_frozen B1.out 0
  have hcz3 := (blk_cell B3.out 0).trans (rfl : _ = some (Value.int .i64 n))
  have hfz3 := blk_frozen B3.out 0
  by_cases h6 : n > 6
  · obtain rfl := FIN.out (.inl h6)
    have c1 : decide (6 < n) = true := decide_eq_true h6
    go_wp2
    go_ret
    exact ⟨_, rfl, Kd.S_nil _ _ _ _ _, HB1.out⟩
  · have c1 : decide (6 < n) = false := decide_eq_false h6
    by_cases hnl : n = (l0.length : Int)
    rotate_left
    · obtain rfl := FIN.out (.inr hnl)
      have c2 : (n == (l0.length : Int)) = false := beq_eq_false_iff_ne.mpr hnl
      have c3 : (n != (l0.length : Int)) = true := bne_iff_ne.mpr hnl
      go_wp2
      go_ret
      exact ⟨_, rfl, Kd.S_nil _ _ _ _ _, HB1.out⟩
    · subst hnl
      have H := HH.out
      rw [if_neg h6, if_pos rfl] at H
      obtain ⟨out, hout, H⟩ := Option.bind_eq_some_iff.mp H
      by_cases hbig : out.length ≤ 20000
      rotate_left
      · rw [if_neg hbig] at H; cases H
      rw [if_pos hbig] at H
      obtain rfl := Option.some.inj H
      have HOUT := Aside0.mk hout
      clear hout H
      have c2 : ((l0.length : Int) == (l0.length : Int)) = true := beq_self_eq_true _
      have c3 : ((l0.length : Int) != (l0.length : Int)) = false := bne_self_eq_false _
      go_wp2_with (first
        | ((with_reducible refine gate_dst (N := 4) rfl ?_); refine box_event ?hg (N := 4) ?hd (cs := #[.slice none 0 0]) (t := 35) ?hr ?_; (case hd => rfl); (case hg => rfl); (case hr => first | (go_simp; done) | (go_simp; rfl)); intro gb4 hg4 w11 hbox4 hb4; have HG4 := Aside0.mk hg4; clear hg4)
        | ((with_reducible refine gate_dst (N := 5) rfl ?_); refine box_event ?hg (N := 5) ?hd (cs := #[.nilFunc]) (t := 140) ?hr ?_; (case hd => rfl); (case hg => rfl); (case hr => first | (go_simp; done) | (go_simp; rfl)); intro gb5 hg5 w12 hbox5 hb5; have hbox4' := blk_below hbox4 hb5; have hcz5 := (blk_cell hbox5 0).trans (rfl : _ = some Value.nilFunc); have hfz5 := blk_frozen hbox5 0; have HG5 := Aside0.mk hg5; clear hg5)
        | ((with_reducible refine gate_dst (N := 18) rfl ?_); refine Kd.R_lit (Kd.int .i64) _ 3 ?hg (N := 18) ?hd (xs := ([] : List Int)) (inner := []) (ok := fun _ => True) (okp := fun _ => True) ?hr ?hp (fun _ hk => hk) trivial (Below.refl _ _) (Nat.le_refl _) (by simp) ?_; (case hd => rfl); (case hg => rfl); (case hr => first | (go_simp; done) | (go_simp; rfl)); (case hp => exact (Reps.none _ _)); intro v18 w13 ho18 hb18 hg_ hnew_; clear hg_ hnew_; obtain ⟨A18, c18, rfl⟩ := Kd.R_slice ho18)
        | (go_at_call 139
           have e4 := HG4.out
           have e5 := HG5.out
           have s4 := hb4.size
           have l4 := blk_lt hbox4
           have hne : gb4 ≠ gb5 := by omega
           have hle4 : W1.heap.size ≤ gb4 := by omega
           have hle5 : W1.heap.size ≤ gb5 := by omega
           have b12 : Below W1.heap.size W1 (w12.setCell ⟨gb5, 0, none⟩ (telW gb3 gb4 gb1 gb5)) := (below_step hb4 hb5).setCell hle5 _
           have hsz : W1.heap.size ≤ (w12.setCell ⟨gb5, 0, none⟩ (telW gb3 gb4 gb1 gb5)).heap.size := b12.size
           clear e4 e5
           refine (order_Linear_1.calls W1 gb3 gb4 gb1 gb5 k A0 c0 l0 B3.out B1.out (Kd.C_below HR0.out HB1.out) HC0.out (by omega) hle4 hle5 hne l0.length [] (by simp) 0 out HOUT.out A18 c18 (.slice none 0 0) [] _ (below_step b12 hb18) (blk_below (blk_far hbox4' (p := ⟨gb5, 0, none⟩) hne _) hb18) (blk_below (blk_put hbox5 0 _ rfl) hb18) (Kd.S_nil _ _ _ _ _) (Kd.R_lower ho18 hsz) ?hlen).mono ?_
           case hlen => simpa using hbig
           rintro e w30 ⟨vo2, rfl, B2, G4, G5, R2, _⟩
           obtain ⟨Av, cv, rfl⟩ := Kd.S_slice R2
           have hczd := (blk_cell G4 0).trans rfl
           have hfzd := blk_frozen G4 0
           clear s4 l4 hne hle4 hle5 hcz5 hfz5
           dsimp only))
      go_ret
      refine ⟨_, rfl, ?_, below_step HB1.out B2⟩
      exact Kd.S_lower R2 HB1.out.size
end Go.Proofs.Ytbamkkdikeedoaa.G
