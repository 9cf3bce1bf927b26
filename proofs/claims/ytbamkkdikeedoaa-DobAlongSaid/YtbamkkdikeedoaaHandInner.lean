/- By hand over printed lines: exec.Inner. -/
import Derived.Test.YtbamkkdikeedoaaHandPairs
import Derived.Test.YtbamkkdikeedoaaPlainRel
namespace Go.Proofs.Ytbamkkdikeedoaa.G
open Go.RowKit Go.Proofs.YtbamkkdikeedoaaW.PrintWords Go.Proofs.YtbamkkdikeedoaaW.PrintLast Go.Proofs.YtbamkkdikeedoaaW.PrintMore
set_option linter.unusedVariables false
set_option linter.unusedSimpArgs false
def thrT (l : List S26) (i : Nat) : Option Int := (l[i]?).map S26.f0
def innM (l : List S26) (i k : Nat) : Bool := !decide (i = k) && decide (thrT l i = thrT l k)
def u32n (n : Nat) : Nat := if n ≤ 32 then n else 0
def innR (l : List S26) (i j a b : Nat) : Bool := innM l a b && (decide (a < i) || (decide (a = i) && decide (b < j)))
theorem inn_l1 (l : List S26) (hl : l.length ≤ 9223372036854775807) (n1 n2 n3 n4 n5 : List Int) (n6 : List (List Int)) (i : Nat) (hi : i < l.length) (r : List Int)
    (hr : Ev (fun k => exec_pairs.l0 k (ofM (u32n l.length) (innR l (i + 1) 0)) l (l.length : Int) ((i + 1 : Nat) : Int) l n1 n2 n3 n4 n5 n6) r) : ∀ d j : Nat, j + d = l.length →
    Ev (fun k => exec_pairs.l1 k (ofM (u32n l.length) (innR l i j)) (i : Int) l (l.length : Int) (i : Int) l (l.length : Int) (j : Int) l n1 n2 n3 n4 n5 n6 l[i].f0 l[i].f1 l[i].f2 l[i].f3 l[i].f4 l[i].f5 l[i].f6) r := by
  have hm : u32n l.length ≤ 32 := by unfold u32n; split <;> omega
  have hml : u32n l.length ≤ l.length := by unfold u32n; split <;> omega
  intro d
  induction d with
  | zero =>
    intro j hj
    obtain rfl : j = l.length := by omega
    refine Ev.step (fun k => by rw [exec_pairs.l1]) ?_
    refine Ev.neg (by omega) ?_
    rw [wrap64_succ i (by omega)]
    have e : ofM (u32n l.length) (innR l i l.length) = ofM (u32n l.length) (innR l (i + 1) 0) := by
      refine ofM_congr fun a b ha hb => ?_
      have hb2 : b < l.length := by omega
      unfold innR
      congr 1
      by_cases h1 : a < i
      · simp [h1, show a < i + 1 by omega]
      · by_cases h2 : a = i
        · simp [h2, hb2]
        · simp [h1, h2, show ¬ a < i + 1 by omega]
    rw [e]
    exact hr
  | succ d ih =>
    intro j hj
    have hlt : j < l.length := by omega
    have e26 : rd_T26 l (j : Int) = l[j] := by simp [rd_T26, List.getD_eq_getElem?_getD, List.getElem?_eq_getElem hlt]
    have h := ih (j + 1) (by omega)
    have t1 : thrT l i = some l[i].f0 := by unfold thrT; rw [List.getElem?_eq_getElem hi]; rfl
    have t2 : thrT l j = some l[j].f0 := by unfold thrT; rw [List.getElem?_eq_getElem hlt]; rfl
    refine Ev.step (fun k => by rw [exec_pairs.l1]) ?_
    refine Ev.pos (by omega) (Ev.pos (by omega) (Ev.pos (by omega) ?_))
    rw [e26, wrap64_succ j (by omega)]
    have same : innM l i j = false → ofM (u32n l.length) (innR l i (j + 1)) = ofM (u32n l.length) (innR l i j) := by
      intro h0
      refine ofM_congr fun a b ha hb => ?_
      unfold innR
      by_cases h1 : a = i
      · by_cases h2 : b = j
        · subst h1; subst h2; rw [h0]; rfl
        · congr 2
          rw [show decide (b < j + 1) = decide (b < j) from by rw [decide_eq_decide]; omega]
      · simp [h1]
    by_cases hij : i = j
    · refine Ev.pos (by omega) ?_
      rw [← same (by unfold innM; simp [hij])]
      exact h
    · refine Ev.neg (by omega) ?_
      unfold exec_Inner_1.f
      refine Ev.bindv rfl ?_
      by_cases ht : l[i].f0 = l[j].f0
      · refine Ev.pos (by first | exact beq_iff_eq.mpr ht | exact decide_eq_true ht | simpa using ht) ?_
        have hp := put_ev (ofM (u32n l.length) (innR l i j)) (i : Int) (j : Int)
        rw [sz_ofM hm] at hp
        have e : (ofM (u32n l.length) fun a b => mat (ofM (u32n l.length) (innR l i j)) a b || (decide ((a : Int) = (i : Int)) && decide ((b : Int) = (j : Int)))) = ofM (u32n l.length) (innR l i (j + 1)) := by
          refine ofM_congr fun a b ha hb => ?_
          rw [mat_ofM hm]
          have hin : innM l i j = true := by unfold innM; rw [t1, t2, ht]; simp [hij]
          unfold innR
          by_cases h1 : a = i
          · by_cases h2 : b = j
            · subst h1; subst h2; simp [ha, hb, hin]
            · have : ¬ (b : Int) = (j : Int) := by omega
              simp [h1, h2, this, ha, hb]
              subst h1
              simp [ha]
              rw [show decide (b < j + 1) = decide (b < j) from by rw [decide_eq_decide]; omega]
          · have : ¬ (a : Int) = (i : Int) := by omega
            simp [h1, this, ha, hb]
        rw [e] at hp
        exact Ev.bind hp h
      · refine Ev.neg (by first | (simpa using ht) | (intro h9; exact ht (beq_iff_eq.mp h9))) ?_
        rw [← same (by unfold innM; rw [t1, t2]; simp [ht])]
        exact h
theorem inn_l0 (l : List S26) (hl : l.length ≤ 9223372036854775807) (n1 n2 n3 n4 n5 : List Int) (n6 : List (List Int)) : ∀ d i : Nat, i + d = l.length →
    Ev (fun k => exec_pairs.l0 k (ofM (u32n l.length) (innR l i 0)) l (l.length : Int) (i : Int) l n1 n2 n3 n4 n5 n6) (ofM (u32n l.length) (innM l)) := by
  have hml : u32n l.length ≤ l.length := by unfold u32n; split <;> omega
  intro d
  induction d with
  | zero =>
    intro i hi
    obtain rfl : i = l.length := by omega
    refine Ev.step (fun k => by rw [exec_pairs.l0]) ?_
    refine Ev.neg (by omega) ?_
    have e : ofM (u32n l.length) (innR l l.length 0) = ofM (u32n l.length) (innM l) := by
      refine ofM_congr fun a b ha hb => ?_
      unfold innR
      simp [show a < l.length by omega]
    rw [e]
    exact Ev.now _
  | succ d ih =>
    intro i hi
    have hlt : i < l.length := by omega
    have e26 : rd_T26 l (i : Int) = l[i] := by simp [rd_T26, List.getD_eq_getElem?_getD, List.getElem?_eq_getElem hlt]
    refine Ev.step (fun k => by rw [exec_pairs.l0]) ?_
    refine Ev.pos (by omega) (Ev.pos (by omega) (Ev.pos (by omega) ?_))
    rw [e26]
    exact inn_l1 l hl n1 n2 n3 n4 n5 n6 i hlt _ (ih (i + 1) (by omega)) l.length 0 (by omega)
theorem pairs_at (l : List S26) (hl : l.length ≤ 9223372036854775807) (n1 n2 n3 n4 n5 : List Int) (n6 : List (List Int)) : Ev (fun k => exec_pairs.f k l n1 n2 n3 n4 n5 n6) (ofM (u32n l.length) (innM l)) := by
  unfold exec_pairs.f
  refine Ev.bindv (new_eq _) ?_
  have h := inn_l0 l hl n1 n2 n3 n4 n5 n6 l.length 0 (by omega)
  have e : (if 0 ≤ (l.length : Int) ∧ (l.length : Int) ≤ 32 then ofM (l.length : Int).toNat (fun _ _ => false) else []) = ofM (u32n l.length) (innR l 0 0) := by
    unfold u32n
    by_cases h32 : l.length ≤ 32
    · rw [if_pos (by omega), if_pos h32, Int.toNat_natCast]
      refine ofM_congr fun a b ha hb => ?_
      unfold innR
      simp
    · rw [if_neg (by omega), if_neg h32]; rfl
  rw [e]
  exact h
def exec_Inner.f (l0_0 : List (S26)) (l0_1 : List Int) (l0_2 : List Int) (l0_3 : List Int) (l0_4 : List Int) (l0_5 : List Int) (l0_6 : List (List Int)) : Option (List Int) := some (ofM (u32n l0_0.length) (innM l0_0))
set_option maxHeartbeats 8000000 in
set_option maxRecDepth 100000 in
theorem exec_Inner.calls (A0_0 : Option Addr) (c0_0 : Nat) (l0_0 : List (S26)) (A0_1 : Option Addr) (c0_1 : Nat) (l0_1 : List Int) (A0_2 : Option Addr) (c0_2 : Nat) (l0_2 : List Int) (A0_3 : Option Addr) (c0_3 : Nat) (l0_3 : List Int) (A0_4 : Option Addr) (c0_4 : Nat) (l0_4 : List Int) (A0_5 : Option Addr) (c0_5 : Nat) (l0_5 : List Int) (A0_6 : Option Addr) (c0_6 : Nat) (l0_6 : List (List Int)) (r : List Int) (w : World) (hr0_0 : Kd.C k26 w A0_0 l0_0.length l0_0) (hc0_0 : l0_0.length ≤ c0_0) (hr0_1 : Kd.C (Kd.int .u32) w A0_1 l0_1.length l0_1) (hc0_1 : l0_1.length ≤ c0_1) (hr0_2 : Kd.C (Kd.int .u32) w A0_2 l0_2.length l0_2) (hc0_2 : l0_2.length ≤ c0_2) (hr0_3 : Kd.C (Kd.int .u32) w A0_3 l0_3.length l0_3) (hc0_3 : l0_3.length ≤ c0_3) (hr0_4 : Kd.C (Kd.int .u32) w A0_4 l0_4.length l0_4) (hc0_4 : l0_4.length ≤ c0_4) (hr0_5 : Kd.C (Kd.int .u32) w A0_5 l0_5.length l0_5) (hc0_5 : l0_5.length ≤ c0_5) (hr0_6 : Kd.C (Kd.slice 2 (Kd.int .i64)) w A0_6 l0_6.length l0_6) (hc0_6 : l0_6.length ≤ c0_6) (h : exec_Inner.f l0_0 l0_1 l0_2 l0_3 l0_4 l0_5 l0_6 = some r) :
    Calls Try.prog 153 #[.agg #[.slice A0_0 l0_0.length c0_0, .slice A0_1 l0_1.length c0_1, .slice A0_2 l0_2.length c0_2, .slice A0_3 l0_3.length c0_3, .slice A0_4 l0_4.length c0_4, .slice A0_5 l0_5.length c0_5, .slice A0_6 l0_6.length c0_6]] w fun e w' => ∃ v0_ : Value, e = .returned (v0_) ∧ Kd.R (Kd.int .u32) 52 w' w.heap.size (fun _ => True) v0_ r ∧ Below w.heap.size w w' := by
  have hu31 := Try.underlying31
  obtain ⟨k, hk⟩ := (pairs_at l0_0 hr0_0.2.1 l0_1 l0_2 l0_3 l0_4 l0_5 l0_6).rounds
  obtain rfl := Option.some.inj h
  clear h
  have HK := Aside0.mk hk
  clear hk
  have HR0_0 := Aside0.mk hr0_0
  have HC0_0 := Aside0.mk hc0_0
  clear hr0_0 hc0_0
  have HR0_1 := Aside0.mk hr0_1
  have HC0_1 := Aside0.mk hc0_1
  clear hr0_1 hc0_1
  have HR0_2 := Aside0.mk hr0_2
  have HC0_2 := Aside0.mk hc0_2
  clear hr0_2 hc0_2
  have HR0_3 := Aside0.mk hr0_3
  have HC0_3 := Aside0.mk hc0_3
  clear hr0_3 hc0_3
  have HR0_4 := Aside0.mk hr0_4
  have HC0_4 := Aside0.mk hc0_4
  clear hr0_4 hc0_4
  have HR0_5 := Aside0.mk hr0_5
  have HC0_5 := Aside0.mk hc0_5
  clear hr0_5 hc0_5
  have HR0_6 := Aside0.mk hr0_6
  have HC0_6 := Aside0.mk hc0_6
  clear hr0_6 hc0_6
  go_enter Try.func153, Try.ntmps153
  go_wp2_with (first
    | ((with_reducible refine gate_dst (N := 1) rfl ?_); refine box_event ?hg (N := 1) ?hd (cs := #[.slice A0_0 l0_0.length c0_0, .slice A0_1 l0_1.length c0_1, .slice A0_2 l0_2.length c0_2, .slice A0_3 l0_3.length c0_3, .slice A0_4 l0_4.length c0_4, .slice A0_5 l0_5.length c0_5, .slice A0_6 l0_6.length c0_6]) (t := 31) ?hr ?_; (case hd => rfl); (case hg => rfl); (case hr => first | (go_simp; done) | (go_simp; rfl)); intro gb1 hg w1 hboxgb1 hb1; have HGgb1 := Aside0.mk hg; clear hg; have hcz0 := (blk_cell hboxgb1 0).trans rfl; have hfz0 := blk_frozen hboxgb1 0; have hcz1 := (blk_cell hboxgb1 1).trans rfl; have hfz1 := blk_frozen hboxgb1 1; have hcz2 := (blk_cell hboxgb1 2).trans rfl; have hfz2 := blk_frozen hboxgb1 2; have hcz3 := (blk_cell hboxgb1 3).trans rfl; have hfz3 := blk_frozen hboxgb1 3; have hcz4 := (blk_cell hboxgb1 4).trans rfl; have hfz4 := blk_frozen hboxgb1 4; have hcz5 := (blk_cell hboxgb1 5).trans rfl; have hfz5 := blk_frozen hboxgb1 5; have hcz6 := (blk_cell hboxgb1 6).trans rfl; have hfz6 := blk_frozen hboxgb1 6)
    | (go_at_call 157
       refine (exec_pairs.calls k _ _ l0_0 _ _ l0_1 _ _ l0_2 _ _ l0_3 _ _ l0_4 _ _ l0_5 _ _ l0_6 _ _ (Kd.C_below HR0_0.out hb1) HC0_0.out (Kd.C_below HR0_1.out hb1) HC0_1.out (Kd.C_below HR0_2.out hb1) HC0_2.out (Kd.C_below HR0_3.out hb1) HC0_3.out (Kd.C_below HR0_4.out hb1) HC0_4.out (Kd.C_below HR0_5.out hb1) HC0_5.out (Kd.C_below HR0_6.out hb1) HC0_6.out HK.out).mono ?_
       rintro e w2 ⟨v2, rfl, ho2, hb2⟩))
  go_ret
  exact ⟨_, rfl, Kd.R_lower ho2 (below_size hb1), below_step hb1 hb2⟩
end Go.Proofs.Ytbamkkdikeedoaa.G
