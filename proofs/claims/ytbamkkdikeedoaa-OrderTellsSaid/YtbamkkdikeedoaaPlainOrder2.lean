/- Plain: all orders of things as the program makes them, which orders fit a relation, and the orders that Linear tells. -/
import Derived.Test.YtbamkkdikeedoaaPlainOrder
import Derived.Test.YtbamkkdikeedoaaPlainLists
import Derived.Test.YtbamkkdikeedoaaGCupolaref01
namespace Go.Proofs.Ytbamkkdikeedoaa.Ord
open Go.RowKit Go.Proofs.Ytbamkkdikeedoaa.G Go.Proofs.Ytbamkkdikeedoaa.Src Go.Proofs.YtbamkkdikeedoaaW.PrintWords Go.Proofs.YtbamkkdikeedoaaW.PrintLast Go.Proofs.YtbamkkdikeedoaaW.PrintMore
set_option linter.unusedVariables false
theorem rdAt (c : List Int) (i : Nat) (h : i < c.length) : rd c (i : Int) = c[i] := by simp [rd, List.getD_eq_getElem?_getD, List.getElem?_eq_getElem h]
theorem rdL4 (c : List (List Int)) (i : Nat) (h : i < c.length) : rd_L4 c (i : Int) = c[i] := by simp [rd_L4, List.getD_eq_getElem?_getD, List.getElem?_eq_getElem h]
/-! ### In, Ints -/
theorem inq_loop (l : List Int) (hl : l.length < 1000000) (x : Int) : ∀ m i : Nat, i + m = l.length → Ev (fun k => cupolaref01_In.l0 k l x (i : Int)) (decide (x ∈ l.drop i)) := by
  intro m
  induction m with
  | zero =>
    intro i hi
    rw [List.drop_of_length_le (by omega)]
    refine Ev.step (fun k => by rw [cupolaref01_In.l0]) ?_
    exact neg (by omega) (Ev.now _)
  | succ m ih =>
    intro i hi
    have hlt : i < l.length := by omega
    have hw : wrap64 ((i : Int) + 1) = ((i + 1 : Nat) : Int) := by rw [IntWalk.wrap64_in _ (by omega)]; omega
    rw [List.drop_eq_getElem_cons hlt]
    refine Ev.step (fun k => by rw [cupolaref01_In.l0]) ?_
    refine pos (by omega) (pos (by omega) ?_)
    rw [rdAt l i hlt]
    by_cases hx : l[i] = x
    · rw [decide_eq_true (List.mem_cons.2 (.inl hx.symm))]
      exact pos hx (Ev.now _)
    · refine neg hx ?_
      rw [hw]
      have e : decide (x ∈ l[i] :: l.drop (i + 1)) = decide (x ∈ l.drop (i + 1)) := by
        rw [decide_eq_decide, List.mem_cons]
        exact ⟨fun h => h.resolve_left (fun h9 => hx h9.symm), .inr⟩
      rw [e]
      exact ih (i + 1) (by omega)
theorem inq_is (l : List Int) (hl : l.length < 1000000) (x : Int) : Ev (fun k => cupolaref01_In.f k l x) (decide (x ∈ l)) := by
  unfold cupolaref01_In.f
  exact inq_loop l hl x l.length 0 (by omega)
/-! ### All -/
/-- The orders with number i first. -/
def grp (m : Nat) (l : List Int) (i : Nat) : List (List Int) := (permsF m (l.eraseIdx i)).map (l.getD i 0 :: ·)
theorem perms_grp (m : Nat) (l : List Int) : permsF (m + 1) l = (List.range' 0 l.length).flatMap (grp m l) := by rw [permsF, List.range_eq_range']; rfl
theorem all_l1 (l : List Int) (a : Int) (x16 : List Int) (x17 x18 : Int) (t : List (List Int)) (ht : ∀ r ∈ t, r.length ≤ 6) (ht9 : t.length ≤ 100000) (r : List (List Int)) : ∀ d j : Nat, j + d = t.length → ∀ acc : List (List Int), acc.length + d ≤ 100000 →
    Ev (fun k => order_All.l0 k l (acc ++ (t.drop j).map (a :: ·)) x16 x17 (wrap64 (x18 + 1))) r → Ev (fun k => order_All.l1 k l acc a x16 x17 x18 t (t.length : Int) (j : Int)) r := by
  intro d
  induction d with
  | zero =>
    intro j hj acc hacc h
    refine Ev.step (fun k => by rw [order_All.l1]) ?_
    rw [List.drop_of_length_le (by omega), List.map_nil, List.append_nil] at h
    exact neg (by omega) h
  | succ d ih =>
    intro j hj acc hacc h
    have hlt : j < t.length := by omega
    have hr := ht _ (List.getElem_mem hlt)
    refine Ev.step (fun k => by rw [order_All.l1]) ?_
    rw [rdL4 t j hlt]
    refine pos (by omega) (pos (by omega) (pos (by omega) (bindv rfl (pos ?_ (pos (by omega) ?_)))))
    · rw [List.length_singleton]; omega
    · have hw : wrap64 ((j : Int) + 1) = ((j + 1 : Nat) : Int) := by rw [IntWalk.wrap64_in _ (by omega)]; omega
      rw [hw]
      clear hw
      refine ih (j + 1) (by omega) _ (by rw [List.length_append, List.length_singleton]; omega) ?_
      rw [List.drop_eq_getElem_cons hlt, List.map_cons] at h
      rw [List.append_assoc]
      exact h
theorem all_ev : ∀ (m : Nat), m ≤ 6 → ∀ (l : List Int), l.length = m → Ev (fun k => order_All.f k l) (permsF m l) := by
  intro m
  induction m with
  | zero =>
    intro _ l hl
    refine Ev.step (fun k => by rw [order_All.f]) ?_
    exact neg (by omega) (pos (by omega) (Ev.now _))
  | succ m ih =>
    intro hm l hl
    have hf := fac_small (show m ≤ 6 by omega)
    refine Ev.step (fun k => by rw [order_All.f]) ?_
    refine neg (by omega) (neg (by omega) ?_)
    have loop : ∀ d i : Nat, i + d = l.length → ∀ acc : List (List Int), acc.length ≤ i * 720 → Ev (fun k => order_All.l0 k l acc l (l.length : Int) (i : Int)) (acc ++ (List.range' i d).flatMap (grp m l)) := by
      intro d
      induction d with
      | zero =>
        intro i hi acc hacc
        refine Ev.step (fun k => by rw [order_All.l0]) ?_
        rw [show List.range' i 0 = [] from rfl, List.flatMap_nil, List.append_nil]
        exact neg (by omega) (Ev.now _)
      | succ d ih2 =>
        intro i hi acc hacc
        have hlt : i < l.length := by omega
        have hw : wrap64 ((i : Int) + 1) = ((i + 1 : Nat) : Int) := by rw [IntWalk.wrap64_in _ (by omega)]; omega
        have hlen : (l.eraseIdx i).length = m := by rw [List.length_eraseIdx_of_lt hlt]; omega
        refine Ev.step (fun k => by rw [order_All.l0]) ?_
        rw [show List.range' i (d + 1) = i :: List.range' (i + 1) d from rfl, List.flatMap_cons, ← List.append_assoc]
        refine pos (by omega) (pos (by omega) (pos (by omega) (bindv (if_pos (by omega)) (bindv (a := l.eraseIdx i) ?_ (Ev.bind (ih (by omega) _ hlen) ?_)))))
        · unfold slices_Delete_int_int.f
          rw [hw, if_pos (by omega), List.eraseIdx_eq_take_drop_succ]
          rfl
        · refine all_l1 l (rd l (i : Int)) l (l.length : Int) (i : Int) (permsF m (l.eraseIdx i)) (fun r hr => by rw [(perms_perm m _ hlen r hr).length_eq]; omega) (by rw [perms_len m _ hlen]; omega) _ (permsF m (l.eraseIdx i)).length 0 (by omega) acc (by rw [perms_len m _ hlen]; omega) ?_
          rw [hw]
          clear hw
          refine ih2 (i + 1) (by omega) _ ?_
          rw [List.drop_zero, List.length_append, List.length_map, perms_len m _ hlen]
          omega
    have := loop l.length 0 (by omega) [] (by simp)
    rw [List.nil_append, ← perms_grp] at this
    exact this
theorem all_big {l : List Int} (h : l.length > 6) : Ev (fun k => order_All.f k l) [] := by
  refine Ev.step (fun k => by rw [order_All.f]) ?_
  exact pos (by omega) (Ev.now _)
/-! ### Fits -/
def goodL (n : Nat) (l : List Int) : Prop := (∀ x ∈ l, 0 ≤ x ∧ x < (n : Int)) ∧ l.Nodup
def fitP (M : Nat → Nat → Bool) (l : List Int) : Prop := ∀ a b : Nat, (hab : b ≤ a) → ∀ h : a < l.length, M (l[a]).toNat (l[b]'(by omega)).toNat = false
def FitsP (n : Nat) (M : Nat → Nat → Bool) (l : List Int) : Prop := l.length = n ∧ goodL n l ∧ fitP M l
noncomputable def fits (n : Nat) (M : Nat → Nat → Bool) (l : List Int) : Bool := @decide (FitsP n M l) (Classical.propDecidable _)
theorem fits_t {n : Nat} {M : Nat → Nat → Bool} {l : List Int} (h : FitsP n M l) : fits n M l = true := by unfold fits; exact @decide_eq_true _ (Classical.propDecidable _) h
theorem fits_f {n : Nat} {M : Nat → Nat → Bool} {l : List Int} (h : ¬ FitsP n M l) : fits n M l = false := by unfold fits; exact @decide_eq_false _ (Classical.propDecidable _) h
theorem sub_len : ∀ {l m : List Int}, l.Nodup → (∀ x ∈ l, x ∈ m) → l.length ≤ m.length
  | [], m, _, _ => by simp
  | x :: xs, m, hn, hs => by
    rw [List.nodup_cons] at hn
    have hx := hs x (by simp)
    have h1 := sub_len (m := m.erase x) hn.2 (fun y hy => (List.mem_erase_of_ne (fun e => hn.1 (by rw [← e]; exact hy))).2 (hs y (by simp [hy])))
    rw [List.length_erase_of_mem hx] at h1
    have := List.length_pos_of_mem hx
    rw [List.length_cons]; omega
theorem full_mem {n : Nat} {l : List Int} (hl : l.length = n) (hg : goodL n l) {i : Nat} (hi : i < n) : (i : Int) ∈ l := by
  by_cases h : (i : Int) ∈ l
  · exact h
  · have := sub_len (l := (i : Int) :: l) (m := R n) (List.nodup_cons.2 ⟨h, hg.2⟩) (fun x hx => by
      rw [R_mem]
      rcases List.mem_cons.1 hx with rfl | hx
      · omega
      · exact hg.1 x hx)
    rw [R_length, List.length_cons] at this
    omega
/-- Where each thing of the list stands, from one on. -/
def plI (n : Nat) (f : Nat → Int) (l : List Int) : Prop := (∀ k : Nat, k < n → (f k > 0 ↔ (k : Int) ∈ l)) ∧ ∀ (j : Nat) (h : j < l.length), f (l[j]).toNat = (j : Int) + 1
theorem plT_is (n : Nat) : ∀ (ks pre : List Int) (f : Nat → Int), goodL n pre → plI n f pre →
    (∃ f', plT (n : Int) ks (pre.length : Int) (tab n f) = some (tab n f') ∧ plI n f' (pre ++ ks) ∧ goodL n (pre ++ ks)) ∨ (plT (n : Int) ks (pre.length : Int) (tab n f) = none ∧ ¬ goodL n (pre ++ ks))
  | [], pre, f, hg, hi => .inl ⟨f, by rw [plT], by rwa [List.append_nil], by rwa [List.append_nil]⟩
  | k :: ks, pre, f, hg, hi => by
    rw [plT]
    by_cases h0 : k < 0
    · exact .inr ⟨if_pos h0, fun h => by have := h.1 k (by simp); omega⟩
    by_cases h1 : k ≥ (n : Int)
    · exact .inr ⟨by rw [if_neg h0, if_pos h1], fun h => by have := h.1 k (by simp); omega⟩
    obtain ⟨q, rfl⟩ := Int.eq_ofNat_of_zero_le (show 0 ≤ k by omega)
    have hq : q < n := by omega
    rw [if_neg h0, if_neg h1, rd_tab n f q hq]
    by_cases h2 : (q : Int) ∈ pre
    · refine .inr ⟨if_pos ((hi.1 q hq).2 h2), fun h => ?_⟩
      have := (List.nodup_append.1 h.2).2.2 _ h2 _ (List.mem_cons_self)
      exact this rfl
    · rw [if_neg (fun h => h2 ((hi.1 q hq).1 h)), Int.toNat_natCast, tab_set]
      have hg' : goodL n (pre ++ [(q : Int)]) := by
        refine ⟨fun x hx => ?_, ?_⟩
        · rcases List.mem_append.1 hx with hx | hx
          · exact hg.1 x hx
          · rw [List.mem_singleton] at hx; omega
        · rw [List.nodup_append]
          refine ⟨hg.2, by simp, fun a ha b hb => ?_⟩
          rw [List.mem_singleton] at hb
          rintro rfl
          exact h2 (by rw [← hb]; exact ha)
      have hi' : plI n (fun j => if j = q then (pre.length : Int) + 1 else f j) (pre ++ [(q : Int)]) := by
        refine ⟨fun k hk => ?_, fun j hj => ?_⟩
        · by_cases e : k = q
          · subst e; simp
          · show (if k = q then (pre.length : Int) + 1 else f k) > 0 ↔ _
            rw [if_neg e, hi.1 k hk, List.mem_append, List.mem_singleton]
            exact ⟨.inl, fun h => h.resolve_right (by omega)⟩
        · rw [List.length_append, List.length_singleton] at hj
          by_cases hj2 : j < pre.length
          · rw [List.getElem_append_left hj2]
            have hne : (pre[j]).toNat ≠ q := fun e => by
              have h9 := List.getElem_mem hj2
              have := (hg.1 _ h9).1
              rw [show pre[j] = (q : Int) by omega] at h9
              exact h2 h9
            show (if (pre[j]).toNat = q then (pre.length : Int) + 1 else f (pre[j]).toNat) = _
            rw [if_neg hne]
            exact hi.2 j hj2
          · obtain rfl : j = pre.length := by omega
            simp
      have := plT_is n ks (pre ++ [(q : Int)]) _ hg' hi'
      rw [List.append_assoc, List.length_append, List.length_singleton] at this
      exact this
theorem fits_ev (l r : List Int) : Ev (fun k => order_Fits.f k l r) (fits (sz r) (mat r) l) := by
  have h32 := sz_le r
  unfold order_Fits.f
  refine bindv (size_eq r) ?_
  by_cases hl : l.length = sz r
  · refine pos (by omega) (pos (by omega) ?_)
    have h := plT_is (sz r) l [] (fun _ => 0) ⟨by simp, by simp⟩ ⟨by simp, by simp⟩
    rw [← replicate_tab, ← hl, List.nil_append] at h
    rw [← hl]
    rcases h with ⟨f', e, hi, hg⟩ | ⟨e, hg⟩
    · have e : plT (l.length : Int) l 0 (List.replicate l.length 0) = some (tab l.length f') := e
      rw [e]
      refine Ev.bind (pairs_ev r) (pos ⟨Nat.lt_of_le_of_lt (Nat.le_trans (prs_length _ _) (Nat.mul_le_mul h32 h32)) (by decide), fun p hp => ?_⟩ ?_)
      · obtain ⟨i, k, hi, hk, _, rfl⟩ := mem_prs.1 hp
        unfold inB
        simp only [tab_length]
        omega
      · have hpos : ∀ i : Nat, i < l.length → ∃ a : Nat, ∃ h : a < l.length, l[a] = (i : Int) ∧ rd (tab l.length f') (i : Int) = (a : Int) + 1 := by
          intro i h9
          obtain ⟨a, ha, e⟩ := List.getElem_of_mem (full_mem rfl hg h9)
          refine ⟨a, ha, e, ?_⟩
          have := hi.2 a ha
          rw [e, Int.toNat_natCast] at this
          rw [rd_tab _ _ _ h9, this]
        have hlate : (!(prs (sz r) (mat r)).any (lateB (tab l.length f'))) = fits l.length (mat r) l := by
          cases ha : (prs (sz r) (mat r)).any (lateB (tab l.length f')) with
          | true =>
            obtain ⟨p, hp, hlt⟩ := List.any_eq_true.1 ha
            obtain ⟨i, k, h1, h2, hm, rfl⟩ := mem_prs.1 hp
            obtain ⟨a, ha, ea, ra⟩ := hpos i (by omega)
            obtain ⟨b, hb, eb, rb⟩ := hpos k (by omega)
            have hlt := of_decide_eq_true hlt
            simp only [ra, rb] at hlt
            rw [fits_f]
            · rfl
            · intro hf
              have := hf.2.2 a b (by omega) ha
              rw [ea, eb, Int.toNat_natCast, Int.toNat_natCast, hm] at this
              exact absurd this (by decide)
          | false =>
            rw [fits_t]
            · rfl
            · refine ⟨rfl, hg, fun a b hab h => ?_⟩
              cases hm : mat r (l[a]).toNat (l[b]'(by omega)).toNat with
              | false => rfl
              | true =>
                have hb := mat_bound hm
                have := List.any_eq_false.1 ha _ (mem_prs.2 ⟨_, _, hb.1, hb.2, hm, rfl⟩)
                refine absurd (decide_eq_true ?_) this
                simp only
                rw [rd_tab _ _ _ (by omega), rd_tab _ _ _ (by omega), hi.2 a h, hi.2 b (by omega)]
                omega
        rw [hlate]
        exact Ev.now _
    · have e : plT (l.length : Int) l 0 (List.replicate l.length 0) = none := e
      rw [e, fits_f (fun h => hg h.2.1)]
      exact Ev.now _
  · rw [fits_f (fun h => hl h.1)]
    exact neg (by omega) (Ev.now _)
/-! ### the orders that Linear tells are those that fit -/
theorem fitP_cons {M : Nat → Nat → Bool} {x : Int} {xs : List Int} : fitP M (x :: xs) ↔ (∀ y ∈ x :: xs, M y.toNat x.toNat = false) ∧ fitP M xs := by
  constructor
  · intro h
    refine ⟨fun y hy => ?_, fun a b hab ha => ?_⟩
    · obtain ⟨a, ha, e⟩ := List.getElem_of_mem hy
      have := h a 0 (by omega) ha
      rw [e] at this
      exact this
    · exact h (a + 1) (b + 1) (by omega) (by simp; omega)
  · rintro ⟨h1, h2⟩ a b hab ha
    cases b with
    | zero => exact h1 _ (List.getElem_mem ha)
    | succ b =>
      cases a with
      | zero => omega
      | succ a => exact h2 a b (by omega) (by simpa using ha)
theorem okD_iff (n : Nat) (hn : n ≤ 32) (M : Nat → Nat → Bool) : ∀ (p : List Int) (d : Int), p.Perm (restD n d) → (okD n M d p = true ↔ fitP M p)
  | [], d, _ => by rw [okD]; exact ⟨fun _ a b _ h => absurd h (by simp), fun _ => rfl⟩
  | x :: xs, d, hp => by
    have hx := (hp.mem_iff (a := x)).1 (by simp)
    have hxs : xs.Perm (restD n (addD d x)) := by
      have := hp.erase x
      rw [rest_erase hn hx] at this
      simpa using this
    rw [okD, Bool.and_eq_true, okD_iff n hn M xs _ hxs, fitP_cons, okX_iff]
    refine and_congr ⟨fun h y hy => ?_, fun h i hi hd => ?_⟩ Iff.rfl
    · obtain ⟨k, rfl, hk, hd⟩ := restD_mem.1 ((hp.mem_iff).1 hy)
      rw [Int.toNat_natCast]
      exact h k hk hd
    · have := h (i : Int) ((hp.mem_iff).2 (restD_mem.2 ⟨i, rfl, hi, hd⟩))
      rwa [Int.toNat_natCast] at this
theorem perm_good {n : Nat} {p : List Int} (h : p.Perm (R n)) : p.length = n ∧ goodL n p :=
  ⟨by rw [h.length_eq, R_length], fun x hx => R_mem.1 ((h.mem_iff).1 hx), (h.nodup_iff).2 (R_nodup n)⟩
theorem okD_fits {n : Nat} (hn : n ≤ 32) (M : Nat → Nat → Bool) {p : List Int} (h : p.Perm (R n)) : okD n M 0 p = fits n M p := by
  have h1 := okD_iff n hn M p 0 (by rwa [restD_zero])
  cases ho : okD n M 0 p with
  | true => rw [fits_t ⟨(perm_good h).1, (perm_good h).2, h1.1 ho⟩]
  | false =>
    rw [fits_f]
    intro hf
    rw [h1.2 hf.2.2] at ho
    exact absurd ho (by decide)
theorem lins_fits {r : List Int} (h : r.length ≤ 6) : lins r = (permsF r.length (R r.length)).filter (fits r.length (mat r)) := by
  unfold lins
  rw [if_neg (by omega)]
  exact List.filter_congr fun p hp => okD_fits (by omega) _ (perms_perm _ _ (R_length _) p hp)
theorem lins_mem {r p : List Int} (hp : p ∈ lins r) : r.length ≤ 6 ∧ p.Perm (R r.length) ∧ fitP (mat r) p := by
  by_cases h : r.length ≤ 6
  · unfold lins at hp
    rw [if_neg (by omega)] at hp
    obtain ⟨h1, h2⟩ := List.mem_filter.1 hp
    have h3 := perms_perm _ _ (R_length _) p h1
    exact ⟨h, h3, (okD_iff _ (by omega) _ p 0 (by rwa [restD_zero])).1 h2⟩
  · unfold lins at hp
    rw [if_pos (by omega)] at hp
    simp at hp
theorem R_succ (n : Nat) : R (n + 1) = R n ++ [(n : Int)] := by unfold R; rw [List.range_succ, List.map_append]; rfl
end Go.Proofs.Ytbamkkdikeedoaa.Ord
