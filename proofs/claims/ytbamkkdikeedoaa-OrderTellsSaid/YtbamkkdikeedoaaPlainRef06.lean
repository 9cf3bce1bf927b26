/- Plain: what the document's package cupolaref06 computes: the same orders. -/
import Derived.Test.YtbamkkdikeedoaaPlainOrder3
import Derived.Test.YtbamkkdikeedoaaPlainRef05
import Derived.Test.YtbamkkdikeedoaaGCupolaref06
namespace Go.Proofs.Ytbamkkdikeedoaa.Ord
open Go.RowKit Go.Proofs.Ytbamkkdikeedoaa.G Go.Proofs.Ytbamkkdikeedoaa.Src Go.Proofs.YtbamkkdikeedoaaW.PrintWords Go.Proofs.YtbamkkdikeedoaaW.PrintLast Go.Proofs.YtbamkkdikeedoaaW.PrintMore
set_option linter.unusedVariables false
/-! ### First -/
def firstF (n : Nat) (M : Nat → Nat → Bool) : Nat → List Int → Int → List Int × Bool
  | 0, l, _ => (l, true)
  | m + 1, l, d => match freeF n M d with
    | [] => ([], false)
    | x :: _ => firstF n M m (l ++ [x]) (addD d x)
theorem free_mem {n : Nat} {M : Nat → Nat → Bool} {d x : Int} (h : x ∈ freeF n M d) : ∃ j : Nat, x = (j : Int) ∧ j < n ∧ tb d j = false := restD_mem.1 (List.mem_filter.1 h).1
theorem first_l0 (r : List Int) : ∀ m i : Nat, i + m = sz r → ∀ (l : List Int) (d : Int), U32 d → l.length = i →
    Ev (fun k => order_First.l0 k r d l (sz r : Int) (i : Int)) (firstF (sz r) (mat r) m l d) := by
  intro m
  induction m with
  | zero =>
    intro i hi l d hd hl
    refine Ev.step (fun k => by rw [order_First.l0]) ?_
    exact neg (by omega) (Ev.now _)
  | succ m ih =>
    intro i hi l d hd hl
    have h32 := sz_le r
    have hw : wrap64 ((i : Int) + 1) = ((i + 1 : Nat) : Int) := by rw [IntWalk.wrap64_in _ (by omega)]; omega
    refine Ev.step (fun k => by rw [order_First.l0]) ?_
    rw [hw, firstF]
    clear hw
    refine pos (by omega) (Ev.bind (free_ev r d hd) ?_)
    cases hf : freeF (sz r) (mat r) d with
    | nil => exact pos rfl (Ev.now _)
    | cons x xs =>
      obtain ⟨j, rfl, hj, _⟩ := free_mem (M := mat r) (n := sz r) (d := d) (x := x) (by rw [hf]; simp)
      have e : rd ((j : Int) :: xs) 0 = (j : Int) := rfl
      rw [e]
      refine neg (by rw [List.length_cons]; omega) (pos (by rw [List.length_cons]; omega) (pos (by omega) (pos (by rw [wrap_u64_nat j (by omega)]; omega) ?_)))
      exact ih (i + 1) (by omega) _ _ (bits_u32 _ _ _) (by rw [List.length_append, List.length_singleton]; omega)
theorem first_ev (r : List Int) : Ev (fun k => order_First.f k r) (firstF (sz r) (mat r) (sz r) [] 0) := by
  unfold order_First.f
  refine bindv (size_eq r) ?_
  exact first_l0 r (sz r) 0 (by omega) [] 0 (by unfold U32; omega) rfl
def goodX (n : Nat) (M : Nat → Nat → Bool) (d : Int) (c : Nat) : Bool := !tb d c && okX n M d c
def bestF (n : Nat) (M : Nat → Nat → Bool) (d : Int) : Nat → Int → Int
  | 0, v => v
  | c + 1, v => bestF n M d c (if goodX n M d c = true then (c : Int) else v)
theorem best_is (n : Nat) (M : Nat → Nat → Bool) (d : Int) : ∀ (c : Nat) (v : Int), bestF n M d c v = ((((List.range c).filter (goodX n M d)).map fun k : Nat => (k : Int)) ++ [v]).headD v
  | 0, v => rfl
  | c + 1, v => by
    rw [bestF, best_is n M d c, List.range_succ, List.filter_append]
    cases hl : (List.range c).filter (goodX n M d) with
    | nil =>
      by_cases h : goodX n M d c = true
      · rw [if_pos h, List.filter_cons_of_pos h]; rfl
      · rw [if_neg h, List.filter_cons_of_neg h]; rfl
    | cons y ys => rfl
theorem free_good (n : Nat) (M : Nat → Nat → Bool) (d : Int) : freeF n M d = ((List.range n).filter (goodX n M d)).map fun k : Nat => (k : Int) := by
  rw [free_is, List.range_eq_range']; rfl
theorem best_free (n : Nat) (M : Nat → Nat → Bool) (d : Int) : bestF n M d n (-1) = match freeF n M d with | [] => -1 | x :: _ => x := by
  rw [best_is, ← free_good]
  cases freeF n M d <;> rfl
def sameD (n : Nat) (l : List Int) (d : Int) : Prop := ∀ k, k < n → tb d k = decide ((k : Int) ∈ l)
def okT (M : Nat → Nat → Bool) (d : Int) (x j m : Nat) : Bool := (List.range' j m).all fun i => tb d i || !M i x
theorem rfirst_l2 (r : List Int) (hr : ∀ x ∈ r, U32 x) (l : List Int) (hl : l.length ≤ 32) (d : Int) (hd : sameD (sz r) l d) (best : Int) (x : Nat) (hx : x < sz r) (res : List Int × Bool) : ∀ m j : Nat, j + m = sz r → ∀ b : Bool,
    Ev (fun k => cupolaref06_First.l1 k r (sz r : Int) l (if (b && okT (mat r) d x j m) = true then (x : Int) else best) (wrap64 ((x : Int) - 1))) res →
    Ev (fun k => cupolaref06_First.l2 k r (sz r : Int) l best (x : Int) b (j : Int)) res := by
  intro m
  induction m with
  | zero =>
    intro j hj b h
    refine Ev.step (fun k => by rw [cupolaref06_First.l2]) ?_
    refine neg (by omega) ?_
    cases b with
    | true =>
      rw [show (if (true && okT (mat r) d x j 0) = true then (x : Int) else best) = (x : Int) from if_pos rfl] at h
      exact pos rfl h
    | false =>
      rw [show (if (false && okT (mat r) d x j 0) = true then (x : Int) else best) = best from if_neg (by simp)] at h
      exact neg (by decide) h
  | succ m ih =>
    intro j hj b h
    have h32 := sz_le r
    have hjr : j < sz r := by omega
    have next := ih (j + 1) (by omega)
    have hw : wrap64 ((j : Int) + 1) = ((j + 1 : Nat) : Int) := by rw [IntWalk.wrap64_in _ (by omega)]; omega
    refine Ev.step (fun k => by rw [cupolaref06_First.l2]) ?_
    rw [hw]
    clear hw
    refine pos (by omega) ?_
    have hok : okT (mat r) d x j (m + 1) = ((tb d j || !mat r j x) && okT (mat r) d x (j + 1) m) := by unfold okT; rw [show List.range' j (m + 1) = j :: List.range' (j + 1) m from rfl, List.all_cons]
    rw [hok] at h
    cases b with
    | false =>
      refine neg (by decide) (next false ?_)
      simpa using h
    | true =>
      refine pos rfl (Ev.bind (inq_is l (by omega) _) ?_)
      rw [← hd j hjr]
      cases ht : tb d j with
      | true =>
        refine pos rfl (next true ?_)
        rw [ht] at h
        simpa using h
      | false =>
        refine neg (by decide) (Ev.bind (rhas_ev hr _ _) ?_)
        rw [hasM_nat]
        refine next _ ?_
        rw [ht] at h
        simpa using h
theorem rfirst_l1 (r : List Int) (hr : ∀ x ∈ r, U32 x) (l : List Int) (hl : l.length ≤ 32) (d : Int) (hd : sameD (sz r) l d) (res : List Int × Bool)
    (last : ∀ v : Int, v = bestF (sz r) (mat r) d (sz r) (-1) → Ev (fun k => if v < 0 then some (([] : List Int), false) else (if l.length < 17592186044416 then cupolaref06_First.l0 k r (sz r : Int) (l ++ [v]) else none)) res) :
    ∀ (c : Nat), c ≤ sz r → ∀ v : Int, bestF (sz r) (mat r) d c v = bestF (sz r) (mat r) d (sz r) (-1) → Ev (fun k => cupolaref06_First.l1 k r (sz r : Int) l v ((c : Int) - 1)) res := by
  intro c
  induction c with
  | zero =>
    intro _ v hv
    refine Ev.step (fun k => by rw [cupolaref06_First.l1]) ?_
    exact neg (by omega) (last v hv)
  | succ c ih =>
    intro hc v hv
    have h32 := sz_le r
    have hx : ((c + 1 : Nat) : Int) - 1 = (c : Int) := by omega
    have next := ih (by omega)
    have hw : wrap64 ((c : Int) - 1) = (c : Int) - 1 := IntWalk.wrap64_in _ (by omega)
    refine Ev.step (fun k => by rw [cupolaref06_First.l1]) ?_
    rw [hx]
    refine pos (by omega) (Ev.bind (inq_is l (by omega) _) ?_)
    have := rfirst_l2 r hr l hl d hd v c (by omega) res (sz r) 0 (by omega) (!decide ((c : Int) ∈ l))
    refine this ?_
    rw [hw]
    clear hw
    refine next _ ?_
    rw [bestF] at hv
    rw [← hv]
    congr 1
    unfold goodX okX okT
    rw [hd c (by omega), List.range_eq_range']
theorem rfirst_l0 (r : List Int) (hr : ∀ x ∈ r, U32 x) : ∀ m i : Nat, i + m = sz r → ∀ (l : List Int) (d : Int), U32 d → sameD (sz r) l d → l.length = i →
    Ev (fun k => cupolaref06_First.l0 k r (sz r : Int) l) (firstF (sz r) (mat r) m l d) := by
  intro m
  induction m with
  | zero =>
    intro i hi l d hd hs hl
    refine Ev.step (fun k => by rw [cupolaref06_First.l0]) ?_
    exact neg (by omega) (Ev.now _)
  | succ m ih =>
    intro i hi l d hd hs hl
    have h32 := sz_le r
    have hw : wrap64 ((sz r : Int) - 1) = (sz r : Int) - 1 := IntWalk.wrap64_in _ (by omega)
    refine Ev.step (fun k => by rw [cupolaref06_First.l0]) ?_
    rw [hw]
    clear hw
    refine pos (by omega) (rfirst_l1 r hr l (by omega) d hs _ (fun v hv => ?_) (sz r) (Nat.le_refl _) (-1) rfl)
    rw [best_free] at hv
    rw [firstF]
    cases hf : freeF (sz r) (mat r) d with
    | nil =>
      rw [hf] at hv
      exact pos (by rw [hv]; decide) (Ev.now _)
    | cons x xs =>
      rw [hf] at hv
      obtain ⟨j, rfl, hj, _⟩ := free_mem (M := mat r) (n := sz r) (d := d) (x := x) (by rw [hf]; simp)
      have hv : v = (j : Int) := hv
      subst hv
      refine neg (by omega) (pos (by omega) ?_)
      refine ih (i + 1) (by omega) _ _ (bits_u32 _ _ _) (fun k hk => ?_) (by rw [List.length_append, List.length_singleton]; omega)
      rw [tb_add h32 d hj hk, hs k hk]
      by_cases h1 : (k : Int) ∈ l
      · rw [decide_eq_true h1, decide_eq_true (List.mem_append.2 (.inl h1))]; rfl
      · by_cases h2 : k = j
        · subst h2; simp
        · rw [decide_eq_false h1, decide_eq_false h2, decide_eq_false]
          · rfl
          · intro h
            rcases List.mem_append.1 h with h | h
            · exact h1 h
            · rw [List.mem_singleton] at h; omega
theorem rfirst_ev {r : List Int} (hr : ∀ x ∈ r, U32 x) : Ev (fun k => cupolaref06_First.f k r) (firstF (sz r) (mat r) (sz r) [] 0) := by
  unfold cupolaref06_First.f
  refine bindv (rsize_eq r) ?_
  exact rfirst_l0 r hr (sz r) 0 (by omega) [] 0 (by unfold U32; omega) (fun k _ => by rw [tb_zero]; rfl) rfl
/-! ### All -/
theorem rallq_l1 (l : List Int) (i : Nat) (hi : i < l.length) (t : List (List Int)) (ht : ∀ r ∈ t, r.length ≤ 6) (ht9 : t.length ≤ 100000) (r : List (List Int)) : ∀ d j : Nat, j + d = t.length → ∀ acc : List (List Int), acc.length + d ≤ 100000 →
    Ev (fun k => cupolaref06_All.l0 k l (acc ++ (t.drop j).map (l.getD i 0 :: ·)) (wrap64 ((i : Int) + 1))) r → Ev (fun k => cupolaref06_All.l1 k l acc (i : Int) t (j : Int)) r := by
  intro d
  induction d with
  | zero =>
    intro j hj acc hacc h
    refine Ev.step (fun k => by rw [cupolaref06_All.l1]) ?_
    rw [List.drop_of_length_le (by omega), List.map_nil, List.append_nil] at h
    exact neg (by omega) h
  | succ d ih =>
    intro j hj acc hacc h
    have hlt : j < t.length := by omega
    have hr := ht _ (List.getElem_mem hlt)
    refine Ev.step (fun k => by rw [cupolaref06_All.l1]) ?_
    rw [rdL4 t j hlt]
    refine pos (by omega) (pos (by omega) (pos (by omega) (bindv rfl (pos (by omega) (pos ?_ (pos (by omega) ?_))))))
    · rw [List.length_singleton]; omega
    · have hw : wrap64 ((j : Int) + 1) = ((j + 1 : Nat) : Int) := by rw [IntWalk.wrap64_in _ (by omega)]; omega
      rw [hw]
      clear hw
      refine ih (j + 1) (by omega) _ (by rw [List.length_append, List.length_singleton]; omega) ?_
      rw [List.drop_eq_getElem_cons hlt, List.map_cons] at h
      rw [List.append_assoc]
      exact h
theorem rallq_ev : ∀ (m : Nat), m ≤ 6 → ∀ (l : List Int), l.length = m → Ev (fun k => cupolaref06_All.f k l) (permsF m l) := by
  intro m
  induction m with
  | zero =>
    intro _ l hl
    refine Ev.step (fun k => by rw [cupolaref06_All.f]) ?_
    exact neg (by omega) (pos (by omega) (Ev.now _))
  | succ m ih =>
    intro hm l hl
    have hf := fac_small (show m ≤ 6 by omega)
    refine Ev.step (fun k => by rw [cupolaref06_All.f]) ?_
    refine neg (by omega) (neg (by omega) ?_)
    have loop : ∀ d i : Nat, i + d = l.length → ∀ acc : List (List Int), acc.length ≤ i * 720 → Ev (fun k => cupolaref06_All.l0 k l acc (i : Int)) (acc ++ (List.range' i d).flatMap (grp m l)) := by
      intro d
      induction d with
      | zero =>
        intro i hi acc hacc
        refine Ev.step (fun k => by rw [cupolaref06_All.l0]) ?_
        rw [show List.range' i 0 = [] from rfl, List.flatMap_nil, List.append_nil]
        exact neg (by omega) (Ev.now _)
      | succ d ih2 =>
        intro i hi acc hacc
        have hlt : i < l.length := by omega
        have hw : wrap64 ((i : Int) + 1) = ((i + 1 : Nat) : Int) := by rw [IntWalk.wrap64_in _ (by omega)]; omega
        have hlen : (l.eraseIdx i).length = m := by rw [List.length_eraseIdx_of_lt hlt]; omega
        have h1 : ([] : List Int).length + (l.take i).length < 17592186044416 := by rw [List.length_take, List.length_nil]; omega
        have h2 : (l.take i).length + (l.drop (i + 1)).length < 17592186044416 := by rw [List.length_take, List.length_drop]; omega
        refine Ev.step (fun k => by rw [cupolaref06_All.l0]) ?_
        rw [show List.range' i (d + 1) = i :: List.range' (i + 1) d from rfl, List.flatMap_cons, ← List.append_assoc, hw, Int.toNat_natCast, Int.toNat_natCast]
        refine pos (by omega) (bindv rfl (pos (by omega) (pos (by omega) (pos h1 (bindv rfl (pos (by omega) (pos (by omega) (pos h2 ?_))))))))
        have e : [] ++ l.take i ++ l.drop (i + 1) = l.eraseIdx i := by rw [List.eraseIdx_eq_take_drop_succ]; rfl
        rw [e]
        refine Ev.bind (ih (by omega) _ hlen) ?_
        refine rallq_l1 l i hlt (permsF m (l.eraseIdx i)) (fun r hr => by rw [(perms_perm m _ hlen r hr).length_eq]; omega) (by rw [perms_len m _ hlen]; omega) _ (permsF m (l.eraseIdx i)).length 0 (by omega) acc (by rw [perms_len m _ hlen]; omega) ?_
        rw [hw]
        clear hw
        refine ih2 (i + 1) (by omega) _ ?_
        rw [List.drop_zero, List.length_append, List.length_map, perms_len m _ hlen]
        omega
    have := loop l.length 0 (by omega) [] (by simp)
    rw [List.nil_append, ← perms_grp] at this
    exact this
theorem rallq_big {l : List Int} (h : l.length > 6) : Ev (fun k => cupolaref06_All.f k l) [] := by
  refine Ev.step (fun k => by rw [cupolaref06_All.f]) ?_
  exact pos (by omega) (Ev.now _)
/-! ### Fits -/
theorem rfitsq_ev (l : List Int) {r : List Int} (hr : ∀ x ∈ r, U32 x) : Ev (fun k => cupolaref06_Fits.f k l r) (fits (sz r) (mat r) l) := by
  have h32 := sz_le r
  unfold cupolaref06_Fits.f
  refine bindv (rsize_eq r) ?_
  by_cases hl : l.length = sz r
  · refine pos (by omega) ?_
    have loop : ∀ d i : Nat, i + d = l.length → goodL (sz r) (l.take i) → (∀ a b : Nat, (hab : b ≤ a) → a < i → ∀ h : a < l.length, mat r (l[a]).toNat (l[b]'(by omega)).toNat = false) →
        Ev (fun k => cupolaref06_Fits.l0 k l r (sz r : Int) (i : Int)) (fits (sz r) (mat r) l) := by
      intro d
      induction d with
      | zero =>
        intro i hi hg hM
        refine Ev.step (fun k => by rw [cupolaref06_Fits.l0]) ?_
        rw [List.take_of_length_le (by omega)] at hg
        rw [fits_t ⟨hl, hg, fun a b hab h => hM a b hab (by omega) h⟩]
        exact neg (by omega) (Ev.now _)
      | succ d ih =>
        intro i hi hg hM
        have hlt : i < l.length := by omega
        have next := ih (i + 1) (by omega)
        have hw : ((i + 1 : Nat) : Int) = wrap64 ((i : Int) + 1) := by rw [IntWalk.wrap64_in _ (by omega)]; omega
        rw [hw] at next
        clear hw
        have tk : l.take (i + 1) = l.take i ++ [l[i]] := by rw [List.take_add_one, List.getElem?_eq_getElem hlt]; rfl
        have hmem : l[i] ∈ l.take (i + 1) := by rw [tk]; exact List.mem_append.2 (.inr (List.mem_singleton.2 rfl))
        have bad : ¬ goodL (sz r) (l.take (i + 1)) → ∀ b, b = true → Ev (fun k => cupolaref06_Fits.j1 k l r (sz r : Int) (i : Int) b) (fits (sz r) (mat r) l) := by
          intro hb b e
          subst e
          refine Ev.step (fun k => by rw [cupolaref06_Fits.j1]) ?_
          rw [fits_f]
          · exact pos rfl (Ev.now _)
          · intro h
            refine hb ⟨fun x hx => h.2.1.1 x (List.mem_of_mem_take hx), ?_⟩
            exact h.2.1.2.sublist (List.take_sublist _ _)
        have inner : goodL (sz r) (l.take (i + 1)) → ∀ e j : Nat, (hje : j + e = i + 1) → (∀ b : Nat, (hb : b < j) → mat r (l[i]).toNat (l[b]'(by omega)).toNat = false) → Ev (fun k => cupolaref06_Fits.l1 k l r (sz r : Int) (i : Int) (j : Int)) (fits (sz r) (mat r) l) := by
          intro hg' e
          induction e with
          | zero =>
            intro j hj hb
            refine Ev.step (fun k => by rw [cupolaref06_Fits.l1]) ?_
            refine neg (by omega) (next hg' fun a b hab ha h => ?_)
            by_cases hai : a = i
            · subst hai; exact hb b (by omega)
            · exact hM a b hab (by omega) h
          | succ e ih2 =>
            intro j hj hb
            have hjl : j < l.length := by omega
            have hin1 := hg'.1 l[i] hmem
            have hin2 : 0 ≤ l[j] ∧ l[j] < (sz r : Int) := hg'.1 _ (List.mem_iff_getElem.2 ⟨j, by rw [List.length_take]; omega, by rw [List.getElem_take]⟩)
            have hw : wrap64 ((j : Int) + 1) = ((j + 1 : Nat) : Int) := by rw [IntWalk.wrap64_in _ (by omega)]; omega
            refine Ev.step (fun k => by rw [cupolaref06_Fits.l1]) ?_
            rw [rdAt l i hlt, rdAt l j hjl, hw]
            clear hw
            refine pos (by omega) (pos (by omega) (pos (by omega) (pos (by omega) (pos (by omega) (Ev.bind (rhas_ev hr _ _) ?_)))))
            have e1 : hasM r l[i] l[j] = mat r (l[i]).toNat (l[j]).toNat := by unfold hasM; rw [decide_eq_true hin1.1, decide_eq_true hin2.1]; rfl
            rw [e1]
            cases hm : mat r (l[i]).toNat (l[j]).toNat with
            | true =>
              rw [fits_f]
              · exact pos rfl (Ev.now _)
              · intro h
                have := h.2.2 i j (by omega) hlt
                rw [hm] at this
                exact absurd this (by decide)
            | false =>
              refine neg (by decide) (ih2 (j + 1) (by omega) fun b hb' => ?_)
              by_cases hbj : b = j
              · subst hbj; exact hm
              · exact hb b (by omega)
        refine Ev.step (fun k => by rw [cupolaref06_Fits.l0]) ?_
        rw [rdAt l i hlt, Int.toNat_natCast]
        refine pos (by omega) (pos (by omega) (pos (by omega) ?_))
        by_cases h0 : l[i] < 0
        · refine pos h0 (bad (fun h => ?_) _ rfl)
          have := h.1 l[i] hmem
          omega
        refine neg h0 ?_
        by_cases h1 : l[i] ≥ (sz r : Int)
        · refine pos h1 (bad (fun h => ?_) _ rfl)
          have := h.1 l[i] hmem
          omega
        refine neg h1 (pos (by omega) (Ev.bind (inq_is _ (by rw [List.length_take]; omega) _) ?_))
        by_cases h2 : l[i] ∈ l.take i
        · rw [decide_eq_true h2]
          refine bad (fun h => ?_) _ rfl
          have := h.2
          rw [tk, List.nodup_append] at this
          exact this.2.2 _ h2 _ (List.mem_singleton.2 rfl) rfl
        · rw [decide_eq_false h2]
          refine Ev.step (fun k => by rw [cupolaref06_Fits.j1]) ?_
          refine neg (by decide) ?_
          have hg' : goodL (sz r) (l.take (i + 1)) := by
            rw [tk]
            refine ⟨fun x hx => ?_, ?_⟩
            · rcases List.mem_append.1 hx with hx | hx
              · exact hg.1 x hx
              · rw [List.mem_singleton] at hx; subst hx; omega
            · rw [List.nodup_append]
              refine ⟨hg.2, by simp, fun a ha b hb => ?_⟩
              rw [List.mem_singleton] at hb
              rintro rfl
              exact h2 (by rw [← hb]; exact ha)
          exact inner hg' (i + 1) 0 (by omega) (fun b hb => by omega)
    exact loop l.length 0 (by omega) ⟨by simp, by simp⟩ (fun a b _ h => by omega)
  · rw [fits_f (fun h => hl h.1)]
    exact neg (by omega) (Ev.now _)
/-! ### Linear -/
theorem things_l0 (n : Nat) (hn : n ≤ 6) : ∀ d i : Nat, i + d = n → Ev (fun k => cupolaref06_things.l0 k (n : Int) (R i) (i : Int)) (R n) := by
  intro d
  induction d with
  | zero =>
    intro i hi
    obtain rfl : i = n := by omega
    refine Ev.step (fun k => by rw [cupolaref06_things.l0]) ?_
    exact neg (by omega) (Ev.now _)
  | succ d ih =>
    intro i hi
    have hw : wrap64 ((i : Int) + 1) = ((i + 1 : Nat) : Int) := by rw [IntWalk.wrap64_in _ (by omega)]; omega
    refine Ev.step (fun k => by rw [cupolaref06_things.l0]) ?_
    rw [hw, ← R_succ]
    clear hw
    exact pos (by omega) (pos (by rw [R_length]; omega) (ih (i + 1) (by omega)))
theorem rlinear_ev {r : List Int} (hr : ∀ x ∈ r, U32 x) : Ev (fun k => cupolaref06_Linear.f k r) (lins r) := by
  unfold cupolaref06_Linear.f
  by_cases h6 : r.length > 6
  · unfold lins
    rw [if_pos h6]
    exact pos (by omega) (Ev.now _)
  refine neg (by omega) (Ev.bind (things_l0 r.length (by omega) r.length 0 (by omega)) (Ev.bind (rallq_ev _ (by omega) _ (R_length _)) ?_))
  have hs : sz r = r.length := sz_full (by omega)
  rw [lins_fits (by omega)]
  have hlen := perms_len _ _ (R_length r.length)
  have hf := fac_small (show r.length ≤ 6 by omega)
  generalize permsF r.length (R r.length) = L at hlen
  have loop : ∀ d i : Nat, i + d = L.length → ∀ acc : List (List Int), acc.length ≤ i → Ev (fun k => cupolaref06_Linear.l0 k r acc L (i : Int)) (acc ++ (L.drop i).filter (fits r.length (mat r))) := by
    intro d
    induction d with
    | zero =>
      intro i hi acc hacc
      refine Ev.step (fun k => by rw [cupolaref06_Linear.l0]) ?_
      rw [List.drop_of_length_le (by omega), List.filter_nil, List.append_nil]
      exact neg (by omega) (Ev.now _)
    | succ d ih =>
      intro i hi acc hacc
      have hlt : i < L.length := by omega
      have hw : wrap64 ((i : Int) + 1) = ((i + 1 : Nat) : Int) := by rw [IntWalk.wrap64_in _ (by omega)]; omega
      refine Ev.step (fun k => by rw [cupolaref06_Linear.l0]) ?_
      rw [rdL4 L i hlt, hw, List.drop_eq_getElem_cons hlt]
      clear hw
      have h1 := rfitsq_ev L[i] hr
      rw [hs] at h1
      refine pos (by omega) (pos (by omega) (Ev.bind h1 ?_))
      cases hc : fits r.length (mat r) L[i] with
      | true =>
        refine pos rfl (pos (by omega) ?_)
        rw [List.filter_cons_of_pos hc]
        have := ih (i + 1) (by omega) (acc ++ [L[i]]) (by rw [List.length_append, List.length_singleton]; omega)
        rw [List.append_assoc] at this
        exact this
      | false =>
        rw [List.filter_cons_of_neg (by simp [hc])]
        exact neg (by decide) (ih (i + 1) (by omega) acc (by omega))
  have := loop L.length 0 (by omega) [] (by simp)
  rw [List.nil_append, List.drop_zero] at this
  exact this
/-! ### Of -/
def inC (n : Nat) (p : S46) : Bool := decide (p.f0 ≥ 0) && decide (p.f0 < (n : Int)) && (decide (p.f1 ≥ 0) && decide (p.f1 < (n : Int)))
theorem rof_l1 (n : Nat) (l : List Int) (hl : l.length ≤ 50) (i : Nat) (hi : i < l.length) (r : List Int) : ∀ d j : Nat, j + d = l.length → ∀ acc : List S46, acc.length + d ≤ 100000 →
    Ev (fun k => cupolaref06_Of.l0 k (n : Int) l (acc ++ ((l.drop j).map fun y => (⟨l[i], y⟩ : S46)).filter (inC n)) (wrap64 ((i : Int) + 1))) r → Ev (fun k => cupolaref06_Of.l1 k (n : Int) l acc (i : Int) (j : Int)) r := by
  intro d
  induction d with
  | zero =>
    intro j hj acc hacc h
    refine Ev.step (fun k => by rw [cupolaref06_Of.l1]) ?_
    rw [List.drop_of_length_le (by omega), List.map_nil, List.filter_nil, List.append_nil] at h
    exact neg (by omega) h
  | succ d ih =>
    intro j hj acc hacc h
    have hlt : j < l.length := by omega
    rw [List.drop_eq_getElem_cons hlt, List.map_cons] at h
    have hw : wrap64 ((j : Int) + 1) = ((j + 1 : Nat) : Int) := by rw [IntWalk.wrap64_in _ (by omega)]; omega
    have off : inC n ⟨l[i], l[j]⟩ = false → ∀ b, b = false → Ev (fun k => cupolaref06_Of.j3 k (n : Int) l acc (i : Int) (j : Int) b) r := by
      intro hc b hb
      subst hb
      refine Ev.step (fun k => by rw [cupolaref06_Of.j3]) ?_
      refine neg (by decide) ?_
      rw [hw]
      rw [List.filter_cons_of_neg (by simp [hc])] at h
      exact ih (j + 1) (by omega) acc (by omega) h
    have on : inC n ⟨l[i], l[j]⟩ = true → ∀ b, b = true → Ev (fun k => cupolaref06_Of.j3 k (n : Int) l acc (i : Int) (j : Int) b) r := by
      intro hc b hb
      subst hb
      refine Ev.step (fun k => by rw [cupolaref06_Of.j3]) ?_
      rw [hw, rdAt l i hi, rdAt l j hlt]
      refine pos rfl (pos (by omega) (pos (by omega) (pos (by omega) (pos (by omega) (pos (by omega) ?_)))))
      rw [List.filter_cons_of_pos hc] at h
      refine ih (j + 1) (by omega) _ (by rw [List.length_append, List.length_singleton]; omega) ?_
      rw [List.append_assoc]
      exact h
    refine Ev.step (fun k => by rw [cupolaref06_Of.l1]) ?_
    rw [rdAt l i hi, rdAt l j hlt]
    refine pos (by omega) (pos (by omega) (pos (by omega) ?_))
    by_cases h1 : l[i] ≥ 0
    · refine pos h1 ?_
      by_cases h2 : l[i] < (n : Int)
      · refine pos h2 (pos (by omega) ?_)
        by_cases h3 : l[j] ≥ 0
        · refine pos h3 ?_
          by_cases h4 : l[j] < (n : Int)
          · exact on (by unfold inC; simp only [h1, h2, h3, h4, decide_true]; rfl) _ (decide_eq_true h4)
          · exact off (by unfold inC; simp only [h1, h2, h3, h4, decide_true, decide_false]; rfl) _ (decide_eq_false h4)
        · exact neg h3 (off (by unfold inC; simp only [h1, h2, h3, decide_true, decide_false]; rfl) _ rfl)
      · exact neg h2 (off (by unfold inC; simp only [h1, h2, decide_true, decide_false]; rfl) _ rfl)
    · exact neg h1 (off (by unfold inC; simp only [h1, decide_false]; rfl) _ rfl)
theorem rof_l0 (n : Nat) (l : List Int) (hl : l.length ≤ 50) (r : List Int) : ∀ d i : Nat, i + d = l.length → ∀ acc : List S46, acc.length ≤ i * 50 →
    Ev (fun k => cupolaref06_Of.l0 k (n : Int) l (acc ++ (prsL (l.drop i)).filter (inC n)) (l.length : Int)) r → Ev (fun k => cupolaref06_Of.l0 k (n : Int) l acc (i : Int)) r := by
  intro d
  induction d with
  | zero =>
    intro i hi acc hacc h
    obtain rfl : i = l.length := by omega
    rw [List.drop_length, prsL, List.filter_nil, List.append_nil] at h
    exact h
  | succ d ih =>
    intro i hi acc hacc h
    have hlt : i < l.length := by omega
    have hw : wrap64 ((i : Int) + 1) = ((i + 1 : Nat) : Int) := by rw [IntWalk.wrap64_in _ (by omega)]; omega
    have hfl := List.length_filter_le (inC n) ((l.drop (i + 1)).map fun y => (⟨l[i], y⟩ : S46))
    rw [List.length_map, List.length_drop] at hfl
    refine Ev.step (fun k => by rw [cupolaref06_Of.l0]) ?_
    rw [hw]
    refine pos (by omega) (rof_l1 n l hl i hlt r (l.length - (i + 1)) (i + 1) (by omega) acc (by omega) ?_)
    rw [hw]
    clear hw
    refine ih (i + 1) (by omega) _ (by rw [List.length_append]; omega) ?_
    rw [List.drop_eq_getElem_cons hlt, prsL, List.filter_append, ← List.append_assoc] at h
    exact h
theorem tri_small {m : Nat} (h : m ≤ 50) : tri m ≤ m * 50 := by
  induction m with
  | zero => simp [tri]
  | succ m ih => rw [tri]; have := ih (by omega); omega
theorem rof_ev (a : Int) (l : List Int) (hl : l.length ≤ 50) : Ev (fun k => cupolaref06_Of.f k a l) (ofM (ofN a) (memP (prsL l))) := by
  have none_ : ¬ (0 ≤ a ∧ a ≤ 32) → ∀ b, b = true → Ev (fun k => cupolaref06_Of.j0 k a l b) (ofM (ofN a) (memP (prsL l))) := by
    intro h b hb
    subst hb
    refine Ev.step (fun k => by rw [cupolaref06_Of.j0]) ?_
    unfold ofN
    rw [if_neg h]
    exact pos rfl (Ev.now _)
  unfold cupolaref06_Of.f
  by_cases h0 : a < 0
  · exact pos h0 (none_ (by omega) _ rfl)
  refine neg h0 ?_
  by_cases h1 : a > 32
  · exact none_ (by omega) _ (decide_eq_true h1)
  rw [decide_eq_false h1]
  obtain ⟨n, rfl⟩ := Int.eq_ofNat_of_zero_le (show 0 ≤ a by omega)
  have hn : n ≤ 32 := by omega
  have hN : ofN (n : Int) = n := by unfold ofN; rw [if_pos (by omega), Int.toNat_natCast]
  rw [hN]
  refine Ev.step (fun k => by rw [cupolaref06_Of.j0]) (neg (by decide) ?_)
  refine rof_l0 n l hl _ l.length 0 (by omega) [] (by simp) ?_
  refine Ev.step (fun k => by rw [cupolaref06_Of.l0]) ?_
  rw [List.nil_append, List.drop_zero]
  have hfl := List.length_filter_le (inC n) (prsL l)
  rw [prsL_len] at hfl
  have := tri_small hl
  have hin : inR n ((prsL l).filter (inC n)) := by
    intro p hp
    obtain ⟨_, hc⟩ := List.mem_filter.1 hp
    obtain ⟨x, y⟩ := p
    unfold inC at hc
    simp only [Bool.and_eq_true, decide_eq_true_eq] at hc
    exact ⟨x.toNat, y.toNat, by omega, by omega, by rw [Int.toNat_of_nonneg hc.1.1, Int.toNat_of_nonneg hc.2.1]⟩
  have hm := rmade_ev n hn ((prsL l).filter (inC n)) (by omega) hin
  have e : ofM n (memP ((prsL l).filter (inC n))) = ofM n (memP (prsL l)) := by
    refine ofM_congr fun i k hi hk => ?_
    rw [memP_filter]
    have : inC n ⟨(i : Int), (k : Int)⟩ = true := by
      unfold inC
      simp only [Bool.and_eq_true, decide_eq_true_eq]
      omega
    rw [this, Bool.and_true]
  rw [e] at hm
  exact neg (by omega) (Ev.bind hm (Ev.now _))
end Go.Proofs.Ytbamkkdikeedoaa.Ord
