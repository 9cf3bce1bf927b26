/- Plain: all orders of things as the program makes them, which orders fit a relation, and the orders that Linear tells. -/
import Derived.Test.YtbamkkdikeedoaaPlainOrder
import Derived.Test.YtbamkkdikeedoaaPlainLists
import Derived.Test.YtbamkkdikeedoaaGCupolaref01
namespace Go.Proofs.Ytbamkkdikeedoaa.Ord
open Go.RowKit Go.Proofs.Ytbamkkdikeedoaa.G Go.Proofs.Ytbamkkdikeedoaa.Src Go.Proofs.YtbamkkdikeedoaaW.PrintWords Go.Proofs.YtbamkkdikeedoaaW.PrintLast Go.Proofs.YtbamkkdikeedoaaW.PrintMore
set_option linter.unusedVariables false
theorem rdAt (c : List Int) (i : Nat) (h : i < c.length) : rd c (i : Int) = c[i] := by simp [rd, List.getD_eq_getElem?_getD, List.getElem?_eq_getElem h]
theorem rdL4 (c : List (List Int)) (i : Nat) (h : i < c.length) : rd_L4 c (i : Int) = c[i] := by simp [rd_L4, List.getD_eq_getElem?_getD, List.getElem?_eq_getElem h]
/-! ### In, Ints -/
theorem inq_loop (l : List Int) (hl : l.length < 1000000) (x : Int) : ∀ m i : Nat, i + m = l.length → Ev (fun k => cupolaref01_In.l0 k l x (i : Int)) (decide (x ∈ l.drop i)) := by
  intro m
  induction m with
  | zero =>
    intro i hi
    rw [List.drop_of_length_le (by omega)]
    refine Ev.step (fun k => by rw [cupolaref01_In.l0]) ?_
    exact neg (by omega) (Ev.now _)
  | succ m ih =>
    intro i hi
    have hlt : i < l.length := by omega
    have hw : wrap64 ((i : Int) + 1) = ((i + 1 : Nat) : Int) := by rw [IntWalk.wrap64_in _ (by omega)]; omega
    rw [List.drop_eq_getElem_cons hlt]
    refine Ev.step (fun k => by rw [cupolaref01_In.l0]) ?_
    refine pos (by omega) (pos (by omega) ?_)
    rw [rdAt l i hlt]
    by_cases hx : l[i] = x
    · rw [decide_eq_true (List.mem_cons.2 (.inl hx.symm))]
      exact pos hx (Ev.now _)
    · refine neg hx ?_
      rw [hw]
      have e : decide (x ∈ l[i] :: l.drop (i + 1)) = decide (x ∈ l.drop (i + 1)) := by
        rw [decide_eq_decide, List.mem_cons]
        exact ⟨fun h => h.resolve_left (fun h9 => hx h9.symm), .inr⟩
      rw [e]
      exact ih (i + 1) (by omega)
theorem inq_is (l : List Int) (hl : l.length < 1000000) (x : Int) : Ev (fun k => cupolaref01_In.f k l x) (decide (x ∈ l)) := by
  unfold cupolaref01_In.f
  exact inq_loop l hl x l.length 0 (by omega)
theorem intq_loop (a b : List Int) (ha : a.length < 1000000) (hlen : a.length = b.length) : ∀ d i : Nat, i + d = a.length → Ev (fun k => cupolaref01_Ints.l0 k a b (i : Int)) (decide (a.drop i = b.drop i)) := by
  intro d
  induction d with
  | zero =>
    intro i hi
    refine Ev.step (fun k => by rw [cupolaref01_Ints.l0]) ?_
    rw [List.drop_of_length_le (by omega), List.drop_of_length_le (by omega)]
    exact neg (by omega) (Ev.now _)
  | succ d ih =>
    intro i hi
    have h1 : i < a.length := by omega
    have h2 : i < b.length := by omega
    have hw : wrap64 ((i : Int) + 1) = ((i + 1 : Nat) : Int) := by rw [IntWalk.wrap64_in _ (by omega)]; omega
    refine Ev.step (fun k => by rw [cupolaref01_Ints.l0]) ?_
    rw [List.drop_eq_getElem_cons h1, List.drop_eq_getElem_cons h2, rdAt a i h1, rdAt b i h2, hw]
    refine pos (by omega) (pos (by omega) (pos (by omega) ?_))
    by_cases h : a[i] = b[i]
    · refine pos h ?_
      have e : decide (a[i] :: a.drop (i + 1) = b[i] :: b.drop (i + 1)) = decide (a.drop (i + 1) = b.drop (i + 1)) := by
        rw [decide_eq_decide, List.cons.injEq]
        exact ⟨fun h => h.2, fun h9 => ⟨h, h9⟩⟩
      rw [e]
      exact ih (i + 1) (by omega)
    · refine neg h ?_
      rw [decide_eq_false (fun e => h (List.cons.inj e).1)]
      exact Ev.now _
theorem intq_is (a b : List Int) (ha : a.length < 1000000) : Ev (fun k => cupolaref01_Ints.f k a b) (decide (a = b)) := by
  unfold cupolaref01_Ints.f
  by_cases h : a.length = b.length
  · refine pos (by omega) ?_
    have := intq_loop a b ha h a.length 0 (by omega)
    rw [List.drop_zero, List.drop_zero] at this
    exact this
  · rw [decide_eq_false (fun e => h (by rw [e]))]
    exact neg (by omega) (Ev.now _)
/-! ### All -/
/-- The orders with number i first. -/
def grp (m : Nat) (l : List Int) (i : Nat) : List (List Int) := (permsF m (l.eraseIdx i)).map (l.getD i 0 :: ·)
theorem perms_grp (m : Nat) (l : List Int) : permsF (m + 1) l = (List.range' 0 l.length).flatMap (grp m l) := by rw [permsF, List.range_eq_range']; rfl
theorem all_l1 (l : List Int) (a : Int) (x16 : List Int) (x17 x18 : Int) (t : List (List Int)) (ht : ∀ r ∈ t, r.length ≤ 6) (ht9 : t.length ≤ 100000) (r : List (List Int)) : ∀ d j : Nat, j + d = t.length → ∀ acc : List (List Int), acc.length + d ≤ 100000 →
    Ev (fun k => order_All.l0 k l (acc ++ (t.drop j).map (a :: ·)) x16 x17 (wrap64 (x18 + 1))) r → Ev (fun k => order_All.l1 k l acc a x16 x17 x18 t (t.length : Int) (j : Int)) r := by
  intro d
  induction d with
  | zero =>
    intro j hj acc hacc h
    refine Ev.step (fun k => by rw [order_All.l1]) ?_
    rw [List.drop_of_length_le (by omega), List.map_nil, List.append_nil] at h
    exact neg (by omega) h
  | succ d ih =>
    intro j hj acc hacc h
    have hlt : j < t.length := by omega
    have hr := ht _ (List.getElem_mem hlt)
    refine Ev.step (fun k => by rw [order_All.l1]) ?_
    rw [rdL4 t j hlt]
    refine pos (by omega) (pos (by omega) (pos (by omega) (bindv rfl (pos ?_ (pos (by omega) ?_)))))
    · rw [List.length_singleton]; omega
    · have hw : wrap64 ((j : Int) + 1) = ((j + 1 : Nat) : Int) := by rw [IntWalk.wrap64_in _ (by omega)]; omega
      rw [hw]
      clear hw
      refine ih (j + 1) (by omega) _ (by rw [List.length_append, List.length_singleton]; omega) ?_
      rw [List.drop_eq_getElem_cons hlt, List.map_cons] at h
      rw [List.append_assoc]
      exact h
theorem all_ev : ∀ (m : Nat), m ≤ 6 → ∀ (l : List Int), l.length = m → Ev (fun k => order_All.f k l) (permsF m l) := by
  intro m
  induction m with
  | zero =>
    intro _ l hl
    refine Ev.step (fun k => by rw [order_All.f]) ?_
    exact neg (by omega) (pos (by omega) (Ev.now _))
  | succ m ih =>
    intro hm l hl
    have hf := fac_small (show m ≤ 6 by omega)
    refine Ev.step (fun k => by rw [order_All.f]) ?_
    refine neg (by omega) (neg (by omega) ?_)
    have loop : ∀ d i : Nat, i + d = l.length → ∀ acc : List (List Int), acc.length ≤ i * 720 → Ev (fun k => order_All.l0 k l acc l (l.length : Int) (i : Int)) (acc ++ (List.range' i d).flatMap (grp m l)) := by
      intro d
      induction d with
      | zero =>
        intro i hi acc hacc
        refine Ev.step (fun k => by rw [order_All.l0]) ?_
        rw [show List.range' i 0 = [] from rfl, List.flatMap_nil, List.append_nil]
        exact neg (by omega) (Ev.now _)
      | succ d ih2 =>
        intro i hi acc hacc
        have hlt : i < l.length := by omega
        have hw : wrap64 ((i : Int) + 1) = ((i + 1 : Nat) : Int) := by rw [IntWalk.wrap64_in _ (by omega)]; omega
        have hlen : (l.eraseIdx i).length = m := by rw [List.length_eraseIdx_of_lt hlt]; omega
        refine Ev.step (fun k => by rw [order_All.l0]) ?_
        rw [show List.range' i (d + 1) = i :: List.range' (i + 1) d from rfl, List.flatMap_cons, ← List.append_assoc]
        refine pos (by omega) (pos (by omega) (pos (by omega) (bindv (if_pos (by omega)) (bindv (a := l.eraseIdx i) ?_ (Ev.bind (ih (by omega) _ hlen) ?_)))))
        · unfold slices_Delete_int_int.f
          rw [hw, if_pos (by omega), List.eraseIdx_eq_take_drop_succ]
          rfl
        · refine all_l1 l (rd l (i : Int)) l (l.length : Int) (i : Int) (permsF m (l.eraseIdx i)) (fun r hr => by rw [(perms_perm m _ hlen r hr).length_eq]; omega) (by rw [perms_len m _ hlen]; omega) _ (permsF m (l.eraseIdx i)).length 0 (by omega) acc (by rw [perms_len m _ hlen]; omega) ?_
          rw [hw]
          clear hw
          refine ih2 (i + 1) (by omega) _ ?_
          rw [List.drop_zero, List.length_append, List.length_map, perms_len m _ hlen]
          omega
    have := loop l.length 0 (by omega) [] (by simp)
    rw [List.nil_append, ← perms_grp] at this
    exact this
/-! ### Fits -/
def goodL (n : Nat) (l : List Int) : Prop := (∀ x ∈ l, 0 ≤ x ∧ x < (n : Int)) ∧ l.Nodup
def fitP (M : Nat → Nat → Bool) (l : List Int) : Prop := ∀ a b : Nat, (hab : b ≤ a) → ∀ h : a < l.length, M (l[a]).toNat (l[b]'(by omega)).toNat = false
def FitsP (n : Nat) (M : Nat → Nat → Bool) (l : List Int) : Prop := l.length = n ∧ goodL n l ∧ fitP M l
noncomputable def fits (n : Nat) (M : Nat → Nat → Bool) (l : List Int) : Bool := @decide (FitsP n M l) (Classical.propDecidable _)
theorem fits_t {n : Nat} {M : Nat → Nat → Bool} {l : List Int} (h : FitsP n M l) : fits n M l = true := by unfold fits; exact @decide_eq_true _ (Classical.propDecidable _) h
theorem fits_f {n : Nat} {M : Nat → Nat → Bool} {l : List Int} (h : ¬ FitsP n M l) : fits n M l = false := by unfold fits; exact @decide_eq_false _ (Classical.propDecidable _) h
/-! ### the orders that Linear tells are those that fit -/
theorem fitP_cons {M : Nat → Nat → Bool} {x : Int} {xs : List Int} : fitP M (x :: xs) ↔ (∀ y ∈ x :: xs, M y.toNat x.toNat = false) ∧ fitP M xs := by
  constructor
  · intro h
    refine ⟨fun y hy => ?_, fun a b hab ha => ?_⟩
    · obtain ⟨a, ha, e⟩ := List.getElem_of_mem hy
      have := h a 0 (by omega) ha
      rw [e] at this
      exact this
    · exact h (a + 1) (b + 1) (by omega) (by simp; omega)
  · rintro ⟨h1, h2⟩ a b hab ha
    cases b with
    | zero => exact h1 _ (List.getElem_mem ha)
    | succ b =>
      cases a with
      | zero => omega
      | succ a => exact h2 a b (by omega) (by simpa using ha)
theorem okD_iff (n : Nat) (hn : n ≤ 32) (M : Nat → Nat → Bool) : ∀ (p : List Int) (d : Int), p.Perm (restD n d) → (okD n M d p = true ↔ fitP M p)
  | [], d, _ => by rw [okD]; exact ⟨fun _ a b _ h => absurd h (by simp), fun _ => rfl⟩
  | x :: xs, d, hp => by
    have hx := (hp.mem_iff (a := x)).1 (by simp)
    have hxs : xs.Perm (restD n (addD d x)) := by
      have := hp.erase x
      rw [rest_erase hn hx] at this
      simpa using this
    rw [okD, Bool.and_eq_true, okD_iff n hn M xs _ hxs, fitP_cons, okX_iff]
    refine and_congr ⟨fun h y hy => ?_, fun h i hi hd => ?_⟩ Iff.rfl
    · obtain ⟨k, rfl, hk, hd⟩ := restD_mem.1 ((hp.mem_iff).1 hy)
      rw [Int.toNat_natCast]
      exact h k hk hd
    · have := h (i : Int) ((hp.mem_iff).2 (restD_mem.2 ⟨i, rfl, hi, hd⟩))
      rwa [Int.toNat_natCast] at this
theorem perm_good {n : Nat} {p : List Int} (h : p.Perm (R n)) : p.length = n ∧ goodL n p :=
  ⟨by rw [h.length_eq, R_length], fun x hx => R_mem.1 ((h.mem_iff).1 hx), (h.nodup_iff).2 (R_nodup n)⟩
theorem okD_fits {n : Nat} (hn : n ≤ 32) (M : Nat → Nat → Bool) {p : List Int} (h : p.Perm (R n)) : okD n M 0 p = fits n M p := by
  have h1 := okD_iff n hn M p 0 (by rwa [restD_zero])
  cases ho : okD n M 0 p with
  | true => rw [fits_t ⟨(perm_good h).1, (perm_good h).2, h1.1 ho⟩]
  | false =>
    rw [fits_f]
    intro hf
    rw [h1.2 hf.2.2] at ho
    exact absurd ho (by decide)
theorem lins_fits {r : List Int} (h : r.length ≤ 6) : lins r = (permsF r.length (R r.length)).filter (fits r.length (mat r)) := by
  unfold lins
  rw [if_neg (by omega)]
  exact List.filter_congr fun p hp => okD_fits (by omega) _ (perms_perm _ _ (R_length _) p hp)
theorem tmodq {a : Int} {n : Nat} (ha : 0 ≤ a) (hn : 0 < n) : ∃ q : Nat, Int.tmod a (n : Int) = (q : Int) ∧ q < n := by
  rw [Int.tmod_eq_emod_of_nonneg ha]
  have h1 := Int.emod_nonneg a (show (n : Int) ≠ 0 by omega)
  have h2 := Int.emod_lt_of_pos a (show (0 : Int) < (n : Int) by omega)
  obtain ⟨q, hq⟩ := Int.eq_ofNat_of_zero_le h1
  exact ⟨q, hq, by omega⟩
theorem R_succ (n : Nat) : R (n + 1) = R n ++ [(n : Int)] := by unfold R; rw [List.range_succ, List.map_append]; rfl
theorem fac_step {i : Nat} (h : i < 6) : wrap64 ((fac i : Int) * wrap64 ((i : Int) + 1)) = (fac (i + 1) : Int) := by
  have h1 := fac_small (show i + 1 ≤ 6 by omega)
  have h2 : (fac i : Int) * ((i + 1 : Nat) : Int) = (fac (i + 1) : Int) := by rw [fac, Int.natCast_mul]
  have hw : wrap64 ((i : Int) + 1) = ((i + 1 : Nat) : Int) := by rw [IntWalk.wrap64_in _ (by omega)]; omega
  rw [hw, h2, IntWalk.wrap64_in _ (by omega)]
end Go.Proofs.Ytbamkkdikeedoaa.Ord
