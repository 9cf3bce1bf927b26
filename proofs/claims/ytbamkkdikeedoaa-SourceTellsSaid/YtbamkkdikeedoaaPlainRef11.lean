/- Plain: what the document's package cupolaref11 computes: whence each event may read, all ways, and whether a way may be; and slices.Contains, In. -/
import Derived.Test.YtbamkkdikeedoaaPlainFits
import Derived.Test.YtbamkkdikeedoaaPlainLists
import Derived.Test.YtbamkkdikeedoaaGCupolaref11
namespace Go.Proofs.Ytbamkkdikeedoaa.Src
open Go.RowKit Go.Proofs.Ytbamkkdikeedoaa.G Go.Proofs.YtbamkkdikeedoaaW.PrintWords Go.Proofs.YtbamkkdikeedoaaW.PrintLast Go.Proofs.YtbamkkdikeedoaaW.PrintMore
set_option linter.unusedVariables false
theorem rmay_loop (l : List S26) (hl : l.length < 1000000) (n1 n2 n3 n4 n5 : List Int) (n6 : List (List Int)) (x : S26) : ∀ m i : Nat, i + m = l.length → ∀ acc : List Int, acc.length ≤ i + 1 →
    Ev (fun k => cupolaref11_May.l0 k acc (i : Int) l n1 n2 n3 n4 n5 n6 x.f0 x.f1 x.f2 x.f3 x.f4 x.f5 x.f6) (acc ++ wrs (l.drop i) (i : Int) x.f2 x.f3) := by
  intro m
  induction m with
  | zero =>
    intro i hi acc ha
    refine Ev.step (fun k => by rw [cupolaref11_May.l0]) ?_
    refine neg (by omega) ?_
    rw [List.drop_of_length_le (by omega), wrs, List.append_nil]
    exact Ev.now _
  | succ m ih =>
    intro i hi acc ha
    have hlt : i < l.length := by omega
    have hw : wrap64 ((i : Int) + 1) = ((i + 1 : Nat) : Int) := by rw [IntWalk.wrap64_in _ (by omega)]; omega
    have on : Ev (fun k => cupolaref11_May.j4 k acc (i : Int) true l n1 n2 n3 n4 n5 n6 x.f0 x.f1 x.f2 x.f3 x.f4 x.f5 x.f6) (acc ++ ([(i : Int)] ++ wrs (l.drop (i + 1)) ((i : Int) + 1) x.f2 x.f3)) := by
      refine Ev.step (fun k => by rw [cupolaref11_May.j4]) (pos rfl (pos (by omega) ?_))
      rw [← List.append_assoc, hw]
      exact ih (i + 1) (by omega) _ (by rw [List.length_append, List.length_singleton]; omega)
    have off : Ev (fun k => cupolaref11_May.j4 k acc (i : Int) false l n1 n2 n3 n4 n5 n6 x.f0 x.f1 x.f2 x.f3 x.f4 x.f5 x.f6) (acc ++ ([] ++ wrs (l.drop (i + 1)) ((i : Int) + 1) x.f2 x.f3)) := by
      refine Ev.step (fun k => by rw [cupolaref11_May.j4]) (neg (by decide) ?_)
      rw [List.nil_append, hw]
      exact ih (i + 1) (by omega) _ (by omega)
    refine Ev.step (fun k => by rw [cupolaref11_May.l0]) ?_
    refine pos (by omega) (pos (by omega) ?_)
    rw [List.drop_eq_getElem_cons hlt, wrs, rd26 l i hlt]
    by_cases c1 : (l[i]).f1 = 2
    · refine pos c1 ?_
      by_cases c2 : (l[i]).f2 = x.f2
      · refine pos c2 ?_
        by_cases c3 : (l[i]).f3 = x.f3
        · rw [beq_iff_eq.mpr c3, if_pos ⟨c1, c2, c3⟩]; exact on
        · rw [beq_eq_false_iff_ne.mpr c3, if_neg (fun h => c3 h.2.2)]; exact off
      · rw [if_neg (fun h => c2 h.2.1)]; exact neg c2 off
    · rw [if_neg (fun h => c1 h.1)]; exact neg c1 off
theorem rmay_ev (l : List S26) (hl : l.length < 1000000) (n1 n2 n3 n4 n5 : List Int) (n6 : List (List Int)) (init : List Int) (r : Int) :
    Ev (fun k => cupolaref11_May.f k l n1 n2 n3 n4 n5 n6 init r) (mayT l init r) := by
  unfold cupolaref11_May.f mayT
  have none_ : ∀ r, Ev (fun k => cupolaref11_May.j0 k init r [] true l n1 n2 n3 n4 n5 n6) [] := fun r => Ev.step (fun k => by rw [cupolaref11_May.j0]) (pos rfl (Ev.now _))
  by_cases h0 : r < 0
  · rw [if_neg (by omega)]
    exact pos h0 (none_ r)
  · refine neg h0 ?_
    by_cases h1 : r ≥ (l.length : Int)
    · rw [decide_eq_true h1, if_neg (by omega)]
      exact none_ r
    · rw [decide_eq_false h1]
      refine Ev.step (fun k => by rw [cupolaref11_May.j0]) (neg (by decide) (pos (by omega) (pos (by omega) ?_)))
      by_cases h2 : (rd_T26 l r).f1 = 1
      · rw [if_pos ⟨by omega, by omega, h2⟩]
        refine pos h2 ?_
        generalize rd_T26 l r = x at *
        have base : ∀ acc : List Int, acc.length ≤ 1 → Ev (fun k => cupolaref11_May.j2 k acc l n1 n2 n3 n4 n5 n6 x.f0 x.f1 x.f2 x.f3 x.f4 x.f5 x.f6) (acc ++ wrs l 0 x.f2 x.f3) := by
          intro acc ha
          refine Ev.step (fun k => by rw [cupolaref11_May.j2]) ?_
          have := rmay_loop l hl n1 n2 n3 n4 n5 n6 x l.length 0 (by omega) acc (by omega)
          rw [List.drop_zero] at this
          exact this
        have nob : ∀ b : Bool, Ev (fun k => cupolaref11_May.j1 k [] b l n1 n2 n3 n4 n5 n6 x.f0 x.f1 x.f2 x.f3 x.f4 x.f5 x.f6) ((if b = true then [-1] else []) ++ wrs l 0 x.f2 x.f3) := by
          intro b
          refine Ev.step (fun k => by rw [cupolaref11_May.j1]) ?_
          cases b with
          | false => exact neg (by decide) (base [] (by simp))
          | true => exact pos rfl (pos (by simp) (base _ (by simp)))
        unfold mayX
        by_cases c0 : x.f2 ≥ 0
        · refine pos c0 ?_
          by_cases c1 : x.f2 < (init.length : Int)
          · refine pos c1 (pos c0 ?_)
            have := nob (rd init x.f2 == x.f3)
            by_cases c2 : rd init x.f2 = x.f3
            · rw [if_pos ⟨c0, c1, c2⟩]; rw [beq_iff_eq.mpr c2, if_pos rfl] at this; simpa [c2] using this
            · rw [if_neg (fun h => c2 h.2.2)]; have e := beq_eq_false_iff_ne.mpr c2; rw [e, if_neg (by decide)] at this; exact Ev.congr (fun k => by rw [e]) this
          · refine neg c1 ?_
            rw [if_neg (fun h => c1 h.2.1)]
            have := nob false
            rwa [if_neg (by decide)] at this
        · refine neg c0 ?_
          rw [if_neg (fun h => c0 h.1)]
          have := nob false
          rwa [if_neg (by decide)] at this
      · rw [if_neg (fun h => h2 h.2.2)]
        exact neg h2 (Ev.now _)
theorem rch_loop (l : List S26) (hl : l.length < 1000000) (n1 n2 n3 n4 n5 : List Int) (n6 : List (List Int)) (init : List Int) : ∀ m i : Nat, i + m = l.length → ∀ acc : List (List Int), acc.length = i →
    Ev (fun k => cupolaref11_Choices.l0 k init acc (i : Int) l n1 n2 n3 n4 n5 n6) (acc ++ (l.drop i).map (chT l init)) := by
  intro m
  induction m with
  | zero =>
    intro i hi acc ha
    refine Ev.step (fun k => by rw [cupolaref11_Choices.l0]) ?_
    refine neg (by omega) ?_
    rw [List.drop_of_length_le (by omega), List.map_nil, List.append_nil]
    exact Ev.now _
  | succ m ih =>
    intro i hi acc ha
    have hlt : i < l.length := by omega
    have hw : wrap64 ((i : Int) + 1) = ((i + 1 : Nat) : Int) := by rw [IntWalk.wrap64_in _ (by omega)]; omega
    refine Ev.step (fun k => by rw [cupolaref11_Choices.l0]) ?_
    refine pos (by omega) (pos (by omega) ?_)
    rw [List.drop_eq_getElem_cons hlt, List.map_cons, hw]
    have hm := rmay_ev l hl n1 n2 n3 n4 n5 n6 init (i : Int)
    unfold mayT at hm
    rw [rd26 l i hlt] at hm ⊢
    unfold chT
    by_cases c1 : (l[i]).f1 = 1
    · rw [if_pos ⟨by omega, by omega, c1⟩] at hm
      rw [if_pos c1]
      refine pos c1 (Ev.bind hm (pos (by omega) ?_))
      have := ih (i + 1) (by omega) (acc ++ [mayX l init l[i]]) (by rw [List.length_append, List.length_singleton]; omega)
      rw [List.append_assoc] at this
      exact this
    · rw [if_neg c1]
      refine neg c1 (pos (by omega) ?_)
      have := ih (i + 1) (by omega) (acc ++ [[-2]]) (by rw [List.length_append, List.length_singleton]; omega)
      rw [List.append_assoc] at this
      exact this
theorem rchoices_ev (l : List S26) (hl : l.length < 1000000) (n1 n2 n3 n4 n5 : List Int) (n6 : List (List Int)) (init : List Int) : Ev (fun k => cupolaref11_Choices.f k l n1 n2 n3 n4 n5 n6 init) (chsT l init) := by
  unfold cupolaref11_Choices.f
  have := rch_loop l hl n1 n2 n3 n4 n5 n6 init l.length 0 (by omega) [] rfl
  rw [List.drop_zero, List.nil_append] at this
  exact this
/-! ### All: event by event -/
/-- All ways so far, each with each choice. -/
def stepT (out : List (List Int)) (c : List Int) : List (List Int) := out.flatMap fun o => c.map fun n => o ++ [n]
theorem step_length (out : List (List Int)) (c : List Int) : (stepT out c).length = out.length * c.length := by
  unfold stepT
  rw [List.length_flatMap]
  simp only [List.length_map]
  rw [List.map_const']
  simp
theorem fold_tell (c : List (List Int)) : ∀ out : List (List Int), c.foldl stepT out = out.flatMap (tellT c) := by
  induction c with
  | nil => intro out; simp [tellT]
  | cons l ls ih =>
    intro out
    rw [List.foldl_cons, ih, stepT, List.flatMap_assoc]
    congr 1
    funext o
    simp only [tellT, List.flatMap_map]
theorem rd5 (c : List (List Int)) (i : Nat) (h : i < c.length) : rd_L5 c (i : Int) = c[i] := by simp [rd_L5, List.getD_eq_getElem?_getD, List.getElem?_eq_getElem h]
theorem rdI (c : List Int) (i : Nat) (h : i < c.length) : rd c (i : Int) = c[i] := by simp [rd, List.getD_eq_getElem?_getD, List.getElem?_eq_getElem h]
/-- One event's choices, behind one way so far. -/
theorem rall_l3 (c out : List (List Int)) (i q : Nat) (hi : i < c.length) (hq : q < out.length) (hc : c[i].length < 1000000) (hol : out[q].length < 1000000) (r : List (List Int)) : ∀ m j : Nat, j + m = c[i].length → ∀ acc : List (List Int), acc.length + m < 1000000 →
    Ev (fun k => cupolaref11_All.l2 k c out (i : Int) (acc ++ (c[i].drop j).map fun n => out[q] ++ [n]) (wrap64 ((q : Int) + 1))) r →
    Ev (fun k => cupolaref11_All.l3 k c out (i : Int) acc (q : Int) (j : Int)) r := by
  intro m
  induction m with
  | zero =>
    intro j hj acc ha h
    rw [List.drop_of_length_le (by omega), List.map_nil, List.append_nil] at h
    refine Ev.step (fun k => by rw [cupolaref11_All.l3]) ?_
    rw [rd5 c i hi]
    exact pos (by omega) (pos (by omega) (neg (by omega) h))
  | succ m ih =>
    intro j hj acc ha h
    have hlt : j < c[i].length := by omega
    have hw : wrap64 ((j : Int) + 1) = ((j + 1 : Nat) : Int) := by rw [IntWalk.wrap64_in _ (by omega)]; omega
    rw [List.drop_eq_getElem_cons hlt, List.map_cons] at h
    have e1 : acc ++ (out[q] ++ [c[i][j]]) :: (c[i].drop (j + 1)).map (fun n => out[q] ++ [n]) = (acc ++ [out[q] ++ [c[i][j]]]) ++ (c[i].drop (j + 1)).map (fun n => out[q] ++ [n]) := by rw [List.append_assoc]; rfl
    rw [e1] at h
    have h2 := ih (j + 1) (by omega) (acc ++ [out[q] ++ [c[i][j]]]) (by rw [List.length_append, List.length_singleton]; omega) h
    refine Ev.step (fun k => by rw [cupolaref11_All.l3]) ?_
    rw [rd5 c i hi, rd5 out q hq, rdI c[i] j hlt, hw]
    refine pos (by omega) (pos (by omega) (pos (by omega) (bindv rfl (pos (by omega) (pos (by omega) (pos (by simp only [List.length_nil]; omega) (bindv rfl (pos (by omega) (bindv rfl (pos (by simp only [List.nil_append, List.length_singleton]; omega) (bindv rfl (pos (by simp only [List.length_singleton]; omega) ?_))))))))))))
    rw [List.nil_append]
    exact h2
theorem rall_l2 (c out : List (List Int)) (i : Nat) (hi : i < c.length) (hc : c[i].length < 1000000) (ho : out.length < 1000000) (hol : ∀ o ∈ out, o.length < 1000000) (r : List (List Int)) : ∀ m q : Nat, q + m = out.length → ∀ acc : List (List Int), acc.length + m * c[i].length < 1000000 →
    Ev (fun k => cupolaref11_All.l1 k c (acc ++ stepT (out.drop q) c[i]) (wrap64 ((i : Int) + 1))) r →
    Ev (fun k => cupolaref11_All.l2 k c out (i : Int) acc (q : Int)) r := by
  intro m
  induction m with
  | zero =>
    intro q hq acc ha h
    rw [List.drop_of_length_le (by omega), stepT, List.flatMap_nil, List.append_nil] at h
    refine Ev.step (fun k => by rw [cupolaref11_All.l2]) ?_
    exact neg (by omega) h
  | succ m ih =>
    intro q hq acc ha h
    have hlt : q < out.length := by omega
    have hw : wrap64 ((q : Int) + 1) = ((q + 1 : Nat) : Int) := by rw [IntWalk.wrap64_in _ (by omega)]; omega
    rw [Nat.add_mul, Nat.one_mul] at ha
    refine Ev.step (fun k => by rw [cupolaref11_All.l2]) ?_
    refine pos (by omega) ?_
    refine rall_l3 c out i q hi hlt hc (hol _ (List.getElem_mem hlt)) r c[i].length 0 (by omega) acc (by omega) ?_
    rw [hw, List.drop_zero]
    refine ih (q + 1) (by omega) _ (by rw [List.length_append, List.length_map]; omega) ?_
    rw [List.drop_eq_getElem_cons hlt, stepT, List.flatMap_cons, ← List.append_assoc] at h
    exact h
theorem rall_l1 (c : List (List Int)) (hcl : c.length < 1000000) (hc : ∀ l ∈ c, l.length < 1000000) : ∀ m i : Nat, i + m = c.length → ∀ out : List (List Int), (∀ o ∈ out, o.length = i) → (∀ n, n ≤ m → (((c.drop i).take n).foldl stepT out).length ≤ 20000) →
    Ev (fun k => cupolaref11_All.l1 k c out (i : Int)) ((c.drop i).foldl stepT out) := by
  intro m
  induction m with
  | zero =>
    intro i hi out ho hn
    rw [List.drop_of_length_le (by omega), List.foldl_nil]
    refine Ev.step (fun k => by rw [cupolaref11_All.l1]) ?_
    exact neg (by omega) (Ev.now _)
  | succ m ih =>
    intro i hi out ho hn
    have hlt : i < c.length := by omega
    have hw : wrap64 ((i : Int) + 1) = ((i + 1 : Nat) : Int) := by rw [IntWalk.wrap64_in _ (by omega)]; omega
    have hd : c.drop i = c[i] :: c.drop (i + 1) := List.drop_eq_getElem_cons hlt
    have h0 := hn 0 (by omega)
    rw [List.take_zero, List.foldl_nil] at h0
    have h1 := hn 1 (by omega)
    rw [hd, List.take_succ_cons, List.take_zero, List.foldl_cons, List.foldl_nil, step_length] at h1
    refine Ev.step (fun k => by rw [cupolaref11_All.l1]) ?_
    refine pos (by omega) ?_
    refine rall_l2 c out i hlt (hc _ (List.getElem_mem hlt)) (by omega) (fun o h => by rw [ho o h]; omega) _ out.length 0 (by omega) [] (by simp only [List.length_nil]; omega) ?_
    rw [hw, List.drop_zero, List.nil_append, hd, List.foldl_cons]
    refine ih (i + 1) (by omega) _ (fun o h => ?_) (fun n h => ?_)
    · unfold stepT at h
      obtain ⟨a, ha, h⟩ := List.mem_flatMap.1 h
      obtain ⟨b, _, rfl⟩ := List.mem_map.1 h
      rw [List.length_append, List.length_singleton, ho a ha]
    · have := hn (n + 1) (by omega)
      rw [hd, List.take_succ_cons, List.foldl_cons] at this
      exact this
theorem many_prefix (c : List (List Int)) : ∀ (out : List (List Int)) (m r : Int), m = (out.length : Int) → m ≤ 20000 → manyT c m = some r → ∀ n, ((c.take n).foldl stepT out).length ≤ 20000 := by
  induction c with
  | nil => intro out m r hm hle h n; rw [List.take_nil, List.foldl_nil]; omega
  | cons l ls ih =>
    intro out m r hm hle h n
    simp only [manyT] at h
    by_cases hgt : m * l.length > 20000
    · rw [if_pos hgt] at h; cases h
    · rw [if_neg hgt] at h
      cases n with
      | zero => rw [List.take_zero, List.foldl_nil]; omega
      | succ n =>
        rw [List.take_succ_cons, List.foldl_cons]
        exact ih (stepT out l) _ r (by rw [step_length, hm, Int.natCast_mul]) (by omega) h n
theorem rall_l0 (c : List (List Int)) (hcl : c.length < 1000000) (hc : ∀ l ∈ c, l.length < 1000000) : ∀ m i : Nat, i + m = c.length → ∀ x : Int, 0 ≤ x → x ≤ 20000 → manyT c 1 = manyT (c.drop i) x →
    Ev (fun k => cupolaref11_All.l0 k c x (i : Int)) (allT c) := by
  intro m
  induction m with
  | zero =>
    intro i hi x h0 h1 hm
    rw [List.drop_of_length_le (by omega), manyT] at hm
    refine Ev.step (fun k => by rw [cupolaref11_All.l0]) ?_
    refine neg (by omega) ?_
    have hp := many_prefix c [[]] 1 x (by simp) (by omega) hm
    have := rall_l1 c hcl hc c.length 0 (by omega) [[]] (by simp) (fun n _ => by rw [List.drop_zero]; exact hp n)
    rw [List.drop_zero] at this
    have e : c.foldl stepT [[]] = allT c := by
      rw [fold_tell, List.flatMap_cons, List.flatMap_nil, List.append_nil]
      unfold allT
      rw [hm]
      simp only
      split
      · rename_i hx
        have h9 := (manyT_tell c 1 x hm []).1
        exact List.eq_nil_of_length_eq_zero (by omega)
      · rfl
    rw [e] at this
    exact this
  | succ m ih =>
    intro i hi x h0 h1 hm
    have hlt : i < c.length := by omega
    have hw : wrap64 ((i : Int) + 1) = ((i + 1 : Nat) : Int) := by rw [IntWalk.wrap64_in _ (by omega)]; omega
    have hls := hc _ (List.getElem_mem hlt)
    have hw2 : wrap64 (x * ((c[i]).length : Int)) = x * ((c[i]).length : Int) := by
      have h8 : x * ((c[i]).length : Int) ≤ 20000 * ((c[i]).length : Int) := Int.mul_le_mul_of_nonneg_right h1 (by omega)
      have h7 : 0 ≤ x * ((c[i]).length : Int) := Int.mul_nonneg h0 (by omega)
      exact IntWalk.wrap64_in _ (by omega)
    have h7 : 0 ≤ x * ((c[i]).length : Int) := Int.mul_nonneg h0 (by omega)
    rw [List.drop_eq_getElem_cons hlt, manyT] at hm
    refine Ev.step (fun k => by rw [cupolaref11_All.l0]) ?_
    rw [rd5 c i hlt, hw, hw2]
    clear hw hw2
    refine pos (by omega) (pos (by omega) ?_)
    by_cases hgt : x * ((c[i]).length : Int) > 20000
    · rw [if_pos hgt] at hm
      refine pos hgt ?_
      unfold allT
      rw [hm]
      exact Ev.now _
    · rw [if_neg hgt] at hm
      exact neg hgt (ih (i + 1) (by omega) _ h7 (by omega) hm)
theorem rall_ev (l : List S26) (hl : l.length < 100000) (n1 n2 n3 n4 n5 : List Int) (n6 : List (List Int)) (init : List Int) : Ev (fun k => cupolaref11_All.f k l n1 n2 n3 n4 n5 n6 init) (allT (chsT l init)) := by
  unfold cupolaref11_All.f
  refine Ev.bind (rchoices_ev l (by omega) n1 n2 n3 n4 n5 n6 init) ?_
  exact rall_l0 (chsT l init) (by unfold chsT; rw [List.length_map]; omega) (fun c hc => by have := chs_len l init c hc; omega) (chsT l init).length 0 (by omega) 1 (by omega) (by omega) (by rw [List.drop_zero])
/-! ### Contains, In, Fits -/
theorem index_none (l : List Int) (hl : l.length < 1000000) (x : Int) : ∀ m i : Nat, i + m = l.length → x ∉ l.drop i → Ev (fun k => slices_Index_int_int.l0 k l x (l.length : Int) (i : Int)) (-1) := by
  intro m
  induction m with
  | zero => intro i hi hx; exact Ev.step (fun k => by rw [slices_Index_int_int.l0]) (neg (by omega) (Ev.now _))
  | succ m ih =>
    intro i hi hx
    have hlt : i < l.length := by omega
    have hw : wrap64 ((i : Int) + 1) = ((i + 1 : Nat) : Int) := by rw [IntWalk.wrap64_in _ (by omega)]; omega
    rw [List.drop_eq_getElem_cons hlt, List.mem_cons, not_or] at hx
    refine Ev.step (fun k => by rw [slices_Index_int_int.l0]) (pos (by omega) (pos (by omega) (pos (by omega) (neg (by rw [rdI l i hlt]; exact hx.1) ?_))))
    rw [hw]
    exact ih (i + 1) (by omega) hx.2
theorem contains_is (l : List Int) (hl : l.length < 1000000) (x : Int) : Ev (fun k => slices_Contains_int_int.f k l x) (decide (x ∈ l)) := by
  by_cases hx : x ∈ l
  · rw [decide_eq_true hx]; exact contains_ev l hl x hx
  · rw [decide_eq_false hx]
    unfold slices_Contains_int_int.f slices_Index_int_int.f
    exact Ev.bind (index_none l hl x l.length 0 (by omega) (by simpa using hx)) (Ev.now _)
theorem in_loop (l : List Int) (hl : l.length < 1000000) (x : Int) : ∀ m i : Nat, i + m = l.length → Ev (fun k => cupolaref01_In.l0 k l x (i : Int)) (decide (x ∈ l.drop i)) := by
  intro m
  induction m with
  | zero =>
    intro i hi
    rw [List.drop_of_length_le (by omega)]
    refine Ev.step (fun k => by rw [cupolaref01_In.l0]) ?_
    exact neg (by omega) (Ev.now _)
  | succ m ih =>
    intro i hi
    have hlt : i < l.length := by omega
    have hw : wrap64 ((i : Int) + 1) = ((i + 1 : Nat) : Int) := by rw [IntWalk.wrap64_in _ (by omega)]; omega
    rw [List.drop_eq_getElem_cons hlt]
    refine Ev.step (fun k => by rw [cupolaref01_In.l0]) ?_
    refine pos (by omega) (pos (by omega) ?_)
    rw [rdI l i hlt]
    by_cases hx : l[i] = x
    · rw [decide_eq_true (List.mem_cons.2 (.inl hx.symm))]
      exact pos hx (Ev.now _)
    · refine neg hx ?_
      rw [hw]
      have e : decide (x ∈ l[i] :: l.drop (i + 1)) = decide (x ∈ l.drop (i + 1)) := by
        rw [decide_eq_decide, List.mem_cons]
        exact ⟨fun h => h.resolve_left (fun h9 => hx h9.symm), .inr⟩
      rw [e]
      exact ih (i + 1) (by omega)
theorem in_is (l : List Int) (hl : l.length < 1000000) (x : Int) : Ev (fun k => cupolaref01_In.f k l x) (decide (x ∈ l)) := by
  unfold cupolaref01_In.f
  exact in_loop l hl x l.length 0 (by omega)
/-- From number i on, m choices are among those that may be. -/
def okB (c : List (List Int)) (f : List Int) : Nat → Nat → Bool
  | _, 0 => true
  | i, m + 1 => decide (rd f (i : Int) ∈ rd_L5 c (i : Int)) && okB c f (i + 1) m
theorem fits_is (c : List (List Int)) (hc : ∀ r ∈ c, r.length < 1000000) (f : List Int) (hf : f.length = c.length) (hl : f.length < 1000000) : ∀ m i : Nat, i + m = f.length →
    Ev (fun k => source_Fits.l0 k c f (f.length : Int) (i : Int)) (okB c f i m) := by
  intro m
  induction m with
  | zero =>
    intro i hi
    refine Ev.step (fun k => by rw [source_Fits.l0]) ?_
    exact neg (by omega) (Ev.now _)
  | succ m ih =>
    intro i hi
    have hlc : i < c.length := by omega
    have hw : wrap64 ((i : Int) + 1) = ((i + 1 : Nat) : Int) := by rw [IntWalk.wrap64_in _ (by omega)]; omega
    refine Ev.step (fun k => by rw [source_Fits.l0]) ?_
    refine pos (by omega) (pos (by omega) (pos (by omega) (pos (by omega) ?_)))
    rw [hw]
    refine Ev.bind (contains_is _ (by rw [rd5 c i hlc]; exact hc _ (List.getElem_mem hlc)) _) ?_
    unfold okB
    cases hd : decide (rd f (i : Int) ∈ rd_L5 c (i : Int)) with
    | true => exact pos rfl (ih (i + 1) (by omega))
    | false => exact neg (by decide) (Ev.now _)
theorem rfits_is (c : List (List Int)) (hc : ∀ r ∈ c, r.length < 1000000) (f : List Int) (hf : f.length = c.length) (hl : f.length < 1000000) : ∀ m i : Nat, i + m = f.length →
    Ev (fun k => cupolaref11_Fits.l0 k f c (i : Int)) (okB c f i m) := by
  intro m
  induction m with
  | zero =>
    intro i hi
    refine Ev.step (fun k => by rw [cupolaref11_Fits.l0]) ?_
    exact neg (by omega) (Ev.now _)
  | succ m ih =>
    intro i hi
    have hlc : i < c.length := by omega
    have hw : wrap64 ((i : Int) + 1) = ((i + 1 : Nat) : Int) := by rw [IntWalk.wrap64_in _ (by omega)]; omega
    refine Ev.step (fun k => by rw [cupolaref11_Fits.l0]) ?_
    refine pos (by omega) (pos (by omega) (pos (by omega) ?_))
    rw [hw]
    refine Ev.bind (in_is _ (by rw [rd5 c i hlc]; exact hc _ (List.getElem_mem hlc)) _) ?_
    unfold okB
    cases hd : decide (rd f (i : Int) ∈ rd_L5 c (i : Int)) with
    | true => exact pos rfl (ih (i + 1) (by omega))
    | false => exact neg (by decide) (Ev.now _)
def fitsT (c : List (List Int)) (f : List Int) : Bool := if f.length = c.length then okB c f 0 f.length else false
theorem fits_eq (l : List S26) (hl : l.length < 100000) (n1 n2 n3 n4 n5 : List Int) (n6 : List (List Int)) (init f : List Int) : Ev (fun k => source_Fits.f k l n1 n2 n3 n4 n5 n6 init f) (fitsT (chsT l init) f) := by
  have hcl : (chsT l init).length = l.length := by unfold chsT; rw [List.length_map]
  unfold source_Fits.f fitsT
  refine Ev.bind (choices_ev l (by omega) n1 n2 n3 n4 n5 n6 init) ?_
  by_cases h : f.length = (chsT l init).length
  · rw [if_pos h]
    exact pos (by omega) (fits_is _ (fun r hr => by have := chs_len l init r hr; omega) f h (by omega) f.length 0 (by omega))
  · rw [if_neg h]
    exact neg (by omega) (Ev.now _)
theorem rfits_eq (l : List S26) (hl : l.length < 100000) (n1 n2 n3 n4 n5 : List Int) (n6 : List (List Int)) (init f : List Int) : Ev (fun k => cupolaref11_Fits.f k l n1 n2 n3 n4 n5 n6 init f) (fitsT (chsT l init) f) := by
  have hcl : (chsT l init).length = l.length := by unfold chsT; rw [List.length_map]
  unfold cupolaref11_Fits.f fitsT
  refine Ev.bind (rchoices_ev l (by omega) n1 n2 n3 n4 n5 n6 init) ?_
  by_cases h : f.length = (chsT l init).length
  · rw [if_pos h]
    exact pos (by omega) (rfits_is _ (fun r hr => by have := chs_len l init r hr; omega) f h (by omega) f.length 0 (by omega))
  · rw [if_neg h]
    exact neg (by omega) (Ev.now _)
end Go.Proofs.Ytbamkkdikeedoaa.Src
