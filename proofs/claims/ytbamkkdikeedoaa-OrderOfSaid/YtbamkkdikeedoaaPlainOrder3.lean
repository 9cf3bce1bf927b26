/- Plain: the relation that an order makes. -/
import Derived.Test.YtbamkkdikeedoaaPlainOrder2
namespace Go.Proofs.Ytbamkkdikeedoaa.Ord
open Go.RowKit Go.Proofs.Ytbamkkdikeedoaa.G Go.Proofs.Ytbamkkdikeedoaa.Src Go.Proofs.YtbamkkdikeedoaaW.PrintWords Go.Proofs.YtbamkkdikeedoaaW.PrintLast Go.Proofs.YtbamkkdikeedoaaW.PrintMore
set_option linter.unusedVariables false
/-- Each thing with each behind it. -/
def prsL : List Int → List S46
  | [] => []
  | x :: xs => xs.map (fun y => ⟨x, y⟩) ++ prsL xs
theorem ofM_put {n : Nat} (hn : n ≤ 32) (acc : List S46) (a b : Int) : Ev (fun k => rel_Put.f k (ofM n (memP acc)) a b) (ofM n (memP (acc ++ [⟨a, b⟩]))) := by
  have h := put_ev (ofM n (memP acc)) a b
  rw [sz_ofM hn] at h
  have e : ofM n (fun i k => mat (ofM n (memP acc)) i k || (decide ((i : Int) = a) && decide ((k : Int) = b))) = ofM n (memP (acc ++ [⟨a, b⟩])) := by
    refine ofM_congr fun i k hi hk => ?_
    rw [mat_in hn hi hk, memP_append]
    congr 1
    simp [memP, eq_comm]
  rw [e] at h
  exact h
theorem of_l1 {n : Nat} (hn : n ≤ 32) (l : List Int) (a : Int) (x13 x14 : Int) (t : List Int) (ht : t.length < 1000000) (r : List Int) : ∀ d j : Nat, j + d = t.length → ∀ acc : List S46,
    Ev (fun k => order_Of.l0 k l (ofM n (memP (acc ++ (t.drop j).map fun y => ⟨a, y⟩))) l x13 (wrap64 (x14 + 1))) r → Ev (fun k => order_Of.l1 k l (ofM n (memP acc)) a l x13 x14 t (t.length : Int) (j : Int)) r := by
  intro d
  induction d with
  | zero =>
    intro j hj acc h
    refine Ev.step (fun k => by rw [order_Of.l1]) ?_
    rw [List.drop_of_length_le (by omega), List.map_nil, List.append_nil] at h
    exact neg (by omega) h
  | succ d ih =>
    intro j hj acc h
    have hlt : j < t.length := by omega
    have hw : wrap64 ((j : Int) + 1) = ((j + 1 : Nat) : Int) := by rw [IntWalk.wrap64_in _ (by omega)]; omega
    refine Ev.step (fun k => by rw [order_Of.l1]) ?_
    rw [rdAt t j hlt, hw]
    clear hw
    refine pos (by omega) (pos (by omega) (pos (by omega) (Ev.bind (ofM_put hn acc _ _) (ih (j + 1) (by omega) _ ?_))))
    rw [List.drop_eq_getElem_cons hlt, List.map_cons] at h
    rw [List.append_assoc]
    exact h
theorem of_l0 {n : Nat} (hn : n ≤ 32) (l : List Int) (hl : l.length < 1000000) : ∀ d i : Nat, i + d = l.length → ∀ acc : List S46,
    Ev (fun k => order_Of.l0 k l (ofM n (memP acc)) l (l.length : Int) (i : Int)) (ofM n (memP (acc ++ prsL (l.drop i)))) := by
  intro d
  induction d with
  | zero =>
    intro i hi acc
    refine Ev.step (fun k => by rw [order_Of.l0]) ?_
    rw [show l.drop i = [] from List.drop_of_length_le (by omega), prsL, List.append_nil]
    exact neg (by omega) (Ev.now _)
  | succ d ih =>
    intro i hi acc
    have hlt : i < l.length := by omega
    have hw : wrap64 ((i : Int) + 1) = ((i + 1 : Nat) : Int) := by rw [IntWalk.wrap64_in _ (by omega)]; omega
    refine Ev.step (fun k => by rw [order_Of.l0]) ?_
    rw [rdAt l i hlt, hw, Int.toNat_natCast]
    refine pos (by omega) (pos (by omega) (pos (by omega) (pos (by omega) (pos (by omega) ?_))))
    have := of_l1 hn l l[i] (l.length : Int) (i : Int) (l.drop (i + 1)) (by rw [List.length_drop]; omega) (ofM n (memP (acc ++ prsL (l.drop i)))) (l.drop (i + 1)).length 0 (by omega) acc ?_
    · exact this
    · rw [hw, List.drop_zero, List.drop_eq_getElem_cons hlt, prsL, ← List.append_assoc]
      exact ih (i + 1) (by omega) _
def ofN (a : Int) : Nat := if 0 ≤ a ∧ a ≤ 32 then a.toNat else 0
theorem ofN_le (a : Int) : ofN a ≤ 32 := by unfold ofN; split <;> omega
theorem of_ev (a : Int) (l : List Int) (hl : l.length < 1000000) : Ev (fun k => order_Of.f k a l) (ofM (ofN a) (memP (prsL l))) := by
  unfold order_Of.f
  refine bindv (new_eq a) ?_
  have e : (if 0 ≤ a ∧ a ≤ 32 then ofM a.toNat (fun _ _ => false) else []) = ofM (ofN a) (memP []) := by
    unfold ofN
    by_cases h : 0 ≤ a ∧ a ≤ 32
    · rw [if_pos h, if_pos h]; rfl
    · rw [if_neg h, if_neg h]; rfl
  rw [e]
  have := of_l0 (ofN_le a) l hl l.length 0 (by omega) []
  rw [List.nil_append, List.drop_zero] at this
  exact this
/-! ### which order fits -/
theorem memP_iff {ps : List S46} {a b : Nat} : memP ps a b = true ↔ (⟨(a : Int), (b : Int)⟩ : S46) ∈ ps := by
  unfold memP
  rw [List.any_eq_true]
  constructor
  · rintro ⟨⟨x, y⟩, hp, h⟩
    rw [Bool.and_eq_true] at h
    have h1 := of_decide_eq_true h.1
    have h2 := of_decide_eq_true h.2
    simp only at h1 h2
    rw [← h1, ← h2]
    exact hp
  · intro h
    exact ⟨_, h, by simp⟩
theorem mem_prsL {x y : Int} : ∀ {p : List Int}, (⟨x, y⟩ : S46) ∈ prsL p ↔ ∃ a b : Nat, ∃ hab : a < b, ∃ h : b < p.length, p[a] = x ∧ p[b] = y
  | [] => by simp [prsL]
  | z :: zs => by
    rw [prsL, List.mem_append, mem_prsL (p := zs), List.mem_map]
    constructor
    · rintro (⟨w, hw, e⟩ | ⟨a, b, hab, h, e1, e2⟩)
      · injection e with e1 e2
        obtain ⟨b, hb, eb⟩ := List.getElem_of_mem hw
        exact ⟨0, b + 1, by omega, by simp; omega, e1, by rw [← e2]; exact eb⟩
      · exact ⟨a + 1, b + 1, by omega, by simp; omega, e1, e2⟩
    · rintro ⟨a, b, hab, h, e1, e2⟩
      obtain ⟨b', rfl⟩ : ∃ b', b = b' + 1 := ⟨b - 1, by omega⟩
      have hb' : b' < zs.length := by simpa using h
      cases a with
      | zero => exact .inl ⟨y, by rw [← e2]; exact List.getElem_mem hb', by rw [← e1]; rfl⟩
      | succ a => exact .inr ⟨a, b', by omega, hb', e1, e2⟩
theorem inj_at {p : List Int} (hp : p.Nodup) {a b : Nat} (ha : a < p.length) (hb : b < p.length) (e : p[a] = p[b]) : a = b := by
  have h := List.pairwise_iff_getElem.1 hp
  by_cases h1 : a < b
  · exact absurd e (h a b ha hb h1)
  by_cases h2 : b < a
  · exact absurd e.symm (h b a hb ha h2)
  omega
theorem uniq : ∀ q p : List Int, q.Perm p → (∀ a b : Nat, (hab : b ≤ a) → ∀ h : a < q.length, (⟨q[a], q[b]⟩ : S46) ∉ prsL p) → q = p
  | [], p, hp, _ => (List.nil_perm.1 hp).symm
  | y :: q, [], hp, _ => absurd hp.length_eq (by simp)
  | y :: q, x :: p, hp, h => by
    by_cases e : y = x
    · subst e
      rw [uniq q p ((List.perm_cons y).1 hp) (fun a b hab ha hm => h (a + 1) (b + 1) (by omega) (by simp; omega) (by rw [prsL, List.mem_append]; exact .inr hm))]
    · exfalso
      have hy : y ∈ p := by
        have := (hp.mem_iff (a := y)).1 (by simp)
        exact (List.mem_cons.1 this).resolve_left e
      obtain ⟨a, ha, ea⟩ := List.getElem_of_mem ((hp.mem_iff (a := x)).2 (by simp))
      refine h a 0 (by omega) ha ?_
      rw [ea, prsL, List.mem_append]
      exact .inl (List.mem_map.2 ⟨y, hy, rfl⟩)
theorem filter_one {α : Type} (c : α → Bool) (p : α) : ∀ L : List α, L.Nodup → p ∈ L → (∀ q ∈ L, c q = true ↔ q = p) → L.filter c = [p]
  | [], _, h, _ => by simp at h
  | x :: xs, hn, hp, hc => by
    rw [List.nodup_cons] at hn
    by_cases e : x = p
    · subst e
      rw [List.filter_cons_of_pos ((hc x (by simp)).2 rfl), List.filter_eq_nil_iff.2]
      intro q hq h
      have := (hc q (by simp [hq])).1 h
      rw [this] at hq
      exact hn.1 hq
    · rw [List.filter_cons_of_neg (fun h => e ((hc x (by simp)).1 h))]
      exact filter_one c p xs hn.2 ((List.mem_cons.1 hp).resolve_left (fun h => e h.symm)) (fun q hq => hc q (by simp [hq]))
theorem sub_len2 {α : Type} : ∀ {l m : List α}, l.Nodup → (∀ x ∈ l, x ∈ m) → l.length ≤ m.length
  | [], m, _, _ => by simp
  | x :: xs, m, hn, hs => by
    haveI : DecidableEq α := fun a b => Classical.propDecidable (a = b)
    rw [List.nodup_cons] at hn
    have hx := hs x (by simp)
    have h1 := sub_len2 (m := m.erase x) hn.2 (fun y hy => (List.mem_erase_of_ne (fun e => hn.1 (by rw [← e]; exact hy))).2 (hs y (by simp [hy])))
    rw [List.length_erase_of_mem hx] at h1
    have := List.length_pos_of_mem hx
    rw [List.length_cons]; omega
theorem prsq_nodup (n : Nat) (M : Nat → Nat → Bool) : (prs n M).Nodup := by
  unfold prs rowp
  rw [List.Nodup, List.pairwise_flatMap]
  refine ⟨fun i _ => ?_, ?_⟩
  · rw [List.pairwise_map]
    refine (List.Pairwise.filter _ List.nodup_range).imp ?_
    intro a b h e
    injection e with _ e
    exact h (by omega)
  · refine (List.nodup_range (n := n)).imp ?_
    intro a b h x hx y hy e
    obtain ⟨_, _, rfl⟩ := List.mem_map.1 hx
    obtain ⟨_, _, rfl⟩ := List.mem_map.1 hy
    injection e with e _
    exact h (by omega)
theorem prsL_nodup : ∀ p : List Int, p.Nodup → (prsL p).Nodup
  | [], _ => by simp [prsL]
  | x :: xs, h => by
    rw [List.nodup_cons] at h
    rw [prsL, List.nodup_append]
    refine ⟨?_, prsL_nodup xs h.2, ?_⟩
    · rw [List.Nodup, List.pairwise_map]
      refine h.2.imp ?_
      intro a b hab e
      injection e with _ e
      exact hab e
    · intro u hu v hv e
      obtain ⟨y, _, rfl⟩ := List.mem_map.1 hu
      rw [← e] at hv
      obtain ⟨a, b, hab, hb, e1, _⟩ := mem_prsL.1 hv
      exact h.1 (by rw [← e1]; exact List.getElem_mem _)
def tri : Nat → Nat
  | 0 => 0
  | n + 1 => n + tri n
theorem prsL_len : ∀ p : List Int, (prsL p).length = tri p.length
  | [] => rfl
  | x :: xs => by rw [prsL, List.length_append, List.length_map, prsL_len xs, List.length_cons, tri]
theorem tri_is {n : Nat} (h : n ≤ 6) : ((tri n : Int) == wrap64 (Int.tdiv (wrap64 ((n : Int) * mx (wrap64 ((n : Int) - 1)) 0)) 2)) = true := by
  have : n = 0 ∨ n = 1 ∨ n = 2 ∨ n = 3 ∨ n = 4 ∨ n = 5 ∨ n = 6 := by omega
  rcases this with rfl | rfl | rfl | rfl | rfl | rfl | rfl <;> decide +kernel
end Go.Proofs.Ytbamkkdikeedoaa.Ord
