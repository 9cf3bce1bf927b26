/- Plain: the relation that an order makes. -/
import Derived.Test.YtbamkkdikeedoaaPlainOrder2
namespace Go.Proofs.Ytbamkkdikeedoaa.Ord
open Go.RowKit Go.Proofs.Ytbamkkdikeedoaa.G Go.Proofs.Ytbamkkdikeedoaa.Src Go.Proofs.YtbamkkdikeedoaaW.PrintWords Go.Proofs.YtbamkkdikeedoaaW.PrintLast Go.Proofs.YtbamkkdikeedoaaW.PrintMore
set_option linter.unusedVariables false
/-- Each thing with each behind it. -/
def prsL : List Int → List S46
  | [] => []
  | x :: xs => xs.map (fun y => ⟨x, y⟩) ++ prsL xs
theorem ofM_put {n : Nat} (hn : n ≤ 32) (acc : List S46) (a b : Int) : Ev (fun k => rel_Put.f k (ofM n (memP acc)) a b) (ofM n (memP (acc ++ [⟨a, b⟩]))) := by
  have h := put_ev (ofM n (memP acc)) a b
  rw [sz_ofM hn] at h
  have e : ofM n (fun i k => mat (ofM n (memP acc)) i k || (decide ((i : Int) = a) && decide ((k : Int) = b))) = ofM n (memP (acc ++ [⟨a, b⟩])) := by
    refine ofM_congr fun i k hi hk => ?_
    rw [mat_in hn hi hk, memP_append]
    congr 1
    simp [memP, eq_comm]
  rw [e] at h
  exact h
theorem of_l1 {n : Nat} (hn : n ≤ 32) (l : List Int) (a : Int) (x13 x14 : Int) (t : List Int) (ht : t.length < 1000000) (r : List Int) : ∀ d j : Nat, j + d = t.length → ∀ acc : List S46,
    Ev (fun k => order_Of.l0 k l (ofM n (memP (acc ++ (t.drop j).map fun y => ⟨a, y⟩))) l x13 (wrap64 (x14 + 1))) r → Ev (fun k => order_Of.l1 k l (ofM n (memP acc)) a l x13 x14 t (t.length : Int) (j : Int)) r := by
  intro d
  induction d with
  | zero =>
    intro j hj acc h
    refine Ev.step (fun k => by rw [order_Of.l1]) ?_
    rw [List.drop_of_length_le (by omega), List.map_nil, List.append_nil] at h
    exact neg (by omega) h
  | succ d ih =>
    intro j hj acc h
    have hlt : j < t.length := by omega
    have hw : wrap64 ((j : Int) + 1) = ((j + 1 : Nat) : Int) := by rw [IntWalk.wrap64_in _ (by omega)]; omega
    refine Ev.step (fun k => by rw [order_Of.l1]) ?_
    rw [rdAt t j hlt, hw]
    clear hw
    refine pos (by omega) (pos (by omega) (pos (by omega) (Ev.bind (ofM_put hn acc _ _) (ih (j + 1) (by omega) _ ?_))))
    rw [List.drop_eq_getElem_cons hlt, List.map_cons] at h
    rw [List.append_assoc]
    exact h
theorem of_l0 {n : Nat} (hn : n ≤ 32) (l : List Int) (hl : l.length < 1000000) : ∀ d i : Nat, i + d = l.length → ∀ acc : List S46,
    Ev (fun k => order_Of.l0 k l (ofM n (memP acc)) l (l.length : Int) (i : Int)) (ofM n (memP (acc ++ prsL (l.drop i)))) := by
  intro d
  induction d with
  | zero =>
    intro i hi acc
    refine Ev.step (fun k => by rw [order_Of.l0]) ?_
    rw [show l.drop i = [] from List.drop_of_length_le (by omega), prsL, List.append_nil]
    exact neg (by omega) (Ev.now _)
  | succ d ih =>
    intro i hi acc
    have hlt : i < l.length := by omega
    have hw : wrap64 ((i : Int) + 1) = ((i + 1 : Nat) : Int) := by rw [IntWalk.wrap64_in _ (by omega)]; omega
    refine Ev.step (fun k => by rw [order_Of.l0]) ?_
    rw [rdAt l i hlt, hw, Int.toNat_natCast]
    refine pos (by omega) (pos (by omega) (pos (by omega) (pos (by omega) (pos (by omega) ?_))))
    have := of_l1 hn l l[i] (l.length : Int) (i : Int) (l.drop (i + 1)) (by rw [List.length_drop]; omega) (ofM n (memP (acc ++ prsL (l.drop i)))) (l.drop (i + 1)).length 0 (by omega) acc ?_
    · exact this
    · rw [hw, List.drop_zero, List.drop_eq_getElem_cons hlt, prsL, ← List.append_assoc]
      exact ih (i + 1) (by omega) _
def ofN (a : Int) : Nat := if 0 ≤ a ∧ a ≤ 32 then a.toNat else 0
theorem ofN_le (a : Int) : ofN a ≤ 32 := by unfold ofN; split <;> omega
theorem of_ev (a : Int) (l : List Int) (hl : l.length < 1000000) : Ev (fun k => order_Of.f k a l) (ofM (ofN a) (memP (prsL l))) := by
  unfold order_Of.f
  refine bindv (new_eq a) ?_
  have e : (if 0 ≤ a ∧ a ≤ 32 then ofM a.toNat (fun _ _ => false) else []) = ofM (ofN a) (memP []) := by
    unfold ofN
    by_cases h : 0 ≤ a ∧ a ≤ 32
    · rw [if_pos h, if_pos h]; rfl
    · rw [if_neg h, if_neg h]; rfl
  rw [e]
  have := of_l0 (ofN_le a) l hl l.length 0 (by omega) []
  rw [List.nil_append, List.drop_zero] at this
  exact this
/-! ### which order fits -/
def tri : Nat → Nat
  | 0 => 0
  | n + 1 => n + tri n
theorem prsL_len : ∀ p : List Int, (prsL p).length = tri p.length
  | [] => rfl
  | x :: xs => by rw [prsL, List.length_append, List.length_map, prsL_len xs, List.length_cons, tri]
end Go.Proofs.Ytbamkkdikeedoaa.Ord
