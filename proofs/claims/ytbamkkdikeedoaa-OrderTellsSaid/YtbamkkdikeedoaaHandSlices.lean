/- By hand: slices.Clone and slices.Delete at []int, by the library's contracts. -/
import Derived.Test.YtbamkkdikeedoaaG0
import Derived.Shelf.Slices.Delete
import Derived.Shelf.Slices.Clone
import Derived.Sort.OwnSortedInts
namespace Go.Proofs.Ytbamkkdikeedoaa.G
open Go.RowKit Go.Shelf Go.Sort Go.Proofs.YtbamkkdikeedoaaW.PrintWords Go.Proofs.YtbamkkdikeedoaaW.PrintLast Go.Proofs.YtbamkkdikeedoaaW.PrintMore
set_option linter.unusedVariables false
def renS : Ren := ⟨fun n => match n with | 23 => 146 | 15 => 147 | n => n, fun n => match n with | 22 => 33 | n => n, fun n => n⟩
theorem laysD : Lays2.n23 Try.prog renS where
  mixed := by kernel_rfl
  f23 := Try.func146
  t0 := by kernel_rfl
  a0 := fun w => by kernel_rfl
  z0 := fun w => by kernel_rfl
  v0 := fun w => by kernel_rfl
  t3 := by kernel_rfl
  a3 := fun w => by kernel_rfl
  z3 := fun w => by kernel_rfl
  v3 := fun w => by kernel_rfl
  t4 := by kernel_rfl
  a4 := fun w => by kernel_rfl
  z4 := fun w => by kernel_rfl
  v4 := fun w => by kernel_rfl
  t22 := by kernel_rfl
  a22 := fun w => by kernel_rfl
  z22 := fun w => by kernel_rfl
  v22 := fun w => by kernel_rfl
  i3 := by kernel_rfl
theorem laysC : Lays2.n15 Try.prog renS where
  mixed := by kernel_rfl
  f15 := Try.func147
  t3 := by kernel_rfl
  a3 := fun w => by kernel_rfl
  z3 := fun w => by kernel_rfl
  v3 := fun w => by kernel_rfl
  t4 := by kernel_rfl
  a4 := fun w => by kernel_rfl
  z4 := fun w => by kernel_rfl
  v4 := fun w => by kernel_rfl
  t22 := by kernel_rfl
  a22 := fun w => by kernel_rfl
  z22 := fun w => by kernel_rfl
  v22 := fun w => by kernel_rfl
  i3 := by kernel_rfl
def slices_Clone_int_int.f (l0 : List Int) : Option (List Int) := if l0.length < 1000000 then some l0 else none
theorem slices_Clone_int_int.calls (A0 : Option Addr) (c0 : Nat) (l0 : List Int) (r : List Int) (w : World) (hr0 : Kd.C (Kd.int .i64) w A0 l0.length l0) (hc0 : l0.length ≤ c0) (h : slices_Clone_int_int.f l0 = some r) :
    Calls Try.prog 147 #[.slice A0 l0.length c0] w fun e w' => ∃ v0_ : Value, e = .returned (v0_) ∧ Kd.R (Kd.int .i64) 3 w' w.heap.size (fun _ => True) v0_ r ∧ Below w.heap.size w w' := by
  unfold slices_Clone_int_int.f at h
  by_cases hl : l0.length < 1000000
  rotate_left
  · rw [if_neg hl] at h; cases h
  rw [if_pos hl] at h
  obtain rfl := Option.some.inj h
  have hrd := Kd.reads_of_C (d := 0) hr0
  cases A0 with
  | none =>
    have h0 : l0 = [] := by
      cases l0 with
      | nil => rfl
      | cons x xs => obtain ⟨ad, e, _⟩ := hrd.2.2 (by simp); cases e
    subst h0
    refine (Any.slices_Clone_int_nil laysC 0 c0 w).mono ?_
    rintro e w' ⟨rfl, rfl⟩
    exact ⟨_, rfl, Kd.R_nil _ _ _ _ _, Below.refl _ _⟩
  | some a =>
    by_cases h0 : l0.length = 0
    · obtain rfl := List.eq_nil_of_length_eq_zero h0
      refine (Any.slices_Clone_int_zero laysC a c0 w).mono ?_
      rintro e w' ⟨v, rfl, ho, _, hb⟩
      exact ⟨v, rfl, Kd.R_of_own ho (fun _ _ => trivial), hb⟩
    · obtain ⟨ad, e, hcell⟩ := hrd.2.2 (by omega)
      obtain rfl := Option.some.inj e
      have hs : a.spot = none := by
        have h1 := hcell 0 (by omega)
        unfold World.cell? at h1
        rw [show a.add 0 = a from rfl] at h1
        cases hsp : a.spot with
        | none => rfl
        | some q =>
          split at h1
          · rw [hsp] at h1; simp at h1
          · cases h1
      obtain ⟨b, off, sp⟩ := a
      simp only at hs
      subst hs
      refine (Any.slices_Clone_int laysC b off l0.length c0 l0 w (Nat.le_refl _) (by omega) (fun j hj => ?_)).mono ?_
      · have h1 := hcell j hj
        have e1 : (⟨b, off, none⟩ : Addr).add j = ⟨b, off + j, none⟩ := by unfold Addr.add; split <;> simp_all
        rw [e1] at h1
        exact h1
      · rintro e w' ⟨v, rfl, ho, _, hb⟩
        rw [List.take_length] at ho
        exact ⟨v, rfl, Kd.R_of_own ho (fun _ _ => trivial), hb⟩
def slices_Delete_int_int.f (l0 : List Int) (a1 a2 : Int) : Option (List Int) := if 0 ≤ a1 ∧ a1 < a2 ∧ a2 ≤ (l0.length : Int) then some (l0.take a1.toNat ++ l0.drop a2.toNat) else none
/-- In place: the row's own block, and no other. -/
theorem slices_Delete_int_int.own {base : Nat} {ok : Nat → Prop} (A0 : Option Addr) (c0 : Nat) (l0 : List Int) (a1 a2 : Int) (r : List Int) (w : World) (hR : Kd.R (Kd.int .i64) 3 w base ok (.slice A0 l0.length c0) l0) (h : slices_Delete_int_int.f l0 a1 a2 = some r) :
    Calls Try.prog 146 #[.slice A0 l0.length c0, .int .i64 a1, .int .i64 a2] w fun e w' => ∃ v0_ : Value, e = .returned (v0_) ∧ Kd.R (Kd.int .i64) 3 w' base ok v0_ r ∧ w.grownBy w' (Value.slice A0 l0.length c0).ownBlock ∧ v0_.ownBlock = (Value.slice A0 l0.length c0).ownBlock := by
  unfold slices_Delete_int_int.f at h
  by_cases hl : 0 ≤ a1 ∧ a1 < a2 ∧ a2 ≤ (l0.length : Int)
  rotate_left
  · rw [if_neg hl] at h; cases h
  rw [if_pos hl] at h
  obtain rfl := Option.some.inj h
  obtain ⟨i, rfl⟩ := Int.eq_ofNat_of_zero_le hl.1
  obtain ⟨j, rfl⟩ := Int.eq_ofNat_of_zero_le (show 0 ≤ a2 by omega)
  have hij : i < j := by omega
  have hj : j ≤ l0.length := by omega
  have hok := hR.1
  have hown := Kd.own_of_R hR
  obtain ⟨_, h2⟩ := hown
  rcases h2 with ⟨_, h0⟩ | ⟨g, cap, cur, hv, hbase, hb, h1, hm, hs, ht⟩
  · omega
  injection hv with hA hn hc
  subst hA
  subst hc
  rw [Nat.mul_one] at ht hs
  refine (Any.slices_Delete_int laysD g 0 c0 i j l0 w (holds_of_blockI hb ht) h1 (by simp only [maxLen] at hm; omega) (by omega) hj).mono ?_
  rintro e w' ⟨rfl, q, rfl⟩
  have hb2 : (putRow (Value.int .i64) (Sort.ahead w q) g 0 (l0.take i ++ l0.drop j ++ List.replicate (j - i) 0).toArray).heap[g]? = some (.cells (putCells (Value.int .i64) 0 (l0.take i ++ l0.drop j ++ List.replicate (j - i) 0).toArray cur) 3 (0, 0)) := by
    have := heap_sortedI (n := q) (os := #[]) (l0.take i ++ l0.drop j ++ List.replicate (j - i) 0).toArray hb
    rwa [grow_empty] at this
  have hg := grownBy_sortedI (w := w) (g := g) (n := q) (os := #[]) (l0.take i ++ l0.drop j ++ List.replicate (j - i) 0).toArray
  rw [grow_empty] at hg
  have hlen : (l0.take i ++ l0.drop j).length = l0.length - (j - i) := by rw [List.length_append, List.length_take, List.length_drop]; omega
  have hall : (l0.take i ++ l0.drop j ++ List.replicate (j - i) 0).length = l0.length := by rw [List.length_append, hlen, List.length_replicate]; omega
  simp only [Int.toNat_natCast]
  refine ⟨_, rfl, Kd.R_of_own (enc := Value.int .i64) ⟨?_, .inr ⟨g, c0, _, by rw [hlen], hbase, hb2, by rw [hlen]; omega, hm, ?_, ?_⟩⟩ (fun k hk => hok k (by simpa [Value.ownBlock] using hk)), hg, rfl⟩
  · rw [encs_length, Nat.mul_one]
  · rw [Nat.mul_one]; simp only [putCells, Array.size_mapIdx]; exact hs
  · have h9 := take_putCellsI cur (l0.take i ++ l0.drop j ++ List.replicate (j - i) 0) (by rw [hall]; omega)
    have hmin : min (l0.take i ++ l0.drop j).length (l0.take i ++ l0.drop j ++ List.replicate (j - i) 0).length = (l0.take i ++ l0.drop j).length := by rw [hlen, hall]; omega
    have h10 := congrArg (List.take (l0.take i ++ l0.drop j).length) h9
    rw [List.take_take, hmin, ← List.map_take, List.take_left' rfl] at h10
    rw [Nat.mul_one]
    exact h10
end Go.Proofs.Ytbamkkdikeedoaa.G
