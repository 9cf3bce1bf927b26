/- It is proved that what was there at first at a place that nobody reads plays no part: the law SourceInit of layer 11 answers true for every input, by its plain form. -/
import Derived.Test.YtbamkkdikeedoaaGSourceInit
import Derived.Test.YtbamkkdikeedoaaPlainLists
import Derived.Test.YtbamkkdikeedoaaShown11
import Derived.Test.YtbamkkdikeedoaaOpensAt
namespace Go.Proofs.Ytbamkkdikeedoaa.Pure
open Go.RowKit Go.Proofs.Ytbamkkdikeedoaa.G Go.Proofs.Ytbamkkdikeedoaa.Src Go.Proofs.Ytbamkkdikeedoaa.Opens Go.Proofs.YtbamkkdikeedoaaW.PrintWords Go.Proofs.YtbamkkdikeedoaaW.PrintLast Go.Proofs.YtbamkkdikeedoaaW.PrintMore
set_option linter.unusedVariables false
theorem u8_range {x : Int} (h : (Lit.int .u8 x).wf = true) : 0 ≤ x ∧ x < 256 := by
  simp [Lit.wf, IntKind.min, IntKind.max, IntKind.bits, IntKind.signed] at h
  omega
theorem may_alike (l : List S26) (a b : List Int) (y : S26) (h : (0 ≤ y.f2 ∧ y.f2 < (a.length : Int) ∧ rd a y.f2 = y.f3) ↔ (0 ≤ y.f2 ∧ y.f2 < (b.length : Int) ∧ rd b y.f2 = y.f3)) : mayX l a y = mayX l b y := by
  unfold mayX
  by_cases h1 : 0 ≤ y.f2 ∧ y.f2 < (a.length : Int) ∧ rd a y.f2 = y.f3
  · rw [if_pos h1, if_pos (h.1 h1)]
  · rw [if_neg h1, if_neg (fun h2 => h1 (h.2 h2))]
theorem chs_alike (l : List S26) (a b : List Int) (h : ∀ y ∈ l, y.f1 = 1 → mayX l a y = mayX l b y) : chsT l a = chsT l b := by
  unfold chsT
  refine List.map_congr_left fun y hy => ?_
  unfold chT
  by_cases h1 : y.f1 = 1
  · rw [if_pos h1, if_pos h1, h y hy h1]
  · rw [if_neg h1, if_neg h1]
theorem SourceInit (l : List S26) (wl : ∀ y ∈ l, wf26 y) (_ : l.length ≤ 9223372036854775807) (init : List Int) (wi : ∀ y ∈ init, wfI .i64 y) (hi9 : init.length ≤ 9223372036854775807) (loc : Int) (wloc : (Lit.int .u8 loc).wf = true) (v : Int) (wv : (Lit.int .i64 v).wf = true) :
    ∃ k, cupolalaw11_SourceInit.f k l init loc v = some true := by
  refine Ev.rounds (g := fun k => cupolalaw11_SourceInit.f k l init loc v) ?_
  unfold cupolalaw11_SourceInit.f
  refine Ev.bind shown11_ev ?_
  have out : Ev (fun k => cupolalaw11_SourceInit.j0 k l init loc v true true) true := Ev.step (fun k => by rw [cupolalaw11_SourceInit.j0]) (pos rfl (Ev.now _))
  by_cases h24 : (l.length : Int) > 24
  · exact pos h24 out
  refine neg h24 ?_
  by_cases h0 : (init.length : Int) = 0
  · exact pos h0 out
  refine neg h0 ?_
  by_cases h50 : (init.length : Int) > 50
  · rw [decide_eq_true h50]; exact out
  rw [decide_eq_false h50]
  have hu := u8_range wloc
  have hwl : wrap64 loc = loc := IntWalk.wrap64_in _ (by omega)
  obtain ⟨q, hq⟩ : ∃ q : Nat, Int.tmod loc (init.length : Int) = (q : Int) := by
    rw [Int.tmod_eq_emod_of_nonneg hu.1]
    exact Int.eq_ofNat_of_zero_le (Int.emod_nonneg _ h0)
  have hqlt : q < init.length := by
    have h1 : Int.tmod loc (init.length : Int) < (init.length : Int) := by
      rw [Int.tmod_eq_emod_of_nonneg hu.1]
      exact Int.emod_lt_of_pos _ (by omega)
    omega
  refine Ev.step (fun k => by rw [cupolalaw11_SourceInit.j0]) ?_
  rw [hwl, hq]
  refine neg (by decide) (neg h0 ?_)
  clear hwl hq
  have loop : ∀ d i : Nat, i + d = l.length → (∀ (j : Nat) (y : S26), j < i → l[j]? = some y → y.f1 = 1 → y.f2 ≠ (q : Int) ∧ y.f2 ≠ (init.length : Int)) → Ev (fun k => cupolalaw11_SourceInit.l0 k l init v true (q : Int) (i : Int)) true := by
    intro d
    induction d with
    | zero =>
      intro i hi hno
      have hlen : ((init ++ [v]).set q v).length = init.length + 1 := by simp
      have hsame : chsT l init = chsT l ((init ++ [v]).set q v) := by
        refine chs_alike _ _ _ fun y hy h1 => may_alike _ _ _ _ ?_
        obtain ⟨j, hj, he⟩ := List.getElem_of_mem hy
        obtain ⟨n1, n2⟩ := hno j y (by omega) (by rw [List.getElem?_eq_getElem hj, he]) h1
        have hread : ∀ m : Nat, y.f2 = (m : Int) → m < init.length → rd ((init ++ [v]).set q v) y.f2 = rd init y.f2 := by
          intro m hm hml
          have hmq : q ≠ m := by omega
          rw [hm]
          unfold rd
          rw [Int.toNat_natCast, List.getD_eq_getElem?_getD, List.getD_eq_getElem?_getD, List.getElem?_set_ne hmq, List.getElem?_append_left hml]
        rw [hlen]
        constructor
        · rintro ⟨a1, a2, a3⟩
          obtain ⟨m, hm⟩ := Int.eq_ofNat_of_zero_le a1
          exact ⟨a1, by omega, by rw [hread m hm (by omega)]; exact a3⟩
        · rintro ⟨a1, a2, a3⟩
          obtain ⟨m, hm⟩ := Int.eq_ofNat_of_zero_le a1
          have : m < init.length := by omega
          exact ⟨a1, by omega, by rw [← hread m hm this]; exact a3⟩
      have hs := all_small (chsT l init)
      have hcl : (chsT l init).length = l.length := by unfold chsT; rw [List.length_map]
      refine Ev.step (fun k => by rw [cupolalaw11_SourceInit.l0]) ?_
      refine neg (by omega) (bindv rfl (pos (by simp; omega) (bindv rfl (pos (by simp; omega) (bindv rfl (pos (by omega) (pos (by simp; omega) (pos rfl (bindv rfl ?_)))))))))
      rw [List.nil_append, Int.toNat_natCast]
      refine Ev.bind (all_ev l (by omega) [] [] [] [] [] [] init) (bindv rfl (Ev.bind (all_ev l (by omega) [] [] [] [] [] [] _) ?_))
      rw [← hsame]
      refine Ev.bind (lists_same _ (by omega) (fun r hr => by have := hs.2 r hr; omega)) (Ev.now _)
    | succ d ih =>
      intro i hi hno
      have hlt : i < l.length := by omega
      have hw : wrap64 ((i : Int) + 1) = ((i + 1 : Nat) : Int) := by rw [IntWalk.wrap64_in _ (by omega)]; omega
      have more : (l[i].f1 = 1 → l[i].f2 ≠ (q : Int) ∧ l[i].f2 ≠ (init.length : Int)) → Ev (fun k => cupolalaw11_SourceInit.l0 k l init v true (q : Int) (wrap64 ((i : Int) + 1))) true := by
        intro h1
        rw [hw]
        refine ih (i + 1) (by omega) fun j y hj hy => ?_
        by_cases hji : j = i
        · subst hji
          rw [List.getElem?_eq_getElem hlt] at hy
          rw [← Option.some.inj hy]; exact h1
        · exact hno j y (by omega) hy
      clear hw
      refine Ev.step (fun k => by rw [cupolalaw11_SourceInit.l0]) ?_
      rw [rd26 l i hlt]
      refine pos (by omega) (pos (by omega) ?_)
      by_cases h1 : l[i].f1 = 1
      · refine pos h1 ?_
        by_cases h2 : l[i].f2 = (q : Int)
        · exact pos h2 (Ev.now _)
        · refine neg h2 ?_
          by_cases h3 : l[i].f2 = (init.length : Int)
          · exact pos h3 (Ev.now _)
          · exact neg h3 (more fun _ => ⟨h2, h3⟩)
      · exact neg h1 (more fun h9 => absurd h9 h1)
  exact loop l.length 0 (by omega) (fun j y hj _ _ => absurd hj (by omega))
end Go.Proofs.Ytbamkkdikeedoaa.Pure
