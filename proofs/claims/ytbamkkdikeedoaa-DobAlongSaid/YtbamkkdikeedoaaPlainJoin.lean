/- Plain: what the document's cupolaref10.Join tells: each event's relations lead along Po, and Po leads from each event to those behind it in its thread. -/
import Derived.Test.YtbamkkdikeedoaaPlainRef05
import Derived.Test.YtbamkkdikeedoaaPlainSource
import Derived.Test.YtbamkkdikeedoaaGCupolaref10j
namespace Go.Proofs.Ytbamkkdikeedoaa.Joi
open Go.RowKit Go.Proofs.Ytbamkkdikeedoaa.G Go.Proofs.Ytbamkkdikeedoaa.Src Go.Proofs.YtbamkkdikeedoaaW.PrintWords Go.Proofs.YtbamkkdikeedoaaW.PrintLast Go.Proofs.YtbamkkdikeedoaaW.PrintMore
set_option linter.unusedVariables false
theorem bit_ex (n : Nat) (hn : n < 1000000) : ∀ m i : Nat, i + m = n → ∀ x : Int, ∃ b, Ev (fun k => cupolaref10_bit.l0 k x (n : Int) (i : Int)) b := by
 intro m
 induction m with
 | zero =>
  intro i hi x
  exact ⟨_, Ev.step (fun k => by rw [cupolaref10_bit.l0]) (neg (by omega) (Ev.now _))⟩
 | succ m ih =>
  intro i hi x
  have hw : wrap64 ((i : Int) + 1) = ((i + 1 : Nat) : Int) := by rw [IntWalk.wrap64_in _ (by omega)]; omega
  obtain ⟨b, h⟩ := ih (i + 1) (by omega) ((Int.tdiv x 2) % 4294967296)
  rw [← hw] at h
  exact ⟨b, Ev.step (fun k => by rw [cupolaref10_bit.l0]) (pos (by clear hw; omega) h)⟩
theorem bitf_ex (x : Int) (n : Nat) (hn : n < 1000000) : ∃ b, Ev (fun k => cupolaref10_bit.f k x (n : Int)) b := bit_ex n hn n 0 (by omega) x
section
variable (t0 : List S26) (t1 t2 t3 t4 : List Int) (a5 a6 a7 a8 a9 a10 a11 a12 a13 a14 a15 : Int)
theorem fine_l1 (i : Nat) (h1 : i < t1.length) (h2 : i < t2.length) (h3 : i < t3.length) (h4 : i < t4.length) (n : Int)
  (next : ∃ b, Ev (fun k => cupolaref10_fine.l0 k n (wrap64 ((i : Int) + 1)) t0 t1 t2 t3 t4 a5 a6 a7 a8 a9 a10 a11 a12 a13 a14 a15) b) : ∀ m j : Nat, j + m = 32 →
  ∃ b, Ev (fun k => cupolaref10_fine.l1 k n (i : Int) (j : Int) t0 t1 t2 t3 t4 a5 a6 a7 a8 a9 a10 a11 a12 a13 a14 a15) b := by
 intro m
 induction m with
 | zero =>
  intro j hj
  by_cases h : rd t4 (i : Int) ≥ (i : Int)
  ·exact ⟨false, Ev.step (fun k => by rw [cupolaref10_fine.l1]) (neg (by omega) (pos (by omega) (pos (by omega) (pos h (Ev.now _)))))⟩
  ·obtain ⟨b, hb⟩ := next
   exact ⟨b, Ev.step (fun k => by rw [cupolaref10_fine.l1]) (neg (by omega) (pos (by omega) (pos (by omega) (neg h hb))))⟩
 | succ m ih =>
  intro j hj
  obtain ⟨b1, e1⟩ := bitf_ex (rd t1 (i : Int)) j (by omega)
  obtain ⟨b2, e2⟩ := bitf_ex (rd t2 (i : Int)) j (by omega)
  obtain ⟨b3, e3⟩ := bitf_ex (rd t3 (i : Int)) j (by omega)
  obtain ⟨b, hb⟩ := ih (j + 1) (by omega)
  have hw : ((j + 1 : Nat) : Int) = wrap64 ((j : Int) + 1) := by rw [IntWalk.wrap64_in _ (by omega)]; omega
  rw [hw] at hb
  clear hw
  have c3 : ∀ f3 : Bool, b3 = f3 → ∃ b, Ev (fun k => (cupolaref10_bit.f k (rd t3 (i : Int)) (j : Int)).bind fun t108 => (if t108 = true then (some false) else (cupolaref10_fine.l1 k n (i : Int) (wrap64 ((j : Int) + 1)) t0 t1 t2 t3 t4 a5 a6 a7 a8 a9 a10 a11 a12 a13 a14 a15))) b := by
   intro f3 h
   subst h
   cases b3 with
   | true => exact ⟨false, Ev.bind e3 (pos rfl (Ev.now _))⟩
   | false => exact ⟨b, Ev.bind e3 (neg (by decide) hb)⟩
  obtain ⟨v3, hv3⟩ := c3 b3 rfl
  have c2 : ∃ b, Ev (fun k => (cupolaref10_bit.f k (rd t2 (i : Int)) (j : Int)).bind fun t106 => (if t106 = true then (some false) else (if (i : Int) < (t3.length : Int) then ((cupolaref10_bit.f k (rd t3 (i : Int)) (j : Int)).bind fun t108 => (if t108 = true then (some false) else (cupolaref10_fine.l1 k n (i : Int) (wrap64 ((j : Int) + 1)) t0 t1 t2 t3 t4 a5 a6 a7 a8 a9 a10 a11 a12 a13 a14 a15))) else (none)))) b := by
   cases b2 with
   | true => exact ⟨false, Ev.bind e2 (pos rfl (Ev.now _))⟩
   | false => exact ⟨v3, Ev.bind e2 (neg (by decide) (pos (by omega) hv3))⟩
  obtain ⟨v2, hv2⟩ := c2
  cases b1 with
  | true =>
   refine ⟨false, Ev.step (fun k => by rw [cupolaref10_fine.l1]) ?_⟩
   exact pos (by omega) (pos (by omega) (pos (by omega) (Ev.bind e1 (pos rfl (Ev.now _)))))
  | false =>
   refine ⟨v2, Ev.step (fun k => by rw [cupolaref10_fine.l1]) ?_⟩
   exact pos (by omega) (pos (by omega) (pos (by omega) (Ev.bind e1 (neg (by decide) (pos (by omega) hv2)))))
theorem fine_l0 (n : Nat) (hn : n ≤ 8) (h1 : n = t1.length) (h2 : n = t2.length) (h3 : n = t3.length) (h4 : n = t4.length) : ∀ m i : Nat, i + m = n →
  ∃ b, Ev (fun k => cupolaref10_fine.l0 k (n : Int) (i : Int) t0 t1 t2 t3 t4 a5 a6 a7 a8 a9 a10 a11 a12 a13 a14 a15) b := by
 intro m
 induction m with
 | zero =>
  intro i hi
  exact ⟨true, Ev.step (fun k => by rw [cupolaref10_fine.l0]) (neg (by omega) (Ev.now _))⟩
 | succ m ih =>
  intro i hi
  have next := ih (i + 1) (by omega)
  have hw : ((i + 1 : Nat) : Int) = wrap64 ((i : Int) + 1) := by rw [IntWalk.wrap64_in _ (by omega)]; omega
  rw [hw] at next
  clear hw
  obtain ⟨b, hb⟩ := fine_l1 t0 t1 t2 t3 t4 a5 a6 a7 a8 a9 a10 a11 a12 a13 a14 a15 i (by omega) (by omega) (by omega) (by omega) (n : Int) next (32 - i) i (by omega)
  exact ⟨b, Ev.step (fun k => by rw [cupolaref10_fine.l0]) (pos (by omega) hb)⟩
theorem fine_ex (h0 : t0.length ≤ 8) : ∃ b, Ev (fun k => cupolaref10_fine.f k t0 t1 t2 t3 t4 a5 a6 a7 a8 a9 a10 a11 a12 a13 a14 a15) b ∧ (b = true → t1.length = t0.length ∧ t2.length = t0.length ∧ t3.length = t0.length ∧ t4.length = t0.length) := by
 have none_ : Ev (fun k => cupolaref10_fine.j0 k (t0.length : Int) true t0 t1 t2 t3 t4 a5 a6 a7 a8 a9 a10 a11 a12 a13 a14 a15) false := Ev.step (fun k => by rw [cupolaref10_fine.j0]) (pos rfl (Ev.now _))
 unfold cupolaref10_fine.f
 by_cases h1 : (t1.length : Int) = (t0.length : Int)
 ·by_cases h2 : (t2.length : Int) = (t0.length : Int)
  ·by_cases h3 : (t3.length : Int) = (t0.length : Int)
   ·by_cases h4 : (t4.length : Int) = (t0.length : Int)
    ·obtain ⟨b, hb⟩ := fine_l0 t0 t1 t2 t3 t4 a5 a6 a7 a8 a9 a10 a11 a12 a13 a14 a15 t0.length h0 (by omega) (by omega) (by omega) (by omega) t0.length 0 (by omega)
     refine ⟨b, pos h1 (pos h2 (pos h3 ?_)), fun _ => ⟨by omega, by omega, by omega, by omega⟩⟩
     rw [show ((t4.length : Int) != (t0.length : Int)) = false from bne_eq_false_iff_eq.mpr h4]
     refine Ev.step (fun k => by rw [cupolaref10_fine.j0]) ?_
     exact neg (by decide) hb
    ·refine ⟨false, pos h1 (pos h2 (pos h3 ?_)), fun h => absurd h (by decide)⟩
     rw [show ((t4.length : Int) != (t0.length : Int)) = true from bne_iff_ne.mpr h4]
     exact none_
   ·exact ⟨false, pos h1 (pos h2 (neg h3 none_)), fun h => absurd h (by decide)⟩
  ·exact ⟨false, pos h1 (neg h2 none_), fun h => absurd h (by decide)⟩
 ·exact ⟨false, neg h1 none_, fun h => absurd h (by decide)⟩
end
theorem wrN (a b : Nat) (h : a + b < 1000000) : wrap64 ((a : Int) + (b : Int)) = ((a + b : Nat) : Int) := by rw [IntWalk.wrap64_in _ (by omega)]; omega
def thr (ev : List S26) (i : Nat) : Option Int := (ev[i]?).map S26.f0
abbrev Res := List S26 × List Int × List Int × List Int × List Int × List Int × List (List Int) × Int
def Joined (res : Res) : Prop := res.2.2.2.2.2.2.2 = 0 → ∃ (n : Nat) (P A D C W : Nat → Nat → Bool), n ≤ 24 ∧ res.1.length = n ∧ res.2.1 = ofM n P ∧ res.2.2.1 = ofM n A ∧ res.2.2.2.1 = ofM n D ∧ res.2.2.2.2.1 = ofM n C ∧ res.2.2.2.2.2.1 = ofM n W ∧
 (∀ i k, P i k = true → i < k) ∧ (∀ i j k, P i j = true → P j k = true → P i k = true) ∧ (∀ i k, A i k = true → P i k = true) ∧ (∀ i k, D i k = true → P i k = true) ∧ (∀ i k, C i k = true → P i k = true) ∧ (∀ i k, W i k = true → P i k = true)
structure InvP (ev : List S26) (po addr data ctrl rmw : List S46) : Prop where
 i1 : ∀ p ∈ po, ∃ i k : Nat, p = ⟨(i : Int), (k : Int)⟩ ∧ i < k ∧ k < ev.length ∧ thr ev i = thr ev k
 sa : ∀ p ∈ addr, p ∈ po
 sd : ∀ p ∈ data, p ∈ po
 sc : ∀ p ∈ ctrl, p ∈ po
 sw : ∀ p ∈ rmw, p ∈ po
 la : addr.length ≤ po.length
 ld : data.length ≤ po.length
 lc : ctrl.length ≤ po.length
 lw : rmw.length ≤ po.length
def covers (ev : List S26) (po : List S46) (m : Nat) : Prop := ∀ i k : Nat, i < k → k < m → thr ev i = thr ev k → (⟨(i : Int), (k : Int)⟩ : S46) ∈ po
def block (ev : List S26) (s : Nat) (tid : Int) : Prop := ∀ i : Nat, i < ev.length → (s ≤ i → thr ev i = some tid) ∧ (i < s → ∃ c, thr ev i = some c ∧ c < tid)
theorem thr_app (ev : List S26) (x : S26) (i : Nat) (h : i < ev.length) : thr (ev ++ [x]) i = thr ev i := by unfold thr; rw [List.getElem?_append_left h]
theorem thr_last (ev : List S26) (x : S26) : thr (ev ++ [x]) ev.length = some x.f0 := by unfold thr; simp
section
variable (l : List S117) (N : Nat) (hN : N ≤ 24) (tid : Int) (regs : List (List Int)) (t0 : List S26) (t1 t2 t3 t4 : List Int) (a5 a6 a7 a8 a9 a10 a11 a12 a13 a14 a15 : Int)
include hN
theorem join_l4 (ev : List S26) (s q : Nat) (hK : ev.length = s + q + 1) (hKN : s + q + 1 ≤ N) (hb : block ev s tid) (h1 : q < t1.length) (h2 : q < t2.length) (h3 : q < t3.length) (h4 : q < t4.length)
  (next : ∀ po addr data ctrl rmw, InvP ev po addr data ctrl rmw → covers ev po ev.length → po.length ≤ 24 * ev.length → ∃ res, Ev (fun k => cupolaref10_Join.l3 k l (N : Int) po addr data ctrl rmw tid (s : Int) (wrap64 ((q : Int) + 1)) ev regs t0 t1 t2 t3 t4 a5 a6 a7 a8 a9 a10 a11 a12 a13 a14 a15) res ∧ Joined res) : ∀ d j : Nat, j + d = q → ∀ po addr data ctrl rmw, InvP ev po addr data ctrl rmw → covers ev po (s + q) → (∀ i, s ≤ i → i < s + j → (⟨(i : Int), ((s + q : Nat) : Int)⟩ : S46) ∈ po) → po.length ≤ 24 * (s + q) + j →
  ∃ res, Ev (fun k => cupolaref10_Join.l4 k l (N : Int) po addr data ctrl rmw tid (s : Int) (q : Int) (j : Int) ev regs t0 t1 t2 t3 t4 a5 a6 a7 a8 a9 a10 a11 a12 a13 a14 a15) res ∧ Joined res := by
 intro d
 induction d with
 | zero =>
  intro j hj po addr data ctrl rmw hI hc hr hl
  obtain rfl : j = q := by omega
  obtain ⟨res, h, hg⟩ := next po addr data ctrl rmw hI (fun i k hik hk ht => by
   by_cases e : k = s + j
   ·subst e
    refine hr i ?_ (by omega)
    by_cases h : s ≤ i
    ·exact h
    ·obtain ⟨c, e1, e2⟩ := (hb i (by omega)).2 (by omega)
     rw [e1, (hb (s + j) (by omega)).1 (by omega)] at ht
     have := Option.some.inj ht
     omega
   ·exact hc i k hik (by omega) ht) (by omega)
  exact ⟨res, Ev.step (fun k => by rw [cupolaref10_Join.l4]) (neg (by omega) h), hg⟩
 | succ d ih =>
  intro j hj po addr data ctrl rmw hI hc hr hl
  have hpl : po.length < 8796093022208 := by omega
  have hal := hI.la; have hdl := hI.ld; have hcl := hI.lc; have hwl := hI.lw
  have hjq : j < q := by omega
  have hlen : (po ++ [(⟨((s + j : Nat) : Int), ((s + q : Nat) : Int)⟩ : S46)]).length = po.length + 1 := by rw [List.length_append, List.length_singleton]
  have hnew : (⟨((s + j : Nat) : Int), ((s + q : Nat) : Int)⟩ : S46) ∈ po ++ [(⟨((s + j : Nat) : Int), ((s + q : Nat) : Int)⟩ : S46)] := List.mem_append.2 (.inr (List.mem_singleton.2 rfl))
  have hold : ∀ p ∈ po, p ∈ po ++ [(⟨((s + j : Nat) : Int), ((s + q : Nat) : Int)⟩ : S46)] := fun p hp => List.mem_append.2 (.inl hp)
  have hi1 : ∀ p ∈ po ++ [(⟨((s + j : Nat) : Int), ((s + q : Nat) : Int)⟩ : S46)], ∃ i k : Nat, p = ⟨(i : Int), (k : Int)⟩ ∧ i < k ∧ k < ev.length ∧ thr ev i = thr ev k := by
   intro p hp
   rcases List.mem_append.1 hp with hp | hp
   ·exact hI.i1 p hp
   ·rw [List.mem_singleton] at hp
    exact ⟨s + j, s + q, hp, Nat.add_lt_add_left hjq s, by rw [hK]; exact Nat.lt_succ_self _, by rw [(hb (s + j) (by rw [hK]; exact Nat.lt_succ_of_lt (Nat.add_lt_add_left hjq s))).1 (Nat.le_add_right _ _), (hb (s + q) (by rw [hK]; exact Nat.lt_succ_self _)).1 (Nat.le_add_right _ _)]⟩
  have hc' : covers ev (po ++ [(⟨((s + j : Nat) : Int), ((s + q : Nat) : Int)⟩ : S46)]) (s + q) := fun i k h5 h6 h7 => hold _ (hc i k h5 h6 h7)
  have hr' : ∀ i, s ≤ i → i < s + (j + 1) → (⟨(i : Int), ((s + q : Nat) : Int)⟩ : S46) ∈ po ++ [(⟨((s + j : Nat) : Int), ((s + q : Nat) : Int)⟩ : S46)] := by
   intro i h5 h6
   by_cases e : i = s + j
   ·subst e; exact hnew
   ·exact hold _ (hr i h5 (by omega))
  have hl' : (po ++ [(⟨((s + j : Nat) : Int), ((s + q : Nat) : Int)⟩ : S46)]).length ≤ 24 * (s + q) + (j + 1) := by rw [hlen]; omega
  -- a list that is among po, with the new pair or without
  have grow : ∀ a : List S46, (∀ p ∈ a, p ∈ po) → a.length ≤ po.length → ((∀ p ∈ a ++ [(⟨((s + j : Nat) : Int), ((s + q : Nat) : Int)⟩ : S46)], p ∈ po ++ [(⟨((s + j : Nat) : Int), ((s + q : Nat) : Int)⟩ : S46)]) ∧ (a ++ [(⟨((s + j : Nat) : Int), ((s + q : Nat) : Int)⟩ : S46)]).length ≤ (po ++ [(⟨((s + j : Nat) : Int), ((s + q : Nat) : Int)⟩ : S46)]).length) ∧ ((∀ p ∈ a, p ∈ po ++ [(⟨((s + j : Nat) : Int), ((s + q : Nat) : Int)⟩ : S46)]) ∧ a.length ≤ (po ++ [(⟨((s + j : Nat) : Int), ((s + q : Nat) : Int)⟩ : S46)]).length) ∧ a.length < 8796093022208 := by
   intro a ha hal
   refine ⟨⟨fun p hp => ?_, ?_⟩, ⟨fun p hp => hold p (ha p hp), ?_⟩, ?_⟩
   ·rcases List.mem_append.1 hp with hp | hp
    ·exact hold p (ha p hp)
    ·rw [List.mem_singleton] at hp; rw [hp]; exact hnew
   ·rw [hlen, List.length_append, List.length_singleton]; omega
   ·rw [hlen]; omega
   ·omega
  have gA := grow addr hI.sa hal
  have gD := grow data hI.sd hdl
  have gC := grow ctrl hI.sc hcl
  have gW := grow rmw hI.sw hwl
  clear grow
  generalize hpo : po ++ [(⟨((s + j : Nat) : Int), ((s + q : Nat) : Int)⟩ : S46)] = po' at *
  have c4 : ∀ addr' data' ctrl' rmw' : List S46, ((∀ p ∈ addr', p ∈ po') ∧ addr'.length ≤ po'.length) → ((∀ p ∈ data', p ∈ po') ∧ data'.length ≤ po'.length) → ((∀ p ∈ ctrl', p ∈ po') ∧ ctrl'.length ≤ po'.length) → ((∀ p ∈ rmw', p ∈ po') ∧ rmw'.length ≤ po'.length) →
    ∃ res, Ev (fun k => cupolaref10_Join.l4 k l (N : Int) po' addr' data' ctrl' rmw' tid (s : Int) (q : Int) (wrap64 ((j : Int) + 1)) ev regs t0 t1 t2 t3 t4 a5 a6 a7 a8 a9 a10 a11 a12 a13 a14 a15) res ∧ Joined res := by
   intro addr' data' ctrl' rmw' ha hd hc3 hw3
   rw [show wrap64 ((j : Int) + 1) = ((j + 1 : Nat) : Int) from wrN j 1 (by omega)]
   exact ih (j + 1) (by omega) po' addr' data' ctrl' rmw' ⟨hi1, ha.1, hd.1, hc3.1, hw3.1, ha.2, hd.2, hc3.2, hw3.2⟩ hc' hr' hl'
  clear ih
  have h0q : (0 : Int) ≤ (q : Int) := by omega
  have h1q : (q : Int) < (t1.length : Int) := by omega
  have h2q : (q : Int) < (t2.length : Int) := by omega
  have h3q : (q : Int) < (t3.length : Int) := by omega
  have h4q : (q : Int) < (t4.length : Int) := by omega
  have hjqI : (j : Int) < (q : Int) := by omega
  obtain ⟨b1, e1⟩ := bitf_ex (rd t1 (q : Int)) j (by omega)
  obtain ⟨b2, e2⟩ := bitf_ex (rd t2 (q : Int)) j (by omega)
  obtain ⟨b3, e3⟩ := bitf_ex (rd t3 (q : Int)) j (by omega)
  have c6 : ∀ addr' data' : List S46, ((∀ p ∈ addr', p ∈ po') ∧ addr'.length ≤ po'.length) → ((∀ p ∈ data', p ∈ po') ∧ data'.length ≤ po'.length) →
    ∃ res, Ev (fun k => cupolaref10_Join.j6 k l (N : Int) po' addr' data' ctrl rmw tid (s : Int) (q : Int) (j : Int) ev regs t0 t1 t2 t3 t4 a5 a6 a7 a8 a9 a10 a11 a12 a13 a14 a15 ((s + j : Nat) : Int) ((s + q : Nat) : Int)) res ∧ Joined res := by
   intro addr' data' ha hd
   cases b3 with
   | true =>
    by_cases h : rd t4 (q : Int) = (j : Int)
    ·obtain ⟨res, hv, hg⟩ := c4 addr' data' _ _ ha hd gC.1 gW.1
     refine ⟨res, Ev.step (fun k => by rw [cupolaref10_Join.j6]) ?_, hg⟩
     exact pos h0q (pos h3q (Ev.bind e3 (pos rfl (pos gC.2.2 (bindv rfl (pos h4q (pos h (pos gW.2.2 hv))))))))
    ·obtain ⟨res, hv, hg⟩ := c4 addr' data' _ _ ha hd gC.1 gW.2.1
     refine ⟨res, Ev.step (fun k => by rw [cupolaref10_Join.j6]) ?_, hg⟩
     exact pos h0q (pos h3q (Ev.bind e3 (pos rfl (pos gC.2.2 (bindv rfl (pos h4q (neg h hv)))))))
   | false =>
    by_cases h : rd t4 (q : Int) = (j : Int)
    ·obtain ⟨res, hv, hg⟩ := c4 addr' data' _ _ ha hd gC.2.1 gW.1
     refine ⟨res, Ev.step (fun k => by rw [cupolaref10_Join.j6]) ?_, hg⟩
     exact pos h0q (pos h3q (Ev.bind e3 (neg (by decide) (pos h4q (pos h (pos gW.2.2 hv))))))
    ·obtain ⟨res, hv, hg⟩ := c4 addr' data' _ _ ha hd gC.2.1 gW.2.1
     refine ⟨res, Ev.step (fun k => by rw [cupolaref10_Join.j6]) ?_, hg⟩
     exact pos h0q (pos h3q (Ev.bind e3 (neg (by decide) (pos h4q (neg h hv)))))
  have c5 : ∀ addr' : List S46, ((∀ p ∈ addr', p ∈ po') ∧ addr'.length ≤ po'.length) →
    ∃ res, Ev (fun k => cupolaref10_Join.j5 k l (N : Int) po' addr' data ctrl rmw tid (s : Int) (q : Int) (j : Int) ev regs t0 t1 t2 t3 t4 a5 a6 a7 a8 a9 a10 a11 a12 a13 a14 a15 ((s + j : Nat) : Int) ((s + q : Nat) : Int)) res ∧ Joined res := by
   intro addr' ha
   cases b2 with
   | true =>
    obtain ⟨res, hv, hg⟩ := c6 addr' _ ha gD.1
    refine ⟨res, Ev.step (fun k => by rw [cupolaref10_Join.j5]) ?_, hg⟩
    exact pos h0q (pos h2q (Ev.bind e2 (pos rfl (pos gD.2.2 hv))))
   | false =>
    obtain ⟨res, hv, hg⟩ := c6 addr' _ ha gD.2.1
    refine ⟨res, Ev.step (fun k => by rw [cupolaref10_Join.j5]) ?_, hg⟩
    exact pos h0q (pos h2q (Ev.bind e2 (neg (by decide) hv)))
  cases b1 with
  | true =>
   obtain ⟨res, hv, hg⟩ := c5 _ gA.1
   refine ⟨res, Ev.step (fun k => by rw [cupolaref10_Join.l4]) ?_, hg⟩
   rw [wrN s j (by omega), wrN s q (by omega), hpo]
   exact pos hjqI (pos hpl (bindv rfl (pos h0q (pos h1q (Ev.bind e1 (pos rfl (pos gA.2.2 hv)))))))
  | false =>
   obtain ⟨res, hv, hg⟩ := c5 _ gA.2.1
   refine ⟨res, Ev.step (fun k => by rw [cupolaref10_Join.l4]) ?_, hg⟩
   rw [wrN s j (by omega), wrN s q (by omega), hpo]
   exact pos hjqI (pos hpl (bindv rfl (pos h0q (pos h1q (Ev.bind e1 (neg (by decide) hv))))))
theorem join_l3 (s : Nat) (hs : s + t0.length ≤ N) (e1 : t1.length = t0.length) (e2 : t2.length = t0.length) (e3 : t3.length = t0.length) (e4 : t4.length = t0.length) (hreg : regs.length < 1000)
  (next : ∀ ev po addr data ctrl rmw, ev.length = s + t0.length → InvP ev po addr data ctrl rmw → covers ev po ev.length → po.length ≤ 24 * ev.length → block ev s tid → ∃ res, Ev (fun k => cupolaref10_Join.l2 k l (N : Int) po addr data ctrl rmw (wrap64 (tid + 1)) ev (regs ++ [[a5, a6, a7, a8]])) res ∧ Joined res) : ∀ d q : Nat, q + d = t0.length → ∀ ev po addr data ctrl rmw, ev.length = s + q → InvP ev po addr data ctrl rmw → covers ev po ev.length → po.length ≤ 24 * ev.length → block ev s tid →
  ∃ res, Ev (fun k => cupolaref10_Join.l3 k l (N : Int) po addr data ctrl rmw tid (s : Int) (q : Int) ev regs t0 t1 t2 t3 t4 a5 a6 a7 a8 a9 a10 a11 a12 a13 a14 a15) res ∧ Joined res := by
 intro d
 induction d with
 | zero =>
  intro q hq ev po addr data ctrl rmw hev hI hc hp hb
  obtain ⟨res, h, hg⟩ := next ev po addr data ctrl rmw (by omega) hI hc hp hb
  refine ⟨res, Ev.step (fun k => by rw [cupolaref10_Join.l3]) ?_, hg⟩
  exact neg (by omega) (pos (by omega) h)
 | succ d ih =>
  intro q hq ev po addr data ctrl rmw hev hI hc hp hb
  have ap : ∀ x : S26, x.f0 = tid → ∃ res, Ev (fun k => cupolaref10_Join.l4 k l (N : Int) po addr data ctrl rmw tid (s : Int) (q : Int) 0 (ev ++ [x]) regs t0 t1 t2 t3 t4 a5 a6 a7 a8 a9 a10 a11 a12 a13 a14 a15) res ∧ Joined res := by
   intro x hx
   have hlen : (ev ++ [x]).length = ev.length + 1 := by rw [List.length_append, List.length_singleton]
   have hb' : block (ev ++ [x]) s tid := by
    intro i hi
    by_cases h : i < ev.length
    ·rw [thr_app ev x i h]; exact hb i h
    ·obtain rfl : i = ev.length := by omega
     rw [thr_last, hx]
     exact ⟨fun _ => rfl, fun h => by omega⟩
   have hI' : InvP (ev ++ [x]) po addr data ctrl rmw := by
    refine ⟨fun p hp => ?_, hI.sa, hI.sd, hI.sc, hI.sw, hI.la, hI.ld, hI.lc, hI.lw⟩
    obtain ⟨i, k, rfl, hik, hk, ht⟩ := hI.i1 p hp
    exact ⟨i, k, rfl, hik, by omega, by rw [thr_app ev x i (by omega), thr_app ev x k hk]; exact ht⟩
   refine join_l4 l N hN tid regs t0 t1 t2 t3 t4 a5 a6 a7 a8 a9 a10 a11 a12 a13 a14 a15 (ev ++ [x]) s q (by omega) (by omega) hb' (by omega) (by omega) (by omega) (by omega) (fun po' addr' data' ctrl' rmw' h1 h2 h3 => ?_) q 0 (by omega) po addr data ctrl rmw hI' (fun i k hik hk ht => ?_) (fun i _ h => by omega) (by omega)
   ·rw [show wrap64 ((q : Int) + 1) = ((q + 1 : Nat) : Int) from wrN q 1 (by omega)]
    exact ih (q + 1) (by omega) (ev ++ [x]) po' addr' data' ctrl' rmw' (by omega) h1 h2 h3 hb'
   ·rw [thr_app ev x i (by omega), thr_app ev x k (by omega)] at ht
    exact hc i k hik (by omega) ht
  obtain ⟨res, h, hg⟩ := ap ⟨tid, (rd_T26 t0 (q : Int)).f1, (rd_T26 t0 (q : Int)).f2, (rd_T26 t0 (q : Int)).f3, (rd_T26 t0 (q : Int)).f4, (rd_T26 t0 (q : Int)).f5, (rd_T26 t0 (q : Int)).f6⟩ rfl
  refine ⟨res, Ev.step (fun k => by rw [cupolaref10_Join.l3]) ?_, hg⟩
  exact pos (by omega) (pos (by omega) (pos (by omega) h))
end
def sumL : List S117 → Nat
 | [] => 0
 | t :: ts => t.f0.length + sumL ts
theorem rd117 (l : List S117) (i : Nat) (h : i < l.length) : rd_T117 l (i : Int) = l[i] := by simp [rd_T117, List.getD_eq_getElem?_getD, List.getElem?_eq_getElem h]
theorem memJ {ps : List S46} {a b : Nat} : memP ps a b = true ↔ (⟨(a : Int), (b : Int)⟩ : S46) ∈ ps := by
 unfold memP
 rw [List.any_eq_true]
 constructor
 ·rintro ⟨⟨x, y⟩, hp, h⟩
  rw [Bool.and_eq_true] at h
  have h1 := of_decide_eq_true h.1
  have h2 := of_decide_eq_true h.2
  simp only at h1 h2
  rw [← h1, ← h2]
  exact hp
 ·intro h
  exact ⟨_, h, by simp⟩
def fineT (t : S117) : Prop := t.f1.length = t.f0.length ∧ t.f2.length = t.f0.length ∧ t.f3.length = t.f0.length ∧ t.f4.length = t.f0.length
theorem join_l2 (l : List S117) (hl : l.length ≤ 100) (hf : ∀ t ∈ l, fineT t) (N : Nat) (hN : N ≤ 24) : ∀ d c : Nat, c + d = l.length → ∀ ev po addr data ctrl rmw, ∀ regs : List (List Int), ev.length + sumL (l.drop c) = N → regs.length = c → InvP ev po addr data ctrl rmw → covers ev po ev.length → po.length ≤ 24 * ev.length → (∀ i, i < ev.length → ∃ x, thr ev i = some x ∧ x < (c : Int)) →
  ∃ res, Ev (fun k => cupolaref10_Join.l2 k l (N : Int) po addr data ctrl rmw (c : Int) ev regs) res ∧ Joined res := by
 intro d
 induction d with
 | zero =>
  intro c hc ev po addr data ctrl rmw regs hs hreg hI hcov hp hb
  rw [List.drop_of_length_le (by omega)] at hs
  have hs : ev.length = N := hs
  have hinR : inR N po := fun p hp => by
   obtain ⟨i, k, e, h1, h2, _⟩ := hI.i1 p hp
   exact ⟨i, k, by omega, by omega, e⟩
  have la := hI.la; have ld := hI.ld; have lc := hI.lc; have lw := hI.lw
  refine ⟨(ev, ofM N (memP po), ofM N (memP addr), ofM N (memP data), ofM N (memP ctrl), ofM N (memP rmw), regs, 0), ?_, ?_⟩
  ·refine Ev.step (fun k => by rw [cupolaref10_Join.l2]) ?_
   refine neg (by omega) ?_
   refine Ev.bind (rmade_ev N (by omega) po (by omega) hinR) ?_
   refine Ev.bind (rmade_ev N (by omega) addr (by omega) fun p h => hinR p (hI.sa p h)) ?_
   refine Ev.bind (rmade_ev N (by omega) data (by omega) fun p h => hinR p (hI.sd p h)) ?_
   refine Ev.bind (rmade_ev N (by omega) ctrl (by omega) fun p h => hinR p (hI.sc p h)) ?_
   refine Ev.bind (rmade_ev N (by omega) rmw (by omega) fun p h => hinR p (hI.sw p h)) ?_
   exact Ev.now _
  intro _
  have key : ∀ i k : Nat, memP po i k = true → i < k ∧ k < ev.length ∧ thr ev i = thr ev k := by
   intro i k h
   obtain ⟨i', k', e, h1, h2, h3⟩ := hI.i1 _ (memJ.1 h)
   injection e with e1 e2
   obtain rfl : i = i' := by omega
   obtain rfl : k = k' := by omega
   exact ⟨h1, h2, h3⟩
  refine ⟨N, memP po, memP addr, memP data, memP ctrl, memP rmw, hN, hs, rfl, rfl, rfl, rfl, rfl, fun i k h => (key i k h).1, fun i j k h1 h2 => ?_, fun i k h => memJ.2 (hI.sa _ (memJ.1 h)), fun i k h => memJ.2 (hI.sd _ (memJ.1 h)), fun i k h => memJ.2 (hI.sc _ (memJ.1 h)), fun i k h => memJ.2 (hI.sw _ (memJ.1 h))⟩
  have k1 := key i j h1
  have k2 := key j k h2
  exact memJ.2 (hcov i k (by omega) k2.2.1 (k1.2.2.trans k2.2.2))
 | succ d ih =>
  intro c hc ev po addr data ctrl rmw regs hs hreg hI hcov hp hb
  have hlt : c < l.length := by omega
  rw [List.drop_eq_getElem_cons hlt] at hs
  have hs : ev.length + (l[c].f0.length + sumL (l.drop (c + 1))) = N := hs
  obtain ⟨f1, f2, f3, f4⟩ := hf _ (List.getElem_mem hlt)
  have e := rd117 l c hlt
  generalize l[c] = t at *
  obtain ⟨res, h, hg⟩ := join_l3 l N hN (c : Int) regs t.f0 t.f1 t.f2 t.f3 t.f4 t.f5.f0.f0 t.f5.f0.f1 t.f5.f0.f2 t.f5.f0.f3 t.f5.f1.f0 t.f5.f1.f1 t.f5.f1.f2 t.f5.f1.f3 t.f6 t.f7 t.f8 ev.length (by omega) f1 f2 f3 f4 (by omega) (fun ev' po' addr' data' ctrl' rmw' hev' hI' hc' hp' hb' => by
   rw [show wrap64 ((c : Int) + 1) = ((c + 1 : Nat) : Int) from wrN c 1 (by omega)]
   refine ih (c + 1) (by omega) ev' po' addr' data' ctrl' rmw' _ (by omega) (by rw [List.length_append, List.length_singleton]; omega) hI' hc' hp' (fun i hi => ?_)
   by_cases h : ev.length ≤ i
   ·exact ⟨_, (hb' i hi).1 h, by omega⟩
   ·obtain ⟨x, e1, e2⟩ := (hb' i hi).2 (by omega)
    exact ⟨x, e1, by omega⟩) t.f0.length 0 (by omega) ev po addr data ctrl rmw rfl hI hcov hp (fun i hi => ⟨fun h => by omega, fun _ => hb i hi⟩)
  refine ⟨res, Ev.step (fun k => by rw [cupolaref10_Join.l2]) ?_, hg⟩
  rw [e]
  exact pos (by omega) (pos (by omega) h)
theorem join_l1 (l : List S117) (hl : l.length ≤ 100) (h8 : ∀ t ∈ l, t.f0.length ≤ 8) (N : Nat) (hN : N ≤ 24) (hs : sumL l = N) : ∀ d c : Nat, c + d = l.length → (∀ i (h : i < l.length), i < c → fineT l[i]) →
  ∃ res, Ev (fun k => cupolaref10_Join.l1 k l (N : Int) (c : Int)) res ∧ Joined res := by
 intro d
 induction d with
 | zero =>
  intro c hc hf
  obtain ⟨res, h, hg⟩ := join_l2 l hl (fun t ht => by
   obtain ⟨i, hi, rfl⟩ := List.getElem_of_mem ht
   exact hf i hi (by omega)) N hN l.length 0 (by omega) [] [] [] [] [] [] [] (by rw [List.drop_zero, hs]; simp) rfl ⟨by simp, by simp, by simp, by simp, by simp, by simp, by simp, by simp, by simp⟩ (fun i k _ h => by simp at h) (by simp) (fun i h => by simp at h)
  refine ⟨res, Ev.step (fun k => by rw [cupolaref10_Join.l1]) ?_, hg⟩
  exact neg (by omega) h
 | succ d ih =>
  intro c hc hf
  have hlt : c < l.length := by omega
  have e := rd117 l c hlt
  obtain ⟨b, hb, hbt⟩ := fine_ex l[c].f0 l[c].f1 l[c].f2 l[c].f3 l[c].f4 l[c].f5.f0.f0 l[c].f5.f0.f1 l[c].f5.f0.f2 l[c].f5.f0.f3 l[c].f5.f1.f0 l[c].f5.f1.f1 l[c].f5.f1.f2 l[c].f5.f1.f3 l[c].f6 l[c].f7 l[c].f8 (h8 _ (List.getElem_mem hlt))
  cases b with
  | true =>
   obtain ⟨res, h, hg⟩ := ih (c + 1) (by omega) (fun i hi hic => by
    by_cases hx : i = c
    ·subst hx; exact hbt rfl
    ·exact hf i hi (by omega))
   refine ⟨res, Ev.step (fun k => by rw [cupolaref10_Join.l1]) ?_, hg⟩
   rw [e, show wrap64 ((c : Int) + 1) = ((c + 1 : Nat) : Int) from wrN c 1 (by omega)]
   exact pos (by omega) (pos (by omega) (Ev.bind hb (pos rfl h)))
  | false =>
   refine ⟨([], [], [], [], [], [], [], 2), Ev.step (fun k => by rw [cupolaref10_Join.l1]) ?_, ?_⟩
   ·rw [e]
    exact pos (by omega) (pos (by omega) (Ev.bind hb (neg (by decide) (Ev.now _))))
   ·intro h; exact absurd h (by decide)
theorem join_ex (l : List S117) (hl : l.length ≤ 3) (h8 : ∀ t ∈ l, t.f0.length ≤ 8) : ∃ res, Ev (fun k => cupolaref10_Join.f k l) res ∧ Joined res := by
 have hsum : ∀ m : List S117, (∀ t ∈ m, t.f0.length ≤ 8) → sumL m ≤ m.length * 8 := by
  intro m
  induction m with
  | nil => intro _; simp [sumL]
  | cons t ts ih =>
   intro h
   have h1 := h t (by simp)
   have h2 := ih (fun u hu => h u (by simp [hu]))
   rw [sumL, List.length_cons]
   omega
 have h24 := hsum l h8
 obtain ⟨res, h, hg⟩ := join_l1 l (by omega) h8 (sumL l) (by omega) rfl l.length 0 (by omega) (fun i _ h => by omega)
 have loop : ∀ d c : Nat, c + d = l.length → ∀ x : Nat, x + sumL (l.drop c) = sumL l → Ev (fun k => cupolaref10_Join.l0 k l (x : Int) (c : Int)) res := by
  intro d
  induction d with
  | zero =>
   intro c hc x hx
   rw [List.drop_of_length_le (by omega)] at hx
   have hx : x = sumL l := hx
   subst hx
   refine Ev.step (fun k => by rw [cupolaref10_Join.l0]) ?_
   exact neg (by omega) (neg (by omega) h)
  | succ d ih =>
   intro c hc x hx
   have hlt : c < l.length := by omega
   rw [List.drop_eq_getElem_cons hlt] at hx
   have hx : x + (l[c].f0.length + sumL (l.drop (c + 1))) = sumL l := hx
   have e := rd117 l c hlt
   refine Ev.step (fun k => by rw [cupolaref10_Join.l0]) ?_
   rw [e, show wrap64 ((c : Int) + 1) = ((c + 1 : Nat) : Int) from wrN c 1 (by omega), wrN x l[c].f0.length (by omega)]
   exact pos (by omega) (pos (by omega) (ih (c + 1) (by omega) _ (by omega)))
 exact ⟨res, loop l.length 0 (by omega) 0 (by rw [List.drop_zero]; omega), hg⟩
end Go.Proofs.Ytbamkkdikeedoaa.Joi
