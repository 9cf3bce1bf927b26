/- By hand: source.All and its closure that holds itself. -/
import Derived.Test.YtbamkkdikeedoaaG0
namespace Go.Proofs.Ytbamkkdikeedoaa.G
open Go.RowKit Go.Proofs.YtbamkkdikeedoaaW.PrintWords Go.Proofs.YtbamkkdikeedoaaW.PrintLast Go.Proofs.YtbamkkdikeedoaaW.PrintMore
attribute [local go_sem] max2_int min2_int max_two min_two max_three min_three max_four min_four   -- for this text's walks alone
set_option linter.unusedVariables false
set_option linter.unusedSimpArgs false

/-- What the closure tells: all ways on from these. -/
def tellT : List (List Int) → List Int → List (List Int)
  | [], from_ => [from_]
  | l :: cs, from_ => l.flatMap fun n => tellT cs (from_ ++ [n])

section
variable {P : Program} {ops : Array Oper} {Q : Exit → Act → World → Prop}
end

section
variable {P : Program} {ops : Array Oper} {Q : Exit → Act → World → Prop}
/-- A call of a function value inside a region that draws, by its contract. -/
theorem goesT_ {oi : Oper} {N : Option Tmp} {a : Act} {w : World} {K : Act → World → Prop} {f : FuncId} {fn : Func} {x : Operand} {cap : Array Value} {xs : Array Operand} {ts : Array TypeId} (hf : P.funcs[f]? = some fn) (hname : (fn.name == "runtime.NumGoroutine") = false) (hb : fn.body.isSome = true) (args : Array Value)
    (hw : Region.wanted oi (yielded ops a.tmps) = true) (hN : oi.dst = N) (hop : oi.op = .call { callee := .value x, args := xs, argTypes := ts }) (hx : a.eval x = .func (.func f) #[] cap) (hargs : xs.map a.eval = args)
    (h : Calls P f (args ++ cap) w fun e w' => ∃ v, e = .returned v ∧ K (a.put N v) w') : if Region.wanted oi (yielded ops a.tmps) = true then Oper.wp P oi a w K Q else K (a.put N undef) w := by
  refine call_ f (args ++ cap) hw hN ?_ h
  have he := enters_ hf hname hb (args ++ cap) w
  unfold execOp
  simp [hop, resolve, Deferred.ofValue, invoke, hx, hargs, he]
end
/-- What is appended to a row at its full capacity lies in a new row. -/
theorem appends_new {P : Program} {o : Oper} {a : Act} {w : World} (s x : Operand) (t e : TypeId) (z : Value) (bytes : Nat) (hop : o.op = .call { callee := .builtin .append, args := #[s, x], argTypes := #[t, t] })
    (h1 : P.underlying t = some (.slice e)) (hinfo : (P.info? e).map (fun i => (i.zero, i.size, i.bytes)) = some (some z, 1, bytes)) (hz : z.cells.size = 1)
    (ao : Option Addr) (n : Nat) (olds : List Value) (hs : a.eval s = .slice ao n n) (hnone : ao = none → n = 0) (hlo : olds.length = n) (holds : ∀ b, ao = some b → ∀ j u, olds[j]? = some u → w.cell? (b.add j) = some u)
    (ad : Addr) (u1 : Value) (hx : a.eval x = .slice (some ad) 1 1) (hc : ∀ j u, [u1][j]? = some u → w.cell? (ad.add j) = some u) (h1c : u1.oneCell' = true) (b1 : n + 1 ≤ maxLen) (b2 : (n + 1) * bytes ≤ 140737488355328) :
    ∃ v' w', (execOp a.eval o).run P w = .ok (.value v') w' ∧ w'.ownsRow w.heap.size e 1 v' (n + 1) (olds ++ [u1]) ∧ w.grownBy w' none := by
  obtain ⟨i, h2, hi⟩ := Option.map_eq_some_iff.1 hinfo
  injection hi with h3 h45
  injection h45 with h4 h5
  cases ao with
  | some b =>
    obtain ⟨v', w', hrun, r1, r2⟩ := run_append_arg_grows (P := P) w t o.type e i z 1 bytes h1 h2 h3 h4 h5 hz (by omega) b n n olds (by omega) (holds b rfl) ad 1 1 [u1] rfl hc (by omega) b1 b2
    refine ⟨v', w', ?_, r1, r2⟩
    simp [execOp, hop, resolve, invoke, builtin, hs, hx, hrun, Result.andThen]
  | none =>
    obtain rfl := hnone rfl
    obtain rfl : olds = [] := List.eq_nil_of_length_eq_zero hlo
    obtain ⟨v', w', hrun, r1, r2, _⟩ := run_append_own (P := P) w w.heap.size t o.type e i z 1 bytes h1 h2 h3 h4 h5 hz (by omega) (.slice none 0 0) 0 [] (World.ownsRow_nil w _ e 1) ad 1 1 [u1] rfl hc (by simpa using h1c) b1 b2 (Nat.le_refl _)
    refine ⟨v', w', ?_, r1, r2⟩
    simp [execOp, hop, resolve, invoke, builtin, hs, hx, hrun, Result.andThen]
theorem appends_step {P : Program} {ops : Array Oper} {Q : Exit → Act → World → Prop} {K : Act → World → Prop} {N : Option Tmp} {o : Oper} {a : Act} {w : World} (hw : Region.wanted o (yielded ops a.tmps) = true) (hN : o.dst = N) (s x : Operand) (t e : TypeId) (z : Value) (bytes : Nat) (hop : o.op = .call { callee := .builtin .append, args := #[s, x], argTypes := #[t, t] })
    (h1 : P.underlying t = some (.slice e)) (hinfo : (P.info? e).map (fun i => (i.zero, i.size, i.bytes)) = some (some z, 1, bytes)) (hz : z.cells.size = 1)
    (ao : Option Addr) (n : Nat) (olds : List Value) (hs : a.eval s = .slice ao n n) (hnone : ao = none → n = 0) (hlo : olds.length = n) (holds : ∀ b, ao = some b → ∀ j u, olds[j]? = some u → w.cell? (b.add j) = some u)
    (ad : Addr) (u1 : Value) (hx : a.eval x = .slice (some ad) 1 1) (hc : ∀ j u, [u1][j]? = some u → w.cell? (ad.add j) = some u) (h1c : u1.oneCell' = true) (b1 : n + 1 ≤ maxLen) (b2 : (n + 1) * bytes ≤ 140737488355328)
    (h : ∀ v' w', w'.ownsRow w.heap.size e 1 v' (n + 1) (olds ++ [u1]) → w.grownBy w' none → K (a.put N v') w') : if Region.wanted o (yielded ops a.tmps) = true then Oper.wp P o a w K Q else K (a.put N undef) w := by
  obtain ⟨v', w', hrun, r1, r2⟩ := appends_new s x t e z bytes hop h1 hinfo hz ao n olds hs hnone hlo holds ad u1 hx hc h1c b1 b2
  exact value_ hw hN hrun (h v' w' r1 r2)
/-- A row of this call's own outlives what leaves blocks of its type. -/
theorem R_kept {w w1 : World} {base : Nat} {v : Value} {xs : List Int} (h : Kd.R (Kd.int .i64) 3 w base (fun _ => True) v xs) (hk : ∀ (k : Nat) (cells : Array Value), w.heap[k]? = some (.cells cells 3 (0, 0)) → w1.heap[k]? = w.heap[k]?) : Kd.R (Kd.int .i64) 3 w1 base (fun _ => True) v xs := by
  refine Kd.R_mono (Kd.R_move (Kd.R_bound h) (fun k hk2 => ?_)) (fun _ _ => trivial)
  obtain ⟨_, _, _, q, hq, cells, hc⟩ := hk2
  obtain rfl : q = 3 := by simpa [Kd.int, Kd.scalar] using hq
  exact hk k cells hc
theorem flat_take (l : List Int) (f : Int → List (List Int)) (i : Nat) (h : i < l.length) : (l.take (i + 1)).flatMap f = (l.take i).flatMap f ++ f (rd l (i : Int)) ∧ ((l.take i).flatMap f).length + (f (rd l (i : Int))).length ≤ (l.flatMap f).length := by
  have e : rd l (i : Int) = l[i] := by simp [rd, List.getD_eq_getElem?_getD, List.getElem?_eq_getElem h]
  constructor
  · rw [List.take_add_one, List.getElem?_eq_getElem h, List.flatMap_append, e]; simp
  · have : l = l.take i ++ (l[i] :: l.drop (i + 1)) := by rw [← List.drop_eq_getElem_cons h, List.take_append_drop]
    rw [e]
    conv => rhs; rw [this]
    rw [List.flatMap_append, List.flatMap_cons, List.length_append, List.length_append]
    omega

/-- A row of other types is not this one's block. -/
theorem R_apart {α β : Type} {d : Kd α} {d' : Kd β} {e e' : Nat} {w : World} {base base' : Nat} {ok ok' : Nat → Prop} {v v' : Value} {xs : List α} {ys : List β} (h : d.R e w base ok v xs) (h' : d'.R e' w base' ok' v' ys) (ht : ∀ q, q ∈ e :: d.E → q ≠ e') : d.R e w base (fun k => ok k ∧ some k ≠ v'.ownBlock) v xs := by
  obtain ⟨_, inner, ho, _⟩ := h'
  cases hv : v'.ownBlock with
  | none => exact Kd.R_mono h (fun k hk => ⟨hk, by simp⟩)
  | some g =>
    obtain ⟨cells, hc⟩ := own_typed ho g hv
    refine Kd.R_mono (Kd.R_types h hc ht) (fun k hk => ⟨hk.1, fun he => hk.2 (Option.some.inj he)⟩)

abbrev ptrW (g : Nat) : Value := .pointer (some ⟨g, 0, none⟩)
abbrev tellW (g1 g2 g3 : Nat) : Value := .func (.func 111) #[] #[ptrW g1, ptrW g2, ptrW g3]

set_option maxHeartbeats 8000000 in
set_option maxRecDepth 100000 in
theorem source_All_1.calls (W0 : World) (g1 g2 g3 : Nat) (Ac : Option Addr) (cc : Nat) (c : List (List Int))
    (h1 : W0.heap[g1]? = some (.cells #[.slice Ac c.length cc] 35 (0, 0))) (hC : Kd.C (Kd.slice 3 (Kd.int .i64)) W0 Ac c.length c) (hcl : c.length ≤ cc) (hc44 : c.length < 1000000)
    (hg2 : W0.heap.size ≤ g2) (hg3 : W0.heap.size ≤ g3) (hg23 : g2 ≠ g3) (m : Nat) : ∀ (from_ : List Int) (hn : c.length - from_.length = m) (hle : from_.length ≤ c.length) (Af : Option Addr) (cf : Nat) (vo : Value) (out : List (List Int)) (w : World)
    (hB : Below W0.heap.size W0 w) (h2 : w.heap[g2]? = some (.cells #[vo] 35 (0, 0))) (h3 : w.heap[g3]? = some (.cells #[tellW g1 g2 g3] 125 (0, 0)))
    (hO : Kd.S (Kd.slice 3 (Kd.int .i64)) 33 w W0.heap.size (fun k => some k ≠ (Value.slice Af from_.length cf).ownBlock) vo out) (hF : Kd.R (Kd.int .i64) 3 w W0.heap.size (fun _ => True) (.slice Af from_.length cf) from_)
    (hlen : out.length + (tellT (c.drop from_.length) from_).length ≤ 20000),
    Calls Try.prog 111 #[.slice Af from_.length cf, ptrW g1, ptrW g2, ptrW g3] w fun e w' => ∃ vo', e = .returned (.tuple #[]) ∧ Below W0.heap.size W0 w' ∧ w'.heap[g2]? = some (.cells #[vo'] 35 (0, 0)) ∧ w'.heap[g3]? = some (.cells #[tellW g1 g2 g3] 125 (0, 0))
      ∧ Kd.S (Kd.slice 3 (Kd.int .i64)) 33 w' W0.heap.size (fun _ => True) vo' (out ++ tellT (c.drop from_.length) from_) ∧ (∀ (k : Nat) (cells : Array Value), w.heap[k]? = some (.cells cells 3 (0, 0)) → w'.heap[k]? = w.heap[k]?) := by
  induction m with
  | zero =>
    intro from_ hn hle Af cf vo out w hB h2 h3 hO hF hlen
    have hg1 := blk_lt h1
    have h1w : w.heap[g1]? = some (.cells #[.slice Ac c.length cc] 35 (0, 0)) := blk_below h1 hB
    have el : (from_.length : Int) = (c.length : Int) := by omega
    have eb0 : ((from_.length : Int) == (c.length : Int)) = true := beq_iff_eq.mpr el
    have eb1 : decide ((from_.length : Int) = (c.length : Int)) = true := decide_eq_true el
    clear el
    have hc1 : w.cell? ⟨g1, 0, none⟩ = some (.slice Ac c.length cc) := (blk_cell h1w 0).trans rfl
    have hf1 := blk_frozen h1w 0
    have hc2 : w.cell? ⟨g2, 0, none⟩ = some vo := (blk_cell h2 0).trans rfl
    have hf2 := blk_frozen h2 0
    go_enter Try.func111, Try.ntmps111
    have hOF := R_apart hF (Kd.S_R hO) (by decide)
    have hOF : Kd.R (Kd.int .i64) 3 w W0.heap.size (fun k => some k = (Value.slice Af from_.length cf).ownBlock ∧ some k ≠ vo.ownBlock) (.slice Af from_.length cf) from_ := ⟨fun k hk => ⟨hk.symm, (hOF.1 k hk).2⟩, hOF.2⟩
    go_wp2_with (first | ((with_reducible refine gate_builtin (b := .append) (xs := #[.tmp 12, .tmp 14]) rfl ?_); (try (refine gate_guard (by rfl) ?_; dsimp only)); at_builtin; refine Kd.S_append (Kd.slice 3 (Kd.int .i64)) (w0 := W0) W0.heap.size rfl (.tmp 12) (.tmp 14) 35 33 (.slice none 0 0) 24 rfl Try.underlying35 info33 rfl (by decide) (by omega) vo out from_ [.slice Af from_.length cf] (fun _ => True) (fun k => some k = (Value.slice Af from_.length cf).ownBlock ∧ some k ≠ vo.ownBlock) rfl rfl ?aP (fun _ hk => ⟨trivial, hk.2⟩) ?aF ?aO ?aB ?aS ?aL ?_; (case aP => exact ⟨_, rfl, by (with_reducible repeat (first | apply Kd.R_alloc | apply Kd.R_drewN | apply Kd.R_drew)); exact hOF⟩); (case aF => exact fun _ _ => trivial); (case aO => exact Kd.S_mono (ok := fun k => some k ≠ (Value.slice Af from_.length cf).ownBlock) (by (with_reducible repeat (first | apply Kd.S_alloc | apply Kd.S_drewN | apply Kd.S_drew)); exact hO) (fun k hk => ⟨trivial, fun h9 => hk h9.1⟩)); (case aB => exact (by repeat (first | (with_reducible first | exact hB | apply below_alloc | apply pw_below_drewN | apply below_drew1) | exact hB))); (case aS => exact (below_size (by repeat (first | (with_reducible first | exact hB | apply below_alloc | apply pw_below_drewN | apply below_drew1) | exact hB)))); (case aL => have : (tellT (c.drop from_.length) from_).length = 1 := by { rw [List.drop_of_length_le (by omega)]; rfl }; omega); intro v1 w1 hO1 hB1 hG1 hat1; have h2' := blk_grown (g := g2) (o := .cells #[vo] 35 (0, 0)) (by (with_reducible repeat (first | refine blk_drewN ?_ _ | refine blk_drew ?_ | refine blk_alloc ?_ _)); exact h2) hG1 (Kd.S_ne hO h2 (by decide)); have h3' := blk_grown (g := g3) (o := .cells #[tellW g1 g2 g3] 125 (0, 0)) (by (with_reducible repeat (first | refine blk_drewN ?_ _ | refine blk_drew ?_ | refine blk_alloc ?_ _)); exact h3) hG1 (Kd.S_ne hO h3 (by decide)); have hc2' : w1.cell? ⟨g2, 0, none⟩ = some vo := (blk_cell h2' 0).trans rfl; have hf2' := blk_frozen h2' 0; obtain ⟨Av, cv, rfl⟩ := Kd.S_slice hO1))
    (try simp only [Exit.inBlock, Exit.then]); refine bodyPost_ret (results_none rfl _ _ _) rfl ?_
    refine ⟨_, rfl, hB1.setCell hg2 _, blk_put h2' 0 _ rfl, blk_far h3' (p := ⟨g2, 0, none⟩) (Ne.symm hg23) _, ?_, ?_⟩
    · rw [List.drop_of_length_le (by omega)]
      have h9 := Kd.S_set hO1 h2' (by decide) 0 (.slice Av (out.length + 1) cv)
      rw [show (out ++ [from_]).length = out.length + 1 by simp] at h9
      exact h9
    · intro k cells hk
      have hk2 : k ≠ g2 := blk_ne hk h2 (by decide)
      exact (Below.heap_setCell w1 ⟨g2, 0, none⟩ _ k hk2).trans (hG1.block k (blk_lt hk) (Kd.S_ne hO hk (by decide)))
  | succ m ih =>
    intro from_ hn hle Af cf vo out w hB h2 h3 hO hF hlen
    have hg1 := blk_lt h1
    have HFO : Aside0 ((Af = none ∧ from_.length = 0 ∧ cf = 0) ∨ ∃ gf, Af = some ⟨gf, 0, none⟩ ∧ from_.length ≤ cf) := ⟨by
      rcases Kd.own_of_R hF with ⟨_, h9 | ⟨g, cap, cur, h9, _⟩⟩
      · injection h9.1 with e1 e2 e3; exact .inl ⟨e1, e2, e3⟩
      · injection h9 with e1 e2 e3; exact .inr ⟨g, e1, (Kd.R_reads' hF).2.1⟩⟩
    have h1w : w.heap[g1]? = some (.cells #[.slice Ac c.length cc] 35 (0, 0)) := blk_below h1 hB
    have hlt : from_.length < c.length := by omega
    obtain ⟨l, hl'⟩ : ∃ l, Aside0 (l = rd_L5 c (from_.length : Int)) := ⟨_, ⟨rfl⟩⟩
    have hl := hl'.out
    have hdrop : c.drop from_.length = l :: c.drop (from_.length + 1) := by
      rw [List.drop_eq_getElem_cons hlt, hl]; simp [rd_L5, List.getD_eq_getElem?_getD, List.getElem?_eq_getElem hlt]
    have eb0 : ((from_.length : Int) == (c.length : Int)) = false := beq_eq_false_iff_ne.mpr (by omega)
    have eb1 : decide ((from_.length : Int) = (c.length : Int)) = false := decide_eq_false (by omega)
    have p0 : 0 ≤ (from_.length : Int) := by omega
    have q0 : (from_.length : Int) < (c.length : Int) := by omega
    obtain ⟨ad, Al, cl, rfl, hx0, hcl', hCl⟩ := at_L5 hC (from_.length : Int) p0 q0
    rw [← hl, Int.toNat_natCast] at hx0
    have hx := pw_cell_below hB hx0
    rw [← hl] at hcl' hCl
    clear hl
    replace p0 := eq_true p0
    replace q0 := eq_true q0
    have hc1 : w.cell? ⟨g1, 0, none⟩ = some (.slice (some ad) c.length cc) := (blk_cell h1w 0).trans rfl
    have hf1 := blk_frozen h1w 0
    go_enter Try.func111, Try.ntmps111
    go_wp2
    go_loopg [22] l.length (fun kq v22 w' => ∃ (x : Int) (i : Nat) (vo' : Value), v22 = .int .i64 x ∧ Aside0 (x = i) ∧ Aside0 (i + kq = l.length) ∧ Aside0 (Below W0.heap.size W0 w') ∧ Aside0 (w'.heap[g2]? = some (.cells #[vo'] 35 (0, 0))) ∧ Aside0 (w'.heap[g3]? = some (.cells #[tellW g1 g2 g3] 125 (0, 0)))
      ∧ Aside0 (Kd.S (Kd.slice 3 (Kd.int .i64)) 33 w' W0.heap.size (fun _ => True) vo' (out ++ (l.take i).flatMap fun n => tellT (c.drop (from_.length + 1)) (from_ ++ [n]))) ∧ Aside0 (∀ (k : Nat) (cells : Array Value), w.heap[k]? = some (.cells cells 3 (0, 0)) → w'.heap[k]? = w.heap[k]?))
    case atStart => exact ⟨0, 0, vo, by first | rfl | simp, ⟨rfl⟩, ⟨by omega⟩, ⟨by repeat (first | exact hB | apply below_drew1 | apply pw_below_drewN)⟩, ⟨h2⟩, ⟨h3⟩, ⟨by simp only [List.take_zero, List.flatMap_nil, List.append_nil]; (with_reducible repeat (first | apply Kd.S_alloc | apply Kd.S_drewN | apply Kd.S_drew)); exact Kd.S_mono hO (fun _ _ => trivial)⟩, ⟨fun k cells hk => rfl⟩⟩
    case round =>
      obtain ⟨x, i, vo', rfl, HX, HI, HB, H2, H3, HO, HK⟩ := hrel
      have h3c : wr.cell? ⟨g3, 0, none⟩ = some (tellW g1 g2 g3) := (blk_cell H3.out 0).trans rfl
      have h3f := blk_frozen H3.out 0
      cases gk with
      | zero =>
        have hi : i = l.length := by have := HI.out; omega
        have ci : decide (x < (l.length : Int)) = false := decide_eq_false (by have := HX.out; omega)
        go_wp2
        (try simp only [Exit.inBlock, Exit.then]); refine bodyPost_end (results_none rfl _ _ _) rfl ?_
        refine ⟨vo', rfl, HB.out, H2.out, H3.out, ?_, HK.out⟩
        have h9 := HO.out
        rw [hi, List.take_length] at h9
        rw [hdrop]
        exact h9
      | succ k1 =>
        have hi : i < l.length := by have := HI.out; omega
        have h3d : wr.drew.heap[g3]? = some (.cells #[tellW g1 g2 g3] 125 (0, 0)) := blk_drew H3.out
        have ci : decide (x < (l.length : Int)) = true := decide_eq_true (by have := HX.out; omega)
        have p1 : 0 ≤ x := by have := HX.out; omega
        have q1 : x < (l.length : Int) := by have := HX.out; omega
        obtain ⟨ae, rfl, hy⟩ := Kd.at_int (Kd.C_below hCl HB.out) x p1 q1
        replace p1 := eq_true p1
        replace q1 := eq_true q1
        go_wp2
        have hfr := (HFO.1)
        refine start_ (n := 11) (S := fun w' => w'.heap[g3]? = some (.cells #[tellW g1 g2 g3] 125 (0, 0))) (ds := [10]) #[false, false, false, false, false, false, false, false, false, false, false] (by kernel_rfl) rfl rfl h3d (fun hHeld => ?_)
        have HF8 := Aside0.mk (Kd.R_drew (R_kept hF HK.out))
        have HO8 := Aside0.mk (Kd.S_drew HO.out)
        have HB8 := Aside0.mk (below_drew HB.out)
        have H28 := Aside0.mk (blk_drew H2.out)
        have HK8 : Aside0 (∀ (k : Nat) (cells : Array Value), w.heap[k]? = some (.cells cells 3 (0, 0)) → wr.drew.heap[k]? = w.heap[k]?) := ⟨fun k cells hk => HK.out k cells hk⟩
        generalize wr.drew = w8 at h3d hHeld HF8 HO8 HB8 H28 HK8 ⊢
        refine pure_ (i := 1) (N := some 27) (v := ?_) (a' := ?_) #[false, true, false, false, false, false, false, false, false, false, false] rfl rfl (by kernel_rfl) (fun _ _ _ h => h) (Or.inl ⟨by rfl, ?_⟩) ?_ ?_
        rotate_left
        · intro w'
          go_simp
          with_reducible rfl
        rotate_left
        · simp only [Act.put, List.setIfInBounds_toArray, List.set_cons_zero, List.set_cons_succ, i64_w, i32_w]
          rfl
        refine pure_ (i := 2) (N := some 28) (v := ?_) (a' := ?_) #[false, true, true, false, false, false, false, false, false, false, false] rfl rfl (by kernel_rfl) (fun _ _ _ h => h) (Or.inl ⟨by rfl, ?_⟩) ?_ ?_
        rotate_left
        · intro w'
          go_simp
          with_reducible rfl
        rotate_left
        · simp only [Act.put, List.setIfInBounds_toArray, List.set_cons_zero, List.set_cons_succ, i64_w, i32_w]
          rfl
        refine pure_ (i := 3) (N := some 29) (v := ?_) (a' := ?_) #[false, true, true, true, false, false, false, false, false, false, false] rfl rfl (by kernel_rfl) (fun _ _ _ h => h) (Or.inl ⟨by rfl, ?_⟩) ?_ ?_
        rotate_left
        · intro w'
          go_simp
          with_reducible rfl
        rotate_left
        · simp only [Act.put, List.setIfInBounds_toArray, List.set_cons_zero, List.set_cons_succ, i64_w, i32_w]
          rfl
        refine pure_ (i := 4) (N := some 30) (v := ?_) (a' := ?_) #[false, true, true, true, true, false, false, false, false, false, false] rfl rfl (by kernel_rfl) (fun _ _ _ h => h) (Or.inl ⟨by rfl, ?_⟩) ?_ ?_
        rotate_left
        · intro w'
          go_simp
          with_reducible rfl
        rotate_left
        · simp only [Act.put, List.setIfInBounds_toArray, List.set_cons_zero, List.set_cons_succ, i64_w, i32_w]
          rfl
        refine pure_ (i := 5) (N := some 31) (v := ?_) (a' := ?_) #[false, true, true, true, true, true, false, false, false, false, false] rfl rfl (by kernel_rfl) (fun _ _ _ h => h) (Or.inl ⟨by rfl, ?_⟩) ?_ ?_
        rotate_left
        · intro w'
          go_simp
          with_reducible rfl
        rotate_left
        · simp only [Act.put, List.setIfInBounds_toArray, List.set_cons_zero, List.set_cons_succ, i64_w, i32_w]
          rfl
        refine pure_ (i := 6) (N := some 32) (v := .slice Af from_.length from_.length) (a' := ?_) #[false, true, true, true, true, true, true, false, false, false, false] rfl rfl (by kernel_rfl) (fun _ _ _ h => h) (Or.inl ⟨by rfl, ?_⟩) ?_ ?_
        · intro w'
          rcases hfr with ⟨rfl, hn0, rfl⟩ | ⟨gf, rfl, hcf⟩
          · simp only [hn0]
            go_simp
          · go_simp
        rotate_left
        · simp only [Act.put, List.setIfInBounds_toArray, List.set_cons_zero, List.set_cons_succ, i64_w, i32_w]
          rfl
        refine pure_ (i := 7) (N := some 33) (v := ?_) (a' := ?_) #[false, true, true, true, true, true, true, true, false, false, false] rfl rfl (by kernel_rfl) (fun _ _ _ h => h) (Or.inl ⟨by rfl, ?_⟩) ?_ ?_
        rotate_left
        · intro w'
          go_simp
          with_reducible rfl
        rotate_left
        · simp only [Act.put, List.setIfInBounds_toArray, List.set_cons_zero, List.set_cons_succ, i64_w, i32_w]
          rfl
        refine take_ (i := 0) (N := some 26) (v := ?_) (a' := ?_) #[true, true, true, true, true, true, true, true, false, false, false] rfl rfl (by kernel_rfl) (fun _ _ _ h => h) (Or.inl ⟨by rfl, ?_⟩) hHeld ?_ ?_
        rotate_left
        · intro w' hs
          have hsc : w'.cell? ⟨g3, 0, none⟩ = some (tellW g1 g2 g3) := (blk_cell hs 0).trans rfl
          have hsf := blk_frozen hs 0
          go_simp
          with_reducible rfl
        rotate_left
        · simp only [Act.put, List.setIfInBounds_toArray, List.set_cons_zero, List.set_cons_succ, i64_w, i32_w]
          rfl
        refine one_ (i := 8) (N := some 34) #[true, true, true, true, true, true, true, true, true, false, false] rfl rfl (by kernel_rfl) (by decide) (fun K hK => ?_)
        refine value_ (w1 := ?_) (v := ?_) (by rfl) rfl ?_ ?_
        rotate_left 2
        · go_simp
          constructor
          · rfl
          · rfl
        refine hK.out _ _ (blk_alloc hHeld _) (fun hHeld => ?_)
        clear hK K
        refine norm_ (a' := ?_) ?_ ?_
        rotate_left
        · show Act.put _ (some 34) _ = _
          simp only [Act.put, List.setIfInBounds_toArray, List.set_cons_zero, List.set_cons_succ, i64_w, i32_w]
          rfl
        refine one_ (i := 9) (N := some 35) #[true, true, true, true, true, true, true, true, true, true, false] rfl rfl (by kernel_rfl) (by decide) (fun K hK => ?_)
        have hrd := Kd.reads_of_C (d := 0) (Kd.C_below (Kd.R_reads' HF8.out).2.2 (below_alloc (Below.refl _ _) (.cells #[.int .i64 (rd l x)] 3 (0, 0))))
        refine appends_step (by rfl) rfl (.tmp 32) (.tmp 34) 33 3 (.int .i64 0) 8 rfl Try.underlying33 info3 rfl Af from_.length (encs (Value.int .i64) from_) rfl ?hnone (encs_length _) ?holds ⟨w8.heap.size, 0, none⟩ (.int .i64 (rd l x)) rfl (cell_one_new w8 _ 3) rfl ?b1 ?b2 ?_
        case hnone => rcases HFO.out with ⟨_, h0, _⟩ | ⟨gf, h0, _⟩; exact fun _ => h0; intro h9; rw [h0] at h9; cases h9
        case holds =>
          intro b hb j u hj
          have hj2 : j < from_.length := by
            have := (List.getElem?_eq_some_iff.1 hj).1
            rwa [encs_length] at this
          obtain ⟨ad9, h9, h10⟩ := hrd.2.2 (by omega)
          obtain rfl : b = ad9 := by rw [hb] at h9; exact Option.some.inj h9
          rw [h10 j hj2, ← encs_get (enc := Value.int .i64) (d := 0) from_ j hj2]
          exact hj
        case b1 => simp only [maxLen]; omega
        case b2 => omega
        intro v9 w9 hown hgr
        have hHeld9 := blk_grown hHeld hgr (by simp)
        have HF9 : Aside0 (Kd.R (Kd.int .i64) 3 w9 W0.heap.size (fun _ => True) v9 (from_ ++ [rd l x])) := ⟨Kd.R_of_own (by
          have h9 := own_weaken hown (base' := W0.heap.size) (Nat.le_trans HB8.out.size (by simp))
          rw [show (from_ ++ [rd l x]).length = from_.length + 1 by simp, encs_append]
          exact h9) (fun _ _ => trivial)⟩
        have HO9 := Aside0.mk (Kd.S_mono (ok' := fun k => some k ≠ v9.ownBlock) (Kd.S_grown (Kd.S_bound (Kd.S_alloc HO8.out (.cells #[.int .i64 (rd l x)] 3 (0, 0)))) hgr (fun _ _ => by simp)) (fun k hk e9 => by have h8 := own_base hown k e9.symm; have h7 := hk.2.2.1; omega))
        have HB9 : Aside0 (Below W0.heap.size W0 w9) := ⟨(below_alloc HB8.out (.cells #[.int .i64 (rd l x)] 3 (0, 0))).grown hgr (Nat.le_trans HB8.out.size (by simp)) (fun k hk => by cases hk)⟩
        have H29 := Aside0.mk (blk_grown (blk_alloc H28.out (.cells #[.int .i64 (rd l x)] 3 (0, 0))) hgr (by simp))
        have HK9 : Aside0 (∀ (k : Nat) (cells : Array Value), w.heap[k]? = some (.cells cells 3 (0, 0)) → w9.heap[k]? = w.heap[k]?) := ⟨fun k cells hk => by
          have h9 := HK8.out k cells hk
          rw [hk] at h9
          rw [hk]
          exact blk_grown (blk_alloc h9 _) hgr (by simp)⟩
        refine hK.out _ _ hHeld9 (fun _ => ?_)
        clear hK K hHeld hown hgr hrd
        obtain ⟨A9, c9, rfl⟩ := Kd.R_slice HF9.out
        refine norm_ (a' := ?_) ?_ ?_
        rotate_left
        · show Act.put _ (some 35) _ = _
          simp only [Act.put, List.setIfInBounds_toArray, List.set_cons_zero, List.set_cons_succ, i64_w, i32_w]
          rfl
        refine last_ (i := 10) (N := some 36) #[true, true, true, true, true, true, true, true, true, true, true] rfl rfl (by kernel_rfl) (by decide) (fun K hK => ?_)
        refine goesT_ Try.func111 (by kernel_rfl) rfl #[.slice A9 (from_ ++ [rd l x]).length c9] (by rfl) rfl rfl (by first | rfl | (go_simp; rfl)) (by (try simp only [List.map_toArray, List.map_cons, List.map_nil]); first | done | rfl | (simp only [List.length_append, List.length_cons, List.length_nil]; rfl)) ?_
        refine (ih (from_ ++ [rd l x]) (by rw [List.length_append, List.length_singleton]; omega) (by rw [List.length_append, List.length_singleton]; omega) A9 c9 vo' _ w9 HB9.out H29.out hHeld9 HO9.out HF9.out ?hl).mono ?_
        case hl =>
          obtain ⟨_, e2⟩ := flat_take l (fun n => tellT (c.drop (from_.length + 1)) (from_ ++ [n])) i hi
          rw [hdrop] at hlen
          have e3 : (tellT (l :: c.drop (from_.length + 1)) from_).length = (l.flatMap fun n => tellT (c.drop (from_.length + 1)) (from_ ++ [n])).length := rfl
          rw [HX.out, List.length_append, List.length_append, List.length_singleton]
          omega
        rintro e w' ⟨vo2, rfl, B2, G22, G32, R2, K2⟩
        refine ⟨_, rfl, ?_⟩
        refine hK.out _ _ ?_
        clear hK K
        refine norm_ (a' := ?_) ?_ ?_
        rotate_left
        · show Act.put _ (some 36) _ = _
          simp only [Act.put, List.setIfInBounds_toArray, List.set_cons_zero, List.set_cons_succ, i64_w, i32_w]
          rfl
        refine done_ (by kernel_rfl) ?_
        try go_wp2
        go_roundg k1
        case measure => omega
        case rel =>
          obtain ⟨e1, _⟩ := flat_take l (fun n => tellT (c.drop (from_.length + 1)) (from_ ++ [n])) i hi
          refine ⟨wrap64 (x + 1), i + 1, vo2, by first | rfl | (simp; done), ⟨?_⟩, ⟨by have := HI.out; omega⟩, ⟨B2⟩, ⟨G22⟩, ⟨G32⟩, ⟨?_⟩, ⟨fun k cells hk => ?_⟩⟩
          · have h9 := HX.out
            have h10 := Kd.R_reads' HF8.out
            have h11 := hCl.1
            have h12 := hCl.2.1
            rw [show wrap64 (x + 1) = x + 1 from IntWalk.wrap64_in _ (by omega)]
            omega
          · rw [e1, ← List.append_assoc]
            rw [HX.out, List.length_append, List.length_singleton] at R2
            exact R2
          · have h9 := HK9.out k cells hk
            rw [hk] at h9
            rw [K2 k cells h9, h9, hk]
end Go.Proofs.Ytbamkkdikeedoaa.G
