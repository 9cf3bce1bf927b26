/- By hand: a block's cells, all at once. -/
import Derived.Test.YtbamkkdikeedoaaG0
namespace Go.Proofs.Ytbamkkdikeedoaa.G
open Go.RowKit Go.Proofs.YtbamkkdikeedoaaW.PrintWords Go.Proofs.YtbamkkdikeedoaaW.PrintLast Go.Proofs.YtbamkkdikeedoaaW.PrintMore
variable {w : World} {g : Nat} {t : TypeId}
theorem cz7 {a0 a1 a2 a3 a4 a5 a6 : Value} (h : w.heap[g]? = some (.cells #[a0, a1, a2, a3, a4, a5, a6] t (0, 0))) : w.cell? ⟨g, 0, none⟩ = some a0 ∧ w.cell? ⟨g, 1, none⟩ = some a1 ∧ w.cell? ⟨g, 2, none⟩ = some a2 ∧ w.cell? ⟨g, 3, none⟩ = some a3 ∧ w.cell? ⟨g, 4, none⟩ = some a4 ∧ w.cell? ⟨g, 5, none⟩ = some a5 ∧ w.cell? ⟨g, 6, none⟩ = some a6 ∧ w.frozen? ⟨g, 0, none⟩ = false ∧ w.frozen? ⟨g, 1, none⟩ = false ∧ w.frozen? ⟨g, 2, none⟩ = false ∧ w.frozen? ⟨g, 3, none⟩ = false ∧ w.frozen? ⟨g, 4, none⟩ = false ∧ w.frozen? ⟨g, 5, none⟩ = false ∧ w.frozen? ⟨g, 6, none⟩ = false :=
  ⟨blk_cell h 0, blk_cell h 1, blk_cell h 2, blk_cell h 3, blk_cell h 4, blk_cell h 5, blk_cell h 6, blk_frozen h 0, blk_frozen h 1, blk_frozen h 2, blk_frozen h 3, blk_frozen h 4, blk_frozen h 5, blk_frozen h 6⟩
abbrev o9 : Bool := false
abbrev i9 : Bool := true
section
variable {P : Program} {ops : Array Oper} {Q : Exit → Act → World → Prop}
theorem goesL9 {rest : List Oper} {oi : Oper} {a : Act} {w : World} (N : Option Tmp) (hd : oi.dst = N) (hg : oi.guard = none) {f : FuncId} {fn : Func} {xs : Array Operand} {ts : Array TypeId} (hf : P.funcs[f]? = some fn) (hname : (fn.name == "runtime.NumGoroutine") = false) (hb : fn.body.isSome = true) (args : Array Value)
    (hop : oi.op = .call { callee := .value (.func f), args := xs, argTypes := ts })
    (h : Calls P f args w fun e w' => ∃ v, e = .returned v ∧ wpList P ops Q rest (a.put N v) w') (hargs : xs.map a.eval = args := by ((try simp only [List.map_toArray, List.map_cons, List.map_nil]); first | done | rfl | (simp only [List.length_drop, List.length_take]; rfl))) : wpList P ops Q (oi :: rest) a w :=
  goesL_ N hd hg hf hname hb args hop hargs h
theorem goes9 {oi : Oper} {N : Option Tmp} {a : Act} {w : World} {K : Act → World → Prop} {f : FuncId} {fn : Func} {xs : Array Operand} {ts : Array TypeId} (hf : P.funcs[f]? = some fn) (hname : (fn.name == "runtime.NumGoroutine") = false) (hb : fn.body.isSome = true) (args : Array Value)
    (hw : Region.wanted oi (yielded ops a.tmps) = true) (hN : oi.dst = N) (hop : oi.op = .call { callee := .value (.func f), args := xs, argTypes := ts })
    (h : Calls P f args w fun e w' => ∃ v, e = .returned v ∧ K (a.put N v) w') (hargs : xs.map a.eval = args := by ((try simp only [List.map_toArray, List.map_cons, List.map_nil]); first | done | rfl | (simp only [List.length_drop, List.length_take]; rfl))) : if Region.wanted oi (yielded ops a.tmps) = true then Oper.wp P oi a w K Q else K (a.put N undef) w :=
  goes_ hf hname hb args hw hN hop hargs h
end
def LiftC (w1 w2 : World) : Prop := ∀ (α : Type) (d : Kd α) (A : Option Addr) (n : Nat) (l : List α), Kd.C d w1 A n l → Kd.C d w2 A n l
theorem cp9 {α : Type} {d : Kd α} {w w1 w2 : World} {A : Option Addr} {n : Nat} {l : List α} (h : Kd.C d w A n l) (hb : Below w.heap.size w w1) (hw : LiftC w1 w2 := by (intro _ _ _ _ _ h; repeat (first | exact h | (with_reducible refine Kd.C_alloc ?_ _) | (with_reducible refine Kd.C_drewN ?_ _) | (with_reducible refine Kd.C_drew ?_)))) : Kd.C d w2 A n l := hw α d A n l (Kd.C_below h hb)
theorem lp9 {α : Type} {d : Kd α} {w1 w2 : World} {A : Option Addr} {n : Nat} {l : List α} (h : Kd.C d w1 A n l) (hw : LiftC w1 w2 := by (intro _ _ _ _ _ h; repeat (first | exact h | (with_reducible refine Kd.C_alloc ?_ _) | (with_reducible refine Kd.C_drewN ?_ _) | (with_reducible refine Kd.C_drew ?_)))) : Kd.C d w2 A n l := hw α d A n l h
def LiftB (w0 w1 w2 : World) : Prop := Below w0.heap.size w0 w1 → Below w0.heap.size w0 w2
theorem bp9 {w0 w1 w2 : World} (h : Below w0.heap.size w0 w1) (hw : LiftB w0 w1 w2 := by (intro h; repeat (first | (with_reducible first | exact h | apply below_alloc | apply pw_below_drewN | apply below_drew1 | refine below_set ?_ (Aside0.out (by assumption))) | exact h))) : Below w0.heap.size w0 w2 := hw h
def LiftR (w1 w2 : World) : Prop := ∀ (α : Type) (d : Kd α) (e b : Nat) (ok : Nat → Prop) (v : Value) (xs : List α), d.R e w1 b ok v xs → d.R e w2 b ok v xs
theorem rp9 {α : Type} {d : Kd α} {e b : Nat} {ok : Nat → Prop} {v : Value} {xs : List α} {w1 w2 : World} (h : d.R e w1 b ok v xs) (hw : LiftR w1 w2 := by (intro _ _ _ _ _ _ _ h; (with_reducible repeat (first | apply Kd.R_alloc | apply Kd.R_drewN | apply Kd.R_drew)); exact h)) : d.R e w2 b ok v xs := hw α d e b ok v xs h
def LiftK (w1 w2 : World) : Prop := ∀ (g : Nat) (o : Obj), w1.heap[g]? = some o → w2.heap[g]? = some o
theorem kp9 {g : Nat} {o : Obj} {w1 w2 : World} (h : w1.heap[g]? = some o) (hw : LiftK w1 w2 := by (intro _ _ h; (with_reducible repeat (first | refine blk_drewN ?_ _ | refine blk_drew ?_ | refine blk_alloc ?_ _)); exact h)) : w2.heap[g]? = some o := hw g o h

section
variable {P : Program} {ops : Array Oper} {Q : Exit → Act → World → Prop} {o : Oper} {rest : List Oper} {a : Act}
theorem box9 {W : World} {N : Tmp} {cs : Array Value} {t : TypeId} (h : ∀ g, g = W.heap.size → ∀ w1, w1.heap[g]? = some (.cells cs t (0, 0)) → Below W.heap.size W w1 → wpList P ops Q rest (a.put o.dst (.pointer (some ⟨g, 0, none⟩))) w1)
  (hgd : o.guard = none := by rfl) (hd : o.dst = some N := by rfl) (hrun : (execOp a.eval o).run P W = .ok (.value (.pointer (some ⟨W.heap.size, 0, none⟩))) (W.alloc (.cells cs t (0, 0))) := by (first | (go_simp; done) | (go_simp; rfl))) : wpList P ops Q (o :: rest) a W := box_event hgd hd hrun h
end
section
variable {P : Program} {ops : Array Oper} {Q : Exit → Act → World → Prop} {md : Region.Mode} {S : World → Prop} {ds : List Nat}
theorem pureA {oi : Oper} {fuel : Nat} {l : Array Bool} {a : Act} {w : World} (i : Nat) (N : Option Tmp) (v : Value) (l' : Array Bool) (hi : ops[i]? = some oi) (hN : oi.dst = N) (hc : anyB md ops l l' i = true) (hy : ∀ w', (execOp a.eval oi).run P w' = .ok (.value v) w') (a' : Act) (ha : a.put N v = a')
  (h : wpAnyLast P md ops Q S ds fuel l' a' w) (hQ : ∀ c a w, Q (.panic c) (a.put oi.dst v) w → Q (.panic c) a w := by exact fun _ _ _ h => h) (hg : Region.wanted oi (yielded ops a.tmps) = true := by rfl) : wpAnyLast P md ops Q S ds (fuel + 1) l a w := pure_ l' hi hN hc hQ (Or.inl ⟨hg, hy⟩) ha h
theorem put9 {x y : Act} (h : x = y := by (simp only [Act.put, List.setIfInBounds_toArray, List.set_cons_zero, List.set_cons_succ, i64_w, i32_w]; rfl)) : x = y := h
end
theorem a9_ {p : Prop} (h : p) : Aside0 p := ⟨h⟩
theorem rt9 {α : Type} {x y : α} (h : x = y := by (first | rfl | (simp [errW_none, errW_some] <;> rfl) | (simp [*, errW_none, errW_some] <;> rfl))) : x = y := h
theorem rs9 {α : Type} {x y : α} (h : x = y := by (first | rfl | (simp; done) | (simp [*]; done))) : x = y := h
theorem hb9 {w w1 : World} {a : Addr} {v : Value} (hb : Below w.heap.size w w1) (h : w.cell? a = some v) : w1.cell? a = some v := (hb.cell (World.block_lt_of_cell? w _ h)).trans h
end Go.Proofs.Ytbamkkdikeedoaa.G
