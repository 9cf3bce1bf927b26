/- By hand: a block's cells, all at once. -/
import Derived.Test.YtbamkkdikeedoaaG0
namespace Go.Proofs.Ytbamkkdikeedoaa.G
open Go.RowKit Go.Proofs.YtbamkkdikeedoaaW.PrintWords Go.Proofs.YtbamkkdikeedoaaW.PrintLast Go.Proofs.YtbamkkdikeedoaaW.PrintMore
variable {w : World} {g : Nat} {t : TypeId}
/-! ### words for what stands often -/
abbrev o9 : Bool := false
abbrev i9 : Bool := true
section
variable {P : Program} {ops : Array Oper} {Q : Exit → Act → World → Prop}
theorem goesL9 {rest : List Oper} {oi : Oper} {a : Act} {w : World} (N : Option Tmp) (hd : oi.dst = N) (hg : oi.guard = none) {f : FuncId} {fn : Func} {xs : Array Operand} {ts : Array TypeId} (hf : P.funcs[f]? = some fn) (hname : (fn.name == "runtime.NumGoroutine") = false) (hb : fn.body.isSome = true) (args : Array Value)
    (hop : oi.op = .call { callee := .value (.func f), args := xs, argTypes := ts })
    (h : Calls P f args w fun e w' => ∃ v, e = .returned v ∧ wpList P ops Q rest (a.put N v) w') (hargs : xs.map a.eval = args := by ((try simp only [List.map_toArray, List.map_cons, List.map_nil]); first | done | rfl | (simp only [List.length_drop, List.length_take]; rfl))) : wpList P ops Q (oi :: rest) a w :=
  goesL_ N hd hg hf hname hb args hop hargs h
theorem goes9 {oi : Oper} {N : Option Tmp} {a : Act} {w : World} {K : Act → World → Prop} {f : FuncId} {fn : Func} {xs : Array Operand} {ts : Array TypeId} (hf : P.funcs[f]? = some fn) (hname : (fn.name == "runtime.NumGoroutine") = false) (hb : fn.body.isSome = true) (args : Array Value)
    (hw : Region.wanted oi (yielded ops a.tmps) = true) (hN : oi.dst = N) (hop : oi.op = .call { callee := .value (.func f), args := xs, argTypes := ts })
    (h : Calls P f args w fun e w' => ∃ v, e = .returned v ∧ K (a.put N v) w') (hargs : xs.map a.eval = args := by ((try simp only [List.map_toArray, List.map_cons, List.map_nil]); first | done | rfl | (simp only [List.length_drop, List.length_take]; rfl))) : if Region.wanted oi (yielded ops a.tmps) = true then Oper.wp P oi a w K Q else K (a.put N undef) w :=
  goes_ hf hname hb args hw hN hop hargs h
end
def LiftC (w1 w2 : World) : Prop := ∀ (α : Type) (d : Kd α) (A : Option Addr) (n : Nat) (l : List α), Kd.C d w1 A n l → Kd.C d w2 A n l
/-- A row that came in, still read behind what was laid and drawn. -/
theorem cp9 {α : Type} {d : Kd α} {w w1 w2 : World} {A : Option Addr} {n : Nat} {l : List α} (h : Kd.C d w A n l) (hb : Below w.heap.size w w1) (hw : LiftC w1 w2 := by (intro _ _ _ _ _ h; repeat (first | exact h | (with_reducible refine Kd.C_alloc ?_ _) | (with_reducible refine Kd.C_drewN ?_ _) | (with_reducible refine Kd.C_drew ?_)))) : Kd.C d w2 A n l := hw α d A n l (Kd.C_below h hb)
theorem lp9 {α : Type} {d : Kd α} {w1 w2 : World} {A : Option Addr} {n : Nat} {l : List α} (h : Kd.C d w1 A n l) (hw : LiftC w1 w2 := by (intro _ _ _ _ _ h; repeat (first | exact h | (with_reducible refine Kd.C_alloc ?_ _) | (with_reducible refine Kd.C_drewN ?_ _) | (with_reducible refine Kd.C_drew ?_)))) : Kd.C d w2 A n l := hw α d A n l h
def LiftB (w0 w1 w2 : World) : Prop := Below w0.heap.size w0 w1 → Below w0.heap.size w0 w2
/-- The old world, still below what was laid, drawn and set. -/
theorem bp9 {w0 w1 w2 : World} (h : Below w0.heap.size w0 w1) (hw : LiftB w0 w1 w2 := by (intro h; repeat (first | (with_reducible first | exact h | apply below_alloc | apply pw_below_drewN | apply below_drew1 | refine below_set ?_ (Aside0.out (by assumption))) | exact h))) : Below w0.heap.size w0 w2 := hw h
def LiftR (w1 w2 : World) : Prop := ∀ (α : Type) (d : Kd α) (e b : Nat) (ok : Nat → Prop) (v : Value) (xs : List α), d.R e w1 b ok v xs → d.R e w2 b ok v xs
/-- A row of the call's own, still there. -/
theorem rp9 {α : Type} {d : Kd α} {e b : Nat} {ok : Nat → Prop} {v : Value} {xs : List α} {w1 w2 : World} (h : d.R e w1 b ok v xs) (hw : LiftR w1 w2 := by (intro _ _ _ _ _ _ _ h; (with_reducible repeat (first | apply Kd.R_alloc | apply Kd.R_drewN | apply Kd.R_drew)); exact h)) : d.R e w2 b ok v xs := hw α d e b ok v xs h
def LiftK (w1 w2 : World) : Prop := ∀ (g : Nat) (o : Obj), w1.heap[g]? = some o → w2.heap[g]? = some o
/-- A block, still there. -/
theorem kp9 {g : Nat} {o : Obj} {w1 w2 : World} (h : w1.heap[g]? = some o) (hw : LiftK w1 w2 := by (intro _ _ h; (with_reducible repeat (first | refine blk_drewN ?_ _ | refine blk_drew ?_ | refine blk_alloc ?_ _)); exact h)) : w2.heap[g]? = some o := hw g o h
end Go.Proofs.Ytbamkkdikeedoaa.G
