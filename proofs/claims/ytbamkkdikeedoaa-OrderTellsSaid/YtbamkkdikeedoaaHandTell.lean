/- By hand: source.All and its closure that holds itself. -/
import Derived.Test.YtbamkkdikeedoaaG0
namespace Go.Proofs.Ytbamkkdikeedoaa.G
open Go.RowKit Go.Proofs.YtbamkkdikeedoaaW.PrintWords Go.Proofs.YtbamkkdikeedoaaW.PrintLast Go.Proofs.YtbamkkdikeedoaaW.PrintMore
attribute [local go_sem] max2_int min2_int max_two min_two max_three min_three max_four min_four   -- for this text's walks alone
set_option linter.unusedVariables false
set_option linter.unusedSimpArgs false

/-- What the closure tells: all ways on from these. -/
def tellT : List (List Int) → List Int → List (List Int)
  | [], from_ => [from_]
  | l :: cs, from_ => l.flatMap fun n => tellT cs (from_ ++ [n])

section
variable {P : Program} {ops : Array Oper} {Q : Exit → Act → World → Prop}
end

section
variable {P : Program} {ops : Array Oper} {Q : Exit → Act → World → Prop}
/-- A call of a function value inside a region that draws, by its contract. -/
theorem goesT_ {oi : Oper} {N : Option Tmp} {a : Act} {w : World} {K : Act → World → Prop} {f : FuncId} {fn : Func} {x : Operand} {cap : Array Value} {xs : Array Operand} {ts : Array TypeId} (hf : P.funcs[f]? = some fn) (hname : (fn.name == "runtime.NumGoroutine") = false) (hb : fn.body.isSome = true) (args : Array Value)
    (hw : Region.wanted oi (yielded ops a.tmps) = true) (hN : oi.dst = N) (hop : oi.op = .call { callee := .value x, args := xs, argTypes := ts }) (hx : a.eval x = .func (.func f) #[] cap) (hargs : xs.map a.eval = args)
    (h : Calls P f (args ++ cap) w fun e w' => ∃ v, e = .returned v ∧ K (a.put N v) w') : if Region.wanted oi (yielded ops a.tmps) = true then Oper.wp P oi a w K Q else K (a.put N undef) w := by
  refine call_ f (args ++ cap) hw hN ?_ h
  have he := enters_ hf hname hb (args ++ cap) w
  unfold execOp
  simp [hop, resolve, Deferred.ofValue, invoke, hx, hargs, he]
end
/-- What is appended to a row at its full capacity lies in a new row. -/
theorem appends_new {P : Program} {o : Oper} {a : Act} {w : World} (s x : Operand) (t e : TypeId) (z : Value) (bytes : Nat) (hop : o.op = .call { callee := .builtin .append, args := #[s, x], argTypes := #[t, t] })
    (h1 : P.underlying t = some (.slice e)) (hinfo : (P.info? e).map (fun i => (i.zero, i.size, i.bytes)) = some (some z, 1, bytes)) (hz : z.cells.size = 1)
    (ao : Option Addr) (n : Nat) (olds : List Value) (hs : a.eval s = .slice ao n n) (hnone : ao = none → n = 0) (hlo : olds.length = n) (holds : ∀ b, ao = some b → ∀ j u, olds[j]? = some u → w.cell? (b.add j) = some u)
    (ad : Addr) (u1 : Value) (hx : a.eval x = .slice (some ad) 1 1) (hc : ∀ j u, [u1][j]? = some u → w.cell? (ad.add j) = some u) (h1c : u1.oneCell' = true) (b1 : n + 1 ≤ maxLen) (b2 : (n + 1) * bytes ≤ 140737488355328) :
    ∃ v' w', (execOp a.eval o).run P w = .ok (.value v') w' ∧ w'.ownsRow w.heap.size e 1 v' (n + 1) (olds ++ [u1]) ∧ w.grownBy w' none := by
  obtain ⟨i, h2, hi⟩ := Option.map_eq_some_iff.1 hinfo
  injection hi with h3 h45
  injection h45 with h4 h5
  cases ao with
  | some b =>
    obtain ⟨v', w', hrun, r1, r2⟩ := run_append_arg_grows (P := P) w t o.type e i z 1 bytes h1 h2 h3 h4 h5 hz (by omega) b n n olds (by omega) (holds b rfl) ad 1 1 [u1] rfl hc (by omega) b1 b2
    refine ⟨v', w', ?_, r1, r2⟩
    simp [execOp, hop, resolve, invoke, builtin, hs, hx, hrun, Result.andThen]
  | none =>
    obtain rfl := hnone rfl
    obtain rfl : olds = [] := List.eq_nil_of_length_eq_zero hlo
    obtain ⟨v', w', hrun, r1, r2, _⟩ := run_append_own (P := P) w w.heap.size t o.type e i z 1 bytes h1 h2 h3 h4 h5 hz (by omega) (.slice none 0 0) 0 [] (World.ownsRow_nil w _ e 1) ad 1 1 [u1] rfl hc (by simpa using h1c) b1 b2 (Nat.le_refl _)
    refine ⟨v', w', ?_, r1, r2⟩
    simp [execOp, hop, resolve, invoke, builtin, hs, hx, hrun, Result.andThen]
theorem appends_step {P : Program} {ops : Array Oper} {Q : Exit → Act → World → Prop} {K : Act → World → Prop} {N : Option Tmp} {o : Oper} {a : Act} {w : World} (hw : Region.wanted o (yielded ops a.tmps) = true) (hN : o.dst = N) (s x : Operand) (t e : TypeId) (z : Value) (bytes : Nat) (hop : o.op = .call { callee := .builtin .append, args := #[s, x], argTypes := #[t, t] })
    (h1 : P.underlying t = some (.slice e)) (hinfo : (P.info? e).map (fun i => (i.zero, i.size, i.bytes)) = some (some z, 1, bytes)) (hz : z.cells.size = 1)
    (ao : Option Addr) (n : Nat) (olds : List Value) (hs : a.eval s = .slice ao n n) (hnone : ao = none → n = 0) (hlo : olds.length = n) (holds : ∀ b, ao = some b → ∀ j u, olds[j]? = some u → w.cell? (b.add j) = some u)
    (ad : Addr) (u1 : Value) (hx : a.eval x = .slice (some ad) 1 1) (hc : ∀ j u, [u1][j]? = some u → w.cell? (ad.add j) = some u) (h1c : u1.oneCell' = true) (b1 : n + 1 ≤ maxLen) (b2 : (n + 1) * bytes ≤ 140737488355328)
    (h : ∀ v' w', w'.ownsRow w.heap.size e 1 v' (n + 1) (olds ++ [u1]) → w.grownBy w' none → K (a.put N v') w') : if Region.wanted o (yielded ops a.tmps) = true then Oper.wp P o a w K Q else K (a.put N undef) w := by
  obtain ⟨v', w', hrun, r1, r2⟩ := appends_new s x t e z bytes hop h1 hinfo hz ao n olds hs hnone hlo holds ad u1 hx hc h1c b1 b2
  exact value_ hw hN hrun (h v' w' r1 r2)
/-- A row of this call's own outlives what leaves blocks of its type. -/
theorem R_kept {w w1 : World} {base : Nat} {v : Value} {xs : List Int} (h : Kd.R (Kd.int .i64) 3 w base (fun _ => True) v xs) (hk : ∀ (k : Nat) (cells : Array Value), w.heap[k]? = some (.cells cells 3 (0, 0)) → w1.heap[k]? = w.heap[k]?) : Kd.R (Kd.int .i64) 3 w1 base (fun _ => True) v xs := by
  refine Kd.R_mono (Kd.R_move (Kd.R_bound h) (fun k hk2 => ?_)) (fun _ _ => trivial)
  obtain ⟨_, _, _, q, hq, cells, hc⟩ := hk2
  obtain rfl : q = 3 := by simpa [Kd.int, Kd.scalar] using hq
  exact hk k cells hc
/-- A row of other types is not this one's block. -/
theorem R_apart {α β : Type} {d : Kd α} {d' : Kd β} {e e' : Nat} {w : World} {base base' : Nat} {ok ok' : Nat → Prop} {v v' : Value} {xs : List α} {ys : List β} (h : d.R e w base ok v xs) (h' : d'.R e' w base' ok' v' ys) (ht : ∀ q, q ∈ e :: d.E → q ≠ e') : d.R e w base (fun k => ok k ∧ some k ≠ v'.ownBlock) v xs := by
  obtain ⟨_, inner, ho, _⟩ := h'
  cases hv : v'.ownBlock with
  | none => exact Kd.R_mono h (fun k hk => ⟨hk, by simp⟩)
  | some g =>
    obtain ⟨cells, hc⟩ := own_typed ho g hv
    refine Kd.R_mono (Kd.R_types h hc ht) (fun k hk => ⟨hk.1, fun he => hk.2 (Option.some.inj he)⟩)

abbrev ptrW (g : Nat) : Value := .pointer (some ⟨g, 0, none⟩)
end Go.Proofs.Ytbamkkdikeedoaa.G
