/- By hand: source.All (its closure: HandTell). -/
import Derived.Test.YtbamkkdikeedoaaGSource
import Derived.Test.YtbamkkdikeedoaaHandTell
namespace Go.Proofs.Ytbamkkdikeedoaa.G
open Go.RowKit Go.Proofs.YtbamkkdikeedoaaW.PrintWords Go.Proofs.YtbamkkdikeedoaaW.PrintLast Go.Proofs.YtbamkkdikeedoaaW.PrintMore
attribute [local go_sem] max2_int min2_int max_two min_two max_three min_three max_four min_four   -- for this text's walks alone
set_option linter.unusedVariables false
set_option linter.unusedSimpArgs false

/-- As many ways as there are: none is told if they come to be more than 20000. -/
def manyT : List (List Int) → Int → Option Int
  | [], m => some m
  | l :: ls, m => if m * l.length > 20000 then none else manyT ls (m * l.length)
/-- All ways to read, out of whence each may read. -/
def allT (c : List (List Int)) : List (List Int) := match manyT c 1 with
  | none => []
  | some m => if m = 0 then [] else tellT c []
def source_All.f (k : Nat) (l0_0 : List (S26)) (l0_1 : List Int) (l0_2 : List Int) (l0_3 : List Int) (l0_4 : List Int) (l0_5 : List Int) (l0_6 : List (List Int)) (l1 : List Int) : Option (List (List Int)) := (source_choices.f k l0_0 l0_1 l0_2 l0_3 l0_4 l0_5 l0_6 l1).bind fun c => if c.length < 1000000 ∧ ∀ l ∈ c, l.length < 1000000 then some (allT c) else none
theorem run_store_func {P : Program} {w : World} {a : Addr} {m : Mode} (f : Fn) (x y : Array Value) : (store a (.func f x y) m).run P w = stored P w a (.func f x y) m := run_store P w a _ m rfl
attribute [local go_sem] run_store_func
end Go.Proofs.Ytbamkkdikeedoaa.G
