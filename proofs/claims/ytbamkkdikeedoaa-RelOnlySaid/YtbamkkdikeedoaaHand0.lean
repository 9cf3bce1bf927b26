/- What is by hand ahead of all: '==' of two arrays of two numbers. -/
import Derived.Test.YtbamkkdikeedoaaG0
import Derived.Laws.StructEq
namespace Go.Proofs.Ytbamkkdikeedoaa.G
open Go.RowKit Go.Proofs.YtbamkkdikeedoaaW.PrintWords Go.Proofs.YtbamkkdikeedoaaW.PrintLast Go.Proofs.YtbamkkdikeedoaaW.PrintMore
set_option linter.unusedSimpArgs false

theorem eqA46 (d : Nat) (w : World) (x0 y0 : Int) (x1 y1 : Int) :
    (Op.equalIn (d + 2) 46 (.agg #[.int .i64 x0, .int .i64 x1]) (.agg #[.int .i64 y0, .int .i64 y1])).run Try.prog w = .ok (x0 == y0 && (x1 == y1)) w := by
  have h3 : ∀ (a b : Int), (Op.equalIn (d + 1) 3 (.int .i64 a) (.int .i64 b)).run Try.prog w = .ok (a == b) w := by
    intro a b
    simp [Op.equalIn, run_underlying Try.underlying3]
  rw [Op.equalIn]
  simp only [Sem.run_bind, run_underlying Try.underlying46, Result.andThen_ok]
  have hs : (sizeOf 3).run Try.prog w = .ok 1 w := by kernel_rfl
  simp only [hs, Result.andThen_ok]
  have hp : ∀ (a b : Int), (part 3 #[.int .i64 a, .int .i64 b] (0 * 1)).run Try.prog w = .ok (.int .i64 a) w := fun a b => by go_simp
  have hq : ∀ (a b : Int), (part 3 #[.int .i64 a, .int .i64 b] (1 * 1)).run Try.prog w = .ok (.int .i64 b) w := fun a b => by go_simp
  simp only [Std.Legacy.Range.forIn_eq_forIn_range', Std.Legacy.Range.size, Nat.sub_zero, Nat.add_sub_cancel, Nat.div_one, List.range'_succ, List.range'_zero, List.forIn_cons, List.forIn_nil]
  simp only [Nat.zero_mul, Nat.zero_add, Nat.one_mul, Nat.mul_one] at hp hq ⊢
  cases h0 : (x0 == y0) <;> cases h1 : (x1 == y1) <;> simp [hp, hq, h3, h0, h1]
end Go.Proofs.Ytbamkkdikeedoaa.G
