/- Two arrays of four whole numbers are equal where all four places are: the run of ==. By hand. -/
import Derived.Test.YtfimgecceneagaaPAllx0
namespace Go.Proofs.Ytfimgecceneagaa.PAll
open Go Go.RowKit Go.Proofs.YtfimgecceneagaaW.PrintWords Go.Proofs.YtfimgecceneagaaW.PrintLast
theorem part4 (a0 a1 a2 a3 : Int) (w : World) (i : Nat) (h : i < 4) : (Go.part 3 #[.int .i64 a0, .int .i64 a1, .int .i64 a2, .int .i64 a3] i).run Try.prog w = .ok (.int .i64 ([a0, a1, a2, a3].getD i 0)) w := by
  match i, h with
  | 0, _ => rfl
  | 1, _ => rfl
  | 2, _ => rfl
  | 3, _ => rfl
theorem eq_arr4 (a0 a1 a2 a3 b0 b1 b2 b3 : Int) (w : World) : (Op.equalIn 10000 37 (.agg #[.int .i64 a0, .int .i64 a1, .int .i64 a2, .int .i64 a3]) (.agg #[.int .i64 b0, .int .i64 b1, .int .i64 b2, .int .i64 b3])).run Try.prog w = .ok (a0 == b0 && (a1 == b1 && (a2 == b2 && a3 == b3))) w := by
  have hs : (sizeOf 3).run Try.prog w = .ok 1 w := by rfl
  have hp : ∀ (a0 a1 a2 a3 : Int) (i : Nat) (h : i < 4), (Go.part 3 #[.int .i64 a0, .int .i64 a1, .int .i64 a2, .int .i64 a3] i).run Try.prog w = .ok (.int .i64 ([a0, a1, a2, a3].getD i 0)) w := fun a0 a1 a2 a3 i h => part4 a0 a1 a2 a3 w i h
  have he : ∀ a b : Int, (Op.equalIn 9999 3 (.int .i64 a) (.int .i64 b)).run Try.prog w = .ok (a == b) w := fun a b => run_equalIn_int w 9998 3 .i64 .i64 a b Try.underlying3
  show (Op.equalIn (9999 + 1) 37 _ _).run Try.prog w = _
  unfold Op.equalIn
  simp only [Sem.run_bind, run_underlying Try.underlying37, Result.andThen_ok, hs]
  simp [Std.Legacy.Range.forIn_eq_forIn_range', Sem.run_bind, hp, he, List.range', Result.andThen_ok]
  by_cases h0 : a0 = b0 <;> by_cases h1 : a1 = b1 <;> by_cases h2 : a2 = b2 <;> by_cases h3 : a3 = b3 <;> simp [h0, h1, h2, h3]
end Go.Proofs.Ytfimgecceneagaa.PAll
