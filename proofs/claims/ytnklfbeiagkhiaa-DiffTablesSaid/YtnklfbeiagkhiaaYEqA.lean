/- Equality of rows of three numbers. -/
import Derived.Test.YtnklfbeiagkhiaaYAbs3
import Derived.Test.YtnklfbeiagkhiaaYEq
namespace Go.Proofs.Ytnklfbeiagkhiaa
set_option linter.unusedSimpArgs false
set_option linter.unusedVariables false
open Go Go.RowKit Go.Shelf
theorem eqI_102 (d : Nat) (x0 x1 x2 y0 y1 y2 : Int) (w : World) : (Op.equalIn (d + 2) 102 (.agg #[.int .i64 x0, .int .i64 x1, .int .i64 x2]) (.agg #[.int .i64 y0, .int .i64 y1, .int .i64 y2])).run Try.prog w = .ok (same (x0, x1, x2) (y0, y1, y2)) w := by
  have hu : Try.prog.underlying 102 = some (.array 3 3) := by kernel_rfl
  rw [Op.equalIn]
  simp only [Sem.run_bind, run_underlying hu, Result.andThen_ok, Std.Legacy.Range.forIn_eq_forIn_range', Std.Legacy.Range.size, List.range', List.forIn_cons, List.forIn_nil]
  go_simp
  unfold same
  by_cases h1 : x0 = y0 <;> by_cases h2 : x1 = y1 <;> by_cases h3 : x2 = y2 <;> simp [h1, h2, h3]
attribute [local go_sem] eqI_102
theorem eql_102 (x0 x1 x2 y0 y1 y2 : Int) (w : World) : (binOp .eql 102 (.agg #[.int .i64 x0, .int .i64 x1, .int .i64 x2]) (.agg #[.int .i64 y0, .int .i64 y1, .int .i64 y2])).run Try.prog w = .ok (.bool (same (x0, x1, x2) (y0, y1, y2))) w := by
  rw [run_eql_struct, show (10000 : Nat) = 9998 + 2 from rfl, eqI_102]; rfl
theorem eqg_102 : Try.prog.eqGuardType Try.prog.depth 102 = false := by kernel_rfl
end Go.Proofs.Ytnklfbeiagkhiaa
