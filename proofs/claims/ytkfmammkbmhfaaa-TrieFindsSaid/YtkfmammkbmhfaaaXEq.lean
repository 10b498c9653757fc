/- '==' of structs and arrays, as one Bool. -/
import Derived.Test.YtkfmammkbmhfaaaProg
import Derived.Test.YtkfmammkbmhfaaaXBase
import Derived.WalkKit
import Derived.WalkSpells
import Derived.WalkLawsBesides
import Derived.KernelRfl
namespace Go.Proofs.Ytkfmammkbmhfaaa
open Go.RowKit
set_option linter.unusedSimpArgs false
set_option linter.unusedVariables false
theorem eqI_31 (d : Nat) (x0 : Int) (x1 : Int) (y0 : Int) (y1 : Int) (w : World) : (Op.equalIn (d + 2) 31 (.agg #[.int .u64 x0, .int .u64 x1]) (.agg #[.int .u64 y0, .int .u64 y1])).run Try.prog w = .ok (same (⟨x0, x1⟩ : A2) (⟨y0, y1⟩ : A2)) w := by
  have hu : Try.prog.underlying 31 = some (.array 2 28) := by kernel_rfl
  rw [Op.equalIn]
  simp only [Sem.run_bind, run_underlying hu, Result.andThen_ok, Std.Legacy.Range.forIn_eq_forIn_range', Std.Legacy.Range.size, List.range', List.forIn_cons, List.forIn_nil]
  go_simp
  unfold same
  by_cases h1 : x0 = y0 <;> by_cases h2 : x1 = y1 <;> simp [h1, h2]
attribute [local go_sem] eqI_31
theorem eql_31 (x0 : Int) (x1 : Int) (y0 : Int) (y1 : Int) (w : World) : (binOp .eql 31 (.agg #[.int .u64 x0, .int .u64 x1]) (.agg #[.int .u64 y0, .int .u64 y1])).run Try.prog w = .ok (.bool (same (⟨x0, x1⟩ : A2) (⟨y0, y1⟩ : A2))) w := by
  rw [run_eql_struct, show (10000 : Nat) = 9998 + 2 from rfl, eqI_31]; rfl
theorem neq_31 (x0 : Int) (x1 : Int) (y0 : Int) (y1 : Int) (w : World) : (binOp .neq 31 (.agg #[.int .u64 x0, .int .u64 x1]) (.agg #[.int .u64 y0, .int .u64 y1])).run Try.prog w = .ok (.bool (!(same (⟨x0, x1⟩ : A2) (⟨y0, y1⟩ : A2)))) w := by
  rw [run_neq_struct, show (10000 : Nat) = 9998 + 2 from rfl, eqI_31]; rfl
theorem eqg_31 : Try.prog.eqGuardType Try.prog.depth 31 = false := by kernel_rfl
theorem eqI_30 (d : Nat) (x0 : Int) (x1 : Int) (y0 : Int) (y1 : Int) (w : World) : (Op.equalIn (d + 2) 30 (.agg #[.int .u64 x0, .int .u64 x1]) (.agg #[.int .u64 y0, .int .u64 y1])).run Try.prog w = .ok (same (⟨x0, x1⟩ : A2) (⟨y0, y1⟩ : A2)) w := by
  have hu : Try.prog.underlying 30 = some (.array 2 28) := by kernel_rfl
  rw [Op.equalIn]
  simp only [Sem.run_bind, run_underlying hu, Result.andThen_ok, Std.Legacy.Range.forIn_eq_forIn_range', Std.Legacy.Range.size, List.range', List.forIn_cons, List.forIn_nil]
  go_simp
  unfold same
  by_cases h1 : x0 = y0 <;> by_cases h2 : x1 = y1 <;> simp [h1, h2]
attribute [local go_sem] eqI_30
theorem eql_30 (x0 : Int) (x1 : Int) (y0 : Int) (y1 : Int) (w : World) : (binOp .eql 30 (.agg #[.int .u64 x0, .int .u64 x1]) (.agg #[.int .u64 y0, .int .u64 y1])).run Try.prog w = .ok (.bool (same (⟨x0, x1⟩ : A2) (⟨y0, y1⟩ : A2))) w := by
  rw [run_eql_struct, show (10000 : Nat) = 9998 + 2 from rfl, eqI_30]; rfl
theorem neq_30 (x0 : Int) (x1 : Int) (y0 : Int) (y1 : Int) (w : World) : (binOp .neq 30 (.agg #[.int .u64 x0, .int .u64 x1]) (.agg #[.int .u64 y0, .int .u64 y1])).run Try.prog w = .ok (.bool (!(same (⟨x0, x1⟩ : A2) (⟨y0, y1⟩ : A2)))) w := by
  rw [run_neq_struct, show (10000 : Nat) = 9998 + 2 from rfl, eqI_30]; rfl
theorem eqg_30 : Try.prog.eqGuardType Try.prog.depth 30 = false := by kernel_rfl
theorem eqI_33 (d : Nat) (x0 : Int) (x1 : Int) (x2 : Int) (y0 : Int) (y1 : Int) (y2 : Int) (w : World) : (Op.equalIn (d + 4) 33 (.agg #[.int .u64 x0, .int .u64 x1, .int .i64 x2]) (.agg #[.int .u64 y0, .int .u64 y1, .int .i64 y2])).run Try.prog w = .ok (same (⟨⟨x0, x1⟩, x2⟩ : Pfx) (⟨⟨y0, y1⟩, y2⟩ : Pfx)) w := by
  have hS : Try.prog.underlying 33 = some (.struct (Try.prog.fieldsOf 33)) := by kernel_rfl
  have hp : Try.prog.stoodInHeld 33 = false := by kernel_rfl
  rw [run_equalIn_agg w (d + 3) 33 _ _ hS hp]
  simp only [Program.fieldsOf, Try.underlying33]
  go_simp
  unfold same
  first | done | (rw [Bool.eq_iff_iff]; simp) | ((repeat' split) <;> simp_all)
attribute [local go_sem] eqI_33
theorem eql_33 (x0 : Int) (x1 : Int) (x2 : Int) (y0 : Int) (y1 : Int) (y2 : Int) (w : World) : (binOp .eql 33 (.agg #[.int .u64 x0, .int .u64 x1, .int .i64 x2]) (.agg #[.int .u64 y0, .int .u64 y1, .int .i64 y2])).run Try.prog w = .ok (.bool (same (⟨⟨x0, x1⟩, x2⟩ : Pfx) (⟨⟨y0, y1⟩, y2⟩ : Pfx))) w := by
  rw [run_eql_struct, show (10000 : Nat) = 9996 + 4 from rfl, eqI_33]; rfl
theorem neq_33 (x0 : Int) (x1 : Int) (x2 : Int) (y0 : Int) (y1 : Int) (y2 : Int) (w : World) : (binOp .neq 33 (.agg #[.int .u64 x0, .int .u64 x1, .int .i64 x2]) (.agg #[.int .u64 y0, .int .u64 y1, .int .i64 y2])).run Try.prog w = .ok (.bool (!(same (⟨⟨x0, x1⟩, x2⟩ : Pfx) (⟨⟨y0, y1⟩, y2⟩ : Pfx)))) w := by
  rw [run_neq_struct, show (10000 : Nat) = 9996 + 4 from rfl, eqI_33]; rfl
theorem eqg_33 : Try.prog.eqGuardType Try.prog.depth 33 = false := by kernel_rfl
theorem eqI_48 (d : Nat) (x0 : Int) (x1 : Int) (x2 : Int) (y0 : Int) (y1 : Int) (y2 : Int) (w : World) : (Op.equalIn (d + 4) 48 (.agg #[.int .u64 x0, .int .u64 x1, .int .i64 x2]) (.agg #[.int .u64 y0, .int .u64 y1, .int .i64 y2])).run Try.prog w = .ok (same (⟨⟨x0, x1⟩, x2⟩ : Pfx) (⟨⟨y0, y1⟩, y2⟩ : Pfx)) w := by
  have hS : Try.prog.underlying 48 = some (.struct (Try.prog.fieldsOf 48)) := by kernel_rfl
  have hp : Try.prog.stoodInHeld 48 = false := by kernel_rfl
  rw [run_equalIn_agg w (d + 3) 48 _ _ hS hp]
  simp only [Program.fieldsOf, Try.underlying48]
  go_simp
  unfold same
  first | done | (rw [Bool.eq_iff_iff]; simp) | ((repeat' split) <;> simp_all)
attribute [local go_sem] eqI_48
theorem eql_48 (x0 : Int) (x1 : Int) (x2 : Int) (y0 : Int) (y1 : Int) (y2 : Int) (w : World) : (binOp .eql 48 (.agg #[.int .u64 x0, .int .u64 x1, .int .i64 x2]) (.agg #[.int .u64 y0, .int .u64 y1, .int .i64 y2])).run Try.prog w = .ok (.bool (same (⟨⟨x0, x1⟩, x2⟩ : Pfx) (⟨⟨y0, y1⟩, y2⟩ : Pfx))) w := by
  rw [run_eql_struct, show (10000 : Nat) = 9996 + 4 from rfl, eqI_48]; rfl
theorem neq_48 (x0 : Int) (x1 : Int) (x2 : Int) (y0 : Int) (y1 : Int) (y2 : Int) (w : World) : (binOp .neq 48 (.agg #[.int .u64 x0, .int .u64 x1, .int .i64 x2]) (.agg #[.int .u64 y0, .int .u64 y1, .int .i64 y2])).run Try.prog w = .ok (.bool (!(same (⟨⟨x0, x1⟩, x2⟩ : Pfx) (⟨⟨y0, y1⟩, y2⟩ : Pfx)))) w := by
  rw [run_neq_struct, show (10000 : Nat) = 9996 + 4 from rfl, eqI_48]; rfl
theorem eqg_48 : Try.prog.eqGuardType Try.prog.depth 48 = false := by kernel_rfl
theorem eqI_35 (d : Nat) (x0 : Int) (x1 : Int) (x2 : Int) (x3 : Int) (y0 : Int) (y1 : Int) (y2 : Int) (y3 : Int) (w : World) : (Op.equalIn (d + 6) 35 (.agg #[.int .u64 x0, .int .u64 x1, .int .i64 x2, .int .i64 x3]) (.agg #[.int .u64 y0, .int .u64 y1, .int .i64 y2, .int .i64 y3])).run Try.prog w = .ok (same (⟨⟨⟨x0, x1⟩, x2⟩, x3⟩ : Rte) (⟨⟨⟨y0, y1⟩, y2⟩, y3⟩ : Rte)) w := by
  have hS : Try.prog.underlying 35 = some (.struct (Try.prog.fieldsOf 35)) := by kernel_rfl
  have hp : Try.prog.stoodInHeld 35 = false := by kernel_rfl
  rw [run_equalIn_agg w (d + 5) 35 _ _ hS hp]
  simp only [Program.fieldsOf, Try.underlying35]
  go_simp
  unfold same
  first | done | (rw [Bool.eq_iff_iff]; simp) | ((repeat' split) <;> simp_all)
attribute [local go_sem] eqI_35
theorem eql_35 (x0 : Int) (x1 : Int) (x2 : Int) (x3 : Int) (y0 : Int) (y1 : Int) (y2 : Int) (y3 : Int) (w : World) : (binOp .eql 35 (.agg #[.int .u64 x0, .int .u64 x1, .int .i64 x2, .int .i64 x3]) (.agg #[.int .u64 y0, .int .u64 y1, .int .i64 y2, .int .i64 y3])).run Try.prog w = .ok (.bool (same (⟨⟨⟨x0, x1⟩, x2⟩, x3⟩ : Rte) (⟨⟨⟨y0, y1⟩, y2⟩, y3⟩ : Rte))) w := by
  rw [run_eql_struct, show (10000 : Nat) = 9994 + 6 from rfl, eqI_35]; rfl
theorem neq_35 (x0 : Int) (x1 : Int) (x2 : Int) (x3 : Int) (y0 : Int) (y1 : Int) (y2 : Int) (y3 : Int) (w : World) : (binOp .neq 35 (.agg #[.int .u64 x0, .int .u64 x1, .int .i64 x2, .int .i64 x3]) (.agg #[.int .u64 y0, .int .u64 y1, .int .i64 y2, .int .i64 y3])).run Try.prog w = .ok (.bool (!(same (⟨⟨⟨x0, x1⟩, x2⟩, x3⟩ : Rte) (⟨⟨⟨y0, y1⟩, y2⟩, y3⟩ : Rte)))) w := by
  rw [run_neq_struct, show (10000 : Nat) = 9994 + 6 from rfl, eqI_35]; rfl
theorem eqg_35 : Try.prog.eqGuardType Try.prog.depth 35 = false := by kernel_rfl
theorem eqI_50 (d : Nat) (x0 : Int) (x1 : Int) (x2 : Int) (x3 : Int) (y0 : Int) (y1 : Int) (y2 : Int) (y3 : Int) (w : World) : (Op.equalIn (d + 6) 50 (.agg #[.int .u64 x0, .int .u64 x1, .int .i64 x2, .int .i64 x3]) (.agg #[.int .u64 y0, .int .u64 y1, .int .i64 y2, .int .i64 y3])).run Try.prog w = .ok (same (⟨⟨⟨x0, x1⟩, x2⟩, x3⟩ : Rte) (⟨⟨⟨y0, y1⟩, y2⟩, y3⟩ : Rte)) w := by
  have hS : Try.prog.underlying 50 = some (.struct (Try.prog.fieldsOf 50)) := by kernel_rfl
  have hp : Try.prog.stoodInHeld 50 = false := by kernel_rfl
  rw [run_equalIn_agg w (d + 5) 50 _ _ hS hp]
  simp only [Program.fieldsOf, Try.underlying50]
  go_simp
  unfold same
  first | done | (rw [Bool.eq_iff_iff]; simp) | ((repeat' split) <;> simp_all)
attribute [local go_sem] eqI_50
theorem eql_50 (x0 : Int) (x1 : Int) (x2 : Int) (x3 : Int) (y0 : Int) (y1 : Int) (y2 : Int) (y3 : Int) (w : World) : (binOp .eql 50 (.agg #[.int .u64 x0, .int .u64 x1, .int .i64 x2, .int .i64 x3]) (.agg #[.int .u64 y0, .int .u64 y1, .int .i64 y2, .int .i64 y3])).run Try.prog w = .ok (.bool (same (⟨⟨⟨x0, x1⟩, x2⟩, x3⟩ : Rte) (⟨⟨⟨y0, y1⟩, y2⟩, y3⟩ : Rte))) w := by
  rw [run_eql_struct, show (10000 : Nat) = 9994 + 6 from rfl, eqI_50]; rfl
theorem neq_50 (x0 : Int) (x1 : Int) (x2 : Int) (x3 : Int) (y0 : Int) (y1 : Int) (y2 : Int) (y3 : Int) (w : World) : (binOp .neq 50 (.agg #[.int .u64 x0, .int .u64 x1, .int .i64 x2, .int .i64 x3]) (.agg #[.int .u64 y0, .int .u64 y1, .int .i64 y2, .int .i64 y3])).run Try.prog w = .ok (.bool (!(same (⟨⟨⟨x0, x1⟩, x2⟩, x3⟩ : Rte) (⟨⟨⟨y0, y1⟩, y2⟩, y3⟩ : Rte)))) w := by
  rw [run_neq_struct, show (10000 : Nat) = 9994 + 6 from rfl, eqI_50]; rfl
theorem eqg_50 : Try.prog.eqGuardType Try.prog.depth 50 = false := by kernel_rfl
end Go.Proofs.Ytkfmammkbmhfaaa
