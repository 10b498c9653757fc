/- '==' of structs and arrays, as one Bool. -/
import Derived.Test.YtjmnnkhdadoehaaProg
import Derived.Test.YtjmnnkhdadoehaaQBase
import Derived.WalkKit
import Derived.WalkSpells
import Derived.WalkLawsBesides
import Derived.KernelRfl
namespace Go.Proofs.Ytjmnnkhdadoehaa
open Go.RowKit
set_option linter.unusedSimpArgs false
set_option linter.unusedVariables false
theorem eqI_25 (d : Nat) (x0 : Int) (x1 : Int) (y0 : Int) (y1 : Int) (w : World) : (Op.equalIn (d + 2) 25 (.agg #[.int .u64 x0, .int .u64 x1]) (.agg #[.int .u64 y0, .int .u64 y1])).run Try.prog w = .ok (same (⟨x0, x1⟩ : A2) (⟨y0, y1⟩ : A2)) w := by
  have hu : Try.prog.underlying 25 = some (.array 2 23) := by kernel_rfl
  rw [Op.equalIn]
  simp only [Sem.run_bind, run_underlying hu, Result.andThen_ok, Std.Legacy.Range.forIn_eq_forIn_range', Std.Legacy.Range.size, List.range', List.forIn_cons, List.forIn_nil]
  go_simp
  unfold same
  by_cases h1 : x0 = y0 <;> by_cases h2 : x1 = y1 <;> simp [h1, h2]
attribute [local go_sem] eqI_25
theorem eql_25 (x0 : Int) (x1 : Int) (y0 : Int) (y1 : Int) (w : World) : (binOp .eql 25 (.agg #[.int .u64 x0, .int .u64 x1]) (.agg #[.int .u64 y0, .int .u64 y1])).run Try.prog w = .ok (.bool (same (⟨x0, x1⟩ : A2) (⟨y0, y1⟩ : A2))) w := by
  rw [run_eql_struct, show (10000 : Nat) = 9998 + 2 from rfl, eqI_25]; rfl
theorem neq_25 (x0 : Int) (x1 : Int) (y0 : Int) (y1 : Int) (w : World) : (binOp .neq 25 (.agg #[.int .u64 x0, .int .u64 x1]) (.agg #[.int .u64 y0, .int .u64 y1])).run Try.prog w = .ok (.bool (!(same (⟨x0, x1⟩ : A2) (⟨y0, y1⟩ : A2)))) w := by
  rw [run_neq_struct, show (10000 : Nat) = 9998 + 2 from rfl, eqI_25]; rfl
theorem eqg_25 : Try.prog.eqGuardType Try.prog.depth 25 = false := by kernel_rfl
theorem eqI_24 (d : Nat) (x0 : Int) (x1 : Int) (y0 : Int) (y1 : Int) (w : World) : (Op.equalIn (d + 2) 24 (.agg #[.int .u64 x0, .int .u64 x1]) (.agg #[.int .u64 y0, .int .u64 y1])).run Try.prog w = .ok (same (⟨x0, x1⟩ : A2) (⟨y0, y1⟩ : A2)) w := by
  have hu : Try.prog.underlying 24 = some (.array 2 23) := by kernel_rfl
  rw [Op.equalIn]
  simp only [Sem.run_bind, run_underlying hu, Result.andThen_ok, Std.Legacy.Range.forIn_eq_forIn_range', Std.Legacy.Range.size, List.range', List.forIn_cons, List.forIn_nil]
  go_simp
  unfold same
  by_cases h1 : x0 = y0 <;> by_cases h2 : x1 = y1 <;> simp [h1, h2]
attribute [local go_sem] eqI_24
theorem eql_24 (x0 : Int) (x1 : Int) (y0 : Int) (y1 : Int) (w : World) : (binOp .eql 24 (.agg #[.int .u64 x0, .int .u64 x1]) (.agg #[.int .u64 y0, .int .u64 y1])).run Try.prog w = .ok (.bool (same (⟨x0, x1⟩ : A2) (⟨y0, y1⟩ : A2))) w := by
  rw [run_eql_struct, show (10000 : Nat) = 9998 + 2 from rfl, eqI_24]; rfl
theorem neq_24 (x0 : Int) (x1 : Int) (y0 : Int) (y1 : Int) (w : World) : (binOp .neq 24 (.agg #[.int .u64 x0, .int .u64 x1]) (.agg #[.int .u64 y0, .int .u64 y1])).run Try.prog w = .ok (.bool (!(same (⟨x0, x1⟩ : A2) (⟨y0, y1⟩ : A2)))) w := by
  rw [run_neq_struct, show (10000 : Nat) = 9998 + 2 from rfl, eqI_24]; rfl
theorem eqg_24 : Try.prog.eqGuardType Try.prog.depth 24 = false := by kernel_rfl
theorem eqI_27 (d : Nat) (x0 : Int) (x1 : Int) (x2 : Int) (x3 : Int) (y0 : Int) (y1 : Int) (y2 : Int) (y3 : Int) (w : World) : (Op.equalIn (d + 4) 27 (.agg #[.int .u64 x0, .int .u64 x1, .int .u64 x2, .int .u64 x3]) (.agg #[.int .u64 y0, .int .u64 y1, .int .u64 y2, .int .u64 y3])).run Try.prog w = .ok (same (⟨⟨x0, x1⟩, ⟨x2, x3⟩⟩ : W2) (⟨⟨y0, y1⟩, ⟨y2, y3⟩⟩ : W2)) w := by
  have hS : Try.prog.underlying 27 = some (.struct (Try.prog.fieldsOf 27)) := by kernel_rfl
  have hp : Try.prog.stoodInHeld 27 = false := by kernel_rfl
  rw [run_equalIn_agg w (d + 3) 27 _ _ hS hp]
  simp only [Program.fieldsOf, Try.underlying27]
  go_simp
  unfold same
  first | done | (rw [Bool.eq_iff_iff]; simp) | ((repeat' split) <;> simp_all)
attribute [local go_sem] eqI_27
theorem eql_27 (x0 : Int) (x1 : Int) (x2 : Int) (x3 : Int) (y0 : Int) (y1 : Int) (y2 : Int) (y3 : Int) (w : World) : (binOp .eql 27 (.agg #[.int .u64 x0, .int .u64 x1, .int .u64 x2, .int .u64 x3]) (.agg #[.int .u64 y0, .int .u64 y1, .int .u64 y2, .int .u64 y3])).run Try.prog w = .ok (.bool (same (⟨⟨x0, x1⟩, ⟨x2, x3⟩⟩ : W2) (⟨⟨y0, y1⟩, ⟨y2, y3⟩⟩ : W2))) w := by
  rw [run_eql_struct, show (10000 : Nat) = 9996 + 4 from rfl, eqI_27]; rfl
theorem neq_27 (x0 : Int) (x1 : Int) (x2 : Int) (x3 : Int) (y0 : Int) (y1 : Int) (y2 : Int) (y3 : Int) (w : World) : (binOp .neq 27 (.agg #[.int .u64 x0, .int .u64 x1, .int .u64 x2, .int .u64 x3]) (.agg #[.int .u64 y0, .int .u64 y1, .int .u64 y2, .int .u64 y3])).run Try.prog w = .ok (.bool (!(same (⟨⟨x0, x1⟩, ⟨x2, x3⟩⟩ : W2) (⟨⟨y0, y1⟩, ⟨y2, y3⟩⟩ : W2)))) w := by
  rw [run_neq_struct, show (10000 : Nat) = 9996 + 4 from rfl, eqI_27]; rfl
theorem eqg_27 : Try.prog.eqGuardType Try.prog.depth 27 = false := by kernel_rfl
theorem eqI_41 (d : Nat) (x0 : Int) (x1 : Int) (x2 : Int) (x3 : Int) (y0 : Int) (y1 : Int) (y2 : Int) (y3 : Int) (w : World) : (Op.equalIn (d + 4) 41 (.agg #[.int .u64 x0, .int .u64 x1, .int .u64 x2, .int .u64 x3]) (.agg #[.int .u64 y0, .int .u64 y1, .int .u64 y2, .int .u64 y3])).run Try.prog w = .ok (same (⟨⟨x0, x1⟩, ⟨x2, x3⟩⟩ : W2) (⟨⟨y0, y1⟩, ⟨y2, y3⟩⟩ : W2)) w := by
  have hS : Try.prog.underlying 41 = some (.struct (Try.prog.fieldsOf 41)) := by kernel_rfl
  have hp : Try.prog.stoodInHeld 41 = false := by kernel_rfl
  rw [run_equalIn_agg w (d + 3) 41 _ _ hS hp]
  simp only [Program.fieldsOf, Try.underlying41]
  go_simp
  unfold same
  first | done | (rw [Bool.eq_iff_iff]; simp) | ((repeat' split) <;> simp_all)
attribute [local go_sem] eqI_41
theorem eql_41 (x0 : Int) (x1 : Int) (x2 : Int) (x3 : Int) (y0 : Int) (y1 : Int) (y2 : Int) (y3 : Int) (w : World) : (binOp .eql 41 (.agg #[.int .u64 x0, .int .u64 x1, .int .u64 x2, .int .u64 x3]) (.agg #[.int .u64 y0, .int .u64 y1, .int .u64 y2, .int .u64 y3])).run Try.prog w = .ok (.bool (same (⟨⟨x0, x1⟩, ⟨x2, x3⟩⟩ : W2) (⟨⟨y0, y1⟩, ⟨y2, y3⟩⟩ : W2))) w := by
  rw [run_eql_struct, show (10000 : Nat) = 9996 + 4 from rfl, eqI_41]; rfl
theorem neq_41 (x0 : Int) (x1 : Int) (x2 : Int) (x3 : Int) (y0 : Int) (y1 : Int) (y2 : Int) (y3 : Int) (w : World) : (binOp .neq 41 (.agg #[.int .u64 x0, .int .u64 x1, .int .u64 x2, .int .u64 x3]) (.agg #[.int .u64 y0, .int .u64 y1, .int .u64 y2, .int .u64 y3])).run Try.prog w = .ok (.bool (!(same (⟨⟨x0, x1⟩, ⟨x2, x3⟩⟩ : W2) (⟨⟨y0, y1⟩, ⟨y2, y3⟩⟩ : W2)))) w := by
  rw [run_neq_struct, show (10000 : Nat) = 9996 + 4 from rfl, eqI_41]; rfl
theorem eqg_41 : Try.prog.eqGuardType Try.prog.depth 41 = false := by kernel_rfl
theorem eqI_29 (d : Nat) (x0 : Int) (x1 : Int) (x2 : Int) (x3 : Int) (x4 : Int) (x5 : Int) (y0 : Int) (y1 : Int) (y2 : Int) (y3 : Int) (y4 : Int) (y5 : Int) (w : World) : (Op.equalIn (d + 6) 29 (.agg #[.int .u64 x0, .int .u64 x1, .int .u64 x2, .int .u64 x3, .int .i64 x4, .int .i64 x5]) (.agg #[.int .u64 y0, .int .u64 y1, .int .u64 y2, .int .u64 y3, .int .i64 y4, .int .i64 y5])).run Try.prog w = .ok (same (⟨⟨⟨x0, x1⟩, ⟨x2, x3⟩⟩, x4, x5⟩ : Ent) (⟨⟨⟨y0, y1⟩, ⟨y2, y3⟩⟩, y4, y5⟩ : Ent)) w := by
  have hS : Try.prog.underlying 29 = some (.struct (Try.prog.fieldsOf 29)) := by kernel_rfl
  have hp : Try.prog.stoodInHeld 29 = false := by kernel_rfl
  rw [run_equalIn_agg w (d + 5) 29 _ _ hS hp]
  simp only [Program.fieldsOf, Try.underlying29]
  go_simp
  unfold same
  first | done | (rw [Bool.eq_iff_iff]; simp) | ((repeat' split) <;> simp_all)
attribute [local go_sem] eqI_29
theorem eql_29 (x0 : Int) (x1 : Int) (x2 : Int) (x3 : Int) (x4 : Int) (x5 : Int) (y0 : Int) (y1 : Int) (y2 : Int) (y3 : Int) (y4 : Int) (y5 : Int) (w : World) : (binOp .eql 29 (.agg #[.int .u64 x0, .int .u64 x1, .int .u64 x2, .int .u64 x3, .int .i64 x4, .int .i64 x5]) (.agg #[.int .u64 y0, .int .u64 y1, .int .u64 y2, .int .u64 y3, .int .i64 y4, .int .i64 y5])).run Try.prog w = .ok (.bool (same (⟨⟨⟨x0, x1⟩, ⟨x2, x3⟩⟩, x4, x5⟩ : Ent) (⟨⟨⟨y0, y1⟩, ⟨y2, y3⟩⟩, y4, y5⟩ : Ent))) w := by
  rw [run_eql_struct, show (10000 : Nat) = 9994 + 6 from rfl, eqI_29]; rfl
theorem neq_29 (x0 : Int) (x1 : Int) (x2 : Int) (x3 : Int) (x4 : Int) (x5 : Int) (y0 : Int) (y1 : Int) (y2 : Int) (y3 : Int) (y4 : Int) (y5 : Int) (w : World) : (binOp .neq 29 (.agg #[.int .u64 x0, .int .u64 x1, .int .u64 x2, .int .u64 x3, .int .i64 x4, .int .i64 x5]) (.agg #[.int .u64 y0, .int .u64 y1, .int .u64 y2, .int .u64 y3, .int .i64 y4, .int .i64 y5])).run Try.prog w = .ok (.bool (!(same (⟨⟨⟨x0, x1⟩, ⟨x2, x3⟩⟩, x4, x5⟩ : Ent) (⟨⟨⟨y0, y1⟩, ⟨y2, y3⟩⟩, y4, y5⟩ : Ent)))) w := by
  rw [run_neq_struct, show (10000 : Nat) = 9994 + 6 from rfl, eqI_29]; rfl
theorem eqg_29 : Try.prog.eqGuardType Try.prog.depth 29 = false := by kernel_rfl
theorem eqI_43 (d : Nat) (x0 : Int) (x1 : Int) (x2 : Int) (x3 : Int) (x4 : Int) (x5 : Int) (y0 : Int) (y1 : Int) (y2 : Int) (y3 : Int) (y4 : Int) (y5 : Int) (w : World) : (Op.equalIn (d + 6) 43 (.agg #[.int .u64 x0, .int .u64 x1, .int .u64 x2, .int .u64 x3, .int .i64 x4, .int .i64 x5]) (.agg #[.int .u64 y0, .int .u64 y1, .int .u64 y2, .int .u64 y3, .int .i64 y4, .int .i64 y5])).run Try.prog w = .ok (same (⟨⟨⟨x0, x1⟩, ⟨x2, x3⟩⟩, x4, x5⟩ : Ent) (⟨⟨⟨y0, y1⟩, ⟨y2, y3⟩⟩, y4, y5⟩ : Ent)) w := by
  have hS : Try.prog.underlying 43 = some (.struct (Try.prog.fieldsOf 43)) := by kernel_rfl
  have hp : Try.prog.stoodInHeld 43 = false := by kernel_rfl
  rw [run_equalIn_agg w (d + 5) 43 _ _ hS hp]
  simp only [Program.fieldsOf, Try.underlying43]
  go_simp
  unfold same
  first | done | (rw [Bool.eq_iff_iff]; simp) | ((repeat' split) <;> simp_all)
attribute [local go_sem] eqI_43
theorem eql_43 (x0 : Int) (x1 : Int) (x2 : Int) (x3 : Int) (x4 : Int) (x5 : Int) (y0 : Int) (y1 : Int) (y2 : Int) (y3 : Int) (y4 : Int) (y5 : Int) (w : World) : (binOp .eql 43 (.agg #[.int .u64 x0, .int .u64 x1, .int .u64 x2, .int .u64 x3, .int .i64 x4, .int .i64 x5]) (.agg #[.int .u64 y0, .int .u64 y1, .int .u64 y2, .int .u64 y3, .int .i64 y4, .int .i64 y5])).run Try.prog w = .ok (.bool (same (⟨⟨⟨x0, x1⟩, ⟨x2, x3⟩⟩, x4, x5⟩ : Ent) (⟨⟨⟨y0, y1⟩, ⟨y2, y3⟩⟩, y4, y5⟩ : Ent))) w := by
  rw [run_eql_struct, show (10000 : Nat) = 9994 + 6 from rfl, eqI_43]; rfl
theorem neq_43 (x0 : Int) (x1 : Int) (x2 : Int) (x3 : Int) (x4 : Int) (x5 : Int) (y0 : Int) (y1 : Int) (y2 : Int) (y3 : Int) (y4 : Int) (y5 : Int) (w : World) : (binOp .neq 43 (.agg #[.int .u64 x0, .int .u64 x1, .int .u64 x2, .int .u64 x3, .int .i64 x4, .int .i64 x5]) (.agg #[.int .u64 y0, .int .u64 y1, .int .u64 y2, .int .u64 y3, .int .i64 y4, .int .i64 y5])).run Try.prog w = .ok (.bool (!(same (⟨⟨⟨x0, x1⟩, ⟨x2, x3⟩⟩, x4, x5⟩ : Ent) (⟨⟨⟨y0, y1⟩, ⟨y2, y3⟩⟩, y4, y5⟩ : Ent)))) w := by
  rw [run_neq_struct, show (10000 : Nat) = 9994 + 6 from rfl, eqI_43]; rfl
theorem eqg_43 : Try.prog.eqGuardType Try.prog.depth 43 = false := by kernel_rfl
theorem eqI_108 (d : Nat) (x0 : Int) (x1 : Int) (x2 : Int) (y0 : Int) (y1 : Int) (y2 : Int) (w : World) : (Op.equalIn (d + 4) 108 (.agg #[.int .u64 x0, .int .u64 x1, .int .i64 x2]) (.agg #[.int .u64 y0, .int .u64 y1, .int .i64 y2])).run Try.prog w = .ok (same (⟨⟨x0, x1⟩, x2⟩ : Pfx) (⟨⟨y0, y1⟩, y2⟩ : Pfx)) w := by
  have hS : Try.prog.underlying 108 = some (.struct (Try.prog.fieldsOf 108)) := by kernel_rfl
  have hp : Try.prog.stoodInHeld 108 = false := by kernel_rfl
  rw [run_equalIn_agg w (d + 3) 108 _ _ hS hp]
  simp only [Program.fieldsOf, Try.underlying108]
  go_simp
  unfold same
  first | done | (rw [Bool.eq_iff_iff]; simp) | ((repeat' split) <;> simp_all)
attribute [local go_sem] eqI_108
theorem eql_108 (x0 : Int) (x1 : Int) (x2 : Int) (y0 : Int) (y1 : Int) (y2 : Int) (w : World) : (binOp .eql 108 (.agg #[.int .u64 x0, .int .u64 x1, .int .i64 x2]) (.agg #[.int .u64 y0, .int .u64 y1, .int .i64 y2])).run Try.prog w = .ok (.bool (same (⟨⟨x0, x1⟩, x2⟩ : Pfx) (⟨⟨y0, y1⟩, y2⟩ : Pfx))) w := by
  rw [run_eql_struct, show (10000 : Nat) = 9996 + 4 from rfl, eqI_108]; rfl
theorem neq_108 (x0 : Int) (x1 : Int) (x2 : Int) (y0 : Int) (y1 : Int) (y2 : Int) (w : World) : (binOp .neq 108 (.agg #[.int .u64 x0, .int .u64 x1, .int .i64 x2]) (.agg #[.int .u64 y0, .int .u64 y1, .int .i64 y2])).run Try.prog w = .ok (.bool (!(same (⟨⟨x0, x1⟩, x2⟩ : Pfx) (⟨⟨y0, y1⟩, y2⟩ : Pfx)))) w := by
  rw [run_neq_struct, show (10000 : Nat) = 9996 + 4 from rfl, eqI_108]; rfl
theorem eqg_108 : Try.prog.eqGuardType Try.prog.depth 108 = false := by kernel_rfl
theorem eqI_61 (d : Nat) (x0 : Bool) (x1 : Int) (x2 : Int) (x3 : Int) (x4 : Int) (x5 : Int) (x6 : Int) (y0 : Bool) (y1 : Int) (y2 : Int) (y3 : Int) (y4 : Int) (y5 : Int) (y6 : Int) (w : World) : (Op.equalIn (d + 8) 61 (.agg #[.bool x0, .int .u64 x1, .int .u64 x2, .int .u64 x3, .int .u64 x4, .int .i64 x5, .int .i64 x6]) (.agg #[.bool y0, .int .u64 y1, .int .u64 y2, .int .u64 y3, .int .u64 y4, .int .i64 y5, .int .i64 y6])).run Try.prog w = .ok (same (⟨x0, ⟨⟨⟨x1, x2⟩, ⟨x3, x4⟩⟩, x5, x6⟩⟩ : Slt) (⟨y0, ⟨⟨⟨y1, y2⟩, ⟨y3, y4⟩⟩, y5, y6⟩⟩ : Slt)) w := by
  have hS : Try.prog.underlying 61 = some (.struct (Try.prog.fieldsOf 61)) := by kernel_rfl
  have hp : Try.prog.stoodInHeld 61 = false := by kernel_rfl
  rw [run_equalIn_agg w (d + 7) 61 _ _ hS hp]
  simp only [Program.fieldsOf, Try.underlying61]
  go_simp
  unfold same
  first | done | (rw [Bool.eq_iff_iff]; simp) | ((repeat' split) <;> simp_all)
attribute [local go_sem] eqI_61
theorem eql_61 (x0 : Bool) (x1 : Int) (x2 : Int) (x3 : Int) (x4 : Int) (x5 : Int) (x6 : Int) (y0 : Bool) (y1 : Int) (y2 : Int) (y3 : Int) (y4 : Int) (y5 : Int) (y6 : Int) (w : World) : (binOp .eql 61 (.agg #[.bool x0, .int .u64 x1, .int .u64 x2, .int .u64 x3, .int .u64 x4, .int .i64 x5, .int .i64 x6]) (.agg #[.bool y0, .int .u64 y1, .int .u64 y2, .int .u64 y3, .int .u64 y4, .int .i64 y5, .int .i64 y6])).run Try.prog w = .ok (.bool (same (⟨x0, ⟨⟨⟨x1, x2⟩, ⟨x3, x4⟩⟩, x5, x6⟩⟩ : Slt) (⟨y0, ⟨⟨⟨y1, y2⟩, ⟨y3, y4⟩⟩, y5, y6⟩⟩ : Slt))) w := by
  rw [run_eql_struct, show (10000 : Nat) = 9992 + 8 from rfl, eqI_61]; rfl
theorem neq_61 (x0 : Bool) (x1 : Int) (x2 : Int) (x3 : Int) (x4 : Int) (x5 : Int) (x6 : Int) (y0 : Bool) (y1 : Int) (y2 : Int) (y3 : Int) (y4 : Int) (y5 : Int) (y6 : Int) (w : World) : (binOp .neq 61 (.agg #[.bool x0, .int .u64 x1, .int .u64 x2, .int .u64 x3, .int .u64 x4, .int .i64 x5, .int .i64 x6]) (.agg #[.bool y0, .int .u64 y1, .int .u64 y2, .int .u64 y3, .int .u64 y4, .int .i64 y5, .int .i64 y6])).run Try.prog w = .ok (.bool (!(same (⟨x0, ⟨⟨⟨x1, x2⟩, ⟨x3, x4⟩⟩, x5, x6⟩⟩ : Slt) (⟨y0, ⟨⟨⟨y1, y2⟩, ⟨y3, y4⟩⟩, y5, y6⟩⟩ : Slt)))) w := by
  rw [run_neq_struct, show (10000 : Nat) = 9992 + 8 from rfl, eqI_61]; rfl
theorem eqg_61 : Try.prog.eqGuardType Try.prog.depth 61 = false := by kernel_rfl
theorem eqI_90 (d : Nat) (x0 : Bool) (x1 : Int) (x2 : Int) (x3 : Int) (x4 : Int) (x5 : Int) (x6 : Int) (y0 : Bool) (y1 : Int) (y2 : Int) (y3 : Int) (y4 : Int) (y5 : Int) (y6 : Int) (w : World) : (Op.equalIn (d + 8) 90 (.agg #[.bool x0, .int .u64 x1, .int .u64 x2, .int .u64 x3, .int .u64 x4, .int .i64 x5, .int .i64 x6]) (.agg #[.bool y0, .int .u64 y1, .int .u64 y2, .int .u64 y3, .int .u64 y4, .int .i64 y5, .int .i64 y6])).run Try.prog w = .ok (same (⟨x0, ⟨⟨⟨x1, x2⟩, ⟨x3, x4⟩⟩, x5, x6⟩⟩ : Slt) (⟨y0, ⟨⟨⟨y1, y2⟩, ⟨y3, y4⟩⟩, y5, y6⟩⟩ : Slt)) w := by
  have hS : Try.prog.underlying 90 = some (.struct (Try.prog.fieldsOf 90)) := by kernel_rfl
  have hp : Try.prog.stoodInHeld 90 = false := by kernel_rfl
  rw [run_equalIn_agg w (d + 7) 90 _ _ hS hp]
  simp only [Program.fieldsOf, Try.underlying90]
  go_simp
  unfold same
  first | done | (rw [Bool.eq_iff_iff]; simp) | ((repeat' split) <;> simp_all)
attribute [local go_sem] eqI_90
theorem eql_90 (x0 : Bool) (x1 : Int) (x2 : Int) (x3 : Int) (x4 : Int) (x5 : Int) (x6 : Int) (y0 : Bool) (y1 : Int) (y2 : Int) (y3 : Int) (y4 : Int) (y5 : Int) (y6 : Int) (w : World) : (binOp .eql 90 (.agg #[.bool x0, .int .u64 x1, .int .u64 x2, .int .u64 x3, .int .u64 x4, .int .i64 x5, .int .i64 x6]) (.agg #[.bool y0, .int .u64 y1, .int .u64 y2, .int .u64 y3, .int .u64 y4, .int .i64 y5, .int .i64 y6])).run Try.prog w = .ok (.bool (same (⟨x0, ⟨⟨⟨x1, x2⟩, ⟨x3, x4⟩⟩, x5, x6⟩⟩ : Slt) (⟨y0, ⟨⟨⟨y1, y2⟩, ⟨y3, y4⟩⟩, y5, y6⟩⟩ : Slt))) w := by
  rw [run_eql_struct, show (10000 : Nat) = 9992 + 8 from rfl, eqI_90]; rfl
theorem neq_90 (x0 : Bool) (x1 : Int) (x2 : Int) (x3 : Int) (x4 : Int) (x5 : Int) (x6 : Int) (y0 : Bool) (y1 : Int) (y2 : Int) (y3 : Int) (y4 : Int) (y5 : Int) (y6 : Int) (w : World) : (binOp .neq 90 (.agg #[.bool x0, .int .u64 x1, .int .u64 x2, .int .u64 x3, .int .u64 x4, .int .i64 x5, .int .i64 x6]) (.agg #[.bool y0, .int .u64 y1, .int .u64 y2, .int .u64 y3, .int .u64 y4, .int .i64 y5, .int .i64 y6])).run Try.prog w = .ok (.bool (!(same (⟨x0, ⟨⟨⟨x1, x2⟩, ⟨x3, x4⟩⟩, x5, x6⟩⟩ : Slt) (⟨y0, ⟨⟨⟨y1, y2⟩, ⟨y3, y4⟩⟩, y5, y6⟩⟩ : Slt)))) w := by
  rw [run_neq_struct, show (10000 : Nat) = 9992 + 8 from rfl, eqI_90]; rfl
theorem eqg_90 : Try.prog.eqGuardType Try.prog.depth 90 = false := by kernel_rfl
theorem eqI_64 (d : Nat) (x0 : Int) (x1 : Bool) (x2 : Int) (x3 : Int) (x4 : Int) (x5 : Int) (x6 : Int) (x7 : Int) (y0 : Int) (y1 : Bool) (y2 : Int) (y3 : Int) (y4 : Int) (y5 : Int) (y6 : Int) (y7 : Int) (w : World) : (Op.equalIn (d + 10) 64 (.agg #[.int .i64 x0, .bool x1, .int .u64 x2, .int .u64 x3, .int .u64 x4, .int .u64 x5, .int .i64 x6, .int .i64 x7]) (.agg #[.int .i64 y0, .bool y1, .int .u64 y2, .int .u64 y3, .int .u64 y4, .int .u64 y5, .int .i64 y6, .int .i64 y7])).run Try.prog w = .ok (same (⟨x0, ⟨x1, ⟨⟨⟨x2, x3⟩, ⟨x4, x5⟩⟩, x6, x7⟩⟩⟩ : Wrt) (⟨y0, ⟨y1, ⟨⟨⟨y2, y3⟩, ⟨y4, y5⟩⟩, y6, y7⟩⟩⟩ : Wrt)) w := by
  have hS : Try.prog.underlying 64 = some (.struct (Try.prog.fieldsOf 64)) := by kernel_rfl
  have hp : Try.prog.stoodInHeld 64 = false := by kernel_rfl
  rw [run_equalIn_agg w (d + 9) 64 _ _ hS hp]
  simp only [Program.fieldsOf, Try.underlying64]
  go_simp
  unfold same
  first | done | (rw [Bool.eq_iff_iff]; simp) | ((repeat' split) <;> simp_all)
attribute [local go_sem] eqI_64
theorem eql_64 (x0 : Int) (x1 : Bool) (x2 : Int) (x3 : Int) (x4 : Int) (x5 : Int) (x6 : Int) (x7 : Int) (y0 : Int) (y1 : Bool) (y2 : Int) (y3 : Int) (y4 : Int) (y5 : Int) (y6 : Int) (y7 : Int) (w : World) : (binOp .eql 64 (.agg #[.int .i64 x0, .bool x1, .int .u64 x2, .int .u64 x3, .int .u64 x4, .int .u64 x5, .int .i64 x6, .int .i64 x7]) (.agg #[.int .i64 y0, .bool y1, .int .u64 y2, .int .u64 y3, .int .u64 y4, .int .u64 y5, .int .i64 y6, .int .i64 y7])).run Try.prog w = .ok (.bool (same (⟨x0, ⟨x1, ⟨⟨⟨x2, x3⟩, ⟨x4, x5⟩⟩, x6, x7⟩⟩⟩ : Wrt) (⟨y0, ⟨y1, ⟨⟨⟨y2, y3⟩, ⟨y4, y5⟩⟩, y6, y7⟩⟩⟩ : Wrt))) w := by
  rw [run_eql_struct, show (10000 : Nat) = 9990 + 10 from rfl, eqI_64]; rfl
theorem neq_64 (x0 : Int) (x1 : Bool) (x2 : Int) (x3 : Int) (x4 : Int) (x5 : Int) (x6 : Int) (x7 : Int) (y0 : Int) (y1 : Bool) (y2 : Int) (y3 : Int) (y4 : Int) (y5 : Int) (y6 : Int) (y7 : Int) (w : World) : (binOp .neq 64 (.agg #[.int .i64 x0, .bool x1, .int .u64 x2, .int .u64 x3, .int .u64 x4, .int .u64 x5, .int .i64 x6, .int .i64 x7]) (.agg #[.int .i64 y0, .bool y1, .int .u64 y2, .int .u64 y3, .int .u64 y4, .int .u64 y5, .int .i64 y6, .int .i64 y7])).run Try.prog w = .ok (.bool (!(same (⟨x0, ⟨x1, ⟨⟨⟨x2, x3⟩, ⟨x4, x5⟩⟩, x6, x7⟩⟩⟩ : Wrt) (⟨y0, ⟨y1, ⟨⟨⟨y2, y3⟩, ⟨y4, y5⟩⟩, y6, y7⟩⟩⟩ : Wrt)))) w := by
  rw [run_neq_struct, show (10000 : Nat) = 9990 + 10 from rfl, eqI_64]; rfl
theorem eqg_64 : Try.prog.eqGuardType Try.prog.depth 64 = false := by kernel_rfl
theorem eqI_104 (d : Nat) (x0 : Int) (x1 : Bool) (x2 : Int) (x3 : Int) (x4 : Int) (x5 : Int) (x6 : Int) (x7 : Int) (y0 : Int) (y1 : Bool) (y2 : Int) (y3 : Int) (y4 : Int) (y5 : Int) (y6 : Int) (y7 : Int) (w : World) : (Op.equalIn (d + 10) 104 (.agg #[.int .i64 x0, .bool x1, .int .u64 x2, .int .u64 x3, .int .u64 x4, .int .u64 x5, .int .i64 x6, .int .i64 x7]) (.agg #[.int .i64 y0, .bool y1, .int .u64 y2, .int .u64 y3, .int .u64 y4, .int .u64 y5, .int .i64 y6, .int .i64 y7])).run Try.prog w = .ok (same (⟨x0, ⟨x1, ⟨⟨⟨x2, x3⟩, ⟨x4, x5⟩⟩, x6, x7⟩⟩⟩ : Wrt) (⟨y0, ⟨y1, ⟨⟨⟨y2, y3⟩, ⟨y4, y5⟩⟩, y6, y7⟩⟩⟩ : Wrt)) w := by
  have hS : Try.prog.underlying 104 = some (.struct (Try.prog.fieldsOf 104)) := by kernel_rfl
  have hp : Try.prog.stoodInHeld 104 = false := by kernel_rfl
  rw [run_equalIn_agg w (d + 9) 104 _ _ hS hp]
  simp only [Program.fieldsOf, Try.underlying104]
  go_simp
  unfold same
  first | done | (rw [Bool.eq_iff_iff]; simp) | ((repeat' split) <;> simp_all)
attribute [local go_sem] eqI_104
theorem eql_104 (x0 : Int) (x1 : Bool) (x2 : Int) (x3 : Int) (x4 : Int) (x5 : Int) (x6 : Int) (x7 : Int) (y0 : Int) (y1 : Bool) (y2 : Int) (y3 : Int) (y4 : Int) (y5 : Int) (y6 : Int) (y7 : Int) (w : World) : (binOp .eql 104 (.agg #[.int .i64 x0, .bool x1, .int .u64 x2, .int .u64 x3, .int .u64 x4, .int .u64 x5, .int .i64 x6, .int .i64 x7]) (.agg #[.int .i64 y0, .bool y1, .int .u64 y2, .int .u64 y3, .int .u64 y4, .int .u64 y5, .int .i64 y6, .int .i64 y7])).run Try.prog w = .ok (.bool (same (⟨x0, ⟨x1, ⟨⟨⟨x2, x3⟩, ⟨x4, x5⟩⟩, x6, x7⟩⟩⟩ : Wrt) (⟨y0, ⟨y1, ⟨⟨⟨y2, y3⟩, ⟨y4, y5⟩⟩, y6, y7⟩⟩⟩ : Wrt))) w := by
  rw [run_eql_struct, show (10000 : Nat) = 9990 + 10 from rfl, eqI_104]; rfl
theorem neq_104 (x0 : Int) (x1 : Bool) (x2 : Int) (x3 : Int) (x4 : Int) (x5 : Int) (x6 : Int) (x7 : Int) (y0 : Int) (y1 : Bool) (y2 : Int) (y3 : Int) (y4 : Int) (y5 : Int) (y6 : Int) (y7 : Int) (w : World) : (binOp .neq 104 (.agg #[.int .i64 x0, .bool x1, .int .u64 x2, .int .u64 x3, .int .u64 x4, .int .u64 x5, .int .i64 x6, .int .i64 x7]) (.agg #[.int .i64 y0, .bool y1, .int .u64 y2, .int .u64 y3, .int .u64 y4, .int .u64 y5, .int .i64 y6, .int .i64 y7])).run Try.prog w = .ok (.bool (!(same (⟨x0, ⟨x1, ⟨⟨⟨x2, x3⟩, ⟨x4, x5⟩⟩, x6, x7⟩⟩⟩ : Wrt) (⟨y0, ⟨y1, ⟨⟨⟨y2, y3⟩, ⟨y4, y5⟩⟩, y6, y7⟩⟩⟩ : Wrt)))) w := by
  rw [run_neq_struct, show (10000 : Nat) = 9990 + 10 from rfl, eqI_104]; rfl
theorem eqg_104 : Try.prog.eqGuardType Try.prog.depth 104 = false := by kernel_rfl
theorem eqI_67 (d : Nat) (x0 : Int) (x1 : Int) (x2 : Int) (x3 : Int) (x4 : Int) (x5 : Int) (x6 : Int) (y0 : Int) (y1 : Int) (y2 : Int) (y3 : Int) (y4 : Int) (y5 : Int) (y6 : Int) (w : World) : (Op.equalIn (d + 8) 67 (.agg #[.int .i64 x0, .int .u64 x1, .int .u64 x2, .int .u64 x3, .int .u64 x4, .int .i64 x5, .int .i64 x6]) (.agg #[.int .i64 y0, .int .u64 y1, .int .u64 y2, .int .u64 y3, .int .u64 y4, .int .i64 y5, .int .i64 y6])).run Try.prog w = .ok (same (⟨x0, ⟨⟨⟨x1, x2⟩, ⟨x3, x4⟩⟩, x5, x6⟩⟩ : Stp) (⟨y0, ⟨⟨⟨y1, y2⟩, ⟨y3, y4⟩⟩, y5, y6⟩⟩ : Stp)) w := by
  have hS : Try.prog.underlying 67 = some (.struct (Try.prog.fieldsOf 67)) := by kernel_rfl
  have hp : Try.prog.stoodInHeld 67 = false := by kernel_rfl
  rw [run_equalIn_agg w (d + 7) 67 _ _ hS hp]
  simp only [Program.fieldsOf, Try.underlying67]
  go_simp
  unfold same
  first | done | (rw [Bool.eq_iff_iff]; simp) | ((repeat' split) <;> simp_all)
attribute [local go_sem] eqI_67
theorem eql_67 (x0 : Int) (x1 : Int) (x2 : Int) (x3 : Int) (x4 : Int) (x5 : Int) (x6 : Int) (y0 : Int) (y1 : Int) (y2 : Int) (y3 : Int) (y4 : Int) (y5 : Int) (y6 : Int) (w : World) : (binOp .eql 67 (.agg #[.int .i64 x0, .int .u64 x1, .int .u64 x2, .int .u64 x3, .int .u64 x4, .int .i64 x5, .int .i64 x6]) (.agg #[.int .i64 y0, .int .u64 y1, .int .u64 y2, .int .u64 y3, .int .u64 y4, .int .i64 y5, .int .i64 y6])).run Try.prog w = .ok (.bool (same (⟨x0, ⟨⟨⟨x1, x2⟩, ⟨x3, x4⟩⟩, x5, x6⟩⟩ : Stp) (⟨y0, ⟨⟨⟨y1, y2⟩, ⟨y3, y4⟩⟩, y5, y6⟩⟩ : Stp))) w := by
  rw [run_eql_struct, show (10000 : Nat) = 9992 + 8 from rfl, eqI_67]; rfl
theorem neq_67 (x0 : Int) (x1 : Int) (x2 : Int) (x3 : Int) (x4 : Int) (x5 : Int) (x6 : Int) (y0 : Int) (y1 : Int) (y2 : Int) (y3 : Int) (y4 : Int) (y5 : Int) (y6 : Int) (w : World) : (binOp .neq 67 (.agg #[.int .i64 x0, .int .u64 x1, .int .u64 x2, .int .u64 x3, .int .u64 x4, .int .i64 x5, .int .i64 x6]) (.agg #[.int .i64 y0, .int .u64 y1, .int .u64 y2, .int .u64 y3, .int .u64 y4, .int .i64 y5, .int .i64 y6])).run Try.prog w = .ok (.bool (!(same (⟨x0, ⟨⟨⟨x1, x2⟩, ⟨x3, x4⟩⟩, x5, x6⟩⟩ : Stp) (⟨y0, ⟨⟨⟨y1, y2⟩, ⟨y3, y4⟩⟩, y5, y6⟩⟩ : Stp)))) w := by
  rw [run_neq_struct, show (10000 : Nat) = 9992 + 8 from rfl, eqI_67]; rfl
theorem eqg_67 : Try.prog.eqGuardType Try.prog.depth 67 = false := by kernel_rfl
theorem eqI_71 (d : Nat) (x0 : Int) (x1 : Int) (x2 : Int) (x3 : Int) (x4 : Int) (x5 : Int) (x6 : Int) (y0 : Int) (y1 : Int) (y2 : Int) (y3 : Int) (y4 : Int) (y5 : Int) (y6 : Int) (w : World) : (Op.equalIn (d + 8) 71 (.agg #[.int .i64 x0, .int .u64 x1, .int .u64 x2, .int .u64 x3, .int .u64 x4, .int .i64 x5, .int .i64 x6]) (.agg #[.int .i64 y0, .int .u64 y1, .int .u64 y2, .int .u64 y3, .int .u64 y4, .int .i64 y5, .int .i64 y6])).run Try.prog w = .ok (same (⟨x0, ⟨⟨⟨x1, x2⟩, ⟨x3, x4⟩⟩, x5, x6⟩⟩ : Stp) (⟨y0, ⟨⟨⟨y1, y2⟩, ⟨y3, y4⟩⟩, y5, y6⟩⟩ : Stp)) w := by
  have hS : Try.prog.underlying 71 = some (.struct (Try.prog.fieldsOf 71)) := by kernel_rfl
  have hp : Try.prog.stoodInHeld 71 = false := by kernel_rfl
  rw [run_equalIn_agg w (d + 7) 71 _ _ hS hp]
  simp only [Program.fieldsOf, Try.underlying71]
  go_simp
  unfold same
  first | done | (rw [Bool.eq_iff_iff]; simp) | ((repeat' split) <;> simp_all)
attribute [local go_sem] eqI_71
theorem eql_71 (x0 : Int) (x1 : Int) (x2 : Int) (x3 : Int) (x4 : Int) (x5 : Int) (x6 : Int) (y0 : Int) (y1 : Int) (y2 : Int) (y3 : Int) (y4 : Int) (y5 : Int) (y6 : Int) (w : World) : (binOp .eql 71 (.agg #[.int .i64 x0, .int .u64 x1, .int .u64 x2, .int .u64 x3, .int .u64 x4, .int .i64 x5, .int .i64 x6]) (.agg #[.int .i64 y0, .int .u64 y1, .int .u64 y2, .int .u64 y3, .int .u64 y4, .int .i64 y5, .int .i64 y6])).run Try.prog w = .ok (.bool (same (⟨x0, ⟨⟨⟨x1, x2⟩, ⟨x3, x4⟩⟩, x5, x6⟩⟩ : Stp) (⟨y0, ⟨⟨⟨y1, y2⟩, ⟨y3, y4⟩⟩, y5, y6⟩⟩ : Stp))) w := by
  rw [run_eql_struct, show (10000 : Nat) = 9992 + 8 from rfl, eqI_71]; rfl
theorem neq_71 (x0 : Int) (x1 : Int) (x2 : Int) (x3 : Int) (x4 : Int) (x5 : Int) (x6 : Int) (y0 : Int) (y1 : Int) (y2 : Int) (y3 : Int) (y4 : Int) (y5 : Int) (y6 : Int) (w : World) : (binOp .neq 71 (.agg #[.int .i64 x0, .int .u64 x1, .int .u64 x2, .int .u64 x3, .int .u64 x4, .int .i64 x5, .int .i64 x6]) (.agg #[.int .i64 y0, .int .u64 y1, .int .u64 y2, .int .u64 y3, .int .u64 y4, .int .i64 y5, .int .i64 y6])).run Try.prog w = .ok (.bool (!(same (⟨x0, ⟨⟨⟨x1, x2⟩, ⟨x3, x4⟩⟩, x5, x6⟩⟩ : Stp) (⟨y0, ⟨⟨⟨y1, y2⟩, ⟨y3, y4⟩⟩, y5, y6⟩⟩ : Stp)))) w := by
  rw [run_neq_struct, show (10000 : Nat) = 9992 + 8 from rfl, eqI_71]; rfl
theorem eqg_71 : Try.prog.eqGuardType Try.prog.depth 71 = false := by kernel_rfl
end Go.Proofs.Ytjmnnkhdadoehaa
