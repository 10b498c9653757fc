/- '==' of structs and arrays, as one Bool. -/
import Derived.Test.YtnklfbeiagkhiaaProg
import Derived.Test.YtnklfbeiagkhiaaUBase
import Derived.WalkKit
import Derived.WalkSpells
import Derived.WalkLawsBesides
import Derived.KernelRfl
namespace Go.Proofs.Ytnklfbeiagkhiaa
open Go.RowKit
set_option linter.unusedSimpArgs false
set_option linter.unusedVariables false
theorem eqI_25 (d : Nat) (x0 : Int) (x1 : Int) (y0 : Int) (y1 : Int) (w : World) : (Op.equalIn (d + 2) 25 (.agg #[.int .u64 x0, .int .u64 x1]) (.agg #[.int .u64 y0, .int .u64 y1])).run Try.prog w = .ok (same (⟨x0, x1⟩ : A2) (⟨y0, y1⟩ : A2)) w := by
  have hu : Try.prog.underlying 25 = some (.array 2 23) := by kernel_rfl
  rw [Op.equalIn]
  simp only [Sem.run_bind, run_underlying hu, Result.andThen_ok, Std.Legacy.Range.forIn_eq_forIn_range', Std.Legacy.Range.size, List.range', List.forIn_cons, List.forIn_nil]
  go_simp
  unfold same
  by_cases h1 : x0 = y0 <;> by_cases h2 : x1 = y1 <;> simp [h1, h2]
attribute [local go_sem] eqI_25
theorem eql_25 (x0 : Int) (x1 : Int) (y0 : Int) (y1 : Int) (w : World) : (binOp .eql 25 (.agg #[.int .u64 x0, .int .u64 x1]) (.agg #[.int .u64 y0, .int .u64 y1])).run Try.prog w = .ok (.bool (same (⟨x0, x1⟩ : A2) (⟨y0, y1⟩ : A2))) w := by
  rw [run_eql_struct, show (10000 : Nat) = 9998 + 2 from rfl, eqI_25]; rfl
theorem neq_25 (x0 : Int) (x1 : Int) (y0 : Int) (y1 : Int) (w : World) : (binOp .neq 25 (.agg #[.int .u64 x0, .int .u64 x1]) (.agg #[.int .u64 y0, .int .u64 y1])).run Try.prog w = .ok (.bool (!(same (⟨x0, x1⟩ : A2) (⟨y0, y1⟩ : A2)))) w := by
  rw [run_neq_struct, show (10000 : Nat) = 9998 + 2 from rfl, eqI_25]; rfl
theorem eqg_25 : Try.prog.eqGuardType Try.prog.depth 25 = false := by kernel_rfl
theorem eqI_24 (d : Nat) (x0 : Int) (x1 : Int) (y0 : Int) (y1 : Int) (w : World) : (Op.equalIn (d + 2) 24 (.agg #[.int .u64 x0, .int .u64 x1]) (.agg #[.int .u64 y0, .int .u64 y1])).run Try.prog w = .ok (same (⟨x0, x1⟩ : A2) (⟨y0, y1⟩ : A2)) w := by
  have hu : Try.prog.underlying 24 = some (.array 2 23) := by kernel_rfl
  rw [Op.equalIn]
  simp only [Sem.run_bind, run_underlying hu, Result.andThen_ok, Std.Legacy.Range.forIn_eq_forIn_range', Std.Legacy.Range.size, List.range', List.forIn_cons, List.forIn_nil]
  go_simp
  unfold same
  by_cases h1 : x0 = y0 <;> by_cases h2 : x1 = y1 <;> simp [h1, h2]
attribute [local go_sem] eqI_24
theorem eql_24 (x0 : Int) (x1 : Int) (y0 : Int) (y1 : Int) (w : World) : (binOp .eql 24 (.agg #[.int .u64 x0, .int .u64 x1]) (.agg #[.int .u64 y0, .int .u64 y1])).run Try.prog w = .ok (.bool (same (⟨x0, x1⟩ : A2) (⟨y0, y1⟩ : A2))) w := by
  rw [run_eql_struct, show (10000 : Nat) = 9998 + 2 from rfl, eqI_24]; rfl
theorem neq_24 (x0 : Int) (x1 : Int) (y0 : Int) (y1 : Int) (w : World) : (binOp .neq 24 (.agg #[.int .u64 x0, .int .u64 x1]) (.agg #[.int .u64 y0, .int .u64 y1])).run Try.prog w = .ok (.bool (!(same (⟨x0, x1⟩ : A2) (⟨y0, y1⟩ : A2)))) w := by
  rw [run_neq_struct, show (10000 : Nat) = 9998 + 2 from rfl, eqI_24]; rfl
theorem eqg_24 : Try.prog.eqGuardType Try.prog.depth 24 = false := by kernel_rfl
theorem eqI_34 (d : Nat) (x0 : Int) (x1 : Int) (x2 : Int) (x3 : Int) (y0 : Int) (y1 : Int) (y2 : Int) (y3 : Int) (w : World) : (Op.equalIn (d + 4) 34 (.agg #[.int .u64 x0, .int .u64 x1, .int .u64 x2, .int .u64 x3]) (.agg #[.int .u64 y0, .int .u64 y1, .int .u64 y2, .int .u64 y3])).run Try.prog w = .ok (same (⟨⟨x0, x1⟩, ⟨x2, x3⟩⟩ : W2) (⟨⟨y0, y1⟩, ⟨y2, y3⟩⟩ : W2)) w := by
  have hS : Try.prog.underlying 34 = some (.struct (Try.prog.fieldsOf 34)) := by kernel_rfl
  have hp : Try.prog.stoodInHeld 34 = false := by kernel_rfl
  rw [run_equalIn_agg w (d + 3) 34 _ _ hS hp]
  simp only [Program.fieldsOf, Try.underlying34]
  go_simp
  unfold same
  first | done | (rw [Bool.eq_iff_iff]; simp) | ((repeat' split) <;> simp_all)
attribute [local go_sem] eqI_34
theorem eql_34 (x0 : Int) (x1 : Int) (x2 : Int) (x3 : Int) (y0 : Int) (y1 : Int) (y2 : Int) (y3 : Int) (w : World) : (binOp .eql 34 (.agg #[.int .u64 x0, .int .u64 x1, .int .u64 x2, .int .u64 x3]) (.agg #[.int .u64 y0, .int .u64 y1, .int .u64 y2, .int .u64 y3])).run Try.prog w = .ok (.bool (same (⟨⟨x0, x1⟩, ⟨x2, x3⟩⟩ : W2) (⟨⟨y0, y1⟩, ⟨y2, y3⟩⟩ : W2))) w := by
  rw [run_eql_struct, show (10000 : Nat) = 9996 + 4 from rfl, eqI_34]; rfl
theorem neq_34 (x0 : Int) (x1 : Int) (x2 : Int) (x3 : Int) (y0 : Int) (y1 : Int) (y2 : Int) (y3 : Int) (w : World) : (binOp .neq 34 (.agg #[.int .u64 x0, .int .u64 x1, .int .u64 x2, .int .u64 x3]) (.agg #[.int .u64 y0, .int .u64 y1, .int .u64 y2, .int .u64 y3])).run Try.prog w = .ok (.bool (!(same (⟨⟨x0, x1⟩, ⟨x2, x3⟩⟩ : W2) (⟨⟨y0, y1⟩, ⟨y2, y3⟩⟩ : W2)))) w := by
  rw [run_neq_struct, show (10000 : Nat) = 9996 + 4 from rfl, eqI_34]; rfl
theorem eqg_34 : Try.prog.eqGuardType Try.prog.depth 34 = false := by kernel_rfl
theorem eqI_47 (d : Nat) (x0 : Int) (x1 : Int) (x2 : Int) (x3 : Int) (y0 : Int) (y1 : Int) (y2 : Int) (y3 : Int) (w : World) : (Op.equalIn (d + 4) 47 (.agg #[.int .u64 x0, .int .u64 x1, .int .u64 x2, .int .u64 x3]) (.agg #[.int .u64 y0, .int .u64 y1, .int .u64 y2, .int .u64 y3])).run Try.prog w = .ok (same (⟨⟨x0, x1⟩, ⟨x2, x3⟩⟩ : W2) (⟨⟨y0, y1⟩, ⟨y2, y3⟩⟩ : W2)) w := by
  have hS : Try.prog.underlying 47 = some (.struct (Try.prog.fieldsOf 47)) := by kernel_rfl
  have hp : Try.prog.stoodInHeld 47 = false := by kernel_rfl
  rw [run_equalIn_agg w (d + 3) 47 _ _ hS hp]
  simp only [Program.fieldsOf, Try.underlying47]
  go_simp
  unfold same
  first | done | (rw [Bool.eq_iff_iff]; simp) | ((repeat' split) <;> simp_all)
attribute [local go_sem] eqI_47
theorem eql_47 (x0 : Int) (x1 : Int) (x2 : Int) (x3 : Int) (y0 : Int) (y1 : Int) (y2 : Int) (y3 : Int) (w : World) : (binOp .eql 47 (.agg #[.int .u64 x0, .int .u64 x1, .int .u64 x2, .int .u64 x3]) (.agg #[.int .u64 y0, .int .u64 y1, .int .u64 y2, .int .u64 y3])).run Try.prog w = .ok (.bool (same (⟨⟨x0, x1⟩, ⟨x2, x3⟩⟩ : W2) (⟨⟨y0, y1⟩, ⟨y2, y3⟩⟩ : W2))) w := by
  rw [run_eql_struct, show (10000 : Nat) = 9996 + 4 from rfl, eqI_47]; rfl
theorem neq_47 (x0 : Int) (x1 : Int) (x2 : Int) (x3 : Int) (y0 : Int) (y1 : Int) (y2 : Int) (y3 : Int) (w : World) : (binOp .neq 47 (.agg #[.int .u64 x0, .int .u64 x1, .int .u64 x2, .int .u64 x3]) (.agg #[.int .u64 y0, .int .u64 y1, .int .u64 y2, .int .u64 y3])).run Try.prog w = .ok (.bool (!(same (⟨⟨x0, x1⟩, ⟨x2, x3⟩⟩ : W2) (⟨⟨y0, y1⟩, ⟨y2, y3⟩⟩ : W2)))) w := by
  rw [run_neq_struct, show (10000 : Nat) = 9996 + 4 from rfl, eqI_47]; rfl
theorem eqg_47 : Try.prog.eqGuardType Try.prog.depth 47 = false := by kernel_rfl
theorem eqI_36 (d : Nat) (x0 : Int) (x1 : Int) (x2 : Int) (x3 : Int) (x4 : Int) (x5 : Int) (y0 : Int) (y1 : Int) (y2 : Int) (y3 : Int) (y4 : Int) (y5 : Int) (w : World) : (Op.equalIn (d + 6) 36 (.agg #[.int .u64 x0, .int .u64 x1, .int .u64 x2, .int .u64 x3, .int .i64 x4, .int .i64 x5]) (.agg #[.int .u64 y0, .int .u64 y1, .int .u64 y2, .int .u64 y3, .int .i64 y4, .int .i64 y5])).run Try.prog w = .ok (same (⟨⟨⟨x0, x1⟩, ⟨x2, x3⟩⟩, x4, x5⟩ : Ent) (⟨⟨⟨y0, y1⟩, ⟨y2, y3⟩⟩, y4, y5⟩ : Ent)) w := by
  have hS : Try.prog.underlying 36 = some (.struct (Try.prog.fieldsOf 36)) := by kernel_rfl
  have hp : Try.prog.stoodInHeld 36 = false := by kernel_rfl
  rw [run_equalIn_agg w (d + 5) 36 _ _ hS hp]
  simp only [Program.fieldsOf, Try.underlying36]
  go_simp
  unfold same
  first | done | (rw [Bool.eq_iff_iff]; simp) | ((repeat' split) <;> simp_all)
attribute [local go_sem] eqI_36
theorem eql_36 (x0 : Int) (x1 : Int) (x2 : Int) (x3 : Int) (x4 : Int) (x5 : Int) (y0 : Int) (y1 : Int) (y2 : Int) (y3 : Int) (y4 : Int) (y5 : Int) (w : World) : (binOp .eql 36 (.agg #[.int .u64 x0, .int .u64 x1, .int .u64 x2, .int .u64 x3, .int .i64 x4, .int .i64 x5]) (.agg #[.int .u64 y0, .int .u64 y1, .int .u64 y2, .int .u64 y3, .int .i64 y4, .int .i64 y5])).run Try.prog w = .ok (.bool (same (⟨⟨⟨x0, x1⟩, ⟨x2, x3⟩⟩, x4, x5⟩ : Ent) (⟨⟨⟨y0, y1⟩, ⟨y2, y3⟩⟩, y4, y5⟩ : Ent))) w := by
  rw [run_eql_struct, show (10000 : Nat) = 9994 + 6 from rfl, eqI_36]; rfl
theorem neq_36 (x0 : Int) (x1 : Int) (x2 : Int) (x3 : Int) (x4 : Int) (x5 : Int) (y0 : Int) (y1 : Int) (y2 : Int) (y3 : Int) (y4 : Int) (y5 : Int) (w : World) : (binOp .neq 36 (.agg #[.int .u64 x0, .int .u64 x1, .int .u64 x2, .int .u64 x3, .int .i64 x4, .int .i64 x5]) (.agg #[.int .u64 y0, .int .u64 y1, .int .u64 y2, .int .u64 y3, .int .i64 y4, .int .i64 y5])).run Try.prog w = .ok (.bool (!(same (⟨⟨⟨x0, x1⟩, ⟨x2, x3⟩⟩, x4, x5⟩ : Ent) (⟨⟨⟨y0, y1⟩, ⟨y2, y3⟩⟩, y4, y5⟩ : Ent)))) w := by
  rw [run_neq_struct, show (10000 : Nat) = 9994 + 6 from rfl, eqI_36]; rfl
theorem eqg_36 : Try.prog.eqGuardType Try.prog.depth 36 = false := by kernel_rfl
theorem eqI_49 (d : Nat) (x0 : Int) (x1 : Int) (x2 : Int) (x3 : Int) (x4 : Int) (x5 : Int) (y0 : Int) (y1 : Int) (y2 : Int) (y3 : Int) (y4 : Int) (y5 : Int) (w : World) : (Op.equalIn (d + 6) 49 (.agg #[.int .u64 x0, .int .u64 x1, .int .u64 x2, .int .u64 x3, .int .i64 x4, .int .i64 x5]) (.agg #[.int .u64 y0, .int .u64 y1, .int .u64 y2, .int .u64 y3, .int .i64 y4, .int .i64 y5])).run Try.prog w = .ok (same (⟨⟨⟨x0, x1⟩, ⟨x2, x3⟩⟩, x4, x5⟩ : Ent) (⟨⟨⟨y0, y1⟩, ⟨y2, y3⟩⟩, y4, y5⟩ : Ent)) w := by
  have hS : Try.prog.underlying 49 = some (.struct (Try.prog.fieldsOf 49)) := by kernel_rfl
  have hp : Try.prog.stoodInHeld 49 = false := by kernel_rfl
  rw [run_equalIn_agg w (d + 5) 49 _ _ hS hp]
  simp only [Program.fieldsOf, Try.underlying49]
  go_simp
  unfold same
  first | done | (rw [Bool.eq_iff_iff]; simp) | ((repeat' split) <;> simp_all)
attribute [local go_sem] eqI_49
theorem eql_49 (x0 : Int) (x1 : Int) (x2 : Int) (x3 : Int) (x4 : Int) (x5 : Int) (y0 : Int) (y1 : Int) (y2 : Int) (y3 : Int) (y4 : Int) (y5 : Int) (w : World) : (binOp .eql 49 (.agg #[.int .u64 x0, .int .u64 x1, .int .u64 x2, .int .u64 x3, .int .i64 x4, .int .i64 x5]) (.agg #[.int .u64 y0, .int .u64 y1, .int .u64 y2, .int .u64 y3, .int .i64 y4, .int .i64 y5])).run Try.prog w = .ok (.bool (same (⟨⟨⟨x0, x1⟩, ⟨x2, x3⟩⟩, x4, x5⟩ : Ent) (⟨⟨⟨y0, y1⟩, ⟨y2, y3⟩⟩, y4, y5⟩ : Ent))) w := by
  rw [run_eql_struct, show (10000 : Nat) = 9994 + 6 from rfl, eqI_49]; rfl
theorem neq_49 (x0 : Int) (x1 : Int) (x2 : Int) (x3 : Int) (x4 : Int) (x5 : Int) (y0 : Int) (y1 : Int) (y2 : Int) (y3 : Int) (y4 : Int) (y5 : Int) (w : World) : (binOp .neq 49 (.agg #[.int .u64 x0, .int .u64 x1, .int .u64 x2, .int .u64 x3, .int .i64 x4, .int .i64 x5]) (.agg #[.int .u64 y0, .int .u64 y1, .int .u64 y2, .int .u64 y3, .int .i64 y4, .int .i64 y5])).run Try.prog w = .ok (.bool (!(same (⟨⟨⟨x0, x1⟩, ⟨x2, x3⟩⟩, x4, x5⟩ : Ent) (⟨⟨⟨y0, y1⟩, ⟨y2, y3⟩⟩, y4, y5⟩ : Ent)))) w := by
  rw [run_neq_struct, show (10000 : Nat) = 9994 + 6 from rfl, eqI_49]; rfl
theorem eqg_49 : Try.prog.eqGuardType Try.prog.depth 49 = false := by kernel_rfl
theorem eqI_98 (d : Nat) (x0 : Int) (x1 : Int) (x2 : Int) (y0 : Int) (y1 : Int) (y2 : Int) (w : World) : (Op.equalIn (d + 4) 98 (.agg #[.int .u64 x0, .int .u64 x1, .int .i64 x2]) (.agg #[.int .u64 y0, .int .u64 y1, .int .i64 y2])).run Try.prog w = .ok (same (⟨⟨x0, x1⟩, x2⟩ : Pfx) (⟨⟨y0, y1⟩, y2⟩ : Pfx)) w := by
  have hS : Try.prog.underlying 98 = some (.struct (Try.prog.fieldsOf 98)) := by kernel_rfl
  have hp : Try.prog.stoodInHeld 98 = false := by kernel_rfl
  rw [run_equalIn_agg w (d + 3) 98 _ _ hS hp]
  simp only [Program.fieldsOf, Try.underlying98]
  go_simp
  unfold same
  first | done | (rw [Bool.eq_iff_iff]; simp) | ((repeat' split) <;> simp_all)
attribute [local go_sem] eqI_98
theorem eql_98 (x0 : Int) (x1 : Int) (x2 : Int) (y0 : Int) (y1 : Int) (y2 : Int) (w : World) : (binOp .eql 98 (.agg #[.int .u64 x0, .int .u64 x1, .int .i64 x2]) (.agg #[.int .u64 y0, .int .u64 y1, .int .i64 y2])).run Try.prog w = .ok (.bool (same (⟨⟨x0, x1⟩, x2⟩ : Pfx) (⟨⟨y0, y1⟩, y2⟩ : Pfx))) w := by
  rw [run_eql_struct, show (10000 : Nat) = 9996 + 4 from rfl, eqI_98]; rfl
theorem neq_98 (x0 : Int) (x1 : Int) (x2 : Int) (y0 : Int) (y1 : Int) (y2 : Int) (w : World) : (binOp .neq 98 (.agg #[.int .u64 x0, .int .u64 x1, .int .i64 x2]) (.agg #[.int .u64 y0, .int .u64 y1, .int .i64 y2])).run Try.prog w = .ok (.bool (!(same (⟨⟨x0, x1⟩, x2⟩ : Pfx) (⟨⟨y0, y1⟩, y2⟩ : Pfx)))) w := by
  rw [run_neq_struct, show (10000 : Nat) = 9996 + 4 from rfl, eqI_98]; rfl
theorem eqg_98 : Try.prog.eqGuardType Try.prog.depth 98 = false := by kernel_rfl
theorem eqI_146 (d : Nat) (x0 : Int) (x1 : Int) (x2 : Int) (y0 : Int) (y1 : Int) (y2 : Int) (w : World) : (Op.equalIn (d + 4) 146 (.agg #[.int .u64 x0, .int .u64 x1, .int .i64 x2]) (.agg #[.int .u64 y0, .int .u64 y1, .int .i64 y2])).run Try.prog w = .ok (same (⟨⟨x0, x1⟩, x2⟩ : Pfx) (⟨⟨y0, y1⟩, y2⟩ : Pfx)) w := by
  have hS : Try.prog.underlying 146 = some (.struct (Try.prog.fieldsOf 146)) := by kernel_rfl
  have hp : Try.prog.stoodInHeld 146 = false := by kernel_rfl
  rw [run_equalIn_agg w (d + 3) 146 _ _ hS hp]
  simp only [Program.fieldsOf, Try.underlying146]
  go_simp
  unfold same
  first | done | (rw [Bool.eq_iff_iff]; simp) | ((repeat' split) <;> simp_all)
attribute [local go_sem] eqI_146
theorem eql_146 (x0 : Int) (x1 : Int) (x2 : Int) (y0 : Int) (y1 : Int) (y2 : Int) (w : World) : (binOp .eql 146 (.agg #[.int .u64 x0, .int .u64 x1, .int .i64 x2]) (.agg #[.int .u64 y0, .int .u64 y1, .int .i64 y2])).run Try.prog w = .ok (.bool (same (⟨⟨x0, x1⟩, x2⟩ : Pfx) (⟨⟨y0, y1⟩, y2⟩ : Pfx))) w := by
  rw [run_eql_struct, show (10000 : Nat) = 9996 + 4 from rfl, eqI_146]; rfl
theorem neq_146 (x0 : Int) (x1 : Int) (x2 : Int) (y0 : Int) (y1 : Int) (y2 : Int) (w : World) : (binOp .neq 146 (.agg #[.int .u64 x0, .int .u64 x1, .int .i64 x2]) (.agg #[.int .u64 y0, .int .u64 y1, .int .i64 y2])).run Try.prog w = .ok (.bool (!(same (⟨⟨x0, x1⟩, x2⟩ : Pfx) (⟨⟨y0, y1⟩, y2⟩ : Pfx)))) w := by
  rw [run_neq_struct, show (10000 : Nat) = 9996 + 4 from rfl, eqI_146]; rfl
theorem eqg_146 : Try.prog.eqGuardType Try.prog.depth 146 = false := by kernel_rfl
theorem eqI_108 (d : Nat) (x0 : Int) (x1 : Int) (x2 : Int) (x3 : Int) (y0 : Int) (y1 : Int) (y2 : Int) (y3 : Int) (w : World) : (Op.equalIn (d + 6) 108 (.agg #[.int .u64 x0, .int .u64 x1, .int .i64 x2, .int .i64 x3]) (.agg #[.int .u64 y0, .int .u64 y1, .int .i64 y2, .int .i64 y3])).run Try.prog w = .ok (same (⟨⟨⟨x0, x1⟩, x2⟩, x3⟩ : Rte) (⟨⟨⟨y0, y1⟩, y2⟩, y3⟩ : Rte)) w := by
  have hS : Try.prog.underlying 108 = some (.struct (Try.prog.fieldsOf 108)) := by kernel_rfl
  have hp : Try.prog.stoodInHeld 108 = false := by kernel_rfl
  rw [run_equalIn_agg w (d + 5) 108 _ _ hS hp]
  simp only [Program.fieldsOf, Try.underlying108]
  go_simp
  unfold same
  first | done | (rw [Bool.eq_iff_iff]; simp) | ((repeat' split) <;> simp_all)
attribute [local go_sem] eqI_108
theorem eql_108 (x0 : Int) (x1 : Int) (x2 : Int) (x3 : Int) (y0 : Int) (y1 : Int) (y2 : Int) (y3 : Int) (w : World) : (binOp .eql 108 (.agg #[.int .u64 x0, .int .u64 x1, .int .i64 x2, .int .i64 x3]) (.agg #[.int .u64 y0, .int .u64 y1, .int .i64 y2, .int .i64 y3])).run Try.prog w = .ok (.bool (same (⟨⟨⟨x0, x1⟩, x2⟩, x3⟩ : Rte) (⟨⟨⟨y0, y1⟩, y2⟩, y3⟩ : Rte))) w := by
  rw [run_eql_struct, show (10000 : Nat) = 9994 + 6 from rfl, eqI_108]; rfl
theorem neq_108 (x0 : Int) (x1 : Int) (x2 : Int) (x3 : Int) (y0 : Int) (y1 : Int) (y2 : Int) (y3 : Int) (w : World) : (binOp .neq 108 (.agg #[.int .u64 x0, .int .u64 x1, .int .i64 x2, .int .i64 x3]) (.agg #[.int .u64 y0, .int .u64 y1, .int .i64 y2, .int .i64 y3])).run Try.prog w = .ok (.bool (!(same (⟨⟨⟨x0, x1⟩, x2⟩, x3⟩ : Rte) (⟨⟨⟨y0, y1⟩, y2⟩, y3⟩ : Rte)))) w := by
  rw [run_neq_struct, show (10000 : Nat) = 9994 + 6 from rfl, eqI_108]; rfl
theorem eqg_108 : Try.prog.eqGuardType Try.prog.depth 108 = false := by kernel_rfl
theorem eqI_148 (d : Nat) (x0 : Int) (x1 : Int) (x2 : Int) (x3 : Int) (y0 : Int) (y1 : Int) (y2 : Int) (y3 : Int) (w : World) : (Op.equalIn (d + 6) 148 (.agg #[.int .u64 x0, .int .u64 x1, .int .i64 x2, .int .i64 x3]) (.agg #[.int .u64 y0, .int .u64 y1, .int .i64 y2, .int .i64 y3])).run Try.prog w = .ok (same (⟨⟨⟨x0, x1⟩, x2⟩, x3⟩ : Rte) (⟨⟨⟨y0, y1⟩, y2⟩, y3⟩ : Rte)) w := by
  have hS : Try.prog.underlying 148 = some (.struct (Try.prog.fieldsOf 148)) := by kernel_rfl
  have hp : Try.prog.stoodInHeld 148 = false := by kernel_rfl
  rw [run_equalIn_agg w (d + 5) 148 _ _ hS hp]
  simp only [Program.fieldsOf, Try.underlying148]
  go_simp
  unfold same
  first | done | (rw [Bool.eq_iff_iff]; simp) | ((repeat' split) <;> simp_all)
attribute [local go_sem] eqI_148
theorem eql_148 (x0 : Int) (x1 : Int) (x2 : Int) (x3 : Int) (y0 : Int) (y1 : Int) (y2 : Int) (y3 : Int) (w : World) : (binOp .eql 148 (.agg #[.int .u64 x0, .int .u64 x1, .int .i64 x2, .int .i64 x3]) (.agg #[.int .u64 y0, .int .u64 y1, .int .i64 y2, .int .i64 y3])).run Try.prog w = .ok (.bool (same (⟨⟨⟨x0, x1⟩, x2⟩, x3⟩ : Rte) (⟨⟨⟨y0, y1⟩, y2⟩, y3⟩ : Rte))) w := by
  rw [run_eql_struct, show (10000 : Nat) = 9994 + 6 from rfl, eqI_148]; rfl
theorem neq_148 (x0 : Int) (x1 : Int) (x2 : Int) (x3 : Int) (y0 : Int) (y1 : Int) (y2 : Int) (y3 : Int) (w : World) : (binOp .neq 148 (.agg #[.int .u64 x0, .int .u64 x1, .int .i64 x2, .int .i64 x3]) (.agg #[.int .u64 y0, .int .u64 y1, .int .i64 y2, .int .i64 y3])).run Try.prog w = .ok (.bool (!(same (⟨⟨⟨x0, x1⟩, x2⟩, x3⟩ : Rte) (⟨⟨⟨y0, y1⟩, y2⟩, y3⟩ : Rte)))) w := by
  rw [run_neq_struct, show (10000 : Nat) = 9994 + 6 from rfl, eqI_148]; rfl
theorem eqg_148 : Try.prog.eqGuardType Try.prog.depth 148 = false := by kernel_rfl
theorem eqI_66 (d : Nat) (x0 : Bool) (x1 : Int) (x2 : Int) (x3 : Int) (x4 : Int) (x5 : Int) (x6 : Int) (y0 : Bool) (y1 : Int) (y2 : Int) (y3 : Int) (y4 : Int) (y5 : Int) (y6 : Int) (w : World) : (Op.equalIn (d + 8) 66 (.agg #[.bool x0, .int .u64 x1, .int .u64 x2, .int .u64 x3, .int .u64 x4, .int .i64 x5, .int .i64 x6]) (.agg #[.bool y0, .int .u64 y1, .int .u64 y2, .int .u64 y3, .int .u64 y4, .int .i64 y5, .int .i64 y6])).run Try.prog w = .ok (same (⟨x0, ⟨⟨⟨x1, x2⟩, ⟨x3, x4⟩⟩, x5, x6⟩⟩ : Slt) (⟨y0, ⟨⟨⟨y1, y2⟩, ⟨y3, y4⟩⟩, y5, y6⟩⟩ : Slt)) w := by
  have hS : Try.prog.underlying 66 = some (.struct (Try.prog.fieldsOf 66)) := by kernel_rfl
  have hp : Try.prog.stoodInHeld 66 = false := by kernel_rfl
  rw [run_equalIn_agg w (d + 7) 66 _ _ hS hp]
  simp only [Program.fieldsOf, Try.underlying66]
  go_simp
  unfold same
  first | done | (rw [Bool.eq_iff_iff]; simp) | ((repeat' split) <;> simp_all)
attribute [local go_sem] eqI_66
theorem eql_66 (x0 : Bool) (x1 : Int) (x2 : Int) (x3 : Int) (x4 : Int) (x5 : Int) (x6 : Int) (y0 : Bool) (y1 : Int) (y2 : Int) (y3 : Int) (y4 : Int) (y5 : Int) (y6 : Int) (w : World) : (binOp .eql 66 (.agg #[.bool x0, .int .u64 x1, .int .u64 x2, .int .u64 x3, .int .u64 x4, .int .i64 x5, .int .i64 x6]) (.agg #[.bool y0, .int .u64 y1, .int .u64 y2, .int .u64 y3, .int .u64 y4, .int .i64 y5, .int .i64 y6])).run Try.prog w = .ok (.bool (same (⟨x0, ⟨⟨⟨x1, x2⟩, ⟨x3, x4⟩⟩, x5, x6⟩⟩ : Slt) (⟨y0, ⟨⟨⟨y1, y2⟩, ⟨y3, y4⟩⟩, y5, y6⟩⟩ : Slt))) w := by
  rw [run_eql_struct, show (10000 : Nat) = 9992 + 8 from rfl, eqI_66]; rfl
theorem neq_66 (x0 : Bool) (x1 : Int) (x2 : Int) (x3 : Int) (x4 : Int) (x5 : Int) (x6 : Int) (y0 : Bool) (y1 : Int) (y2 : Int) (y3 : Int) (y4 : Int) (y5 : Int) (y6 : Int) (w : World) : (binOp .neq 66 (.agg #[.bool x0, .int .u64 x1, .int .u64 x2, .int .u64 x3, .int .u64 x4, .int .i64 x5, .int .i64 x6]) (.agg #[.bool y0, .int .u64 y1, .int .u64 y2, .int .u64 y3, .int .u64 y4, .int .i64 y5, .int .i64 y6])).run Try.prog w = .ok (.bool (!(same (⟨x0, ⟨⟨⟨x1, x2⟩, ⟨x3, x4⟩⟩, x5, x6⟩⟩ : Slt) (⟨y0, ⟨⟨⟨y1, y2⟩, ⟨y3, y4⟩⟩, y5, y6⟩⟩ : Slt)))) w := by
  rw [run_neq_struct, show (10000 : Nat) = 9992 + 8 from rfl, eqI_66]; rfl
theorem eqg_66 : Try.prog.eqGuardType Try.prog.depth 66 = false := by kernel_rfl
theorem eqI_113 (d : Nat) (x0 : Bool) (x1 : Int) (x2 : Int) (x3 : Int) (x4 : Int) (x5 : Int) (x6 : Int) (y0 : Bool) (y1 : Int) (y2 : Int) (y3 : Int) (y4 : Int) (y5 : Int) (y6 : Int) (w : World) : (Op.equalIn (d + 8) 113 (.agg #[.bool x0, .int .u64 x1, .int .u64 x2, .int .u64 x3, .int .u64 x4, .int .i64 x5, .int .i64 x6]) (.agg #[.bool y0, .int .u64 y1, .int .u64 y2, .int .u64 y3, .int .u64 y4, .int .i64 y5, .int .i64 y6])).run Try.prog w = .ok (same (⟨x0, ⟨⟨⟨x1, x2⟩, ⟨x3, x4⟩⟩, x5, x6⟩⟩ : Slt) (⟨y0, ⟨⟨⟨y1, y2⟩, ⟨y3, y4⟩⟩, y5, y6⟩⟩ : Slt)) w := by
  have hS : Try.prog.underlying 113 = some (.struct (Try.prog.fieldsOf 113)) := by kernel_rfl
  have hp : Try.prog.stoodInHeld 113 = false := by kernel_rfl
  rw [run_equalIn_agg w (d + 7) 113 _ _ hS hp]
  simp only [Program.fieldsOf, Try.underlying113]
  go_simp
  unfold same
  first | done | (rw [Bool.eq_iff_iff]; simp) | ((repeat' split) <;> simp_all)
attribute [local go_sem] eqI_113
theorem eql_113 (x0 : Bool) (x1 : Int) (x2 : Int) (x3 : Int) (x4 : Int) (x5 : Int) (x6 : Int) (y0 : Bool) (y1 : Int) (y2 : Int) (y3 : Int) (y4 : Int) (y5 : Int) (y6 : Int) (w : World) : (binOp .eql 113 (.agg #[.bool x0, .int .u64 x1, .int .u64 x2, .int .u64 x3, .int .u64 x4, .int .i64 x5, .int .i64 x6]) (.agg #[.bool y0, .int .u64 y1, .int .u64 y2, .int .u64 y3, .int .u64 y4, .int .i64 y5, .int .i64 y6])).run Try.prog w = .ok (.bool (same (⟨x0, ⟨⟨⟨x1, x2⟩, ⟨x3, x4⟩⟩, x5, x6⟩⟩ : Slt) (⟨y0, ⟨⟨⟨y1, y2⟩, ⟨y3, y4⟩⟩, y5, y6⟩⟩ : Slt))) w := by
  rw [run_eql_struct, show (10000 : Nat) = 9992 + 8 from rfl, eqI_113]; rfl
theorem neq_113 (x0 : Bool) (x1 : Int) (x2 : Int) (x3 : Int) (x4 : Int) (x5 : Int) (x6 : Int) (y0 : Bool) (y1 : Int) (y2 : Int) (y3 : Int) (y4 : Int) (y5 : Int) (y6 : Int) (w : World) : (binOp .neq 113 (.agg #[.bool x0, .int .u64 x1, .int .u64 x2, .int .u64 x3, .int .u64 x4, .int .i64 x5, .int .i64 x6]) (.agg #[.bool y0, .int .u64 y1, .int .u64 y2, .int .u64 y3, .int .u64 y4, .int .i64 y5, .int .i64 y6])).run Try.prog w = .ok (.bool (!(same (⟨x0, ⟨⟨⟨x1, x2⟩, ⟨x3, x4⟩⟩, x5, x6⟩⟩ : Slt) (⟨y0, ⟨⟨⟨y1, y2⟩, ⟨y3, y4⟩⟩, y5, y6⟩⟩ : Slt)))) w := by
  rw [run_neq_struct, show (10000 : Nat) = 9992 + 8 from rfl, eqI_113]; rfl
theorem eqg_113 : Try.prog.eqGuardType Try.prog.depth 113 = false := by kernel_rfl
theorem eqI_69 (d : Nat) (x0 : Int) (x1 : Bool) (x2 : Int) (x3 : Int) (x4 : Int) (x5 : Int) (x6 : Int) (x7 : Int) (y0 : Int) (y1 : Bool) (y2 : Int) (y3 : Int) (y4 : Int) (y5 : Int) (y6 : Int) (y7 : Int) (w : World) : (Op.equalIn (d + 10) 69 (.agg #[.int .i64 x0, .bool x1, .int .u64 x2, .int .u64 x3, .int .u64 x4, .int .u64 x5, .int .i64 x6, .int .i64 x7]) (.agg #[.int .i64 y0, .bool y1, .int .u64 y2, .int .u64 y3, .int .u64 y4, .int .u64 y5, .int .i64 y6, .int .i64 y7])).run Try.prog w = .ok (same (⟨x0, ⟨x1, ⟨⟨⟨x2, x3⟩, ⟨x4, x5⟩⟩, x6, x7⟩⟩⟩ : Wrt) (⟨y0, ⟨y1, ⟨⟨⟨y2, y3⟩, ⟨y4, y5⟩⟩, y6, y7⟩⟩⟩ : Wrt)) w := by
  have hS : Try.prog.underlying 69 = some (.struct (Try.prog.fieldsOf 69)) := by kernel_rfl
  have hp : Try.prog.stoodInHeld 69 = false := by kernel_rfl
  rw [run_equalIn_agg w (d + 9) 69 _ _ hS hp]
  simp only [Program.fieldsOf, Try.underlying69]
  go_simp
  unfold same
  first | done | (rw [Bool.eq_iff_iff]; simp) | ((repeat' split) <;> simp_all)
attribute [local go_sem] eqI_69
theorem eql_69 (x0 : Int) (x1 : Bool) (x2 : Int) (x3 : Int) (x4 : Int) (x5 : Int) (x6 : Int) (x7 : Int) (y0 : Int) (y1 : Bool) (y2 : Int) (y3 : Int) (y4 : Int) (y5 : Int) (y6 : Int) (y7 : Int) (w : World) : (binOp .eql 69 (.agg #[.int .i64 x0, .bool x1, .int .u64 x2, .int .u64 x3, .int .u64 x4, .int .u64 x5, .int .i64 x6, .int .i64 x7]) (.agg #[.int .i64 y0, .bool y1, .int .u64 y2, .int .u64 y3, .int .u64 y4, .int .u64 y5, .int .i64 y6, .int .i64 y7])).run Try.prog w = .ok (.bool (same (⟨x0, ⟨x1, ⟨⟨⟨x2, x3⟩, ⟨x4, x5⟩⟩, x6, x7⟩⟩⟩ : Wrt) (⟨y0, ⟨y1, ⟨⟨⟨y2, y3⟩, ⟨y4, y5⟩⟩, y6, y7⟩⟩⟩ : Wrt))) w := by
  rw [run_eql_struct, show (10000 : Nat) = 9990 + 10 from rfl, eqI_69]; rfl
theorem neq_69 (x0 : Int) (x1 : Bool) (x2 : Int) (x3 : Int) (x4 : Int) (x5 : Int) (x6 : Int) (x7 : Int) (y0 : Int) (y1 : Bool) (y2 : Int) (y3 : Int) (y4 : Int) (y5 : Int) (y6 : Int) (y7 : Int) (w : World) : (binOp .neq 69 (.agg #[.int .i64 x0, .bool x1, .int .u64 x2, .int .u64 x3, .int .u64 x4, .int .u64 x5, .int .i64 x6, .int .i64 x7]) (.agg #[.int .i64 y0, .bool y1, .int .u64 y2, .int .u64 y3, .int .u64 y4, .int .u64 y5, .int .i64 y6, .int .i64 y7])).run Try.prog w = .ok (.bool (!(same (⟨x0, ⟨x1, ⟨⟨⟨x2, x3⟩, ⟨x4, x5⟩⟩, x6, x7⟩⟩⟩ : Wrt) (⟨y0, ⟨y1, ⟨⟨⟨y2, y3⟩, ⟨y4, y5⟩⟩, y6, y7⟩⟩⟩ : Wrt)))) w := by
  rw [run_neq_struct, show (10000 : Nat) = 9990 + 10 from rfl, eqI_69]; rfl
theorem eqg_69 : Try.prog.eqGuardType Try.prog.depth 69 = false := by kernel_rfl
theorem eqI_127 (d : Nat) (x0 : Int) (x1 : Bool) (x2 : Int) (x3 : Int) (x4 : Int) (x5 : Int) (x6 : Int) (x7 : Int) (y0 : Int) (y1 : Bool) (y2 : Int) (y3 : Int) (y4 : Int) (y5 : Int) (y6 : Int) (y7 : Int) (w : World) : (Op.equalIn (d + 10) 127 (.agg #[.int .i64 x0, .bool x1, .int .u64 x2, .int .u64 x3, .int .u64 x4, .int .u64 x5, .int .i64 x6, .int .i64 x7]) (.agg #[.int .i64 y0, .bool y1, .int .u64 y2, .int .u64 y3, .int .u64 y4, .int .u64 y5, .int .i64 y6, .int .i64 y7])).run Try.prog w = .ok (same (⟨x0, ⟨x1, ⟨⟨⟨x2, x3⟩, ⟨x4, x5⟩⟩, x6, x7⟩⟩⟩ : Wrt) (⟨y0, ⟨y1, ⟨⟨⟨y2, y3⟩, ⟨y4, y5⟩⟩, y6, y7⟩⟩⟩ : Wrt)) w := by
  have hS : Try.prog.underlying 127 = some (.struct (Try.prog.fieldsOf 127)) := by kernel_rfl
  have hp : Try.prog.stoodInHeld 127 = false := by kernel_rfl
  rw [run_equalIn_agg w (d + 9) 127 _ _ hS hp]
  simp only [Program.fieldsOf, Try.underlying127]
  go_simp
  unfold same
  first | done | (rw [Bool.eq_iff_iff]; simp) | ((repeat' split) <;> simp_all)
attribute [local go_sem] eqI_127
theorem eql_127 (x0 : Int) (x1 : Bool) (x2 : Int) (x3 : Int) (x4 : Int) (x5 : Int) (x6 : Int) (x7 : Int) (y0 : Int) (y1 : Bool) (y2 : Int) (y3 : Int) (y4 : Int) (y5 : Int) (y6 : Int) (y7 : Int) (w : World) : (binOp .eql 127 (.agg #[.int .i64 x0, .bool x1, .int .u64 x2, .int .u64 x3, .int .u64 x4, .int .u64 x5, .int .i64 x6, .int .i64 x7]) (.agg #[.int .i64 y0, .bool y1, .int .u64 y2, .int .u64 y3, .int .u64 y4, .int .u64 y5, .int .i64 y6, .int .i64 y7])).run Try.prog w = .ok (.bool (same (⟨x0, ⟨x1, ⟨⟨⟨x2, x3⟩, ⟨x4, x5⟩⟩, x6, x7⟩⟩⟩ : Wrt) (⟨y0, ⟨y1, ⟨⟨⟨y2, y3⟩, ⟨y4, y5⟩⟩, y6, y7⟩⟩⟩ : Wrt))) w := by
  rw [run_eql_struct, show (10000 : Nat) = 9990 + 10 from rfl, eqI_127]; rfl
theorem neq_127 (x0 : Int) (x1 : Bool) (x2 : Int) (x3 : Int) (x4 : Int) (x5 : Int) (x6 : Int) (x7 : Int) (y0 : Int) (y1 : Bool) (y2 : Int) (y3 : Int) (y4 : Int) (y5 : Int) (y6 : Int) (y7 : Int) (w : World) : (binOp .neq 127 (.agg #[.int .i64 x0, .bool x1, .int .u64 x2, .int .u64 x3, .int .u64 x4, .int .u64 x5, .int .i64 x6, .int .i64 x7]) (.agg #[.int .i64 y0, .bool y1, .int .u64 y2, .int .u64 y3, .int .u64 y4, .int .u64 y5, .int .i64 y6, .int .i64 y7])).run Try.prog w = .ok (.bool (!(same (⟨x0, ⟨x1, ⟨⟨⟨x2, x3⟩, ⟨x4, x5⟩⟩, x6, x7⟩⟩⟩ : Wrt) (⟨y0, ⟨y1, ⟨⟨⟨y2, y3⟩, ⟨y4, y5⟩⟩, y6, y7⟩⟩⟩ : Wrt)))) w := by
  rw [run_neq_struct, show (10000 : Nat) = 9990 + 10 from rfl, eqI_127]; rfl
theorem eqg_127 : Try.prog.eqGuardType Try.prog.depth 127 = false := by kernel_rfl
theorem eqI_74 (d : Nat) (x0 : Int) (x1 : Int) (x2 : Int) (x3 : Int) (x4 : Int) (x5 : Int) (x6 : Int) (y0 : Int) (y1 : Int) (y2 : Int) (y3 : Int) (y4 : Int) (y5 : Int) (y6 : Int) (w : World) : (Op.equalIn (d + 8) 74 (.agg #[.int .i64 x0, .int .u64 x1, .int .u64 x2, .int .u64 x3, .int .u64 x4, .int .i64 x5, .int .i64 x6]) (.agg #[.int .i64 y0, .int .u64 y1, .int .u64 y2, .int .u64 y3, .int .u64 y4, .int .i64 y5, .int .i64 y6])).run Try.prog w = .ok (same (⟨x0, ⟨⟨⟨x1, x2⟩, ⟨x3, x4⟩⟩, x5, x6⟩⟩ : Stp) (⟨y0, ⟨⟨⟨y1, y2⟩, ⟨y3, y4⟩⟩, y5, y6⟩⟩ : Stp)) w := by
  have hS : Try.prog.underlying 74 = some (.struct (Try.prog.fieldsOf 74)) := by kernel_rfl
  have hp : Try.prog.stoodInHeld 74 = false := by kernel_rfl
  rw [run_equalIn_agg w (d + 7) 74 _ _ hS hp]
  simp only [Program.fieldsOf, Try.underlying74]
  go_simp
  unfold same
  first | done | (rw [Bool.eq_iff_iff]; simp) | ((repeat' split) <;> simp_all)
attribute [local go_sem] eqI_74
theorem eql_74 (x0 : Int) (x1 : Int) (x2 : Int) (x3 : Int) (x4 : Int) (x5 : Int) (x6 : Int) (y0 : Int) (y1 : Int) (y2 : Int) (y3 : Int) (y4 : Int) (y5 : Int) (y6 : Int) (w : World) : (binOp .eql 74 (.agg #[.int .i64 x0, .int .u64 x1, .int .u64 x2, .int .u64 x3, .int .u64 x4, .int .i64 x5, .int .i64 x6]) (.agg #[.int .i64 y0, .int .u64 y1, .int .u64 y2, .int .u64 y3, .int .u64 y4, .int .i64 y5, .int .i64 y6])).run Try.prog w = .ok (.bool (same (⟨x0, ⟨⟨⟨x1, x2⟩, ⟨x3, x4⟩⟩, x5, x6⟩⟩ : Stp) (⟨y0, ⟨⟨⟨y1, y2⟩, ⟨y3, y4⟩⟩, y5, y6⟩⟩ : Stp))) w := by
  rw [run_eql_struct, show (10000 : Nat) = 9992 + 8 from rfl, eqI_74]; rfl
theorem neq_74 (x0 : Int) (x1 : Int) (x2 : Int) (x3 : Int) (x4 : Int) (x5 : Int) (x6 : Int) (y0 : Int) (y1 : Int) (y2 : Int) (y3 : Int) (y4 : Int) (y5 : Int) (y6 : Int) (w : World) : (binOp .neq 74 (.agg #[.int .i64 x0, .int .u64 x1, .int .u64 x2, .int .u64 x3, .int .u64 x4, .int .i64 x5, .int .i64 x6]) (.agg #[.int .i64 y0, .int .u64 y1, .int .u64 y2, .int .u64 y3, .int .u64 y4, .int .i64 y5, .int .i64 y6])).run Try.prog w = .ok (.bool (!(same (⟨x0, ⟨⟨⟨x1, x2⟩, ⟨x3, x4⟩⟩, x5, x6⟩⟩ : Stp) (⟨y0, ⟨⟨⟨y1, y2⟩, ⟨y3, y4⟩⟩, y5, y6⟩⟩ : Stp)))) w := by
  rw [run_neq_struct, show (10000 : Nat) = 9992 + 8 from rfl, eqI_74]; rfl
theorem eqg_74 : Try.prog.eqGuardType Try.prog.depth 74 = false := by kernel_rfl
theorem eqI_78 (d : Nat) (x0 : Int) (x1 : Int) (x2 : Int) (x3 : Int) (x4 : Int) (x5 : Int) (x6 : Int) (y0 : Int) (y1 : Int) (y2 : Int) (y3 : Int) (y4 : Int) (y5 : Int) (y6 : Int) (w : World) : (Op.equalIn (d + 8) 78 (.agg #[.int .i64 x0, .int .u64 x1, .int .u64 x2, .int .u64 x3, .int .u64 x4, .int .i64 x5, .int .i64 x6]) (.agg #[.int .i64 y0, .int .u64 y1, .int .u64 y2, .int .u64 y3, .int .u64 y4, .int .i64 y5, .int .i64 y6])).run Try.prog w = .ok (same (⟨x0, ⟨⟨⟨x1, x2⟩, ⟨x3, x4⟩⟩, x5, x6⟩⟩ : Stp) (⟨y0, ⟨⟨⟨y1, y2⟩, ⟨y3, y4⟩⟩, y5, y6⟩⟩ : Stp)) w := by
  have hS : Try.prog.underlying 78 = some (.struct (Try.prog.fieldsOf 78)) := by kernel_rfl
  have hp : Try.prog.stoodInHeld 78 = false := by kernel_rfl
  rw [run_equalIn_agg w (d + 7) 78 _ _ hS hp]
  simp only [Program.fieldsOf, Try.underlying78]
  go_simp
  unfold same
  first | done | (rw [Bool.eq_iff_iff]; simp) | ((repeat' split) <;> simp_all)
attribute [local go_sem] eqI_78
theorem eql_78 (x0 : Int) (x1 : Int) (x2 : Int) (x3 : Int) (x4 : Int) (x5 : Int) (x6 : Int) (y0 : Int) (y1 : Int) (y2 : Int) (y3 : Int) (y4 : Int) (y5 : Int) (y6 : Int) (w : World) : (binOp .eql 78 (.agg #[.int .i64 x0, .int .u64 x1, .int .u64 x2, .int .u64 x3, .int .u64 x4, .int .i64 x5, .int .i64 x6]) (.agg #[.int .i64 y0, .int .u64 y1, .int .u64 y2, .int .u64 y3, .int .u64 y4, .int .i64 y5, .int .i64 y6])).run Try.prog w = .ok (.bool (same (⟨x0, ⟨⟨⟨x1, x2⟩, ⟨x3, x4⟩⟩, x5, x6⟩⟩ : Stp) (⟨y0, ⟨⟨⟨y1, y2⟩, ⟨y3, y4⟩⟩, y5, y6⟩⟩ : Stp))) w := by
  rw [run_eql_struct, show (10000 : Nat) = 9992 + 8 from rfl, eqI_78]; rfl
theorem neq_78 (x0 : Int) (x1 : Int) (x2 : Int) (x3 : Int) (x4 : Int) (x5 : Int) (x6 : Int) (y0 : Int) (y1 : Int) (y2 : Int) (y3 : Int) (y4 : Int) (y5 : Int) (y6 : Int) (w : World) : (binOp .neq 78 (.agg #[.int .i64 x0, .int .u64 x1, .int .u64 x2, .int .u64 x3, .int .u64 x4, .int .i64 x5, .int .i64 x6]) (.agg #[.int .i64 y0, .int .u64 y1, .int .u64 y2, .int .u64 y3, .int .u64 y4, .int .i64 y5, .int .i64 y6])).run Try.prog w = .ok (.bool (!(same (⟨x0, ⟨⟨⟨x1, x2⟩, ⟨x3, x4⟩⟩, x5, x6⟩⟩ : Stp) (⟨y0, ⟨⟨⟨y1, y2⟩, ⟨y3, y4⟩⟩, y5, y6⟩⟩ : Stp)))) w := by
  rw [run_neq_struct, show (10000 : Nat) = 9992 + 8 from rfl, eqI_78]; rfl
theorem eqg_78 : Try.prog.eqGuardType Try.prog.depth 78 = false := by kernel_rfl
end Go.Proofs.Ytnklfbeiagkhiaa
