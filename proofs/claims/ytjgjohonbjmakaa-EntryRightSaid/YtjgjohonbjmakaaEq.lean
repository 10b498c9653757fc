/- '==' of structs and arrays, as one Bool. -/
import Derived.Test.YtjgjohonbjmakaaProg
import Derived.Test.YtjgjohonbjmakaaBase
import Derived.WalkKit
import Derived.WalkSpells
import Derived.WalkLawsBesides
import Derived.KernelRfl
namespace Go.Proofs.Ytjgjohonbjmakaa
open Go.RowKit
set_option linter.unusedSimpArgs false
set_option linter.unusedVariables false
theorem eqI_25 (d : Nat) (x0 : Int) (x1 : Int) (y0 : Int) (y1 : Int) (w : World) : (Op.equalIn (d + 2) 25 (.agg #[.int .u64 x0, .int .u64 x1]) (.agg #[.int .u64 y0, .int .u64 y1])).run Try.prog w = .ok (same (⟨x0, x1⟩ : A2) (⟨y0, y1⟩ : A2)) w := by
  have hu : Try.prog.underlying 25 = some (.array 2 23) := by kernel_rfl
  rw [Op.equalIn]
  simp only [Sem.run_bind, run_underlying hu, Result.andThen_ok, Std.Legacy.Range.forIn_eq_forIn_range', Std.Legacy.Range.size, List.range', List.forIn_cons, List.forIn_nil]
  go_simp
  unfold same
  by_cases h1 : x0 = y0 <;> by_cases h2 : x1 = y1 <;> simp [h1, h2]
attribute [local go_sem] eqI_25
theorem eql_25 (x0 : Int) (x1 : Int) (y0 : Int) (y1 : Int) (w : World) : (binOp .eql 25 (.agg #[.int .u64 x0, .int .u64 x1]) (.agg #[.int .u64 y0, .int .u64 y1])).run Try.prog w = .ok (.bool (same (⟨x0, x1⟩ : A2) (⟨y0, y1⟩ : A2))) w := by
  rw [run_eql_struct, show (10000 : Nat) = 9998 + 2 from rfl, eqI_25]; rfl
theorem neq_25 (x0 : Int) (x1 : Int) (y0 : Int) (y1 : Int) (w : World) : (binOp .neq 25 (.agg #[.int .u64 x0, .int .u64 x1]) (.agg #[.int .u64 y0, .int .u64 y1])).run Try.prog w = .ok (.bool (!(same (⟨x0, x1⟩ : A2) (⟨y0, y1⟩ : A2)))) w := by
  rw [run_neq_struct, show (10000 : Nat) = 9998 + 2 from rfl, eqI_25]; rfl
theorem eqg_25 : Try.prog.eqGuardType Try.prog.depth 25 = false := by kernel_rfl
theorem eqI_24 (d : Nat) (x0 : Int) (x1 : Int) (y0 : Int) (y1 : Int) (w : World) : (Op.equalIn (d + 2) 24 (.agg #[.int .u64 x0, .int .u64 x1]) (.agg #[.int .u64 y0, .int .u64 y1])).run Try.prog w = .ok (same (⟨x0, x1⟩ : A2) (⟨y0, y1⟩ : A2)) w := by
  have hu : Try.prog.underlying 24 = some (.array 2 23) := by kernel_rfl
  rw [Op.equalIn]
  simp only [Sem.run_bind, run_underlying hu, Result.andThen_ok, Std.Legacy.Range.forIn_eq_forIn_range', Std.Legacy.Range.size, List.range', List.forIn_cons, List.forIn_nil]
  go_simp
  unfold same
  by_cases h1 : x0 = y0 <;> by_cases h2 : x1 = y1 <;> simp [h1, h2]
attribute [local go_sem] eqI_24
theorem eql_24 (x0 : Int) (x1 : Int) (y0 : Int) (y1 : Int) (w : World) : (binOp .eql 24 (.agg #[.int .u64 x0, .int .u64 x1]) (.agg #[.int .u64 y0, .int .u64 y1])).run Try.prog w = .ok (.bool (same (⟨x0, x1⟩ : A2) (⟨y0, y1⟩ : A2))) w := by
  rw [run_eql_struct, show (10000 : Nat) = 9998 + 2 from rfl, eqI_24]; rfl
theorem neq_24 (x0 : Int) (x1 : Int) (y0 : Int) (y1 : Int) (w : World) : (binOp .neq 24 (.agg #[.int .u64 x0, .int .u64 x1]) (.agg #[.int .u64 y0, .int .u64 y1])).run Try.prog w = .ok (.bool (!(same (⟨x0, x1⟩ : A2) (⟨y0, y1⟩ : A2)))) w := by
  rw [run_neq_struct, show (10000 : Nat) = 9998 + 2 from rfl, eqI_24]; rfl
theorem eqg_24 : Try.prog.eqGuardType Try.prog.depth 24 = false := by kernel_rfl
theorem eqI_27 (d : Nat) (x0 : Int) (x1 : Int) (x2 : Int) (x3 : Int) (y0 : Int) (y1 : Int) (y2 : Int) (y3 : Int) (w : World) : (Op.equalIn (d + 4) 27 (.agg #[.int .u64 x0, .int .u64 x1, .int .u64 x2, .int .u64 x3]) (.agg #[.int .u64 y0, .int .u64 y1, .int .u64 y2, .int .u64 y3])).run Try.prog w = .ok (same (⟨⟨x0, x1⟩, ⟨x2, x3⟩⟩ : W2) (⟨⟨y0, y1⟩, ⟨y2, y3⟩⟩ : W2)) w := by
  have hS : Try.prog.underlying 27 = some (.struct (Try.prog.fieldsOf 27)) := by kernel_rfl
  have hp : Try.prog.stoodInHeld 27 = false := by kernel_rfl
  rw [run_equalIn_agg w (d + 3) 27 _ _ hS hp]
  simp only [Program.fieldsOf, Try.underlying27]
  go_simp
  unfold same
  first | done | (rw [Bool.eq_iff_iff]; simp) | ((repeat' split) <;> simp_all)
attribute [local go_sem] eqI_27
theorem eql_27 (x0 : Int) (x1 : Int) (x2 : Int) (x3 : Int) (y0 : Int) (y1 : Int) (y2 : Int) (y3 : Int) (w : World) : (binOp .eql 27 (.agg #[.int .u64 x0, .int .u64 x1, .int .u64 x2, .int .u64 x3]) (.agg #[.int .u64 y0, .int .u64 y1, .int .u64 y2, .int .u64 y3])).run Try.prog w = .ok (.bool (same (⟨⟨x0, x1⟩, ⟨x2, x3⟩⟩ : W2) (⟨⟨y0, y1⟩, ⟨y2, y3⟩⟩ : W2))) w := by
  rw [run_eql_struct, show (10000 : Nat) = 9996 + 4 from rfl, eqI_27]; rfl
theorem neq_27 (x0 : Int) (x1 : Int) (x2 : Int) (x3 : Int) (y0 : Int) (y1 : Int) (y2 : Int) (y3 : Int) (w : World) : (binOp .neq 27 (.agg #[.int .u64 x0, .int .u64 x1, .int .u64 x2, .int .u64 x3]) (.agg #[.int .u64 y0, .int .u64 y1, .int .u64 y2, .int .u64 y3])).run Try.prog w = .ok (.bool (!(same (⟨⟨x0, x1⟩, ⟨x2, x3⟩⟩ : W2) (⟨⟨y0, y1⟩, ⟨y2, y3⟩⟩ : W2)))) w := by
  rw [run_neq_struct, show (10000 : Nat) = 9996 + 4 from rfl, eqI_27]; rfl
theorem eqg_27 : Try.prog.eqGuardType Try.prog.depth 27 = false := by kernel_rfl
theorem eqI_32 (d : Nat) (x0 : Int) (x1 : Int) (x2 : Int) (x3 : Int) (y0 : Int) (y1 : Int) (y2 : Int) (y3 : Int) (w : World) : (Op.equalIn (d + 4) 32 (.agg #[.int .u64 x0, .int .u64 x1, .int .u64 x2, .int .u64 x3]) (.agg #[.int .u64 y0, .int .u64 y1, .int .u64 y2, .int .u64 y3])).run Try.prog w = .ok (same (⟨⟨x0, x1⟩, ⟨x2, x3⟩⟩ : W2) (⟨⟨y0, y1⟩, ⟨y2, y3⟩⟩ : W2)) w := by
  have hS : Try.prog.underlying 32 = some (.struct (Try.prog.fieldsOf 32)) := by kernel_rfl
  have hp : Try.prog.stoodInHeld 32 = false := by kernel_rfl
  rw [run_equalIn_agg w (d + 3) 32 _ _ hS hp]
  simp only [Program.fieldsOf, Try.underlying32]
  go_simp
  unfold same
  first | done | (rw [Bool.eq_iff_iff]; simp) | ((repeat' split) <;> simp_all)
attribute [local go_sem] eqI_32
theorem eql_32 (x0 : Int) (x1 : Int) (x2 : Int) (x3 : Int) (y0 : Int) (y1 : Int) (y2 : Int) (y3 : Int) (w : World) : (binOp .eql 32 (.agg #[.int .u64 x0, .int .u64 x1, .int .u64 x2, .int .u64 x3]) (.agg #[.int .u64 y0, .int .u64 y1, .int .u64 y2, .int .u64 y3])).run Try.prog w = .ok (.bool (same (⟨⟨x0, x1⟩, ⟨x2, x3⟩⟩ : W2) (⟨⟨y0, y1⟩, ⟨y2, y3⟩⟩ : W2))) w := by
  rw [run_eql_struct, show (10000 : Nat) = 9996 + 4 from rfl, eqI_32]; rfl
theorem neq_32 (x0 : Int) (x1 : Int) (x2 : Int) (x3 : Int) (y0 : Int) (y1 : Int) (y2 : Int) (y3 : Int) (w : World) : (binOp .neq 32 (.agg #[.int .u64 x0, .int .u64 x1, .int .u64 x2, .int .u64 x3]) (.agg #[.int .u64 y0, .int .u64 y1, .int .u64 y2, .int .u64 y3])).run Try.prog w = .ok (.bool (!(same (⟨⟨x0, x1⟩, ⟨x2, x3⟩⟩ : W2) (⟨⟨y0, y1⟩, ⟨y2, y3⟩⟩ : W2)))) w := by
  rw [run_neq_struct, show (10000 : Nat) = 9996 + 4 from rfl, eqI_32]; rfl
theorem eqg_32 : Try.prog.eqGuardType Try.prog.depth 32 = false := by kernel_rfl
theorem eqI_29 (d : Nat) (x0 : Int) (x1 : Int) (x2 : Int) (x3 : Int) (x4 : Int) (x5 : Int) (y0 : Int) (y1 : Int) (y2 : Int) (y3 : Int) (y4 : Int) (y5 : Int) (w : World) : (Op.equalIn (d + 6) 29 (.agg #[.int .u64 x0, .int .u64 x1, .int .u64 x2, .int .u64 x3, .int .i64 x4, .int .i64 x5]) (.agg #[.int .u64 y0, .int .u64 y1, .int .u64 y2, .int .u64 y3, .int .i64 y4, .int .i64 y5])).run Try.prog w = .ok (same (⟨⟨⟨x0, x1⟩, ⟨x2, x3⟩⟩, x4, x5⟩ : Ent) (⟨⟨⟨y0, y1⟩, ⟨y2, y3⟩⟩, y4, y5⟩ : Ent)) w := by
  have hS : Try.prog.underlying 29 = some (.struct (Try.prog.fieldsOf 29)) := by kernel_rfl
  have hp : Try.prog.stoodInHeld 29 = false := by kernel_rfl
  rw [run_equalIn_agg w (d + 5) 29 _ _ hS hp]
  simp only [Program.fieldsOf, Try.underlying29]
  go_simp
  unfold same
  first | done | (rw [Bool.eq_iff_iff]; simp) | ((repeat' split) <;> simp_all)
attribute [local go_sem] eqI_29
theorem eql_29 (x0 : Int) (x1 : Int) (x2 : Int) (x3 : Int) (x4 : Int) (x5 : Int) (y0 : Int) (y1 : Int) (y2 : Int) (y3 : Int) (y4 : Int) (y5 : Int) (w : World) : (binOp .eql 29 (.agg #[.int .u64 x0, .int .u64 x1, .int .u64 x2, .int .u64 x3, .int .i64 x4, .int .i64 x5]) (.agg #[.int .u64 y0, .int .u64 y1, .int .u64 y2, .int .u64 y3, .int .i64 y4, .int .i64 y5])).run Try.prog w = .ok (.bool (same (⟨⟨⟨x0, x1⟩, ⟨x2, x3⟩⟩, x4, x5⟩ : Ent) (⟨⟨⟨y0, y1⟩, ⟨y2, y3⟩⟩, y4, y5⟩ : Ent))) w := by
  rw [run_eql_struct, show (10000 : Nat) = 9994 + 6 from rfl, eqI_29]; rfl
theorem neq_29 (x0 : Int) (x1 : Int) (x2 : Int) (x3 : Int) (x4 : Int) (x5 : Int) (y0 : Int) (y1 : Int) (y2 : Int) (y3 : Int) (y4 : Int) (y5 : Int) (w : World) : (binOp .neq 29 (.agg #[.int .u64 x0, .int .u64 x1, .int .u64 x2, .int .u64 x3, .int .i64 x4, .int .i64 x5]) (.agg #[.int .u64 y0, .int .u64 y1, .int .u64 y2, .int .u64 y3, .int .i64 y4, .int .i64 y5])).run Try.prog w = .ok (.bool (!(same (⟨⟨⟨x0, x1⟩, ⟨x2, x3⟩⟩, x4, x5⟩ : Ent) (⟨⟨⟨y0, y1⟩, ⟨y2, y3⟩⟩, y4, y5⟩ : Ent)))) w := by
  rw [run_neq_struct, show (10000 : Nat) = 9994 + 6 from rfl, eqI_29]; rfl
theorem eqg_29 : Try.prog.eqGuardType Try.prog.depth 29 = false := by kernel_rfl
theorem eqI_34 (d : Nat) (x0 : Int) (x1 : Int) (x2 : Int) (x3 : Int) (x4 : Int) (x5 : Int) (y0 : Int) (y1 : Int) (y2 : Int) (y3 : Int) (y4 : Int) (y5 : Int) (w : World) : (Op.equalIn (d + 6) 34 (.agg #[.int .u64 x0, .int .u64 x1, .int .u64 x2, .int .u64 x3, .int .i64 x4, .int .i64 x5]) (.agg #[.int .u64 y0, .int .u64 y1, .int .u64 y2, .int .u64 y3, .int .i64 y4, .int .i64 y5])).run Try.prog w = .ok (same (⟨⟨⟨x0, x1⟩, ⟨x2, x3⟩⟩, x4, x5⟩ : Ent) (⟨⟨⟨y0, y1⟩, ⟨y2, y3⟩⟩, y4, y5⟩ : Ent)) w := by
  have hS : Try.prog.underlying 34 = some (.struct (Try.prog.fieldsOf 34)) := by kernel_rfl
  have hp : Try.prog.stoodInHeld 34 = false := by kernel_rfl
  rw [run_equalIn_agg w (d + 5) 34 _ _ hS hp]
  simp only [Program.fieldsOf, Try.underlying34]
  go_simp
  unfold same
  first | done | (rw [Bool.eq_iff_iff]; simp) | ((repeat' split) <;> simp_all)
attribute [local go_sem] eqI_34
theorem eql_34 (x0 : Int) (x1 : Int) (x2 : Int) (x3 : Int) (x4 : Int) (x5 : Int) (y0 : Int) (y1 : Int) (y2 : Int) (y3 : Int) (y4 : Int) (y5 : Int) (w : World) : (binOp .eql 34 (.agg #[.int .u64 x0, .int .u64 x1, .int .u64 x2, .int .u64 x3, .int .i64 x4, .int .i64 x5]) (.agg #[.int .u64 y0, .int .u64 y1, .int .u64 y2, .int .u64 y3, .int .i64 y4, .int .i64 y5])).run Try.prog w = .ok (.bool (same (⟨⟨⟨x0, x1⟩, ⟨x2, x3⟩⟩, x4, x5⟩ : Ent) (⟨⟨⟨y0, y1⟩, ⟨y2, y3⟩⟩, y4, y5⟩ : Ent))) w := by
  rw [run_eql_struct, show (10000 : Nat) = 9994 + 6 from rfl, eqI_34]; rfl
theorem neq_34 (x0 : Int) (x1 : Int) (x2 : Int) (x3 : Int) (x4 : Int) (x5 : Int) (y0 : Int) (y1 : Int) (y2 : Int) (y3 : Int) (y4 : Int) (y5 : Int) (w : World) : (binOp .neq 34 (.agg #[.int .u64 x0, .int .u64 x1, .int .u64 x2, .int .u64 x3, .int .i64 x4, .int .i64 x5]) (.agg #[.int .u64 y0, .int .u64 y1, .int .u64 y2, .int .u64 y3, .int .i64 y4, .int .i64 y5])).run Try.prog w = .ok (.bool (!(same (⟨⟨⟨x0, x1⟩, ⟨x2, x3⟩⟩, x4, x5⟩ : Ent) (⟨⟨⟨y0, y1⟩, ⟨y2, y3⟩⟩, y4, y5⟩ : Ent)))) w := by
  rw [run_neq_struct, show (10000 : Nat) = 9994 + 6 from rfl, eqI_34]; rfl
theorem eqg_34 : Try.prog.eqGuardType Try.prog.depth 34 = false := by kernel_rfl
theorem eqI_41 (d : Nat) (x0 : Int) (x1 : Int) (x2 : Int) (y0 : Int) (y1 : Int) (y2 : Int) (w : World) : (Op.equalIn (d + 4) 41 (.agg #[.int .u64 x0, .int .u64 x1, .int .i64 x2]) (.agg #[.int .u64 y0, .int .u64 y1, .int .i64 y2])).run Try.prog w = .ok (same (⟨⟨x0, x1⟩, x2⟩ : Pfx) (⟨⟨y0, y1⟩, y2⟩ : Pfx)) w := by
  have hS : Try.prog.underlying 41 = some (.struct (Try.prog.fieldsOf 41)) := by kernel_rfl
  have hp : Try.prog.stoodInHeld 41 = false := by kernel_rfl
  rw [run_equalIn_agg w (d + 3) 41 _ _ hS hp]
  simp only [Program.fieldsOf, Try.underlying41]
  go_simp
  unfold same
  first | done | (rw [Bool.eq_iff_iff]; simp) | ((repeat' split) <;> simp_all)
attribute [local go_sem] eqI_41
theorem eql_41 (x0 : Int) (x1 : Int) (x2 : Int) (y0 : Int) (y1 : Int) (y2 : Int) (w : World) : (binOp .eql 41 (.agg #[.int .u64 x0, .int .u64 x1, .int .i64 x2]) (.agg #[.int .u64 y0, .int .u64 y1, .int .i64 y2])).run Try.prog w = .ok (.bool (same (⟨⟨x0, x1⟩, x2⟩ : Pfx) (⟨⟨y0, y1⟩, y2⟩ : Pfx))) w := by
  rw [run_eql_struct, show (10000 : Nat) = 9996 + 4 from rfl, eqI_41]; rfl
theorem neq_41 (x0 : Int) (x1 : Int) (x2 : Int) (y0 : Int) (y1 : Int) (y2 : Int) (w : World) : (binOp .neq 41 (.agg #[.int .u64 x0, .int .u64 x1, .int .i64 x2]) (.agg #[.int .u64 y0, .int .u64 y1, .int .i64 y2])).run Try.prog w = .ok (.bool (!(same (⟨⟨x0, x1⟩, x2⟩ : Pfx) (⟨⟨y0, y1⟩, y2⟩ : Pfx)))) w := by
  rw [run_neq_struct, show (10000 : Nat) = 9996 + 4 from rfl, eqI_41]; rfl
theorem eqg_41 : Try.prog.eqGuardType Try.prog.depth 41 = false := by kernel_rfl
theorem eqI_44 (d : Nat) (x0 : Int) (x1 : Int) (x2 : Int) (y0 : Int) (y1 : Int) (y2 : Int) (w : World) : (Op.equalIn (d + 4) 44 (.agg #[.int .u64 x0, .int .u64 x1, .int .i64 x2]) (.agg #[.int .u64 y0, .int .u64 y1, .int .i64 y2])).run Try.prog w = .ok (same (⟨⟨x0, x1⟩, x2⟩ : Pfx) (⟨⟨y0, y1⟩, y2⟩ : Pfx)) w := by
  have hS : Try.prog.underlying 44 = some (.struct (Try.prog.fieldsOf 44)) := by kernel_rfl
  have hp : Try.prog.stoodInHeld 44 = false := by kernel_rfl
  rw [run_equalIn_agg w (d + 3) 44 _ _ hS hp]
  simp only [Program.fieldsOf, Try.underlying44]
  go_simp
  unfold same
  first | done | (rw [Bool.eq_iff_iff]; simp) | ((repeat' split) <;> simp_all)
attribute [local go_sem] eqI_44
theorem eql_44 (x0 : Int) (x1 : Int) (x2 : Int) (y0 : Int) (y1 : Int) (y2 : Int) (w : World) : (binOp .eql 44 (.agg #[.int .u64 x0, .int .u64 x1, .int .i64 x2]) (.agg #[.int .u64 y0, .int .u64 y1, .int .i64 y2])).run Try.prog w = .ok (.bool (same (⟨⟨x0, x1⟩, x2⟩ : Pfx) (⟨⟨y0, y1⟩, y2⟩ : Pfx))) w := by
  rw [run_eql_struct, show (10000 : Nat) = 9996 + 4 from rfl, eqI_44]; rfl
theorem neq_44 (x0 : Int) (x1 : Int) (x2 : Int) (y0 : Int) (y1 : Int) (y2 : Int) (w : World) : (binOp .neq 44 (.agg #[.int .u64 x0, .int .u64 x1, .int .i64 x2]) (.agg #[.int .u64 y0, .int .u64 y1, .int .i64 y2])).run Try.prog w = .ok (.bool (!(same (⟨⟨x0, x1⟩, x2⟩ : Pfx) (⟨⟨y0, y1⟩, y2⟩ : Pfx)))) w := by
  rw [run_neq_struct, show (10000 : Nat) = 9996 + 4 from rfl, eqI_44]; rfl
theorem eqg_44 : Try.prog.eqGuardType Try.prog.depth 44 = false := by kernel_rfl
end Go.Proofs.Ytjgjohonbjmakaa
