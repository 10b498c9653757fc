/- '==' of structs and arrays, as one Bool. -/
import Derived.Test.YtmmibfjhjbjgeaaProg
import Derived.Test.YtmmibfjhjbjgeaaZBase
import Derived.WalkKit
import Derived.WalkSpells
import Derived.WalkLawsBesides
import Derived.KernelRfl
namespace Go.Proofs.Ytmmibfjhjbjgeaa
open Go.RowKit
set_option linter.unusedSimpArgs false
set_option linter.unusedVariables false
theorem eqI_41 (d : Nat) (x0 : Int) (x1 : Int) (y0 : Int) (y1 : Int) (w : World) : (Op.equalIn (d + 2) 41 (.agg #[.int .u64 x0, .int .u64 x1]) (.agg #[.int .u64 y0, .int .u64 y1])).run Try.prog w = .ok (same (⟨x0, x1⟩ : A2) (⟨y0, y1⟩ : A2)) w := by
  have hu : Try.prog.underlying 41 = some (.array 2 32) := by kernel_rfl
  rw [Op.equalIn]
  simp only [Sem.run_bind, run_underlying hu, Result.andThen_ok, Std.Legacy.Range.forIn_eq_forIn_range', Std.Legacy.Range.size, List.range', List.forIn_cons, List.forIn_nil]
  go_simp
  unfold same
  by_cases h1 : x0 = y0 <;> by_cases h2 : x1 = y1 <;> simp [h1, h2]
attribute [local go_sem] eqI_41
theorem eql_41 (x0 : Int) (x1 : Int) (y0 : Int) (y1 : Int) (w : World) : (binOp .eql 41 (.agg #[.int .u64 x0, .int .u64 x1]) (.agg #[.int .u64 y0, .int .u64 y1])).run Try.prog w = .ok (.bool (same (⟨x0, x1⟩ : A2) (⟨y0, y1⟩ : A2))) w := by
  rw [run_eql_struct, show (10000 : Nat) = 9998 + 2 from rfl, eqI_41]; rfl
theorem neq_41 (x0 : Int) (x1 : Int) (y0 : Int) (y1 : Int) (w : World) : (binOp .neq 41 (.agg #[.int .u64 x0, .int .u64 x1]) (.agg #[.int .u64 y0, .int .u64 y1])).run Try.prog w = .ok (.bool (!(same (⟨x0, x1⟩ : A2) (⟨y0, y1⟩ : A2)))) w := by
  rw [run_neq_struct, show (10000 : Nat) = 9998 + 2 from rfl, eqI_41]; rfl
theorem eqg_41 : Try.prog.eqGuardType Try.prog.depth 41 = false := by kernel_rfl
theorem eqI_33 (d : Nat) (x0 : Int) (x1 : Int) (y0 : Int) (y1 : Int) (w : World) : (Op.equalIn (d + 2) 33 (.agg #[.int .u64 x0, .int .u64 x1]) (.agg #[.int .u64 y0, .int .u64 y1])).run Try.prog w = .ok (same (⟨x0, x1⟩ : A2) (⟨y0, y1⟩ : A2)) w := by
  have hu : Try.prog.underlying 33 = some (.array 2 32) := by kernel_rfl
  rw [Op.equalIn]
  simp only [Sem.run_bind, run_underlying hu, Result.andThen_ok, Std.Legacy.Range.forIn_eq_forIn_range', Std.Legacy.Range.size, List.range', List.forIn_cons, List.forIn_nil]
  go_simp
  unfold same
  by_cases h1 : x0 = y0 <;> by_cases h2 : x1 = y1 <;> simp [h1, h2]
attribute [local go_sem] eqI_33
theorem eql_33 (x0 : Int) (x1 : Int) (y0 : Int) (y1 : Int) (w : World) : (binOp .eql 33 (.agg #[.int .u64 x0, .int .u64 x1]) (.agg #[.int .u64 y0, .int .u64 y1])).run Try.prog w = .ok (.bool (same (⟨x0, x1⟩ : A2) (⟨y0, y1⟩ : A2))) w := by
  rw [run_eql_struct, show (10000 : Nat) = 9998 + 2 from rfl, eqI_33]; rfl
theorem neq_33 (x0 : Int) (x1 : Int) (y0 : Int) (y1 : Int) (w : World) : (binOp .neq 33 (.agg #[.int .u64 x0, .int .u64 x1]) (.agg #[.int .u64 y0, .int .u64 y1])).run Try.prog w = .ok (.bool (!(same (⟨x0, x1⟩ : A2) (⟨y0, y1⟩ : A2)))) w := by
  rw [run_neq_struct, show (10000 : Nat) = 9998 + 2 from rfl, eqI_33]; rfl
theorem eqg_33 : Try.prog.eqGuardType Try.prog.depth 33 = false := by kernel_rfl
theorem eqI_43 (d : Nat) (x0 : Int) (x1 : Int) (x2 : Int) (x3 : Int) (y0 : Int) (y1 : Int) (y2 : Int) (y3 : Int) (w : World) : (Op.equalIn (d + 4) 43 (.agg #[.int .u64 x0, .int .u64 x1, .int .u64 x2, .int .u64 x3]) (.agg #[.int .u64 y0, .int .u64 y1, .int .u64 y2, .int .u64 y3])).run Try.prog w = .ok (same (⟨⟨x0, x1⟩, ⟨x2, x3⟩⟩ : W2) (⟨⟨y0, y1⟩, ⟨y2, y3⟩⟩ : W2)) w := by
  have hS : Try.prog.underlying 43 = some (.struct (Try.prog.fieldsOf 43)) := by kernel_rfl
  have hp : Try.prog.stoodInHeld 43 = false := by kernel_rfl
  rw [run_equalIn_agg w (d + 3) 43 _ _ hS hp]
  simp only [Program.fieldsOf, Try.underlying43]
  go_simp
  unfold same
  first | done | (rw [Bool.eq_iff_iff]; simp) | ((repeat' split) <;> simp_all)
attribute [local go_sem] eqI_43
theorem eql_43 (x0 : Int) (x1 : Int) (x2 : Int) (x3 : Int) (y0 : Int) (y1 : Int) (y2 : Int) (y3 : Int) (w : World) : (binOp .eql 43 (.agg #[.int .u64 x0, .int .u64 x1, .int .u64 x2, .int .u64 x3]) (.agg #[.int .u64 y0, .int .u64 y1, .int .u64 y2, .int .u64 y3])).run Try.prog w = .ok (.bool (same (⟨⟨x0, x1⟩, ⟨x2, x3⟩⟩ : W2) (⟨⟨y0, y1⟩, ⟨y2, y3⟩⟩ : W2))) w := by
  rw [run_eql_struct, show (10000 : Nat) = 9996 + 4 from rfl, eqI_43]; rfl
theorem neq_43 (x0 : Int) (x1 : Int) (x2 : Int) (x3 : Int) (y0 : Int) (y1 : Int) (y2 : Int) (y3 : Int) (w : World) : (binOp .neq 43 (.agg #[.int .u64 x0, .int .u64 x1, .int .u64 x2, .int .u64 x3]) (.agg #[.int .u64 y0, .int .u64 y1, .int .u64 y2, .int .u64 y3])).run Try.prog w = .ok (.bool (!(same (⟨⟨x0, x1⟩, ⟨x2, x3⟩⟩ : W2) (⟨⟨y0, y1⟩, ⟨y2, y3⟩⟩ : W2)))) w := by
  rw [run_neq_struct, show (10000 : Nat) = 9996 + 4 from rfl, eqI_43]; rfl
theorem eqg_43 : Try.prog.eqGuardType Try.prog.depth 43 = false := by kernel_rfl
theorem eqI_35 (d : Nat) (x0 : Int) (x1 : Int) (x2 : Int) (x3 : Int) (y0 : Int) (y1 : Int) (y2 : Int) (y3 : Int) (w : World) : (Op.equalIn (d + 4) 35 (.agg #[.int .u64 x0, .int .u64 x1, .int .u64 x2, .int .u64 x3]) (.agg #[.int .u64 y0, .int .u64 y1, .int .u64 y2, .int .u64 y3])).run Try.prog w = .ok (same (⟨⟨x0, x1⟩, ⟨x2, x3⟩⟩ : W2) (⟨⟨y0, y1⟩, ⟨y2, y3⟩⟩ : W2)) w := by
  have hS : Try.prog.underlying 35 = some (.struct (Try.prog.fieldsOf 35)) := by kernel_rfl
  have hp : Try.prog.stoodInHeld 35 = false := by kernel_rfl
  rw [run_equalIn_agg w (d + 3) 35 _ _ hS hp]
  simp only [Program.fieldsOf, Try.underlying35]
  go_simp
  unfold same
  first | done | (rw [Bool.eq_iff_iff]; simp) | ((repeat' split) <;> simp_all)
attribute [local go_sem] eqI_35
theorem eql_35 (x0 : Int) (x1 : Int) (x2 : Int) (x3 : Int) (y0 : Int) (y1 : Int) (y2 : Int) (y3 : Int) (w : World) : (binOp .eql 35 (.agg #[.int .u64 x0, .int .u64 x1, .int .u64 x2, .int .u64 x3]) (.agg #[.int .u64 y0, .int .u64 y1, .int .u64 y2, .int .u64 y3])).run Try.prog w = .ok (.bool (same (⟨⟨x0, x1⟩, ⟨x2, x3⟩⟩ : W2) (⟨⟨y0, y1⟩, ⟨y2, y3⟩⟩ : W2))) w := by
  rw [run_eql_struct, show (10000 : Nat) = 9996 + 4 from rfl, eqI_35]; rfl
theorem neq_35 (x0 : Int) (x1 : Int) (x2 : Int) (x3 : Int) (y0 : Int) (y1 : Int) (y2 : Int) (y3 : Int) (w : World) : (binOp .neq 35 (.agg #[.int .u64 x0, .int .u64 x1, .int .u64 x2, .int .u64 x3]) (.agg #[.int .u64 y0, .int .u64 y1, .int .u64 y2, .int .u64 y3])).run Try.prog w = .ok (.bool (!(same (⟨⟨x0, x1⟩, ⟨x2, x3⟩⟩ : W2) (⟨⟨y0, y1⟩, ⟨y2, y3⟩⟩ : W2)))) w := by
  rw [run_neq_struct, show (10000 : Nat) = 9996 + 4 from rfl, eqI_35]; rfl
theorem eqg_35 : Try.prog.eqGuardType Try.prog.depth 35 = false := by kernel_rfl
theorem eqI_45 (d : Nat) (x0 : Int) (x1 : Int) (x2 : Int) (x3 : Int) (x4 : Int) (x5 : Int) (y0 : Int) (y1 : Int) (y2 : Int) (y3 : Int) (y4 : Int) (y5 : Int) (w : World) : (Op.equalIn (d + 6) 45 (.agg #[.int .u64 x0, .int .u64 x1, .int .u64 x2, .int .u64 x3, .int .i64 x4, .int .i64 x5]) (.agg #[.int .u64 y0, .int .u64 y1, .int .u64 y2, .int .u64 y3, .int .i64 y4, .int .i64 y5])).run Try.prog w = .ok (same (⟨⟨⟨x0, x1⟩, ⟨x2, x3⟩⟩, x4, x5⟩ : Ent) (⟨⟨⟨y0, y1⟩, ⟨y2, y3⟩⟩, y4, y5⟩ : Ent)) w := by
  have hS : Try.prog.underlying 45 = some (.struct (Try.prog.fieldsOf 45)) := by kernel_rfl
  have hp : Try.prog.stoodInHeld 45 = false := by kernel_rfl
  rw [run_equalIn_agg w (d + 5) 45 _ _ hS hp]
  simp only [Program.fieldsOf, Try.underlying45]
  go_simp
  unfold same
  first | done | (rw [Bool.eq_iff_iff]; simp) | ((repeat' split) <;> simp_all)
attribute [local go_sem] eqI_45
theorem eql_45 (x0 : Int) (x1 : Int) (x2 : Int) (x3 : Int) (x4 : Int) (x5 : Int) (y0 : Int) (y1 : Int) (y2 : Int) (y3 : Int) (y4 : Int) (y5 : Int) (w : World) : (binOp .eql 45 (.agg #[.int .u64 x0, .int .u64 x1, .int .u64 x2, .int .u64 x3, .int .i64 x4, .int .i64 x5]) (.agg #[.int .u64 y0, .int .u64 y1, .int .u64 y2, .int .u64 y3, .int .i64 y4, .int .i64 y5])).run Try.prog w = .ok (.bool (same (⟨⟨⟨x0, x1⟩, ⟨x2, x3⟩⟩, x4, x5⟩ : Ent) (⟨⟨⟨y0, y1⟩, ⟨y2, y3⟩⟩, y4, y5⟩ : Ent))) w := by
  rw [run_eql_struct, show (10000 : Nat) = 9994 + 6 from rfl, eqI_45]; rfl
theorem neq_45 (x0 : Int) (x1 : Int) (x2 : Int) (x3 : Int) (x4 : Int) (x5 : Int) (y0 : Int) (y1 : Int) (y2 : Int) (y3 : Int) (y4 : Int) (y5 : Int) (w : World) : (binOp .neq 45 (.agg #[.int .u64 x0, .int .u64 x1, .int .u64 x2, .int .u64 x3, .int .i64 x4, .int .i64 x5]) (.agg #[.int .u64 y0, .int .u64 y1, .int .u64 y2, .int .u64 y3, .int .i64 y4, .int .i64 y5])).run Try.prog w = .ok (.bool (!(same (⟨⟨⟨x0, x1⟩, ⟨x2, x3⟩⟩, x4, x5⟩ : Ent) (⟨⟨⟨y0, y1⟩, ⟨y2, y3⟩⟩, y4, y5⟩ : Ent)))) w := by
  rw [run_neq_struct, show (10000 : Nat) = 9994 + 6 from rfl, eqI_45]; rfl
theorem eqg_45 : Try.prog.eqGuardType Try.prog.depth 45 = false := by kernel_rfl
theorem eqI_37 (d : Nat) (x0 : Int) (x1 : Int) (x2 : Int) (x3 : Int) (x4 : Int) (x5 : Int) (y0 : Int) (y1 : Int) (y2 : Int) (y3 : Int) (y4 : Int) (y5 : Int) (w : World) : (Op.equalIn (d + 6) 37 (.agg #[.int .u64 x0, .int .u64 x1, .int .u64 x2, .int .u64 x3, .int .i64 x4, .int .i64 x5]) (.agg #[.int .u64 y0, .int .u64 y1, .int .u64 y2, .int .u64 y3, .int .i64 y4, .int .i64 y5])).run Try.prog w = .ok (same (⟨⟨⟨x0, x1⟩, ⟨x2, x3⟩⟩, x4, x5⟩ : Ent) (⟨⟨⟨y0, y1⟩, ⟨y2, y3⟩⟩, y4, y5⟩ : Ent)) w := by
  have hS : Try.prog.underlying 37 = some (.struct (Try.prog.fieldsOf 37)) := by kernel_rfl
  have hp : Try.prog.stoodInHeld 37 = false := by kernel_rfl
  rw [run_equalIn_agg w (d + 5) 37 _ _ hS hp]
  simp only [Program.fieldsOf, Try.underlying37]
  go_simp
  unfold same
  first | done | (rw [Bool.eq_iff_iff]; simp) | ((repeat' split) <;> simp_all)
attribute [local go_sem] eqI_37
theorem eql_37 (x0 : Int) (x1 : Int) (x2 : Int) (x3 : Int) (x4 : Int) (x5 : Int) (y0 : Int) (y1 : Int) (y2 : Int) (y3 : Int) (y4 : Int) (y5 : Int) (w : World) : (binOp .eql 37 (.agg #[.int .u64 x0, .int .u64 x1, .int .u64 x2, .int .u64 x3, .int .i64 x4, .int .i64 x5]) (.agg #[.int .u64 y0, .int .u64 y1, .int .u64 y2, .int .u64 y3, .int .i64 y4, .int .i64 y5])).run Try.prog w = .ok (.bool (same (⟨⟨⟨x0, x1⟩, ⟨x2, x3⟩⟩, x4, x5⟩ : Ent) (⟨⟨⟨y0, y1⟩, ⟨y2, y3⟩⟩, y4, y5⟩ : Ent))) w := by
  rw [run_eql_struct, show (10000 : Nat) = 9994 + 6 from rfl, eqI_37]; rfl
theorem neq_37 (x0 : Int) (x1 : Int) (x2 : Int) (x3 : Int) (x4 : Int) (x5 : Int) (y0 : Int) (y1 : Int) (y2 : Int) (y3 : Int) (y4 : Int) (y5 : Int) (w : World) : (binOp .neq 37 (.agg #[.int .u64 x0, .int .u64 x1, .int .u64 x2, .int .u64 x3, .int .i64 x4, .int .i64 x5]) (.agg #[.int .u64 y0, .int .u64 y1, .int .u64 y2, .int .u64 y3, .int .i64 y4, .int .i64 y5])).run Try.prog w = .ok (.bool (!(same (⟨⟨⟨x0, x1⟩, ⟨x2, x3⟩⟩, x4, x5⟩ : Ent) (⟨⟨⟨y0, y1⟩, ⟨y2, y3⟩⟩, y4, y5⟩ : Ent)))) w := by
  rw [run_neq_struct, show (10000 : Nat) = 9994 + 6 from rfl, eqI_37]; rfl
theorem eqg_37 : Try.prog.eqGuardType Try.prog.depth 37 = false := by kernel_rfl
theorem eqI_63 (d : Nat) (x0 : Int) (x1 : Int) (x2 : Int) (y0 : Int) (y1 : Int) (y2 : Int) (w : World) : (Op.equalIn (d + 4) 63 (.agg #[.int .u64 x0, .int .u64 x1, .int .i64 x2]) (.agg #[.int .u64 y0, .int .u64 y1, .int .i64 y2])).run Try.prog w = .ok (same (⟨⟨x0, x1⟩, x2⟩ : Pfx) (⟨⟨y0, y1⟩, y2⟩ : Pfx)) w := by
  have hS : Try.prog.underlying 63 = some (.struct (Try.prog.fieldsOf 63)) := by kernel_rfl
  have hp : Try.prog.stoodInHeld 63 = false := by kernel_rfl
  rw [run_equalIn_agg w (d + 3) 63 _ _ hS hp]
  simp only [Program.fieldsOf, Try.underlying63]
  go_simp
  unfold same
  first | done | (rw [Bool.eq_iff_iff]; simp) | ((repeat' split) <;> simp_all)
attribute [local go_sem] eqI_63
theorem eql_63 (x0 : Int) (x1 : Int) (x2 : Int) (y0 : Int) (y1 : Int) (y2 : Int) (w : World) : (binOp .eql 63 (.agg #[.int .u64 x0, .int .u64 x1, .int .i64 x2]) (.agg #[.int .u64 y0, .int .u64 y1, .int .i64 y2])).run Try.prog w = .ok (.bool (same (⟨⟨x0, x1⟩, x2⟩ : Pfx) (⟨⟨y0, y1⟩, y2⟩ : Pfx))) w := by
  rw [run_eql_struct, show (10000 : Nat) = 9996 + 4 from rfl, eqI_63]; rfl
theorem neq_63 (x0 : Int) (x1 : Int) (x2 : Int) (y0 : Int) (y1 : Int) (y2 : Int) (w : World) : (binOp .neq 63 (.agg #[.int .u64 x0, .int .u64 x1, .int .i64 x2]) (.agg #[.int .u64 y0, .int .u64 y1, .int .i64 y2])).run Try.prog w = .ok (.bool (!(same (⟨⟨x0, x1⟩, x2⟩ : Pfx) (⟨⟨y0, y1⟩, y2⟩ : Pfx)))) w := by
  rw [run_neq_struct, show (10000 : Nat) = 9996 + 4 from rfl, eqI_63]; rfl
theorem eqg_63 : Try.prog.eqGuardType Try.prog.depth 63 = false := by kernel_rfl
theorem eqI_103 (d : Nat) (x0 : Int) (x1 : Int) (x2 : Int) (y0 : Int) (y1 : Int) (y2 : Int) (w : World) : (Op.equalIn (d + 4) 103 (.agg #[.int .u64 x0, .int .u64 x1, .int .i64 x2]) (.agg #[.int .u64 y0, .int .u64 y1, .int .i64 y2])).run Try.prog w = .ok (same (⟨⟨x0, x1⟩, x2⟩ : Pfx) (⟨⟨y0, y1⟩, y2⟩ : Pfx)) w := by
  have hS : Try.prog.underlying 103 = some (.struct (Try.prog.fieldsOf 103)) := by kernel_rfl
  have hp : Try.prog.stoodInHeld 103 = false := by kernel_rfl
  rw [run_equalIn_agg w (d + 3) 103 _ _ hS hp]
  simp only [Program.fieldsOf, Try.underlying103]
  go_simp
  unfold same
  first | done | (rw [Bool.eq_iff_iff]; simp) | ((repeat' split) <;> simp_all)
attribute [local go_sem] eqI_103
theorem eql_103 (x0 : Int) (x1 : Int) (x2 : Int) (y0 : Int) (y1 : Int) (y2 : Int) (w : World) : (binOp .eql 103 (.agg #[.int .u64 x0, .int .u64 x1, .int .i64 x2]) (.agg #[.int .u64 y0, .int .u64 y1, .int .i64 y2])).run Try.prog w = .ok (.bool (same (⟨⟨x0, x1⟩, x2⟩ : Pfx) (⟨⟨y0, y1⟩, y2⟩ : Pfx))) w := by
  rw [run_eql_struct, show (10000 : Nat) = 9996 + 4 from rfl, eqI_103]; rfl
theorem neq_103 (x0 : Int) (x1 : Int) (x2 : Int) (y0 : Int) (y1 : Int) (y2 : Int) (w : World) : (binOp .neq 103 (.agg #[.int .u64 x0, .int .u64 x1, .int .i64 x2]) (.agg #[.int .u64 y0, .int .u64 y1, .int .i64 y2])).run Try.prog w = .ok (.bool (!(same (⟨⟨x0, x1⟩, x2⟩ : Pfx) (⟨⟨y0, y1⟩, y2⟩ : Pfx)))) w := by
  rw [run_neq_struct, show (10000 : Nat) = 9996 + 4 from rfl, eqI_103]; rfl
theorem eqg_103 : Try.prog.eqGuardType Try.prog.depth 103 = false := by kernel_rfl
theorem eqI_86 (d : Nat) (x0 : Int) (x1 : Int) (x2 : Int) (x3 : Int) (y0 : Int) (y1 : Int) (y2 : Int) (y3 : Int) (w : World) : (Op.equalIn (d + 6) 86 (.agg #[.int .u64 x0, .int .u64 x1, .int .i64 x2, .int .i64 x3]) (.agg #[.int .u64 y0, .int .u64 y1, .int .i64 y2, .int .i64 y3])).run Try.prog w = .ok (same (⟨⟨⟨x0, x1⟩, x2⟩, x3⟩ : Rte) (⟨⟨⟨y0, y1⟩, y2⟩, y3⟩ : Rte)) w := by
  have hS : Try.prog.underlying 86 = some (.struct (Try.prog.fieldsOf 86)) := by kernel_rfl
  have hp : Try.prog.stoodInHeld 86 = false := by kernel_rfl
  rw [run_equalIn_agg w (d + 5) 86 _ _ hS hp]
  simp only [Program.fieldsOf, Try.underlying86]
  go_simp
  unfold same
  first | done | (rw [Bool.eq_iff_iff]; simp) | ((repeat' split) <;> simp_all)
attribute [local go_sem] eqI_86
theorem eql_86 (x0 : Int) (x1 : Int) (x2 : Int) (x3 : Int) (y0 : Int) (y1 : Int) (y2 : Int) (y3 : Int) (w : World) : (binOp .eql 86 (.agg #[.int .u64 x0, .int .u64 x1, .int .i64 x2, .int .i64 x3]) (.agg #[.int .u64 y0, .int .u64 y1, .int .i64 y2, .int .i64 y3])).run Try.prog w = .ok (.bool (same (⟨⟨⟨x0, x1⟩, x2⟩, x3⟩ : Rte) (⟨⟨⟨y0, y1⟩, y2⟩, y3⟩ : Rte))) w := by
  rw [run_eql_struct, show (10000 : Nat) = 9994 + 6 from rfl, eqI_86]; rfl
theorem neq_86 (x0 : Int) (x1 : Int) (x2 : Int) (x3 : Int) (y0 : Int) (y1 : Int) (y2 : Int) (y3 : Int) (w : World) : (binOp .neq 86 (.agg #[.int .u64 x0, .int .u64 x1, .int .i64 x2, .int .i64 x3]) (.agg #[.int .u64 y0, .int .u64 y1, .int .i64 y2, .int .i64 y3])).run Try.prog w = .ok (.bool (!(same (⟨⟨⟨x0, x1⟩, x2⟩, x3⟩ : Rte) (⟨⟨⟨y0, y1⟩, y2⟩, y3⟩ : Rte)))) w := by
  rw [run_neq_struct, show (10000 : Nat) = 9994 + 6 from rfl, eqI_86]; rfl
theorem eqg_86 : Try.prog.eqGuardType Try.prog.depth 86 = false := by kernel_rfl
theorem eqI_105 (d : Nat) (x0 : Int) (x1 : Int) (x2 : Int) (x3 : Int) (y0 : Int) (y1 : Int) (y2 : Int) (y3 : Int) (w : World) : (Op.equalIn (d + 6) 105 (.agg #[.int .u64 x0, .int .u64 x1, .int .i64 x2, .int .i64 x3]) (.agg #[.int .u64 y0, .int .u64 y1, .int .i64 y2, .int .i64 y3])).run Try.prog w = .ok (same (⟨⟨⟨x0, x1⟩, x2⟩, x3⟩ : Rte) (⟨⟨⟨y0, y1⟩, y2⟩, y3⟩ : Rte)) w := by
  have hS : Try.prog.underlying 105 = some (.struct (Try.prog.fieldsOf 105)) := by kernel_rfl
  have hp : Try.prog.stoodInHeld 105 = false := by kernel_rfl
  rw [run_equalIn_agg w (d + 5) 105 _ _ hS hp]
  simp only [Program.fieldsOf, Try.underlying105]
  go_simp
  unfold same
  first | done | (rw [Bool.eq_iff_iff]; simp) | ((repeat' split) <;> simp_all)
attribute [local go_sem] eqI_105
theorem eql_105 (x0 : Int) (x1 : Int) (x2 : Int) (x3 : Int) (y0 : Int) (y1 : Int) (y2 : Int) (y3 : Int) (w : World) : (binOp .eql 105 (.agg #[.int .u64 x0, .int .u64 x1, .int .i64 x2, .int .i64 x3]) (.agg #[.int .u64 y0, .int .u64 y1, .int .i64 y2, .int .i64 y3])).run Try.prog w = .ok (.bool (same (⟨⟨⟨x0, x1⟩, x2⟩, x3⟩ : Rte) (⟨⟨⟨y0, y1⟩, y2⟩, y3⟩ : Rte))) w := by
  rw [run_eql_struct, show (10000 : Nat) = 9994 + 6 from rfl, eqI_105]; rfl
theorem neq_105 (x0 : Int) (x1 : Int) (x2 : Int) (x3 : Int) (y0 : Int) (y1 : Int) (y2 : Int) (y3 : Int) (w : World) : (binOp .neq 105 (.agg #[.int .u64 x0, .int .u64 x1, .int .i64 x2, .int .i64 x3]) (.agg #[.int .u64 y0, .int .u64 y1, .int .i64 y2, .int .i64 y3])).run Try.prog w = .ok (.bool (!(same (⟨⟨⟨x0, x1⟩, x2⟩, x3⟩ : Rte) (⟨⟨⟨y0, y1⟩, y2⟩, y3⟩ : Rte)))) w := by
  rw [run_neq_struct, show (10000 : Nat) = 9994 + 6 from rfl, eqI_105]; rfl
theorem eqg_105 : Try.prog.eqGuardType Try.prog.depth 105 = false := by kernel_rfl
theorem eqI_47 (d : Nat) (x0 : Int) (x1 : Int) (x2 : Int) (x3 : Int) (x4 : Int) (x5 : Int) (x6 : Int) (y0 : Int) (y1 : Int) (y2 : Int) (y3 : Int) (y4 : Int) (y5 : Int) (y6 : Int) (w : World) : (Op.equalIn (d + 8) 47 (.agg #[.int .i64 x0, .int .u64 x1, .int .u64 x2, .int .u64 x3, .int .u64 x4, .int .i64 x5, .int .i64 x6]) (.agg #[.int .i64 y0, .int .u64 y1, .int .u64 y2, .int .u64 y3, .int .u64 y4, .int .i64 y5, .int .i64 y6])).run Try.prog w = .ok (same (⟨x0, ⟨⟨⟨x1, x2⟩, ⟨x3, x4⟩⟩, x5, x6⟩⟩ : Stp) (⟨y0, ⟨⟨⟨y1, y2⟩, ⟨y3, y4⟩⟩, y5, y6⟩⟩ : Stp)) w := by
  have hS : Try.prog.underlying 47 = some (.struct (Try.prog.fieldsOf 47)) := by kernel_rfl
  have hp : Try.prog.stoodInHeld 47 = false := by kernel_rfl
  rw [run_equalIn_agg w (d + 7) 47 _ _ hS hp]
  simp only [Program.fieldsOf, Try.underlying47]
  go_simp
  unfold same
  first | done | (rw [Bool.eq_iff_iff]; simp) | ((repeat' split) <;> simp_all)
attribute [local go_sem] eqI_47
theorem eql_47 (x0 : Int) (x1 : Int) (x2 : Int) (x3 : Int) (x4 : Int) (x5 : Int) (x6 : Int) (y0 : Int) (y1 : Int) (y2 : Int) (y3 : Int) (y4 : Int) (y5 : Int) (y6 : Int) (w : World) : (binOp .eql 47 (.agg #[.int .i64 x0, .int .u64 x1, .int .u64 x2, .int .u64 x3, .int .u64 x4, .int .i64 x5, .int .i64 x6]) (.agg #[.int .i64 y0, .int .u64 y1, .int .u64 y2, .int .u64 y3, .int .u64 y4, .int .i64 y5, .int .i64 y6])).run Try.prog w = .ok (.bool (same (⟨x0, ⟨⟨⟨x1, x2⟩, ⟨x3, x4⟩⟩, x5, x6⟩⟩ : Stp) (⟨y0, ⟨⟨⟨y1, y2⟩, ⟨y3, y4⟩⟩, y5, y6⟩⟩ : Stp))) w := by
  rw [run_eql_struct, show (10000 : Nat) = 9992 + 8 from rfl, eqI_47]; rfl
theorem neq_47 (x0 : Int) (x1 : Int) (x2 : Int) (x3 : Int) (x4 : Int) (x5 : Int) (x6 : Int) (y0 : Int) (y1 : Int) (y2 : Int) (y3 : Int) (y4 : Int) (y5 : Int) (y6 : Int) (w : World) : (binOp .neq 47 (.agg #[.int .i64 x0, .int .u64 x1, .int .u64 x2, .int .u64 x3, .int .u64 x4, .int .i64 x5, .int .i64 x6]) (.agg #[.int .i64 y0, .int .u64 y1, .int .u64 y2, .int .u64 y3, .int .u64 y4, .int .i64 y5, .int .i64 y6])).run Try.prog w = .ok (.bool (!(same (⟨x0, ⟨⟨⟨x1, x2⟩, ⟨x3, x4⟩⟩, x5, x6⟩⟩ : Stp) (⟨y0, ⟨⟨⟨y1, y2⟩, ⟨y3, y4⟩⟩, y5, y6⟩⟩ : Stp)))) w := by
  rw [run_neq_struct, show (10000 : Nat) = 9992 + 8 from rfl, eqI_47]; rfl
theorem eqg_47 : Try.prog.eqGuardType Try.prog.depth 47 = false := by kernel_rfl
theorem eqI_39 (d : Nat) (x0 : Int) (x1 : Int) (x2 : Int) (x3 : Int) (x4 : Int) (x5 : Int) (x6 : Int) (y0 : Int) (y1 : Int) (y2 : Int) (y3 : Int) (y4 : Int) (y5 : Int) (y6 : Int) (w : World) : (Op.equalIn (d + 8) 39 (.agg #[.int .i64 x0, .int .u64 x1, .int .u64 x2, .int .u64 x3, .int .u64 x4, .int .i64 x5, .int .i64 x6]) (.agg #[.int .i64 y0, .int .u64 y1, .int .u64 y2, .int .u64 y3, .int .u64 y4, .int .i64 y5, .int .i64 y6])).run Try.prog w = .ok (same (⟨x0, ⟨⟨⟨x1, x2⟩, ⟨x3, x4⟩⟩, x5, x6⟩⟩ : Stp) (⟨y0, ⟨⟨⟨y1, y2⟩, ⟨y3, y4⟩⟩, y5, y6⟩⟩ : Stp)) w := by
  have hS : Try.prog.underlying 39 = some (.struct (Try.prog.fieldsOf 39)) := by kernel_rfl
  have hp : Try.prog.stoodInHeld 39 = false := by kernel_rfl
  rw [run_equalIn_agg w (d + 7) 39 _ _ hS hp]
  simp only [Program.fieldsOf, Try.underlying39]
  go_simp
  unfold same
  first | done | (rw [Bool.eq_iff_iff]; simp) | ((repeat' split) <;> simp_all)
attribute [local go_sem] eqI_39
theorem eql_39 (x0 : Int) (x1 : Int) (x2 : Int) (x3 : Int) (x4 : Int) (x5 : Int) (x6 : Int) (y0 : Int) (y1 : Int) (y2 : Int) (y3 : Int) (y4 : Int) (y5 : Int) (y6 : Int) (w : World) : (binOp .eql 39 (.agg #[.int .i64 x0, .int .u64 x1, .int .u64 x2, .int .u64 x3, .int .u64 x4, .int .i64 x5, .int .i64 x6]) (.agg #[.int .i64 y0, .int .u64 y1, .int .u64 y2, .int .u64 y3, .int .u64 y4, .int .i64 y5, .int .i64 y6])).run Try.prog w = .ok (.bool (same (⟨x0, ⟨⟨⟨x1, x2⟩, ⟨x3, x4⟩⟩, x5, x6⟩⟩ : Stp) (⟨y0, ⟨⟨⟨y1, y2⟩, ⟨y3, y4⟩⟩, y5, y6⟩⟩ : Stp))) w := by
  rw [run_eql_struct, show (10000 : Nat) = 9992 + 8 from rfl, eqI_39]; rfl
theorem neq_39 (x0 : Int) (x1 : Int) (x2 : Int) (x3 : Int) (x4 : Int) (x5 : Int) (x6 : Int) (y0 : Int) (y1 : Int) (y2 : Int) (y3 : Int) (y4 : Int) (y5 : Int) (y6 : Int) (w : World) : (binOp .neq 39 (.agg #[.int .i64 x0, .int .u64 x1, .int .u64 x2, .int .u64 x3, .int .u64 x4, .int .i64 x5, .int .i64 x6]) (.agg #[.int .i64 y0, .int .u64 y1, .int .u64 y2, .int .u64 y3, .int .u64 y4, .int .i64 y5, .int .i64 y6])).run Try.prog w = .ok (.bool (!(same (⟨x0, ⟨⟨⟨x1, x2⟩, ⟨x3, x4⟩⟩, x5, x6⟩⟩ : Stp) (⟨y0, ⟨⟨⟨y1, y2⟩, ⟨y3, y4⟩⟩, y5, y6⟩⟩ : Stp)))) w := by
  rw [run_neq_struct, show (10000 : Nat) = 9992 + 8 from rfl, eqI_39]; rfl
theorem eqg_39 : Try.prog.eqGuardType Try.prog.depth 39 = false := by kernel_rfl
end Go.Proofs.Ytmmibfjhjbjgeaa
