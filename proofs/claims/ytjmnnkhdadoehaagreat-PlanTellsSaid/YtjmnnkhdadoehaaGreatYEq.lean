/- '==' of structs and arrays, as one Bool. -/
import Derived.Test.YtjmnnkhdadoehaaGreatProg
import Derived.Test.YtjmnnkhdadoehaaGreatYBase
import Derived.WalkKit
import Derived.WalkSpells
import Derived.WalkLawsBesides
import Derived.KernelRfl
namespace Go.Proofs.YtjmnnkhdadoehaaGreat
open Go.RowKit
set_option linter.unusedSimpArgs false
set_option linter.unusedVariables false
theorem eqI_25 (d : Nat) (x0 : Int) (x1 : Int) (y0 : Int) (y1 : Int) (w : World) : (Op.equalIn (d + 2) 25 (.agg #[.int .u64 x0, .int .u64 x1]) (.agg #[.int .u64 y0, .int .u64 y1])).run Tryz.prog w = .ok (same (⟨x0, x1⟩ : A2) (⟨y0, y1⟩ : A2)) w := by
  have hu : Tryz.prog.underlying 25 = some (.array 2 23) := by kernel_rfl
  rw [Op.equalIn]
  simp only [Sem.run_bind, run_underlying hu, Result.andThen_ok, Std.Legacy.Range.forIn_eq_forIn_range', Std.Legacy.Range.size, List.range', List.forIn_cons, List.forIn_nil]
  go_simp
  unfold same
  by_cases h1 : x0 = y0 <;> by_cases h2 : x1 = y1 <;> simp [h1, h2]
attribute [local go_sem] eqI_25
theorem eql_25 (x0 : Int) (x1 : Int) (y0 : Int) (y1 : Int) (w : World) : (binOp .eql 25 (.agg #[.int .u64 x0, .int .u64 x1]) (.agg #[.int .u64 y0, .int .u64 y1])).run Tryz.prog w = .ok (.bool (same (⟨x0, x1⟩ : A2) (⟨y0, y1⟩ : A2))) w := by
  rw [run_eql_struct, show (10000 : Nat) = 9998 + 2 from rfl, eqI_25]; rfl
theorem neq_25 (x0 : Int) (x1 : Int) (y0 : Int) (y1 : Int) (w : World) : (binOp .neq 25 (.agg #[.int .u64 x0, .int .u64 x1]) (.agg #[.int .u64 y0, .int .u64 y1])).run Tryz.prog w = .ok (.bool (!(same (⟨x0, x1⟩ : A2) (⟨y0, y1⟩ : A2)))) w := by
  rw [run_neq_struct, show (10000 : Nat) = 9998 + 2 from rfl, eqI_25]; rfl
theorem eqg_25 : Tryz.prog.eqGuardType Tryz.prog.depth 25 = false := by kernel_rfl
theorem eqI_24 (d : Nat) (x0 : Int) (x1 : Int) (y0 : Int) (y1 : Int) (w : World) : (Op.equalIn (d + 2) 24 (.agg #[.int .u64 x0, .int .u64 x1]) (.agg #[.int .u64 y0, .int .u64 y1])).run Tryz.prog w = .ok (same (⟨x0, x1⟩ : A2) (⟨y0, y1⟩ : A2)) w := by
  have hu : Tryz.prog.underlying 24 = some (.array 2 23) := by kernel_rfl
  rw [Op.equalIn]
  simp only [Sem.run_bind, run_underlying hu, Result.andThen_ok, Std.Legacy.Range.forIn_eq_forIn_range', Std.Legacy.Range.size, List.range', List.forIn_cons, List.forIn_nil]
  go_simp
  unfold same
  by_cases h1 : x0 = y0 <;> by_cases h2 : x1 = y1 <;> simp [h1, h2]
attribute [local go_sem] eqI_24
theorem eqI_44 (d : Nat) (x0 : Int) (x1 : Int) (x2 : Int) (x3 : Int) (y0 : Int) (y1 : Int) (y2 : Int) (y3 : Int) (w : World) : (Op.equalIn (d + 4) 44 (.agg #[.int .u64 x0, .int .u64 x1, .int .u64 x2, .int .u64 x3]) (.agg #[.int .u64 y0, .int .u64 y1, .int .u64 y2, .int .u64 y3])).run Tryz.prog w = .ok (same (⟨⟨x0, x1⟩, ⟨x2, x3⟩⟩ : W2) (⟨⟨y0, y1⟩, ⟨y2, y3⟩⟩ : W2)) w := by
  have hS : Tryz.prog.underlying 44 = some (.struct (Tryz.prog.fieldsOf 44)) := by kernel_rfl
  have hp : Tryz.prog.stoodInHeld 44 = false := by kernel_rfl
  rw [run_equalIn_agg w (d + 3) 44 _ _ hS hp]
  simp only [Program.fieldsOf, Tryz.underlying44]
  go_simp
  unfold same
  first | done | (rw [Bool.eq_iff_iff]; simp) | ((repeat' split) <;> simp_all)
attribute [local go_sem] eqI_44
theorem eql_44 (x0 : Int) (x1 : Int) (x2 : Int) (x3 : Int) (y0 : Int) (y1 : Int) (y2 : Int) (y3 : Int) (w : World) : (binOp .eql 44 (.agg #[.int .u64 x0, .int .u64 x1, .int .u64 x2, .int .u64 x3]) (.agg #[.int .u64 y0, .int .u64 y1, .int .u64 y2, .int .u64 y3])).run Tryz.prog w = .ok (.bool (same (⟨⟨x0, x1⟩, ⟨x2, x3⟩⟩ : W2) (⟨⟨y0, y1⟩, ⟨y2, y3⟩⟩ : W2))) w := by
  rw [run_eql_struct, show (10000 : Nat) = 9996 + 4 from rfl, eqI_44]; rfl
theorem eqI_62 (d : Nat) (x0 : Int) (x1 : Int) (x2 : Int) (x3 : Int) (x4 : Int) (x5 : Int) (y0 : Int) (y1 : Int) (y2 : Int) (y3 : Int) (y4 : Int) (y5 : Int) (w : World) : (Op.equalIn (d + 6) 62 (.agg #[.int .u64 x0, .int .u64 x1, .int .u64 x2, .int .u64 x3, .int .i64 x4, .int .i64 x5]) (.agg #[.int .u64 y0, .int .u64 y1, .int .u64 y2, .int .u64 y3, .int .i64 y4, .int .i64 y5])).run Tryz.prog w = .ok (same (⟨⟨⟨x0, x1⟩, ⟨x2, x3⟩⟩, x4, x5⟩ : Ent) (⟨⟨⟨y0, y1⟩, ⟨y2, y3⟩⟩, y4, y5⟩ : Ent)) w := by
  have hS : Tryz.prog.underlying 62 = some (.struct (Tryz.prog.fieldsOf 62)) := by kernel_rfl
  have hp : Tryz.prog.stoodInHeld 62 = false := by kernel_rfl
  rw [run_equalIn_agg w (d + 5) 62 _ _ hS hp]
  simp only [Program.fieldsOf, Tryz.underlying62]
  go_simp
  unfold same
  first | done | (rw [Bool.eq_iff_iff]; simp) | ((repeat' split) <;> simp_all)
attribute [local go_sem] eqI_62
theorem neq_62 (x0 : Int) (x1 : Int) (x2 : Int) (x3 : Int) (x4 : Int) (x5 : Int) (y0 : Int) (y1 : Int) (y2 : Int) (y3 : Int) (y4 : Int) (y5 : Int) (w : World) : (binOp .neq 62 (.agg #[.int .u64 x0, .int .u64 x1, .int .u64 x2, .int .u64 x3, .int .i64 x4, .int .i64 x5]) (.agg #[.int .u64 y0, .int .u64 y1, .int .u64 y2, .int .u64 y3, .int .i64 y4, .int .i64 y5])).run Tryz.prog w = .ok (.bool (!(same (⟨⟨⟨x0, x1⟩, ⟨x2, x3⟩⟩, x4, x5⟩ : Ent) (⟨⟨⟨y0, y1⟩, ⟨y2, y3⟩⟩, y4, y5⟩ : Ent)))) w := by
  rw [run_neq_struct, show (10000 : Nat) = 9994 + 6 from rfl, eqI_62]; rfl
theorem eqg_62 : Tryz.prog.eqGuardType Tryz.prog.depth 62 = false := by kernel_rfl
theorem eqI_48 (d : Nat) (x0 : Bool) (x1 : Int) (x2 : Int) (x3 : Int) (x4 : Int) (x5 : Int) (x6 : Int) (y0 : Bool) (y1 : Int) (y2 : Int) (y3 : Int) (y4 : Int) (y5 : Int) (y6 : Int) (w : World) : (Op.equalIn (d + 8) 48 (.agg #[.bool x0, .int .u64 x1, .int .u64 x2, .int .u64 x3, .int .u64 x4, .int .i64 x5, .int .i64 x6]) (.agg #[.bool y0, .int .u64 y1, .int .u64 y2, .int .u64 y3, .int .u64 y4, .int .i64 y5, .int .i64 y6])).run Tryz.prog w = .ok (same (⟨x0, ⟨⟨⟨x1, x2⟩, ⟨x3, x4⟩⟩, x5, x6⟩⟩ : Slt) (⟨y0, ⟨⟨⟨y1, y2⟩, ⟨y3, y4⟩⟩, y5, y6⟩⟩ : Slt)) w := by
  have hS : Tryz.prog.underlying 48 = some (.struct (Tryz.prog.fieldsOf 48)) := by kernel_rfl
  have hp : Tryz.prog.stoodInHeld 48 = false := by kernel_rfl
  rw [run_equalIn_agg w (d + 7) 48 _ _ hS hp]
  simp only [Program.fieldsOf, Tryz.underlying48]
  go_simp
  unfold same
  first | done | (rw [Bool.eq_iff_iff]; simp) | ((repeat' split) <;> simp_all)
attribute [local go_sem] eqI_48
theorem eql_48 (x0 : Bool) (x1 : Int) (x2 : Int) (x3 : Int) (x4 : Int) (x5 : Int) (x6 : Int) (y0 : Bool) (y1 : Int) (y2 : Int) (y3 : Int) (y4 : Int) (y5 : Int) (y6 : Int) (w : World) : (binOp .eql 48 (.agg #[.bool x0, .int .u64 x1, .int .u64 x2, .int .u64 x3, .int .u64 x4, .int .i64 x5, .int .i64 x6]) (.agg #[.bool y0, .int .u64 y1, .int .u64 y2, .int .u64 y3, .int .u64 y4, .int .i64 y5, .int .i64 y6])).run Tryz.prog w = .ok (.bool (same (⟨x0, ⟨⟨⟨x1, x2⟩, ⟨x3, x4⟩⟩, x5, x6⟩⟩ : Slt) (⟨y0, ⟨⟨⟨y1, y2⟩, ⟨y3, y4⟩⟩, y5, y6⟩⟩ : Slt))) w := by
  rw [run_eql_struct, show (10000 : Nat) = 9992 + 8 from rfl, eqI_48]; rfl
theorem eqg_48 : Tryz.prog.eqGuardType Tryz.prog.depth 48 = false := by kernel_rfl
theorem eqI_50 (d : Nat) (x0 : Int) (x1 : Bool) (x2 : Int) (x3 : Int) (x4 : Int) (x5 : Int) (x6 : Int) (x7 : Int) (y0 : Int) (y1 : Bool) (y2 : Int) (y3 : Int) (y4 : Int) (y5 : Int) (y6 : Int) (y7 : Int) (w : World) : (Op.equalIn (d + 10) 50 (.agg #[.int .i64 x0, .bool x1, .int .u64 x2, .int .u64 x3, .int .u64 x4, .int .u64 x5, .int .i64 x6, .int .i64 x7]) (.agg #[.int .i64 y0, .bool y1, .int .u64 y2, .int .u64 y3, .int .u64 y4, .int .u64 y5, .int .i64 y6, .int .i64 y7])).run Tryz.prog w = .ok (same (⟨x0, ⟨x1, ⟨⟨⟨x2, x3⟩, ⟨x4, x5⟩⟩, x6, x7⟩⟩⟩ : Wrt) (⟨y0, ⟨y1, ⟨⟨⟨y2, y3⟩, ⟨y4, y5⟩⟩, y6, y7⟩⟩⟩ : Wrt)) w := by
  have hS : Tryz.prog.underlying 50 = some (.struct (Tryz.prog.fieldsOf 50)) := by kernel_rfl
  have hp : Tryz.prog.stoodInHeld 50 = false := by kernel_rfl
  rw [run_equalIn_agg w (d + 9) 50 _ _ hS hp]
  simp only [Program.fieldsOf, Tryz.underlying50]
  go_simp
  unfold same
  first | done | (rw [Bool.eq_iff_iff]; simp) | ((repeat' split) <;> simp_all)
attribute [local go_sem] eqI_50
theorem eql_50 (x0 : Int) (x1 : Bool) (x2 : Int) (x3 : Int) (x4 : Int) (x5 : Int) (x6 : Int) (x7 : Int) (y0 : Int) (y1 : Bool) (y2 : Int) (y3 : Int) (y4 : Int) (y5 : Int) (y6 : Int) (y7 : Int) (w : World) : (binOp .eql 50 (.agg #[.int .i64 x0, .bool x1, .int .u64 x2, .int .u64 x3, .int .u64 x4, .int .u64 x5, .int .i64 x6, .int .i64 x7]) (.agg #[.int .i64 y0, .bool y1, .int .u64 y2, .int .u64 y3, .int .u64 y4, .int .u64 y5, .int .i64 y6, .int .i64 y7])).run Tryz.prog w = .ok (.bool (same (⟨x0, ⟨x1, ⟨⟨⟨x2, x3⟩, ⟨x4, x5⟩⟩, x6, x7⟩⟩⟩ : Wrt) (⟨y0, ⟨y1, ⟨⟨⟨y2, y3⟩, ⟨y4, y5⟩⟩, y6, y7⟩⟩⟩ : Wrt))) w := by
  rw [run_eql_struct, show (10000 : Nat) = 9990 + 10 from rfl, eqI_50]; rfl
theorem eqg_50 : Tryz.prog.eqGuardType Tryz.prog.depth 50 = false := by kernel_rfl
end Go.Proofs.YtjmnnkhdadoehaaGreat
