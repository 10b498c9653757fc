/- Abstract walks: literals that may be written in place. -/
import Derived.Test.YtkfmammkbmhfaaaYAbs8
import Derived.Test.YtkfmammkbmhfaaaYAppB
import Derived.Test.YtkfmammkbmhfaaaYGoods
import Derived.Test.YtkfmammkbmhfaaaProg
import Derived.Test.YtkfmammkbmhfaaaYEq
import Derived.WalkKit
import Derived.WalkSpells
import Derived.WalkLawsBesides
import Derived.KernelRfl
namespace Go.Proofs.Ytkfmammkbmhfaaa
set_option linter.unusedSimpArgs false
set_option linter.unusedVariables false
open Go Go.RowKit Go.Shelf
section
variable {P : Program} {N : Nat} {K0 : Know} {w0 : Bas} {Q : St → Prop} {ty : TypeId} {pos : String} {aft : Array Edge} {g : Option (Nat × Bool)} {tm : List (Nat × AV)} {bs : List (Nat × List AV)} {ar : List (Nat × Arr)} {dn : Nat}
end
end Go.Proofs.Ytkfmammkbmhfaaa

/- Equality of nodes; rows of numbers, written out. -/
namespace Go.Proofs.Ytkfmammkbmhfaaa
set_option linter.unusedSimpArgs false
set_option linter.unusedVariables false
open Go.RowKit
theorem eqI_ndc (d : Nat) (x0 : Int) (x1 : Int) (y0 : Int) (y1 : Int) (w : World) : (Op.equalIn (d + 2) 78 (.agg #[.int .i64 x0, .int .i64 x1]) (.agg #[.int .i64 y0, .int .i64 y1])).run Try.prog w = .ok (same (⟨x0, x1⟩ : A2) (⟨y0, y1⟩ : A2)) w := by
  have hu : Try.prog.underlying 78 = some (.array 2 3) := by kernel_rfl
  rw [Op.equalIn]
  simp only [Sem.run_bind, run_underlying hu, Result.andThen_ok, Std.Legacy.Range.forIn_eq_forIn_range', Std.Legacy.Range.size, List.range', List.forIn_cons, List.forIn_nil]
  go_simp
  unfold same
  by_cases h1 : x0 = y0 <;> by_cases h2 : x1 = y1 <;> simp [h1, h2]
attribute [local go_sem] eqI_ndc
end Go.Proofs.Ytkfmammkbmhfaaa
