/- What ref04.Merge does. -/
import Derived.Test.YtjmnnkhdadoehaaQGoods
import Derived.Test.YtjmnnkhdadoehaaQAbs8
import Derived.Test.YtjmnnkhdadoehaaQWalkW
namespace Go.Proofs.Ytjmnnkhdadoehaa
set_option linter.unusedSimpArgs false
set_option linter.unusedVariables false
open Go Go.RowKit Go.Shelf
def lastTo (p : Nat → Bool) : Nat → Int
  | 0 => -1
  | k + 1 => if p k = true then (k : Int) else lastTo p k
theorem lastTo_bound (p : Nat → Bool) : ∀ k, -1 ≤ lastTo p k ∧ lastTo p k < k
  | 0 => by simp [lastTo]
  | k + 1 => by
    have := lastTo_bound p k
    simp only [lastTo]
    split <;> omega
/-! ### ref04.Merge -/
attribute [local irreducible] OpH OpT LT CT HT Good
end Go.Proofs.Ytjmnnkhdadoehaa
