/- Merging, in plain Lean; merge.two. -/
import Derived.Test.YtjmnnkhdadoehaaWWalkM
import Derived.Test.YtjmnnkhdadoehaaWAbs8
import Derived.Test.YtjmnnkhdadoehaaWWalkS
namespace Go.Proofs.Ytjmnnkhdadoehaa
set_option linter.unusedSimpArgs false
set_option linter.unusedVariables false
open Go Go.RowKit Go.Shelf
/-! ### The first two that merge -/
def goodP (l : List Ent) (i k : Nat) : Bool := decide ((nth l k).len = (nth l i).len) && (decide ((nth l k).act = (nth l i).act) && wMergeIs (nth l i).w (nth l k).w)
def ClearG (l : List Ent) (i k : Nat) : Prop := ∀ p q, p < q → q < l.length → (p < i ∨ p = i ∧ q < k) → goodP l p q = false
end Go.Proofs.Ytjmnnkhdadoehaa

/- merge.two, merge.Merge. -/
namespace Go.Proofs.Ytjmnnkhdadoehaa
set_option linter.unusedSimpArgs false
set_option linter.unusedVariables false
open Go Go.RowKit Go.Shelf
theorem ClearG.step {l : List Ent} {i k : Nat} (h : ClearG l i k) (hg : goodP l i k = false) : ClearG l i (k + 1) := fun p q h1 h2 h3 => by
  by_cases e : p = i ∧ q = k
  · rw [e.1, e.2]; exact hg
  · exact h p q h1 h2 (by omega)
theorem ClearG.low {l : List Ent} {i k : Nat} (h : ClearG l i 0) (hk : k ≤ i + 1) : ClearG l i k := fun p q h1 h2 h3 => h p q h1 h2 (by omega)
theorem ClearG.next {l : List Ent} {i k : Nat} (h : ClearG l i k) (hr : ∀ q, k ≤ q → q < l.length → goodP l i q = false) : ClearG l (i + 1) 0 := fun p q h1 h2 h3 => by
  by_cases e : p = i
  · by_cases hq : q < k
    · exact h p q h1 h2 (.inr ⟨e, hq⟩)
    · rw [e]; exact hr q (by omega) h2
  · exact h p q h1 h2 (by omega)
attribute [local irreducible] OpH OpT LT CT HT Good
end Go.Proofs.Ytjmnnkhdadoehaa

/- merge.Merge. -/
namespace Go.Proofs.Ytjmnnkhdadoehaa
set_option linter.unusedSimpArgs false
set_option linter.unusedVariables false
open Go Go.RowKit Go.Shelf
attribute [local irreducible] OpH OpT LT CT HT Good
end Go.Proofs.Ytjmnnkhdadoehaa

/- What merging comes to, in plain Lean. -/
namespace Go.Proofs.Ytjmnnkhdadoehaa
set_option linter.unusedSimpArgs false
set_option linter.unusedVariables false
open Go
end Go.Proofs.Ytjmnnkhdadoehaa
