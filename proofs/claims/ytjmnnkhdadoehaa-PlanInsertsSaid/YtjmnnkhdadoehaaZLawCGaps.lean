/- CaoGaps, CaoFull: the plain law and the walks. -/
import Derived.Test.YtjmnnkhdadoehaaZAbs8
import Derived.Test.YtjmnnkhdadoehaaZCaoU
import Derived.Test.YtjmnnkhdadoehaaZCaoQ
import Derived.Test.YtjmnnkhdadoehaaZOpen
namespace Go.Proofs.Ytjmnnkhdadoehaa
set_option linter.unusedSimpArgs false
set_option linter.unusedVariables false
open Go Go.RowKit Go.Shelf
theorem all_ents {l : List Slt} (h : (entsS l).length = l.length) : ∀ k, k < l.length → (nth l k).valid = true := by
  intro k hk
  unfold entsS at h
  rw [List.length_map, List.length_filter_eq_length_iff] at h
  rw [nth_at _ hk]
  exact h _ (List.getElem_mem hk)
attribute [local irreducible] OpH OpT LT CT HT Good
end Go.Proofs.Ytjmnnkhdadoehaa
