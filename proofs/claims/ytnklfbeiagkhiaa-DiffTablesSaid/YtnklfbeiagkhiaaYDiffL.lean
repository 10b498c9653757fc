/- Abstract contracts and plain facts for the laws of law 11. -/
import Derived.Test.YtnklfbeiagkhiaaYDiffK
import Derived.Test.YtnklfbeiagkhiaaYDiffA
import Derived.Test.YtnklfbeiagkhiaaYOpen
namespace Go.Proofs.Ytnklfbeiagkhiaa
set_option linter.unusedSimpArgs false
set_option linter.unusedVariables false
open Go Go.RowKit Go.Shelf
theorem doStep_length (s : Stp) (xs : List Ent) : (doStep s xs).length ≤ xs.length + 1 := by
  unfold doStep
  have := doAll_length s xs
  rw [List.length_append]
  split <;> simp only [List.length_cons, List.length_nil] <;> omega
theorem doSteps_take (ss : List Stp) (a : List Ent) {k : Nat} (hk : k < ss.length) : doSteps (ss.take (k + 1)) a = doStep ss[k] (doSteps (ss.take k) a) := by
  rw [List.take_succ_eq_append_getElem hk, doSteps_append]; rfl
theorem doSteps_length (ss : List Stp) (a : List Ent) : (doSteps ss a).length ≤ a.length + ss.length := by
  induction ss generalizing a with
  | nil => simp [doSteps]
  | cons s ss ih =>
    have h1 := ih (doStep s a)
    have h2 := doStep_length s a
    show (doSteps ss (doStep s a)).length ≤ _
    simp only [List.length_cons]; omega
/-! ### How many steps there are of a kind -/
end Go.Proofs.Ytnklfbeiagkhiaa
