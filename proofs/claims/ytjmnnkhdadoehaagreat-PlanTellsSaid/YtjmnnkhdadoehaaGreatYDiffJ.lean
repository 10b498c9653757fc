/- Abstract contracts: ref11.Steps. -/
import Derived.Test.YtjmnnkhdadoehaaGreatYDiffI
import Derived.Test.YtjmnnkhdadoehaaGreatYDiffH
import Derived.Test.YtjmnnkhdadoehaaGreatYWalkS
namespace Go.Proofs.YtjmnnkhdadoehaaGreat
set_option linter.unusedSimpArgs false
set_option linter.unusedVariables false
open Go Go.RowKit Go.Shelf
attribute [local irreducible] OpH OpT LT CT HT Good GoodO CTI
theorem g_rSort (xs : List Ent) (hok : ∀ x ∈ xs, x.w.ok) (hm : xs.length ≤ 40) : Good Tryz.prog 17 [.sl 6 (xs.map encE)] (.row 0 62 6 ((sortE xs).map encE)) :=
  Good.slRow (args := []) posE lenE oneE rfl fun A c w _ hn h => (c_rSort A c xs hok w h hm).mono fun _ _ ⟨v, h1, h2, h3⟩ => ⟨v, h1, by rw [sortE_length]; exact h2, h3⟩
end Go.Proofs.YtjmnnkhdadoehaaGreat
