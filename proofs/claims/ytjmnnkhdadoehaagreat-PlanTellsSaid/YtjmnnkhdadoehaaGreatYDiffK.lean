/- Abstract contracts: awake of law 11. -/
import Derived.Test.YtjmnnkhdadoehaaGreatYDiffJ
import Derived.Test.YtjmnnkhdadoehaaGreatYAbs8
import Derived.Test.YtjmnnkhdadoehaaGreatYEqA
namespace Go.Proofs.YtjmnnkhdadoehaaGreat
set_option linter.unusedSimpArgs false
set_option linter.unusedVariables false
open Go Go.RowKit Go.Shelf
attribute [local irreducible] OpH OpT LT CT HT Good GoodO CTI
end Go.Proofs.YtjmnnkhdadoehaaGreat
