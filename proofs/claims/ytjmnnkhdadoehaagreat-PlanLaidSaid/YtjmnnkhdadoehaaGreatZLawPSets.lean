/- PlanSets, PlanTwins: the walks. -/
import Derived.Test.YtjmnnkhdadoehaaGreatZPlnS
import Derived.Test.YtjmnnkhdadoehaaGreatZLawPOne
namespace Go.Proofs.YtjmnnkhdadoehaaGreat
set_option linter.unusedSimpArgs false
set_option linter.unusedVariables false
open Go Go.RowKit Go.Shelf
attribute [local irreducible] OpH OpT LT CT HT Good
end Go.Proofs.YtjmnnkhdadoehaaGreat
