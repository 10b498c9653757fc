/- ref12: Kept, Gap, below, above. -/
import Derived.Test.YtjmnnkhdadoehaaQCaoQ
import Derived.Test.YtjmnnkhdadoehaaQCaoY
namespace Go.Proofs.Ytjmnnkhdadoehaa
set_option linter.unusedSimpArgs false
set_option linter.unusedVariables false
open Go Go.RowKit Go.Shelf
attribute [local irreducible] OpH OpT LT CT HT Good
end Go.Proofs.Ytjmnnkhdadoehaa
