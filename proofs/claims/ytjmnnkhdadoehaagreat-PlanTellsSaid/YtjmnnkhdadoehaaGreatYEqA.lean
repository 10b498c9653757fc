/- Equality of rows of three numbers. -/
import Derived.Test.YtjmnnkhdadoehaaGreatYAbs3
import Derived.Test.YtjmnnkhdadoehaaGreatYEq
namespace Go.Proofs.YtjmnnkhdadoehaaGreat
set_option linter.unusedSimpArgs false
set_option linter.unusedVariables false
open Go Go.RowKit Go.Shelf
end Go.Proofs.YtjmnnkhdadoehaaGreat
