/- Sorted rows of entries, in plain Lean. -/
import Derived.Test.YtjmnnkhdadoehaaQSpec
import Derived.Shelf.SlSortCmp.WholeK
namespace Go.Proofs.Ytjmnnkhdadoehaa
set_option linter.unusedSimpArgs false
set_option linter.unusedVariables false
open Go Go.Sort
end Go.Proofs.Ytjmnnkhdadoehaa
