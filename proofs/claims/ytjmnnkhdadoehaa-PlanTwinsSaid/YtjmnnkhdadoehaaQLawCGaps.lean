/- CaoGaps, CaoFull: the plain law and the walks. -/
import Derived.Test.YtjmnnkhdadoehaaQAbs8
import Derived.Test.YtjmnnkhdadoehaaQCaoY
import Derived.Test.YtjmnnkhdadoehaaQCaoQ
import Derived.Test.YtjmnnkhdadoehaaQOpen
namespace Go.Proofs.Ytjmnnkhdadoehaa
set_option linter.unusedSimpArgs false
set_option linter.unusedVariables false
open Go Go.RowKit Go.Shelf
attribute [local irreducible] OpH OpT LT CT HT Good
end Go.Proofs.Ytjmnnkhdadoehaa
