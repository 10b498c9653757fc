/- What trie's Drop does. -/
import Derived.Test.YtkfmammkbmhfaaaYTriP
import Derived.Test.YtkfmammkbmhfaaaYAbs16
import Derived.Test.YtkfmammkbmhfaaaYAbs8
namespace Go.Proofs.Ytkfmammkbmhfaaa
set_option linter.unusedSimpArgs false
set_option linter.unusedVariables false
open Go Go.RowKit Go.Shelf
attribute [local irreducible] OpH OpT LT CT HT Good GoodO
end Go.Proofs.Ytkfmammkbmhfaaa
