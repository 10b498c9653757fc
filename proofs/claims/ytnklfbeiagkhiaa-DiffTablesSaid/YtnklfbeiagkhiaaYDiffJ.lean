/- Abstract contracts: ref11.Steps. -/
import Derived.Test.YtnklfbeiagkhiaaYDiffI
import Derived.Test.YtnklfbeiagkhiaaYDiffH
import Derived.Test.YtnklfbeiagkhiaaYWalkS
namespace Go.Proofs.Ytnklfbeiagkhiaa
set_option linter.unusedSimpArgs false
set_option linter.unusedVariables false
open Go Go.RowKit Go.Shelf
attribute [local irreducible] OpH OpT LT CT HT Good GoodO CTI
end Go.Proofs.Ytnklfbeiagkhiaa
