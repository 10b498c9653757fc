/- append of a row that is read, in a region and in a list of operations. -/
import Derived.Test.YtkfmammkbmhfaaaXOwn
import Derived.Test.YtkfmammkbmhfaaaXPlan
namespace Go.Proofs.Ytkfmammkbmhfaaa
set_option linter.unusedSimpArgs false
set_option linter.unusedVariables false
open Go Go.RowKit
section
variable {P : Program} {o : Oper} {a : Act} {K : Act → World → Prop} {Q : Exit → Act → World → Prop} {ops : Array Oper} {rest : List Oper}
end
def Stop (p : Prop) (_ : p → Unit) : Prop := p
attribute [irreducible] Stop
end Go.Proofs.Ytkfmammkbmhfaaa
