/- A region that draws its order, walked by a plan: as in Mix, and where two operations are ready that are not quiet, both orders. -/
import Derived.Test.YtkfmammkbmhfaaaXRegion
import Derived.Lib.Hide
namespace Go.Proofs.Ytkfmammkbmhfaaa
set_option linter.unusedSimpArgs false
set_option linter.unusedVariables false
open Go Go.RowKit

inductive Plan
  | done
  | quiet (i : Nat) (r : Plan)
  | loud (i : Nat) (r : Plan)
  | fork (i : Nat) (r : Plan) (j : Nat) (s : Plan)
def Plan.len : Plan → Nat
  | .done => 0
  | .quiet _ r => r.len + 1
  | .loud _ r => r.len + 1
  | .fork _ r _ _ => r.len + 1

section
variable {P : Program} {ops : Array Oper} {md : Region.Mode} {C : World → Prop}

end

section
variable {P : Program} {ops : Array Oper} {C : World → Prop} {T : Act → World → Prop} {a : Act} {w : World} {r s : Plan} {i j : Nat}

end
end Go.Proofs.Ytkfmammkbmhfaaa

/- Worlds that grew in steps. -/
namespace Go.Proofs.Ytkfmammkbmhfaaa
set_option linter.unusedSimpArgs false
set_option linter.unusedVariables false
open Go Go.RowKit
end Go.Proofs.Ytkfmammkbmhfaaa
