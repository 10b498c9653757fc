/- Worlds that grew in steps. -/
import Derived.Test.YtmmibfjhjbjgeaaZPlan
namespace Go.Proofs.Ytmmibfjhjbjgeaa
set_option linter.unusedSimpArgs false
set_option linter.unusedVariables false
open Go Go.RowKit
theorem below_app (W : World) (q : Ext) (d : Nat) (Y Z : Array Obj) (h : Y = q.os ++ Z) : Below (grew W q).heap.size (grew W q) (grew W ⟨d, Y⟩) := by
  subst h; exact below_more W q d Z
end Go.Proofs.Ytmmibfjhjbjgeaa
