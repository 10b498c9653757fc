/- The two entries of awake. -/
import Derived.Test.YtmmibfjhjbjgeaaZSpecC
namespace Go.Proofs.Ytmmibfjhjbjgeaa
set_option linter.unusedSimpArgs false
set_option linter.unusedVariables false
open Go
def awX : Ent := eOf (pMake ⟨720575940379279360, 0⟩ 8) 1
def awY : Ent := eOf (pMake ⟨720857415355990016, 0⟩ 16) 2
theorem aw_above : eAbove awY awX = true := by decide +kernel
theorem aw_below : eAbove awX awY = false := by decide +kernel
theorem aw_right : eRight awX = true := by decide +kernel
theorem aw_ord : ordered [awY, awX] = true := by decide +kernel
theorem aw_nord : ordered [awX, awY] = false := by decide +kernel
theorem aw_tell : tell [awX, awY] ⟨720857415355990016, 0⟩ = 2 := by decide +kernel
end Go.Proofs.Ytmmibfjhjbjgeaa
