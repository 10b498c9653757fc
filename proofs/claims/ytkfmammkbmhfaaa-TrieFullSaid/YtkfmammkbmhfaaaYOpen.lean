/- Arguments, opened to what they read as. -/
import Derived.Test.YtkfmammkbmhfaaaProg
import Derived.Test.YtkfmammkbmhfaaaYRead
import Derived.Test.YtkfmammkbmhfaaaYSpec
import Derived.ProofKit
import Derived.OpenShut
import Derived.Deep.Slices
import Derived.ChangeOld
import Derived.Below
namespace Go.Proofs.Ytkfmammkbmhfaaa
set_option linter.unusedSimpArgs false
set_option linter.unusedVariables false
open Go.ChangeShapes Go.WideShapes Go.ChangeAt Go.RowKit Go.Deep
def OkI (n : Int) : Prop := -9223372036854775808 ≤ n ∧ n ≤ 9223372036854775807
def OkY (n : Int) : Prop := 0 ≤ n ∧ n ≤ 255
theorem okI_wf {n : Int} (h : (Lit.int .i64 n).wf = true) : OkI n := bounds_i64 h
theorem okY_wf {n : Int} (h : (Lit.int .u8 n).wf = true) : OkY n := bounds_u8 h
end Go.Proofs.Ytkfmammkbmhfaaa
