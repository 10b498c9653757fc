/-
  No cell of these rows narrows 'for every input' (looked for: loops, veiled, ifaces, maps, wideKeys, modest, calm, conditions, laid).
  DERIVED. THE GIVEN ROWS OF THIS SEAT. 6 by the template 'for every input the law returns true; each argument reads behind the call as it read before'; 0 by the template 'total and deterministic' (their statements: YtmmibfjhjbjgeaaTotals.lean).
  GIVEN WITH THE SEED: the statements are not yours to turn. If you find one false, say at which input.
  Laid BY PROGRAM, IN A SANDBOX (cutbox-rows.mjs): the forced cells as the released guide's own fill.sh prints them over the translation 1b1556cd70d9a2e3… (all of the seat's roots in one cut). By AI agents, Wed Nov 11 2026. No macro, syntax, notation, axiom, sorry.
-/
import Derived.Test.YtmmibfjhjbjgeaaChecked
import GoSem.Claim
import GoSem.ClaimJoined
import GoSem.ClaimMapViews
import Derived.JoinedTies
import Derived.KernelRfl
namespace Go.Proofs.Ytmmibfjhjbjgeaa
/- THE CELL 'sum', in the pinned program and in every row, IS THE sha256 OF THE DUMP (.gsa) THAT YtmmibfjhjbjgeaaProg.lean LOADS. Nothing in Lean hashes anything: it is a label: what it is worth is what the hold of that sum in a sandbox is worth. -/
noncomputable def Try.pinned : Pinned := { name := "ytmmibfjhjbjgeaa", sum := "1b1556cd70d9a2e3d8348e4d253199063c8ed733d7e21e5096e55ba3b27ca917", checked := Try.checked }
namespace Rows
def none {H : Type} : Left H := { results := [], args := [] }

/-- 'pigeonholelaw11.DiffSteps': WHATEVER THE INPUT: true; the input reads as it did. -/
def diffStepsSpec : ChangeSpec := { name := "diffSteps", fn := fun _ => fun
  | [d1, d2] => { results := [.lit (.bool true)], args := [d1, d2] }
  | _ => none }
def diffStepsRow : OpenClaim := { program := "ytmmibfjhjbjgeaa", sum := "1b1556cd70d9a2e3d8348e4d253199063c8ed733d7e21e5096e55ba3b27ca917", func := "pigeonhole/pigeonholelaw11.DiffSteps", spec := "diffSteps", unfollowed := true, recurses := true, apart := false }
def DiffStepsSaid : Prop := diffStepsRow.holds Try.pinned (OpenSpec.ofChange diffStepsSpec)

/-- ITS FALSE NEIGHBOUR: 'it returns false'. Refute it at one input. -/
def diffStepsWrong : ChangeSpec := { name := "diffSteps", fn := fun _ => fun
  | [d1, d2] => { results := [.lit (.bool false)], args := [d1, d2] }
  | _ => none }
def DiffStepsWrongFalsely : Prop := diffStepsRow.holds Try.pinned (OpenSpec.ofChange diffStepsWrong)

/-- 'pigeonholelaw11.DiffDoes': WHATEVER THE INPUT: true; the input reads as it did. -/
def diffDoesSpec : ChangeSpec := { name := "diffDoes", fn := fun _ => fun
  | [d1, d2] => { results := [.lit (.bool true)], args := [d1, d2] }
  | _ => none }
def diffDoesRow : OpenClaim := { program := "ytmmibfjhjbjgeaa", sum := "1b1556cd70d9a2e3d8348e4d253199063c8ed733d7e21e5096e55ba3b27ca917", func := "pigeonhole/pigeonholelaw11.DiffDoes", spec := "diffDoes", unfollowed := true, recurses := true, apart := false }
def DiffDoesSaid : Prop := diffDoesRow.holds Try.pinned (OpenSpec.ofChange diffDoesSpec)

/-- ITS FALSE NEIGHBOUR: 'it returns false'. Refute it at one input. -/
def diffDoesWrong : ChangeSpec := { name := "diffDoes", fn := fun _ => fun
  | [d1, d2] => { results := [.lit (.bool false)], args := [d1, d2] }
  | _ => none }
def DiffDoesWrongFalsely : Prop := diffDoesRow.holds Try.pinned (OpenSpec.ofChange diffDoesWrong)

/-- 'pigeonholelaw11.DiffEnds': WHATEVER THE INPUT: true; the input reads as it did. -/
def diffEndsSpec : ChangeSpec := { name := "diffEnds", fn := fun _ => fun
  | [d1, d2] => { results := [.lit (.bool true)], args := [d1, d2] }
  | _ => none }
def diffEndsRow : OpenClaim := { program := "ytmmibfjhjbjgeaa", sum := "1b1556cd70d9a2e3d8348e4d253199063c8ed733d7e21e5096e55ba3b27ca917", func := "pigeonhole/pigeonholelaw11.DiffEnds", spec := "diffEnds", unfollowed := true, recurses := true, apart := false }
def DiffEndsSaid : Prop := diffEndsRow.holds Try.pinned (OpenSpec.ofChange diffEndsSpec)

/-- ITS FALSE NEIGHBOUR: 'it returns false'. Refute it at one input. -/
def diffEndsWrong : ChangeSpec := { name := "diffEnds", fn := fun _ => fun
  | [d1, d2] => { results := [.lit (.bool false)], args := [d1, d2] }
  | _ => none }
def DiffEndsWrongFalsely : Prop := diffEndsRow.holds Try.pinned (OpenSpec.ofChange diffEndsWrong)

/-- 'pigeonholelaw11.DiffTells': WHATEVER THE INPUT: true; the input reads as it did. -/
def diffTellsSpec : ChangeSpec := { name := "diffTells", fn := fun _ => fun
  | [d1, d2, d3] => { results := [.lit (.bool true)], args := [d1, d2, d3] }
  | _ => none }
def diffTellsRow : OpenClaim := { program := "ytmmibfjhjbjgeaa", sum := "1b1556cd70d9a2e3d8348e4d253199063c8ed733d7e21e5096e55ba3b27ca917", func := "pigeonhole/pigeonholelaw11.DiffTells", spec := "diffTells", unfollowed := true, recurses := true, apart := false }
def DiffTellsSaid : Prop := diffTellsRow.holds Try.pinned (OpenSpec.ofChange diffTellsSpec)

/-- ITS FALSE NEIGHBOUR: 'it returns false'. Refute it at one input. -/
def diffTellsWrong : ChangeSpec := { name := "diffTells", fn := fun _ => fun
  | [d1, d2, d3] => { results := [.lit (.bool false)], args := [d1, d2, d3] }
  | _ => none }
def DiffTellsWrongFalsely : Prop := diffTellsRow.holds Try.pinned (OpenSpec.ofChange diffTellsWrong)

/-- 'pigeonholelaw11.DiffBack': WHATEVER THE INPUT: true; the input reads as it did. -/
def diffBackSpec : ChangeSpec := { name := "diffBack", fn := fun _ => fun
  | [d1, d2] => { results := [.lit (.bool true)], args := [d1, d2] }
  | _ => none }
def diffBackRow : OpenClaim := { program := "ytmmibfjhjbjgeaa", sum := "1b1556cd70d9a2e3d8348e4d253199063c8ed733d7e21e5096e55ba3b27ca917", func := "pigeonhole/pigeonholelaw11.DiffBack", spec := "diffBack", unfollowed := true, recurses := true, apart := false }
def DiffBackSaid : Prop := diffBackRow.holds Try.pinned (OpenSpec.ofChange diffBackSpec)

/-- ITS FALSE NEIGHBOUR: 'it returns false'. Refute it at one input. -/
def diffBackWrong : ChangeSpec := { name := "diffBack", fn := fun _ => fun
  | [d1, d2] => { results := [.lit (.bool false)], args := [d1, d2] }
  | _ => none }
def DiffBackWrongFalsely : Prop := diffBackRow.holds Try.pinned (OpenSpec.ofChange diffBackWrong)

/-- 'pigeonholelaw11.DiffTables': WHATEVER THE INPUT: true; the input reads as it did. -/
def diffTablesSpec : ChangeSpec := { name := "diffTables", fn := fun _ => fun
  | [d1, d2, d3, d4] => { results := [.lit (.bool true)], args := [d1, d2, d3, d4] }
  | _ => none }
def diffTablesRow : OpenClaim := { program := "ytmmibfjhjbjgeaa", sum := "1b1556cd70d9a2e3d8348e4d253199063c8ed733d7e21e5096e55ba3b27ca917", func := "pigeonhole/pigeonholelaw11.DiffTables", spec := "diffTables", unfollowed := true, recurses := true, apart := false }
def DiffTablesSaid : Prop := diffTablesRow.holds Try.pinned (OpenSpec.ofChange diffTablesSpec)

/-- ITS FALSE NEIGHBOUR: 'it returns false'. Refute it at one input. -/
def diffTablesWrong : ChangeSpec := { name := "diffTables", fn := fun _ => fun
  | [d1, d2, d3, d4] => { results := [.lit (.bool false)], args := [d1, d2, d3, d4] }
  | _ => none }
def DiffTablesWrongFalsely : Prop := diffTablesRow.holds Try.pinned (OpenSpec.ofChange diffTablesWrong)

/- THE SECOND FORM. 'bulk': how many values and letters a reading holds, each counted each time it is reached (what is shared counts as often as it is met; a slice's spare places count too). A statement '..UptoSaid' is the law's where the arguments, and the package variables that the reading takes, are together of bulk at most 1048576: NARROWER than '..Said'. Prove '..Said' where nothing that the law and all that it calls make is longer than what came in: it says more and counts as full. Else prove '..UptoSaid'. A law counts once. -/
mutual
def uptoBulk {H : Type} : DataW H → Nat
  | .lit (.string bytes) => bytes.length + 1
  | .lit _ => 1
  | .nil => 1
  | .ptr d => uptoBulk d + 1
  | .slice elems spare => uptoBulkAll elems + uptoBulkAll spare + 1
  | .agg parts => uptoBulkAll parts + 1
  | .iface _ d => uptoBulk d + 1
  | .map entries => uptoBulkEntries entries + 1
  | .held _ => 1
def uptoBulkAll {H : Type} : List (DataW H) → Nat
  | [] => 0
  | d :: r => uptoBulk d + uptoBulkAll r
def uptoBulkEntries {H : Type} : List (Lit × DataW H) → Nat
  | [] => 0
  | x :: r => uptoBulkEntry x + uptoBulkEntries r
def uptoBulkEntry {H : Type} : Lit × DataW H → Nat
  | (.string bytes, d) => bytes.length + uptoBulk d + 1
  | (_, d) => uptoBulk d + 1
 end
def uptoSmall : (H : Type) → List (DataW H) → Bool := fun _ ds => decide (uptoBulkAll ds ≤ 1048576)
def OpenSpec.upto (s : _root_.Go.ChangeSpec) : _root_.Go.OpenSpec := { _root_.Go.OpenSpec.ofChange s with cond := some uptoSmall }

/-- 'pigeonholelaw11.DiffSteps', WHERE WHAT IT READS IS OF BULK AT MOST 1048576: true; the input reads as it did. -/
def diffStepsUptoRow : OpenClaim := { program := "ytmmibfjhjbjgeaa", sum := "1b1556cd70d9a2e3d8348e4d253199063c8ed733d7e21e5096e55ba3b27ca917", func := "pigeonhole/pigeonholelaw11.DiffSteps", spec := "diffSteps", unfollowed := true, recurses := true, apart := false, narrowed := true }
def DiffStepsUptoSaid : Prop := diffStepsUptoRow.holds Try.pinned (OpenSpec.upto diffStepsSpec)

/-- 'pigeonholelaw11.DiffDoes', WHERE WHAT IT READS IS OF BULK AT MOST 1048576: true; the input reads as it did. -/
def diffDoesUptoRow : OpenClaim := { program := "ytmmibfjhjbjgeaa", sum := "1b1556cd70d9a2e3d8348e4d253199063c8ed733d7e21e5096e55ba3b27ca917", func := "pigeonhole/pigeonholelaw11.DiffDoes", spec := "diffDoes", unfollowed := true, recurses := true, apart := false, narrowed := true }
def DiffDoesUptoSaid : Prop := diffDoesUptoRow.holds Try.pinned (OpenSpec.upto diffDoesSpec)

/-- 'pigeonholelaw11.DiffEnds', WHERE WHAT IT READS IS OF BULK AT MOST 1048576: true; the input reads as it did. -/
def diffEndsUptoRow : OpenClaim := { program := "ytmmibfjhjbjgeaa", sum := "1b1556cd70d9a2e3d8348e4d253199063c8ed733d7e21e5096e55ba3b27ca917", func := "pigeonhole/pigeonholelaw11.DiffEnds", spec := "diffEnds", unfollowed := true, recurses := true, apart := false, narrowed := true }
def DiffEndsUptoSaid : Prop := diffEndsUptoRow.holds Try.pinned (OpenSpec.upto diffEndsSpec)

/-- 'pigeonholelaw11.DiffTells', WHERE WHAT IT READS IS OF BULK AT MOST 1048576: true; the input reads as it did. -/
def diffTellsUptoRow : OpenClaim := { program := "ytmmibfjhjbjgeaa", sum := "1b1556cd70d9a2e3d8348e4d253199063c8ed733d7e21e5096e55ba3b27ca917", func := "pigeonhole/pigeonholelaw11.DiffTells", spec := "diffTells", unfollowed := true, recurses := true, apart := false, narrowed := true }
def DiffTellsUptoSaid : Prop := diffTellsUptoRow.holds Try.pinned (OpenSpec.upto diffTellsSpec)

/-- 'pigeonholelaw11.DiffBack', WHERE WHAT IT READS IS OF BULK AT MOST 1048576: true; the input reads as it did. -/
def diffBackUptoRow : OpenClaim := { program := "ytmmibfjhjbjgeaa", sum := "1b1556cd70d9a2e3d8348e4d253199063c8ed733d7e21e5096e55ba3b27ca917", func := "pigeonhole/pigeonholelaw11.DiffBack", spec := "diffBack", unfollowed := true, recurses := true, apart := false, narrowed := true }
def DiffBackUptoSaid : Prop := diffBackUptoRow.holds Try.pinned (OpenSpec.upto diffBackSpec)

/-- 'pigeonholelaw11.DiffTables', WHERE WHAT IT READS IS OF BULK AT MOST 1048576: true; the input reads as it did. -/
def diffTablesUptoRow : OpenClaim := { program := "ytmmibfjhjbjgeaa", sum := "1b1556cd70d9a2e3d8348e4d253199063c8ed733d7e21e5096e55ba3b27ca917", func := "pigeonhole/pigeonholelaw11.DiffTables", spec := "diffTables", unfollowed := true, recurses := true, apart := false, narrowed := true }
def DiffTablesUptoSaid : Prop := diffTablesUptoRow.holds Try.pinned (OpenSpec.upto diffTablesSpec)

end Rows
end Go.Proofs.Ytmmibfjhjbjgeaa
