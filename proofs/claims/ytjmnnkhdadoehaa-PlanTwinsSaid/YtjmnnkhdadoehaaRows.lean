/-
  No cell of these rows narrows 'for every input' (looked for: loops, veiled, ifaces, maps, wideKeys, modest, calm, conditions, laid).
  DERIVED. THE GIVEN ROWS OF THIS SEAT. 9 by the template 'for every input the law returns true; each argument reads behind the call as it read before'; 0 by the template 'total and deterministic' (their statements: YtjmnnkhdadoehaaTotals.lean).
  GIVEN WITH THE SEED: the statements are not yours to turn. If you find one false, say at which input.
  Laid BY PROGRAM, IN A SANDBOX (cutbox-rows.mjs): the forced cells as the released guide's own fill.sh prints them over the translation 30d1e5602fee7b21… (all of the seat's roots in one cut). By AI agents, Wed Nov 11 2026. No macro, syntax, notation, axiom, sorry.
-/
import Derived.Test.YtjmnnkhdadoehaaChecked
import GoSem.Claim
import GoSem.ClaimJoined
import GoSem.ClaimMapViews
import Derived.JoinedTies
import Derived.KernelRfl
namespace Go.Proofs.Ytjmnnkhdadoehaa
/- THE CELL 'sum', in the pinned program and in every row, IS THE sha256 OF THE DUMP (.gsa) THAT YtjmnnkhdadoehaaProg.lean LOADS. Nothing in Lean hashes anything: it is a label: what it is worth is what the hold of that sum in a sandbox is worth. -/
noncomputable def Try.pinned : Pinned := { name := "ytjmnnkhdadoehaa", sum := "30d1e5602fee7b218c240482b1d2588ed92bf5097fabc6217fe3c7f461c17ea5", checked := Try.checked }
namespace Rows
def none {H : Type} : Left H := { results := [], args := [] }

/-- 'pigeonholelaw13.CaoInserts': WHATEVER THE INPUT: true; the input reads as it did. -/
def caoInsertsSpec : ChangeSpec := { name := "caoInserts", fn := fun _ => fun
  | [d1, d2] => { results := [.lit (.bool true)], args := [d1, d2] }
  | _ => none }
def caoInsertsRow : OpenClaim := { program := "ytjmnnkhdadoehaa", sum := "30d1e5602fee7b218c240482b1d2588ed92bf5097fabc6217fe3c7f461c17ea5", func := "pigeonhole/pigeonholelaw13.CaoInserts", spec := "caoInserts", unfollowed := true, recurses := true, apart := false }
def CaoInsertsSaid : Prop := caoInsertsRow.holds Try.pinned (OpenSpec.ofChange caoInsertsSpec)

/-- ITS FALSE NEIGHBOUR: 'it returns false'. Refute it at one input. -/
def caoInsertsWrong : ChangeSpec := { name := "caoInserts", fn := fun _ => fun
  | [d1, d2] => { results := [.lit (.bool false)], args := [d1, d2] }
  | _ => none }
def CaoInsertsWrongFalsely : Prop := caoInsertsRow.holds Try.pinned (OpenSpec.ofChange caoInsertsWrong)

/-- 'pigeonholelaw13.CaoGaps': WHATEVER THE INPUT: true; the input reads as it did. -/
def caoGapsSpec : ChangeSpec := { name := "caoGaps", fn := fun _ => fun
  | [d1, d2] => { results := [.lit (.bool true)], args := [d1, d2] }
  | _ => none }
def caoGapsRow : OpenClaim := { program := "ytjmnnkhdadoehaa", sum := "30d1e5602fee7b218c240482b1d2588ed92bf5097fabc6217fe3c7f461c17ea5", func := "pigeonhole/pigeonholelaw13.CaoGaps", spec := "caoGaps", unfollowed := true, recurses := true, apart := false }
def CaoGapsSaid : Prop := caoGapsRow.holds Try.pinned (OpenSpec.ofChange caoGapsSpec)

/-- ITS FALSE NEIGHBOUR: 'it returns false'. Refute it at one input. -/
def caoGapsWrong : ChangeSpec := { name := "caoGaps", fn := fun _ => fun
  | [d1, d2] => { results := [.lit (.bool false)], args := [d1, d2] }
  | _ => none }
def CaoGapsWrongFalsely : Prop := caoGapsRow.holds Try.pinned (OpenSpec.ofChange caoGapsWrong)

/-- 'pigeonholelaw13.CaoFull': WHATEVER THE INPUT: true; the input reads as it did. -/
def caoFullSpec : ChangeSpec := { name := "caoFull", fn := fun _ => fun
  | [d1, d2] => { results := [.lit (.bool true)], args := [d1, d2] }
  | _ => none }
def caoFullRow : OpenClaim := { program := "ytjmnnkhdadoehaa", sum := "30d1e5602fee7b218c240482b1d2588ed92bf5097fabc6217fe3c7f461c17ea5", func := "pigeonhole/pigeonholelaw13.CaoFull", spec := "caoFull", unfollowed := true, recurses := true, apart := false }
def CaoFullSaid : Prop := caoFullRow.holds Try.pinned (OpenSpec.ofChange caoFullSpec)

/-- ITS FALSE NEIGHBOUR: 'it returns false'. Refute it at one input. -/
def caoFullWrong : ChangeSpec := { name := "caoFull", fn := fun _ => fun
  | [d1, d2] => { results := [.lit (.bool false)], args := [d1, d2] }
  | _ => none }
def CaoFullWrongFalsely : Prop := caoFullRow.holds Try.pinned (OpenSpec.ofChange caoFullWrong)

/-- 'pigeonholelaw13.CaoOne': WHATEVER THE INPUT: true; the input reads as it did. -/
def caoOneSpec : ChangeSpec := { name := "caoOne", fn := fun _ => fun
  | [d1, d2] => { results := [.lit (.bool true)], args := [d1, d2] }
  | _ => none }
def caoOneRow : OpenClaim := { program := "ytjmnnkhdadoehaa", sum := "30d1e5602fee7b218c240482b1d2588ed92bf5097fabc6217fe3c7f461c17ea5", func := "pigeonhole/pigeonholelaw13.CaoOne", spec := "caoOne", unfollowed := true, recurses := true, apart := false }
def CaoOneSaid : Prop := caoOneRow.holds Try.pinned (OpenSpec.ofChange caoOneSpec)

/-- ITS FALSE NEIGHBOUR: 'it returns false'. Refute it at one input. -/
def caoOneWrong : ChangeSpec := { name := "caoOne", fn := fun _ => fun
  | [d1, d2] => { results := [.lit (.bool false)], args := [d1, d2] }
  | _ => none }
def CaoOneWrongFalsely : Prop := caoOneRow.holds Try.pinned (OpenSpec.ofChange caoOneWrong)

/-- 'pigeonholelaw13.CaoLengths': WHATEVER THE INPUT: true; the input reads as it did. -/
def caoLengthsSpec : ChangeSpec := { name := "caoLengths", fn := fun _ => fun
  | [d1, d2] => { results := [.lit (.bool true)], args := [d1, d2] }
  | _ => none }
def caoLengthsRow : OpenClaim := { program := "ytjmnnkhdadoehaa", sum := "30d1e5602fee7b218c240482b1d2588ed92bf5097fabc6217fe3c7f461c17ea5", func := "pigeonhole/pigeonholelaw13.CaoLengths", spec := "caoLengths", unfollowed := true, recurses := true, apart := false }
def CaoLengthsSaid : Prop := caoLengthsRow.holds Try.pinned (OpenSpec.ofChange caoLengthsSpec)

/-- ITS FALSE NEIGHBOUR: 'it returns false'. Refute it at one input. -/
def caoLengthsWrong : ChangeSpec := { name := "caoLengths", fn := fun _ => fun
  | [d1, d2] => { results := [.lit (.bool false)], args := [d1, d2] }
  | _ => none }
def CaoLengthsWrongFalsely : Prop := caoLengthsRow.holds Try.pinned (OpenSpec.ofChange caoLengthsWrong)

/-- 'pigeonholelaw14.PlanOne': WHATEVER THE INPUT: true; the input reads as it did. -/
def planOneSpec : ChangeSpec := { name := "planOne", fn := fun _ => fun
  | [d1, d2, d3] => { results := [.lit (.bool true)], args := [d1, d2, d3] }
  | _ => none }
def planOneRow : OpenClaim := { program := "ytjmnnkhdadoehaa", sum := "30d1e5602fee7b218c240482b1d2588ed92bf5097fabc6217fe3c7f461c17ea5", func := "pigeonhole/pigeonholelaw14.PlanOne", spec := "planOne", unfollowed := true, recurses := true, apart := false }
def PlanOneSaid : Prop := planOneRow.holds Try.pinned (OpenSpec.ofChange planOneSpec)

/-- ITS FALSE NEIGHBOUR: 'it returns false'. Refute it at one input. -/
def planOneWrong : ChangeSpec := { name := "planOne", fn := fun _ => fun
  | [d1, d2, d3] => { results := [.lit (.bool false)], args := [d1, d2, d3] }
  | _ => none }
def PlanOneWrongFalsely : Prop := planOneRow.holds Try.pinned (OpenSpec.ofChange planOneWrong)

/-- 'pigeonholelaw14.PlanInserts': WHATEVER THE INPUT: true; the input reads as it did. -/
def planInsertsSpec : ChangeSpec := { name := "planInserts", fn := fun _ => fun
  | [d1, d2, d3] => { results := [.lit (.bool true)], args := [d1, d2, d3] }
  | _ => none }
def planInsertsRow : OpenClaim := { program := "ytjmnnkhdadoehaa", sum := "30d1e5602fee7b218c240482b1d2588ed92bf5097fabc6217fe3c7f461c17ea5", func := "pigeonhole/pigeonholelaw14.PlanInserts", spec := "planInserts", unfollowed := true, recurses := true, apart := false }
def PlanInsertsSaid : Prop := planInsertsRow.holds Try.pinned (OpenSpec.ofChange planInsertsSpec)

/-- ITS FALSE NEIGHBOUR: 'it returns false'. Refute it at one input. -/
def planInsertsWrong : ChangeSpec := { name := "planInserts", fn := fun _ => fun
  | [d1, d2, d3] => { results := [.lit (.bool false)], args := [d1, d2, d3] }
  | _ => none }
def PlanInsertsWrongFalsely : Prop := planInsertsRow.holds Try.pinned (OpenSpec.ofChange planInsertsWrong)

/-- 'pigeonholelaw14.PlanSets': WHATEVER THE INPUT: true; the input reads as it did. -/
def planSetsSpec : ChangeSpec := { name := "planSets", fn := fun _ => fun
  | [d1, d2, d3] => { results := [.lit (.bool true)], args := [d1, d2, d3] }
  | _ => none }
def planSetsRow : OpenClaim := { program := "ytjmnnkhdadoehaa", sum := "30d1e5602fee7b218c240482b1d2588ed92bf5097fabc6217fe3c7f461c17ea5", func := "pigeonhole/pigeonholelaw14.PlanSets", spec := "planSets", unfollowed := true, recurses := true, apart := false }
def PlanSetsSaid : Prop := planSetsRow.holds Try.pinned (OpenSpec.ofChange planSetsSpec)

/-- ITS FALSE NEIGHBOUR: 'it returns false'. Refute it at one input. -/
def planSetsWrong : ChangeSpec := { name := "planSets", fn := fun _ => fun
  | [d1, d2, d3] => { results := [.lit (.bool false)], args := [d1, d2, d3] }
  | _ => none }
def PlanSetsWrongFalsely : Prop := planSetsRow.holds Try.pinned (OpenSpec.ofChange planSetsWrong)

/-- 'pigeonholelaw14.PlanTwins': WHATEVER THE INPUT: true; the input reads as it did. -/
def planTwinsSpec : ChangeSpec := { name := "planTwins", fn := fun _ => fun
  | [d1, d2] => { results := [.lit (.bool true)], args := [d1, d2] }
  | _ => none }
def planTwinsRow : OpenClaim := { program := "ytjmnnkhdadoehaa", sum := "30d1e5602fee7b218c240482b1d2588ed92bf5097fabc6217fe3c7f461c17ea5", func := "pigeonhole/pigeonholelaw14.PlanTwins", spec := "planTwins", unfollowed := true, recurses := true, apart := false }
def PlanTwinsSaid : Prop := planTwinsRow.holds Try.pinned (OpenSpec.ofChange planTwinsSpec)

/-- ITS FALSE NEIGHBOUR: 'it returns false'. Refute it at one input. -/
def planTwinsWrong : ChangeSpec := { name := "planTwins", fn := fun _ => fun
  | [d1, d2] => { results := [.lit (.bool false)], args := [d1, d2] }
  | _ => none }
def PlanTwinsWrongFalsely : Prop := planTwinsRow.holds Try.pinned (OpenSpec.ofChange planTwinsWrong)

/- THE SECOND FORM. 'bulk': how many values and letters a reading holds, each counted each time it is reached (what is shared counts as often as it is met; a slice's spare places count too). A statement '..UptoSaid' is the law's where the arguments, and the package variables that the reading takes, are together of bulk at most 1048576: NARROWER than '..Said'. Prove '..Said' where nothing that the law and all that it calls make is longer than what came in: it says more and counts as full. Else prove '..UptoSaid'. A law counts once. -/
mutual
def uptoBulk {H : Type} : DataW H → Nat
  | .lit (.string bytes) => bytes.length + 1
  | .lit _ => 1
  | .nil => 1
  | .ptr d => uptoBulk d + 1
  | .slice elems spare => uptoBulkAll elems + uptoBulkAll spare + 1
  | .agg parts => uptoBulkAll parts + 1
  | .iface _ d => uptoBulk d + 1
  | .map entries => uptoBulkEntries entries + 1
  | .held _ => 1
def uptoBulkAll {H : Type} : List (DataW H) → Nat
  | [] => 0
  | d :: r => uptoBulk d + uptoBulkAll r
def uptoBulkEntries {H : Type} : List (Lit × DataW H) → Nat
  | [] => 0
  | x :: r => uptoBulkEntry x + uptoBulkEntries r
def uptoBulkEntry {H : Type} : Lit × DataW H → Nat
  | (.string bytes, d) => bytes.length + uptoBulk d + 1
  | (_, d) => uptoBulk d + 1
 end
def uptoSmall : (H : Type) → List (DataW H) → Bool := fun _ ds => decide (uptoBulkAll ds ≤ 1048576)
def OpenSpec.upto (s : _root_.Go.ChangeSpec) : _root_.Go.OpenSpec := { _root_.Go.OpenSpec.ofChange s with cond := some uptoSmall }

/-- 'pigeonholelaw13.CaoInserts', WHERE WHAT IT READS IS OF BULK AT MOST 1048576: true; the input reads as it did. -/
def caoInsertsUptoRow : OpenClaim := { program := "ytjmnnkhdadoehaa", sum := "30d1e5602fee7b218c240482b1d2588ed92bf5097fabc6217fe3c7f461c17ea5", func := "pigeonhole/pigeonholelaw13.CaoInserts", spec := "caoInserts", unfollowed := true, recurses := true, apart := false, narrowed := true }
def CaoInsertsUptoSaid : Prop := caoInsertsUptoRow.holds Try.pinned (OpenSpec.upto caoInsertsSpec)

/-- 'pigeonholelaw13.CaoGaps', WHERE WHAT IT READS IS OF BULK AT MOST 1048576: true; the input reads as it did. -/
def caoGapsUptoRow : OpenClaim := { program := "ytjmnnkhdadoehaa", sum := "30d1e5602fee7b218c240482b1d2588ed92bf5097fabc6217fe3c7f461c17ea5", func := "pigeonhole/pigeonholelaw13.CaoGaps", spec := "caoGaps", unfollowed := true, recurses := true, apart := false, narrowed := true }
def CaoGapsUptoSaid : Prop := caoGapsUptoRow.holds Try.pinned (OpenSpec.upto caoGapsSpec)

/-- 'pigeonholelaw13.CaoFull', WHERE WHAT IT READS IS OF BULK AT MOST 1048576: true; the input reads as it did. -/
def caoFullUptoRow : OpenClaim := { program := "ytjmnnkhdadoehaa", sum := "30d1e5602fee7b218c240482b1d2588ed92bf5097fabc6217fe3c7f461c17ea5", func := "pigeonhole/pigeonholelaw13.CaoFull", spec := "caoFull", unfollowed := true, recurses := true, apart := false, narrowed := true }
def CaoFullUptoSaid : Prop := caoFullUptoRow.holds Try.pinned (OpenSpec.upto caoFullSpec)

/-- 'pigeonholelaw13.CaoOne', WHERE WHAT IT READS IS OF BULK AT MOST 1048576: true; the input reads as it did. -/
def caoOneUptoRow : OpenClaim := { program := "ytjmnnkhdadoehaa", sum := "30d1e5602fee7b218c240482b1d2588ed92bf5097fabc6217fe3c7f461c17ea5", func := "pigeonhole/pigeonholelaw13.CaoOne", spec := "caoOne", unfollowed := true, recurses := true, apart := false, narrowed := true }
def CaoOneUptoSaid : Prop := caoOneUptoRow.holds Try.pinned (OpenSpec.upto caoOneSpec)

/-- 'pigeonholelaw13.CaoLengths', WHERE WHAT IT READS IS OF BULK AT MOST 1048576: true; the input reads as it did. -/
def caoLengthsUptoRow : OpenClaim := { program := "ytjmnnkhdadoehaa", sum := "30d1e5602fee7b218c240482b1d2588ed92bf5097fabc6217fe3c7f461c17ea5", func := "pigeonhole/pigeonholelaw13.CaoLengths", spec := "caoLengths", unfollowed := true, recurses := true, apart := false, narrowed := true }
def CaoLengthsUptoSaid : Prop := caoLengthsUptoRow.holds Try.pinned (OpenSpec.upto caoLengthsSpec)

/-- 'pigeonholelaw14.PlanOne', WHERE WHAT IT READS IS OF BULK AT MOST 1048576: true; the input reads as it did. -/
def planOneUptoRow : OpenClaim := { program := "ytjmnnkhdadoehaa", sum := "30d1e5602fee7b218c240482b1d2588ed92bf5097fabc6217fe3c7f461c17ea5", func := "pigeonhole/pigeonholelaw14.PlanOne", spec := "planOne", unfollowed := true, recurses := true, apart := false, narrowed := true }
def PlanOneUptoSaid : Prop := planOneUptoRow.holds Try.pinned (OpenSpec.upto planOneSpec)

/-- 'pigeonholelaw14.PlanInserts', WHERE WHAT IT READS IS OF BULK AT MOST 1048576: true; the input reads as it did. -/
def planInsertsUptoRow : OpenClaim := { program := "ytjmnnkhdadoehaa", sum := "30d1e5602fee7b218c240482b1d2588ed92bf5097fabc6217fe3c7f461c17ea5", func := "pigeonhole/pigeonholelaw14.PlanInserts", spec := "planInserts", unfollowed := true, recurses := true, apart := false, narrowed := true }
def PlanInsertsUptoSaid : Prop := planInsertsUptoRow.holds Try.pinned (OpenSpec.upto planInsertsSpec)

/-- 'pigeonholelaw14.PlanSets', WHERE WHAT IT READS IS OF BULK AT MOST 1048576: true; the input reads as it did. -/
def planSetsUptoRow : OpenClaim := { program := "ytjmnnkhdadoehaa", sum := "30d1e5602fee7b218c240482b1d2588ed92bf5097fabc6217fe3c7f461c17ea5", func := "pigeonhole/pigeonholelaw14.PlanSets", spec := "planSets", unfollowed := true, recurses := true, apart := false, narrowed := true }
def PlanSetsUptoSaid : Prop := planSetsUptoRow.holds Try.pinned (OpenSpec.upto planSetsSpec)

/-- 'pigeonholelaw14.PlanTwins', WHERE WHAT IT READS IS OF BULK AT MOST 1048576: true; the input reads as it did. -/
def planTwinsUptoRow : OpenClaim := { program := "ytjmnnkhdadoehaa", sum := "30d1e5602fee7b218c240482b1d2588ed92bf5097fabc6217fe3c7f461c17ea5", func := "pigeonhole/pigeonholelaw14.PlanTwins", spec := "planTwins", unfollowed := true, recurses := true, apart := false, narrowed := true }
def PlanTwinsUptoSaid : Prop := planTwinsUptoRow.holds Try.pinned (OpenSpec.upto planTwinsSpec)

end Rows
end Go.Proofs.Ytjmnnkhdadoehaa
