/-
  No cell of these rows narrows 'for every input' (looked for: loops, veiled, ifaces, maps, wideKeys, modest, calm, conditions, laid).
  DERIVED. THE GIVEN ROWS OF THIS SEAT. 7 by the template 'for every input the law returns true; each argument reads behind the call as it read before'; 0 by the template 'total and deterministic' (their statements: YtjibochjmmehcaaTotals.lean).
  GIVEN WITH THE SEED: the statements are not yours to turn. If you find one false, say at which input.
  Laid BY PROGRAM, IN A SANDBOX (cutbox-rows.mjs): the forced cells as the released guide's own fill.sh prints them over the translation 570b01d61e7d7f4e… (all of the seat's roots in one cut). By AI agents, Wed Nov 11 2026. No macro, syntax, notation, axiom, sorry.
-/
import Derived.Test.YtjibochjmmehcaaChecked
import GoSem.Claim
import GoSem.ClaimJoined
import GoSem.ClaimMapViews
import Derived.JoinedTies
import Derived.KernelRfl
namespace Go.Proofs.Ytjibochjmmehcaa
/- THE CELL 'sum', in the pinned program and in every row, IS THE sha256 OF THE DUMP (.gsa) THAT YtjibochjmmehcaaProg.lean LOADS. Nothing in Lean hashes anything: it is a label: what it is worth is what the hold of that sum in a sandbox is worth. -/
noncomputable def Try.pinned : Pinned := { name := "ytjibochjmmehcaa", sum := "570b01d61e7d7f4e64cbf8c4bba4b924e2f98e7b2f5d34cfa692faf307c00331", checked := Try.checked }
namespace Rows
def none {H : Type} : Left H := { results := [], args := [] }

/-- 'pigeonholelaw10.MergeMerges': WHATEVER THE INPUT: true; the input reads as it did. -/
def mergeMergesSpec : ChangeSpec := { name := "mergeMerges", fn := fun _ => fun
  | [d] => { results := [.lit (.bool true)], args := [d] }
  | _ => none }
def mergeMergesRow : OpenClaim := { program := "ytjibochjmmehcaa", sum := "570b01d61e7d7f4e64cbf8c4bba4b924e2f98e7b2f5d34cfa692faf307c00331", func := "pigeonhole/pigeonholelaw10.MergeMerges", spec := "mergeMerges", unfollowed := true, recurses := true, apart := false }
def MergeMergesSaid : Prop := mergeMergesRow.holds Try.pinned (OpenSpec.ofChange mergeMergesSpec)

/-- ITS FALSE NEIGHBOUR: 'it returns false'. Refute it at one input. -/
def mergeMergesWrong : ChangeSpec := { name := "mergeMerges", fn := fun _ => fun
  | [d] => { results := [.lit (.bool false)], args := [d] }
  | _ => none }
def MergeMergesWrongFalsely : Prop := mergeMergesRow.holds Try.pinned (OpenSpec.ofChange mergeMergesWrong)

/-- 'pigeonholelaw10.MergeBuilds': WHATEVER THE INPUT: true; the input reads as it did. -/
def mergeBuildsSpec : ChangeSpec := { name := "mergeBuilds", fn := fun _ => fun
  | [d1, d2] => { results := [.lit (.bool true)], args := [d1, d2] }
  | _ => none }
def mergeBuildsRow : OpenClaim := { program := "ytjibochjmmehcaa", sum := "570b01d61e7d7f4e64cbf8c4bba4b924e2f98e7b2f5d34cfa692faf307c00331", func := "pigeonhole/pigeonholelaw10.MergeBuilds", spec := "mergeBuilds", unfollowed := true, recurses := true, apart := false }
def MergeBuildsSaid : Prop := mergeBuildsRow.holds Try.pinned (OpenSpec.ofChange mergeBuildsSpec)

/-- ITS FALSE NEIGHBOUR: 'it returns false'. Refute it at one input. -/
def mergeBuildsWrong : ChangeSpec := { name := "mergeBuilds", fn := fun _ => fun
  | [d1, d2] => { results := [.lit (.bool false)], args := [d1, d2] }
  | _ => none }
def MergeBuildsWrongFalsely : Prop := mergeBuildsRow.holds Try.pinned (OpenSpec.ofChange mergeBuildsWrong)

/-- 'pigeonholelaw10.MergeEnds': WHATEVER THE INPUT: true; the input reads as it did. -/
def mergeEndsSpec : ChangeSpec := { name := "mergeEnds", fn := fun _ => fun
  | [d] => { results := [.lit (.bool true)], args := [d] }
  | _ => none }
def mergeEndsRow : OpenClaim := { program := "ytjibochjmmehcaa", sum := "570b01d61e7d7f4e64cbf8c4bba4b924e2f98e7b2f5d34cfa692faf307c00331", func := "pigeonhole/pigeonholelaw10.MergeEnds", spec := "mergeEnds", unfollowed := true, recurses := true, apart := false }
def MergeEndsSaid : Prop := mergeEndsRow.holds Try.pinned (OpenSpec.ofChange mergeEndsSpec)

/-- ITS FALSE NEIGHBOUR: 'it returns false'. Refute it at one input. -/
def mergeEndsWrong : ChangeSpec := { name := "mergeEnds", fn := fun _ => fun
  | [d] => { results := [.lit (.bool false)], args := [d] }
  | _ => none }
def MergeEndsWrongFalsely : Prop := mergeEndsRow.holds Try.pinned (OpenSpec.ofChange mergeEndsWrong)

/-- 'pigeonholelaw10.MergeOrders': WHATEVER THE INPUT: true; the input reads as it did. -/
def mergeOrdersSpec : ChangeSpec := { name := "mergeOrders", fn := fun _ => fun
  | [d] => { results := [.lit (.bool true)], args := [d] }
  | _ => none }
def mergeOrdersRow : OpenClaim := { program := "ytjibochjmmehcaa", sum := "570b01d61e7d7f4e64cbf8c4bba4b924e2f98e7b2f5d34cfa692faf307c00331", func := "pigeonhole/pigeonholelaw10.MergeOrders", spec := "mergeOrders", unfollowed := true, recurses := true, apart := false }
def MergeOrdersSaid : Prop := mergeOrdersRow.holds Try.pinned (OpenSpec.ofChange mergeOrdersSpec)

/-- ITS FALSE NEIGHBOUR: 'it returns false'. Refute it at one input. -/
def mergeOrdersWrong : ChangeSpec := { name := "mergeOrders", fn := fun _ => fun
  | [d] => { results := [.lit (.bool false)], args := [d] }
  | _ => none }
def MergeOrdersWrongFalsely : Prop := mergeOrdersRow.holds Try.pinned (OpenSpec.ofChange mergeOrdersWrong)

/-- 'pigeonholelaw10.MergeParts': WHATEVER THE INPUT: true; the input reads as it did. -/
def mergePartsSpec : ChangeSpec := { name := "mergeParts", fn := fun _ => fun
  | [d] => { results := [.lit (.bool true)], args := [d] }
  | _ => none }
def mergePartsRow : OpenClaim := { program := "ytjibochjmmehcaa", sum := "570b01d61e7d7f4e64cbf8c4bba4b924e2f98e7b2f5d34cfa692faf307c00331", func := "pigeonhole/pigeonholelaw10.MergeParts", spec := "mergeParts", unfollowed := true, recurses := true, apart := false }
def MergePartsSaid : Prop := mergePartsRow.holds Try.pinned (OpenSpec.ofChange mergePartsSpec)

/-- ITS FALSE NEIGHBOUR: 'it returns false'. Refute it at one input. -/
def mergePartsWrong : ChangeSpec := { name := "mergeParts", fn := fun _ => fun
  | [d] => { results := [.lit (.bool false)], args := [d] }
  | _ => none }
def MergePartsWrongFalsely : Prop := mergePartsRow.holds Try.pinned (OpenSpec.ofChange mergePartsWrong)

/-- 'pigeonholelaw10.MergeTells': WHATEVER THE INPUT: true; the input reads as it did. -/
def mergeTellsSpec : ChangeSpec := { name := "mergeTells", fn := fun _ => fun
  | [d1, d2] => { results := [.lit (.bool true)], args := [d1, d2] }
  | _ => none }
def mergeTellsRow : OpenClaim := { program := "ytjibochjmmehcaa", sum := "570b01d61e7d7f4e64cbf8c4bba4b924e2f98e7b2f5d34cfa692faf307c00331", func := "pigeonhole/pigeonholelaw10.MergeTells", spec := "mergeTells", unfollowed := true, recurses := true, apart := false }
def MergeTellsSaid : Prop := mergeTellsRow.holds Try.pinned (OpenSpec.ofChange mergeTellsSpec)

/-- ITS FALSE NEIGHBOUR: 'it returns false'. Refute it at one input. -/
def mergeTellsWrong : ChangeSpec := { name := "mergeTells", fn := fun _ => fun
  | [d1, d2] => { results := [.lit (.bool false)], args := [d1, d2] }
  | _ => none }
def MergeTellsWrongFalsely : Prop := mergeTellsRow.holds Try.pinned (OpenSpec.ofChange mergeTellsWrong)

/-- 'pigeonholelaw10.MergeSays': WHATEVER THE INPUT: true; the input reads as it did. -/
def mergeSaysSpec : ChangeSpec := { name := "mergeSays", fn := fun _ => fun
  | [d1, d2] => { results := [.lit (.bool true)], args := [d1, d2] }
  | _ => none }
def mergeSaysRow : OpenClaim := { program := "ytjibochjmmehcaa", sum := "570b01d61e7d7f4e64cbf8c4bba4b924e2f98e7b2f5d34cfa692faf307c00331", func := "pigeonhole/pigeonholelaw10.MergeSays", spec := "mergeSays", unfollowed := true, recurses := true, apart := false }
def MergeSaysSaid : Prop := mergeSaysRow.holds Try.pinned (OpenSpec.ofChange mergeSaysSpec)

/-- ITS FALSE NEIGHBOUR: 'it returns false'. Refute it at one input. -/
def mergeSaysWrong : ChangeSpec := { name := "mergeSays", fn := fun _ => fun
  | [d1, d2] => { results := [.lit (.bool false)], args := [d1, d2] }
  | _ => none }
def MergeSaysWrongFalsely : Prop := mergeSaysRow.holds Try.pinned (OpenSpec.ofChange mergeSaysWrong)

/- THE SECOND FORM. 'bulk': how many values and letters a reading holds, each counted each time it is reached (what is shared counts as often as it is met; a slice's spare places count too). A statement '..UptoSaid' is the law's where the arguments, and the package variables that the reading takes, are together of bulk at most 1048576: NARROWER than '..Said'. Prove '..Said' where nothing that the law and all that it calls make is longer than what came in: it says more and counts as full. Else prove '..UptoSaid'. A law counts once. -/
mutual
def uptoBulk {H : Type} : DataW H → Nat
  | .lit (.string bytes) => bytes.length + 1
  | .lit _ => 1
  | .nil => 1
  | .ptr d => uptoBulk d + 1
  | .slice elems spare => uptoBulkAll elems + uptoBulkAll spare + 1
  | .agg parts => uptoBulkAll parts + 1
  | .iface _ d => uptoBulk d + 1
  | .map entries => uptoBulkEntries entries + 1
  | .held _ => 1
def uptoBulkAll {H : Type} : List (DataW H) → Nat
  | [] => 0
  | d :: r => uptoBulk d + uptoBulkAll r
def uptoBulkEntries {H : Type} : List (Lit × DataW H) → Nat
  | [] => 0
  | x :: r => uptoBulkEntry x + uptoBulkEntries r
def uptoBulkEntry {H : Type} : Lit × DataW H → Nat
  | (.string bytes, d) => bytes.length + uptoBulk d + 1
  | (_, d) => uptoBulk d + 1
 end
def uptoSmall : (H : Type) → List (DataW H) → Bool := fun _ ds => decide (uptoBulkAll ds ≤ 1048576)
def OpenSpec.upto (s : _root_.Go.ChangeSpec) : _root_.Go.OpenSpec := { _root_.Go.OpenSpec.ofChange s with cond := some uptoSmall }

/-- 'pigeonholelaw10.MergeMerges', WHERE WHAT IT READS IS OF BULK AT MOST 1048576: true; the input reads as it did. -/
def mergeMergesUptoRow : OpenClaim := { program := "ytjibochjmmehcaa", sum := "570b01d61e7d7f4e64cbf8c4bba4b924e2f98e7b2f5d34cfa692faf307c00331", func := "pigeonhole/pigeonholelaw10.MergeMerges", spec := "mergeMerges", unfollowed := true, recurses := true, apart := false, narrowed := true }
def MergeMergesUptoSaid : Prop := mergeMergesUptoRow.holds Try.pinned (OpenSpec.upto mergeMergesSpec)

/-- 'pigeonholelaw10.MergeBuilds', WHERE WHAT IT READS IS OF BULK AT MOST 1048576: true; the input reads as it did. -/
def mergeBuildsUptoRow : OpenClaim := { program := "ytjibochjmmehcaa", sum := "570b01d61e7d7f4e64cbf8c4bba4b924e2f98e7b2f5d34cfa692faf307c00331", func := "pigeonhole/pigeonholelaw10.MergeBuilds", spec := "mergeBuilds", unfollowed := true, recurses := true, apart := false, narrowed := true }
def MergeBuildsUptoSaid : Prop := mergeBuildsUptoRow.holds Try.pinned (OpenSpec.upto mergeBuildsSpec)

/-- 'pigeonholelaw10.MergeEnds', WHERE WHAT IT READS IS OF BULK AT MOST 1048576: true; the input reads as it did. -/
def mergeEndsUptoRow : OpenClaim := { program := "ytjibochjmmehcaa", sum := "570b01d61e7d7f4e64cbf8c4bba4b924e2f98e7b2f5d34cfa692faf307c00331", func := "pigeonhole/pigeonholelaw10.MergeEnds", spec := "mergeEnds", unfollowed := true, recurses := true, apart := false, narrowed := true }
def MergeEndsUptoSaid : Prop := mergeEndsUptoRow.holds Try.pinned (OpenSpec.upto mergeEndsSpec)

/-- 'pigeonholelaw10.MergeOrders', WHERE WHAT IT READS IS OF BULK AT MOST 1048576: true; the input reads as it did. -/
def mergeOrdersUptoRow : OpenClaim := { program := "ytjibochjmmehcaa", sum := "570b01d61e7d7f4e64cbf8c4bba4b924e2f98e7b2f5d34cfa692faf307c00331", func := "pigeonhole/pigeonholelaw10.MergeOrders", spec := "mergeOrders", unfollowed := true, recurses := true, apart := false, narrowed := true }
def MergeOrdersUptoSaid : Prop := mergeOrdersUptoRow.holds Try.pinned (OpenSpec.upto mergeOrdersSpec)

/-- 'pigeonholelaw10.MergeParts', WHERE WHAT IT READS IS OF BULK AT MOST 1048576: true; the input reads as it did. -/
def mergePartsUptoRow : OpenClaim := { program := "ytjibochjmmehcaa", sum := "570b01d61e7d7f4e64cbf8c4bba4b924e2f98e7b2f5d34cfa692faf307c00331", func := "pigeonhole/pigeonholelaw10.MergeParts", spec := "mergeParts", unfollowed := true, recurses := true, apart := false, narrowed := true }
def MergePartsUptoSaid : Prop := mergePartsUptoRow.holds Try.pinned (OpenSpec.upto mergePartsSpec)

/-- 'pigeonholelaw10.MergeTells', WHERE WHAT IT READS IS OF BULK AT MOST 1048576: true; the input reads as it did. -/
def mergeTellsUptoRow : OpenClaim := { program := "ytjibochjmmehcaa", sum := "570b01d61e7d7f4e64cbf8c4bba4b924e2f98e7b2f5d34cfa692faf307c00331", func := "pigeonhole/pigeonholelaw10.MergeTells", spec := "mergeTells", unfollowed := true, recurses := true, apart := false, narrowed := true }
def MergeTellsUptoSaid : Prop := mergeTellsUptoRow.holds Try.pinned (OpenSpec.upto mergeTellsSpec)

/-- 'pigeonholelaw10.MergeSays', WHERE WHAT IT READS IS OF BULK AT MOST 1048576: true; the input reads as it did. -/
def mergeSaysUptoRow : OpenClaim := { program := "ytjibochjmmehcaa", sum := "570b01d61e7d7f4e64cbf8c4bba4b924e2f98e7b2f5d34cfa692faf307c00331", func := "pigeonhole/pigeonholelaw10.MergeSays", spec := "mergeSays", unfollowed := true, recurses := true, apart := false, narrowed := true }
def MergeSaysUptoSaid : Prop := mergeSaysUptoRow.holds Try.pinned (OpenSpec.upto mergeSaysSpec)

end Rows
end Go.Proofs.Ytjibochjmmehcaa
