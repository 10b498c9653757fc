/-
  No cell of these rows narrows 'for every input' (looked for: loops, veiled, ifaces, maps, wideKeys, modest, calm, conditions, laid).
  DERIVED. THE GIVEN ROWS OF THIS SEAT. 8 by the template 'for every input the law returns true; each argument reads behind the call as it read before'; 0 by the template 'total and deterministic' (their statements: YtjgjohonbjmakaaTotals.lean).
  GIVEN WITH THE SEED: the statements are not yours to turn. If you find one false, say at which input.
  Laid BY PROGRAM, IN A SANDBOX (cutbox-rows.mjs): the forced cells as the released guide's own fill.sh prints them over the translation e5d38a3c87da67b7… (all of the seat's roots in one cut). By AI agents, Wed Nov 11 2026. No macro, syntax, notation, axiom, sorry.
-/
import Derived.Test.YtjgjohonbjmakaaChecked
import GoSem.Claim
import GoSem.ClaimJoined
import GoSem.ClaimMapViews
import Derived.JoinedTies
import Derived.KernelRfl
namespace Go.Proofs.Ytjgjohonbjmakaa
/- THE CELL 'sum', in the pinned program and in every row, IS THE sha256 OF THE DUMP (.gsa) THAT YtjgjohonbjmakaaProg.lean LOADS. Nothing in Lean hashes anything: it is a label: what it is worth is what the hold of that sum in a sandbox is worth. -/
noncomputable def Try.pinned : Pinned := { name := "ytjgjohonbjmakaa", sum := "e5d38a3c87da67b72d303cabb8b182a90697b9b3bbffb19f43d0abdabb58aa81", checked := Try.checked }
namespace Rows
def none {H : Type} : Left H := { results := [], args := [] }

/-- 'pigeonholelaw05.EntryAppends': WHATEVER THE INPUT: true; the input reads as it did. -/
def entryAppendsSpec : ChangeSpec := { name := "entryAppends", fn := fun _ => fun
  | [d1, d2, d3] => { results := [.lit (.bool true)], args := [d1, d2, d3] }
  | _ => none }
def entryAppendsRow : OpenClaim := { program := "ytjgjohonbjmakaa", sum := "e5d38a3c87da67b72d303cabb8b182a90697b9b3bbffb19f43d0abdabb58aa81", func := "pigeonhole/pigeonholelaw05.EntryAppends", spec := "entryAppends", unfollowed := true, recurses := true, apart := false }
def EntryAppendsSaid : Prop := entryAppendsRow.holds Try.pinned (OpenSpec.ofChange entryAppendsSpec)

/-- ITS FALSE NEIGHBOUR: 'it returns false'. Refute it at one input. -/
def entryAppendsWrong : ChangeSpec := { name := "entryAppends", fn := fun _ => fun
  | [d1, d2, d3] => { results := [.lit (.bool false)], args := [d1, d2, d3] }
  | _ => none }
def EntryAppendsWrongFalsely : Prop := entryAppendsRow.holds Try.pinned (OpenSpec.ofChange entryAppendsWrong)

/-- 'pigeonholelaw05.EntryRight': WHATEVER THE INPUT: true; the input reads as it did. -/
def entryRightSpec : ChangeSpec := { name := "entryRight", fn := fun _ => fun
  | [d1, d2, d3, d4] => { results := [.lit (.bool true)], args := [d1, d2, d3, d4] }
  | _ => none }
def entryRightRow : OpenClaim := { program := "ytjgjohonbjmakaa", sum := "e5d38a3c87da67b72d303cabb8b182a90697b9b3bbffb19f43d0abdabb58aa81", func := "pigeonhole/pigeonholelaw05.EntryRight", spec := "entryRight", unfollowed := true, recurses := true, apart := false }
def EntryRightSaid : Prop := entryRightRow.holds Try.pinned (OpenSpec.ofChange entryRightSpec)

/-- ITS FALSE NEIGHBOUR: 'it returns false'. Refute it at one input. -/
def entryRightWrong : ChangeSpec := { name := "entryRight", fn := fun _ => fun
  | [d1, d2, d3, d4] => { results := [.lit (.bool false)], args := [d1, d2, d3, d4] }
  | _ => none }
def EntryRightWrongFalsely : Prop := entryRightRow.holds Try.pinned (OpenSpec.ofChange entryRightWrong)

/-- 'pigeonholelaw05.EntryFinds': WHATEVER THE INPUT: true; the input reads as it did. -/
def entryFindsSpec : ChangeSpec := { name := "entryFinds", fn := fun _ => fun
  | [d1, d2] => { results := [.lit (.bool true)], args := [d1, d2] }
  | _ => none }
def entryFindsRow : OpenClaim := { program := "ytjgjohonbjmakaa", sum := "e5d38a3c87da67b72d303cabb8b182a90697b9b3bbffb19f43d0abdabb58aa81", func := "pigeonhole/pigeonholelaw05.EntryFinds", spec := "entryFinds", unfollowed := true, recurses := true, apart := false }
def EntryFindsSaid : Prop := entryFindsRow.holds Try.pinned (OpenSpec.ofChange entryFindsSpec)

/-- ITS FALSE NEIGHBOUR: 'it returns false'. Refute it at one input. -/
def entryFindsWrong : ChangeSpec := { name := "entryFinds", fn := fun _ => fun
  | [d1, d2] => { results := [.lit (.bool false)], args := [d1, d2] }
  | _ => none }
def EntryFindsWrongFalsely : Prop := entryFindsRow.holds Try.pinned (OpenSpec.ofChange entryFindsWrong)

/-- 'pigeonholelaw05.EntryOrdered': WHATEVER THE INPUT: true; the input reads as it did. -/
def entryOrderedSpec : ChangeSpec := { name := "entryOrdered", fn := fun _ => fun
  | [d1, d2] => { results := [.lit (.bool true)], args := [d1, d2] }
  | _ => none }
def entryOrderedRow : OpenClaim := { program := "ytjgjohonbjmakaa", sum := "e5d38a3c87da67b72d303cabb8b182a90697b9b3bbffb19f43d0abdabb58aa81", func := "pigeonhole/pigeonholelaw05.EntryOrdered", spec := "entryOrdered", unfollowed := true, recurses := true, apart := false }
def EntryOrderedSaid : Prop := entryOrderedRow.holds Try.pinned (OpenSpec.ofChange entryOrderedSpec)

/-- ITS FALSE NEIGHBOUR: 'it returns false'. Refute it at one input. -/
def entryOrderedWrong : ChangeSpec := { name := "entryOrdered", fn := fun _ => fun
  | [d1, d2] => { results := [.lit (.bool false)], args := [d1, d2] }
  | _ => none }
def EntryOrderedWrongFalsely : Prop := entryOrderedRow.holds Try.pinned (OpenSpec.ofChange entryOrderedWrong)

/-- 'pigeonholelaw05.EntryCompares': WHATEVER THE INPUT: true; the input reads as it did. -/
def entryComparesSpec : ChangeSpec := { name := "entryCompares", fn := fun _ => fun
  | [d1, d2, d3] => { results := [.lit (.bool true)], args := [d1, d2, d3] }
  | _ => none }
def entryComparesRow : OpenClaim := { program := "ytjgjohonbjmakaa", sum := "e5d38a3c87da67b72d303cabb8b182a90697b9b3bbffb19f43d0abdabb58aa81", func := "pigeonhole/pigeonholelaw05.EntryCompares", spec := "entryCompares", unfollowed := true, recurses := true, apart := false }
def EntryComparesSaid : Prop := entryComparesRow.holds Try.pinned (OpenSpec.ofChange entryComparesSpec)

/-- ITS FALSE NEIGHBOUR: 'it returns false'. Refute it at one input. -/
def entryComparesWrong : ChangeSpec := { name := "entryCompares", fn := fun _ => fun
  | [d1, d2, d3] => { results := [.lit (.bool false)], args := [d1, d2, d3] }
  | _ => none }
def EntryComparesWrongFalsely : Prop := entryComparesRow.holds Try.pinned (OpenSpec.ofChange entryComparesWrong)

/-- 'pigeonholelaw05.EntrySorts': WHATEVER THE INPUT: true; the input reads as it did. -/
def entrySortsSpec : ChangeSpec := { name := "entrySorts", fn := fun _ => fun
  | [d] => { results := [.lit (.bool true)], args := [d] }
  | _ => none }
def entrySortsRow : OpenClaim := { program := "ytjgjohonbjmakaa", sum := "e5d38a3c87da67b72d303cabb8b182a90697b9b3bbffb19f43d0abdabb58aa81", func := "pigeonhole/pigeonholelaw05.EntrySorts", spec := "entrySorts", unfollowed := true, recurses := true, apart := false }
def EntrySortsSaid : Prop := entrySortsRow.holds Try.pinned (OpenSpec.ofChange entrySortsSpec)

/-- ITS FALSE NEIGHBOUR: 'it returns false'. Refute it at one input. -/
def entrySortsWrong : ChangeSpec := { name := "entrySorts", fn := fun _ => fun
  | [d] => { results := [.lit (.bool false)], args := [d] }
  | _ => none }
def EntrySortsWrongFalsely : Prop := entrySortsRow.holds Try.pinned (OpenSpec.ofChange entrySortsWrong)

/-- 'pigeonholelaw05.EntryTells': WHATEVER THE INPUT: true; the input reads as it did. -/
def entryTellsSpec : ChangeSpec := { name := "entryTells", fn := fun _ => fun
  | [d1, d2] => { results := [.lit (.bool true)], args := [d1, d2] }
  | _ => none }
def entryTellsRow : OpenClaim := { program := "ytjgjohonbjmakaa", sum := "e5d38a3c87da67b72d303cabb8b182a90697b9b3bbffb19f43d0abdabb58aa81", func := "pigeonhole/pigeonholelaw05.EntryTells", spec := "entryTells", unfollowed := true, recurses := true, apart := false }
def EntryTellsSaid : Prop := entryTellsRow.holds Try.pinned (OpenSpec.ofChange entryTellsSpec)

/-- ITS FALSE NEIGHBOUR: 'it returns false'. Refute it at one input. -/
def entryTellsWrong : ChangeSpec := { name := "entryTells", fn := fun _ => fun
  | [d1, d2] => { results := [.lit (.bool false)], args := [d1, d2] }
  | _ => none }
def EntryTellsWrongFalsely : Prop := entryTellsRow.holds Try.pinned (OpenSpec.ofChange entryTellsWrong)

/-- 'pigeonholelaw05.EntryChain': WHATEVER THE INPUT: true; the input reads as it did. -/
def entryChainSpec : ChangeSpec := { name := "entryChain", fn := fun _ => fun
  | [d1, d2, d3] => { results := [.lit (.bool true)], args := [d1, d2, d3] }
  | _ => none }
def entryChainRow : OpenClaim := { program := "ytjgjohonbjmakaa", sum := "e5d38a3c87da67b72d303cabb8b182a90697b9b3bbffb19f43d0abdabb58aa81", func := "pigeonhole/pigeonholelaw05.EntryChain", spec := "entryChain", unfollowed := true, recurses := true, apart := false }
def EntryChainSaid : Prop := entryChainRow.holds Try.pinned (OpenSpec.ofChange entryChainSpec)

/-- ITS FALSE NEIGHBOUR: 'it returns false'. Refute it at one input. -/
def entryChainWrong : ChangeSpec := { name := "entryChain", fn := fun _ => fun
  | [d1, d2, d3] => { results := [.lit (.bool false)], args := [d1, d2, d3] }
  | _ => none }
def EntryChainWrongFalsely : Prop := entryChainRow.holds Try.pinned (OpenSpec.ofChange entryChainWrong)

/- THE SECOND FORM. 'bulk': how many values and letters a reading holds, each counted each time it is reached (what is shared counts as often as it is met; a slice's spare places count too). A statement '..UptoSaid' is the law's where the arguments, and the package variables that the reading takes, are together of bulk at most 1048576: NARROWER than '..Said'. Prove '..Said' where nothing that the law and all that it calls make is longer than what came in: it says more and counts as full. Else prove '..UptoSaid'. A law counts once. -/
mutual
def uptoBulk {H : Type} : DataW H → Nat
  | .lit (.string bytes) => bytes.length + 1
  | .lit _ => 1
  | .nil => 1
  | .ptr d => uptoBulk d + 1
  | .slice elems spare => uptoBulkAll elems + uptoBulkAll spare + 1
  | .agg parts => uptoBulkAll parts + 1
  | .iface _ d => uptoBulk d + 1
  | .map entries => uptoBulkEntries entries + 1
  | .held _ => 1
def uptoBulkAll {H : Type} : List (DataW H) → Nat
  | [] => 0
  | d :: r => uptoBulk d + uptoBulkAll r
def uptoBulkEntries {H : Type} : List (Lit × DataW H) → Nat
  | [] => 0
  | x :: r => uptoBulkEntry x + uptoBulkEntries r
def uptoBulkEntry {H : Type} : Lit × DataW H → Nat
  | (.string bytes, d) => bytes.length + uptoBulk d + 1
  | (_, d) => uptoBulk d + 1
 end
def uptoSmall : (H : Type) → List (DataW H) → Bool := fun _ ds => decide (uptoBulkAll ds ≤ 1048576)
def OpenSpec.upto (s : _root_.Go.ChangeSpec) : _root_.Go.OpenSpec := { _root_.Go.OpenSpec.ofChange s with cond := some uptoSmall }

/-- 'pigeonholelaw05.EntryAppends', WHERE WHAT IT READS IS OF BULK AT MOST 1048576: true; the input reads as it did. -/
def entryAppendsUptoRow : OpenClaim := { program := "ytjgjohonbjmakaa", sum := "e5d38a3c87da67b72d303cabb8b182a90697b9b3bbffb19f43d0abdabb58aa81", func := "pigeonhole/pigeonholelaw05.EntryAppends", spec := "entryAppends", unfollowed := true, recurses := true, apart := false, narrowed := true }
def EntryAppendsUptoSaid : Prop := entryAppendsUptoRow.holds Try.pinned (OpenSpec.upto entryAppendsSpec)

/-- 'pigeonholelaw05.EntryRight', WHERE WHAT IT READS IS OF BULK AT MOST 1048576: true; the input reads as it did. -/
def entryRightUptoRow : OpenClaim := { program := "ytjgjohonbjmakaa", sum := "e5d38a3c87da67b72d303cabb8b182a90697b9b3bbffb19f43d0abdabb58aa81", func := "pigeonhole/pigeonholelaw05.EntryRight", spec := "entryRight", unfollowed := true, recurses := true, apart := false, narrowed := true }
def EntryRightUptoSaid : Prop := entryRightUptoRow.holds Try.pinned (OpenSpec.upto entryRightSpec)

/-- 'pigeonholelaw05.EntryFinds', WHERE WHAT IT READS IS OF BULK AT MOST 1048576: true; the input reads as it did. -/
def entryFindsUptoRow : OpenClaim := { program := "ytjgjohonbjmakaa", sum := "e5d38a3c87da67b72d303cabb8b182a90697b9b3bbffb19f43d0abdabb58aa81", func := "pigeonhole/pigeonholelaw05.EntryFinds", spec := "entryFinds", unfollowed := true, recurses := true, apart := false, narrowed := true }
def EntryFindsUptoSaid : Prop := entryFindsUptoRow.holds Try.pinned (OpenSpec.upto entryFindsSpec)

/-- 'pigeonholelaw05.EntryOrdered', WHERE WHAT IT READS IS OF BULK AT MOST 1048576: true; the input reads as it did. -/
def entryOrderedUptoRow : OpenClaim := { program := "ytjgjohonbjmakaa", sum := "e5d38a3c87da67b72d303cabb8b182a90697b9b3bbffb19f43d0abdabb58aa81", func := "pigeonhole/pigeonholelaw05.EntryOrdered", spec := "entryOrdered", unfollowed := true, recurses := true, apart := false, narrowed := true }
def EntryOrderedUptoSaid : Prop := entryOrderedUptoRow.holds Try.pinned (OpenSpec.upto entryOrderedSpec)

/-- 'pigeonholelaw05.EntryCompares', WHERE WHAT IT READS IS OF BULK AT MOST 1048576: true; the input reads as it did. -/
def entryComparesUptoRow : OpenClaim := { program := "ytjgjohonbjmakaa", sum := "e5d38a3c87da67b72d303cabb8b182a90697b9b3bbffb19f43d0abdabb58aa81", func := "pigeonhole/pigeonholelaw05.EntryCompares", spec := "entryCompares", unfollowed := true, recurses := true, apart := false, narrowed := true }
def EntryComparesUptoSaid : Prop := entryComparesUptoRow.holds Try.pinned (OpenSpec.upto entryComparesSpec)

/-- 'pigeonholelaw05.EntrySorts', WHERE WHAT IT READS IS OF BULK AT MOST 1048576: true; the input reads as it did. -/
def entrySortsUptoRow : OpenClaim := { program := "ytjgjohonbjmakaa", sum := "e5d38a3c87da67b72d303cabb8b182a90697b9b3bbffb19f43d0abdabb58aa81", func := "pigeonhole/pigeonholelaw05.EntrySorts", spec := "entrySorts", unfollowed := true, recurses := true, apart := false, narrowed := true }
def EntrySortsUptoSaid : Prop := entrySortsUptoRow.holds Try.pinned (OpenSpec.upto entrySortsSpec)

/-- 'pigeonholelaw05.EntryTells', WHERE WHAT IT READS IS OF BULK AT MOST 1048576: true; the input reads as it did. -/
def entryTellsUptoRow : OpenClaim := { program := "ytjgjohonbjmakaa", sum := "e5d38a3c87da67b72d303cabb8b182a90697b9b3bbffb19f43d0abdabb58aa81", func := "pigeonhole/pigeonholelaw05.EntryTells", spec := "entryTells", unfollowed := true, recurses := true, apart := false, narrowed := true }
def EntryTellsUptoSaid : Prop := entryTellsUptoRow.holds Try.pinned (OpenSpec.upto entryTellsSpec)

/-- 'pigeonholelaw05.EntryChain', WHERE WHAT IT READS IS OF BULK AT MOST 1048576: true; the input reads as it did. -/
def entryChainUptoRow : OpenClaim := { program := "ytjgjohonbjmakaa", sum := "e5d38a3c87da67b72d303cabb8b182a90697b9b3bbffb19f43d0abdabb58aa81", func := "pigeonhole/pigeonholelaw05.EntryChain", spec := "entryChain", unfollowed := true, recurses := true, apart := false, narrowed := true }
def EntryChainUptoSaid : Prop := entryChainUptoRow.holds Try.pinned (OpenSpec.upto entryChainSpec)

end Rows
end Go.Proofs.Ytjgjohonbjmakaa
