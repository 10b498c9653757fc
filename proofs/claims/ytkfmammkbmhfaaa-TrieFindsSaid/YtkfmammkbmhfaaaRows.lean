/-
  No cell of these rows narrows 'for every input' (looked for: loops, veiled, ifaces, maps, wideKeys, modest, calm, conditions, laid).
  DERIVED. THE GIVEN ROWS OF THIS SEAT. 6 by the template 'for every input the law returns true; each argument reads behind the call as it read before'; 0 by the template 'total and deterministic' (their statements: YtkfmammkbmhfaaaTotals.lean).
  GIVEN WITH THE SEED: the statements are not yours to turn. If you find one false, say at which input.
  Laid BY PROGRAM, IN A SANDBOX (cutbox-rows.mjs): the forced cells as the released guide's own fill.sh prints them over the translation 3d994a99a5bfc684… (all of the seat's roots in one cut). By AI agents, Wed Nov 11 2026. No macro, syntax, notation, axiom, sorry.
-/
import Derived.Test.YtkfmammkbmhfaaaChecked
import GoSem.Claim
import GoSem.ClaimJoined
import GoSem.ClaimMapViews
import Derived.JoinedTies
import Derived.KernelRfl
namespace Go.Proofs.Ytkfmammkbmhfaaa
/- THE CELL 'sum', in the pinned program and in every row, IS THE sha256 OF THE DUMP (.gsa) THAT YtkfmammkbmhfaaaProg.lean LOADS. Nothing in Lean hashes anything: it is a label: what it is worth is what the hold of that sum in a sandbox is worth. -/
noncomputable def Try.pinned : Pinned := { name := "ytkfmammkbmhfaaa", sum := "3d994a99a5bfc684763a5dc704b5b5316c35ee465ec9fb2d80201963c2fa9840", checked := Try.checked }
namespace Rows
def none {H : Type} : Left H := { results := [], args := [] }

/-- 'pigeonholelaw07.TrieFull': WHATEVER THE INPUT: true; the input reads as it did. -/
def trieFullSpec : ChangeSpec := { name := "trieFull", fn := fun _ => fun
  | [d1, d2] => { results := [.lit (.bool true)], args := [d1, d2] }
  | _ => none }
def trieFullRow : OpenClaim := { program := "ytkfmammkbmhfaaa", sum := "3d994a99a5bfc684763a5dc704b5b5316c35ee465ec9fb2d80201963c2fa9840", func := "pigeonhole/pigeonholelaw07.TrieFull", spec := "trieFull", apart := false }
def TrieFullSaid : Prop := trieFullRow.holds Try.pinned (OpenSpec.ofChange trieFullSpec)

/-- ITS FALSE NEIGHBOUR: 'it returns false'. Refute it at one input. -/
def trieFullWrong : ChangeSpec := { name := "trieFull", fn := fun _ => fun
  | [d1, d2] => { results := [.lit (.bool false)], args := [d1, d2] }
  | _ => none }
def TrieFullWrongFalsely : Prop := trieFullRow.holds Try.pinned (OpenSpec.ofChange trieFullWrong)

/-- 'pigeonholelaw07.TrieFinds': WHATEVER THE INPUT: true; the input reads as it did. -/
def trieFindsSpec : ChangeSpec := { name := "trieFinds", fn := fun _ => fun
  | [d1, d2, d3, d4] => { results := [.lit (.bool true)], args := [d1, d2, d3, d4] }
  | _ => none }
def trieFindsRow : OpenClaim := { program := "ytkfmammkbmhfaaa", sum := "3d994a99a5bfc684763a5dc704b5b5316c35ee465ec9fb2d80201963c2fa9840", func := "pigeonhole/pigeonholelaw07.TrieFinds", spec := "trieFinds", apart := false }
def TrieFindsSaid : Prop := trieFindsRow.holds Try.pinned (OpenSpec.ofChange trieFindsSpec)

/-- ITS FALSE NEIGHBOUR: 'it returns false'. Refute it at one input. -/
def trieFindsWrong : ChangeSpec := { name := "trieFinds", fn := fun _ => fun
  | [d1, d2, d3, d4] => { results := [.lit (.bool false)], args := [d1, d2, d3, d4] }
  | _ => none }
def TrieFindsWrongFalsely : Prop := trieFindsRow.holds Try.pinned (OpenSpec.ofChange trieFindsWrong)

/-- 'pigeonholelaw07.TrieOrders': WHATEVER THE INPUT: true; the input reads as it did. -/
def trieOrdersSpec : ChangeSpec := { name := "trieOrders", fn := fun _ => fun
  | [d1, d2, d3] => { results := [.lit (.bool true)], args := [d1, d2, d3] }
  | _ => none }
def trieOrdersRow : OpenClaim := { program := "ytkfmammkbmhfaaa", sum := "3d994a99a5bfc684763a5dc704b5b5316c35ee465ec9fb2d80201963c2fa9840", func := "pigeonhole/pigeonholelaw07.TrieOrders", spec := "trieOrders", unfollowed := true, recurses := true, apart := false }
def TrieOrdersSaid : Prop := trieOrdersRow.holds Try.pinned (OpenSpec.ofChange trieOrdersSpec)

/-- ITS FALSE NEIGHBOUR: 'it returns false'. Refute it at one input. -/
def trieOrdersWrong : ChangeSpec := { name := "trieOrders", fn := fun _ => fun
  | [d1, d2, d3] => { results := [.lit (.bool false)], args := [d1, d2, d3] }
  | _ => none }
def TrieOrdersWrongFalsely : Prop := trieOrdersRow.holds Try.pinned (OpenSpec.ofChange trieOrdersWrong)

/-- 'pigeonholelaw07.TrieWalks': WHATEVER THE INPUT: true; the input reads as it did. -/
def trieWalksSpec : ChangeSpec := { name := "trieWalks", fn := fun _ => fun
  | [d1, d2, d3, d4] => { results := [.lit (.bool true)], args := [d1, d2, d3, d4] }
  | _ => none }
def trieWalksRow : OpenClaim := { program := "ytkfmammkbmhfaaa", sum := "3d994a99a5bfc684763a5dc704b5b5316c35ee465ec9fb2d80201963c2fa9840", func := "pigeonhole/pigeonholelaw07.TrieWalks", spec := "trieWalks", unfollowed := true, recurses := true, apart := false }
def TrieWalksSaid : Prop := trieWalksRow.holds Try.pinned (OpenSpec.ofChange trieWalksSpec)

/-- ITS FALSE NEIGHBOUR: 'it returns false'. Refute it at one input. -/
def trieWalksWrong : ChangeSpec := { name := "trieWalks", fn := fun _ => fun
  | [d1, d2, d3, d4] => { results := [.lit (.bool false)], args := [d1, d2, d3, d4] }
  | _ => none }
def TrieWalksWrongFalsely : Prop := trieWalksRow.holds Try.pinned (OpenSpec.ofChange trieWalksWrong)

/-- 'pigeonholelaw07.TrieEmpties': WHATEVER THE INPUT: true; the input reads as it did. -/
def trieEmptiesSpec : ChangeSpec := { name := "trieEmpties", fn := fun _ => fun
  | [d1, d2, d3] => { results := [.lit (.bool true)], args := [d1, d2, d3] }
  | _ => none }
def trieEmptiesRow : OpenClaim := { program := "ytkfmammkbmhfaaa", sum := "3d994a99a5bfc684763a5dc704b5b5316c35ee465ec9fb2d80201963c2fa9840", func := "pigeonhole/pigeonholelaw07.TrieEmpties", spec := "trieEmpties", unfollowed := true, recurses := true, apart := false }
def TrieEmptiesSaid : Prop := trieEmptiesRow.holds Try.pinned (OpenSpec.ofChange trieEmptiesSpec)

/-- ITS FALSE NEIGHBOUR: 'it returns false'. Refute it at one input. -/
def trieEmptiesWrong : ChangeSpec := { name := "trieEmpties", fn := fun _ => fun
  | [d1, d2, d3] => { results := [.lit (.bool false)], args := [d1, d2, d3] }
  | _ => none }
def TrieEmptiesWrongFalsely : Prop := trieEmptiesRow.holds Try.pinned (OpenSpec.ofChange trieEmptiesWrong)

/-- 'pigeonholelaw07.TrieHolds': WHATEVER THE INPUT: true; the input reads as it did. -/
def trieHoldsSpec : ChangeSpec := { name := "trieHolds", fn := fun _ => fun
  | [d1, d2] => { results := [.lit (.bool true)], args := [d1, d2] }
  | _ => none }
def trieHoldsRow : OpenClaim := { program := "ytkfmammkbmhfaaa", sum := "3d994a99a5bfc684763a5dc704b5b5316c35ee465ec9fb2d80201963c2fa9840", func := "pigeonhole/pigeonholelaw07.TrieHolds", spec := "trieHolds", unfollowed := true, recurses := true, apart := false }
def TrieHoldsSaid : Prop := trieHoldsRow.holds Try.pinned (OpenSpec.ofChange trieHoldsSpec)

/-- ITS FALSE NEIGHBOUR: 'it returns false'. Refute it at one input. -/
def trieHoldsWrong : ChangeSpec := { name := "trieHolds", fn := fun _ => fun
  | [d1, d2] => { results := [.lit (.bool false)], args := [d1, d2] }
  | _ => none }
def TrieHoldsWrongFalsely : Prop := trieHoldsRow.holds Try.pinned (OpenSpec.ofChange trieHoldsWrong)

/- THE SECOND FORM. 'bulk': how many values and letters a reading holds, each counted each time it is reached (what is shared counts as often as it is met; a slice's spare places count too). A statement '..UptoSaid' is the law's where the arguments, and the package variables that the reading takes, are together of bulk at most 1048576: NARROWER than '..Said'. Prove '..Said' where nothing that the law and all that it calls make is longer than what came in: it says more and counts as full. Else prove '..UptoSaid'. A law counts once. -/
mutual
def uptoBulk {H : Type} : DataW H → Nat
  | .lit (.string bytes) => bytes.length + 1
  | .lit _ => 1
  | .nil => 1
  | .ptr d => uptoBulk d + 1
  | .slice elems spare => uptoBulkAll elems + uptoBulkAll spare + 1
  | .agg parts => uptoBulkAll parts + 1
  | .iface _ d => uptoBulk d + 1
  | .map entries => uptoBulkEntries entries + 1
  | .held _ => 1
def uptoBulkAll {H : Type} : List (DataW H) → Nat
  | [] => 0
  | d :: r => uptoBulk d + uptoBulkAll r
def uptoBulkEntries {H : Type} : List (Lit × DataW H) → Nat
  | [] => 0
  | x :: r => uptoBulkEntry x + uptoBulkEntries r
def uptoBulkEntry {H : Type} : Lit × DataW H → Nat
  | (.string bytes, d) => bytes.length + uptoBulk d + 1
  | (_, d) => uptoBulk d + 1
 end
def uptoSmall : (H : Type) → List (DataW H) → Bool := fun _ ds => decide (uptoBulkAll ds ≤ 1048576)
def OpenSpec.upto (s : _root_.Go.ChangeSpec) : _root_.Go.OpenSpec := { _root_.Go.OpenSpec.ofChange s with cond := some uptoSmall }

/-- 'pigeonholelaw07.TrieFull', WHERE WHAT IT READS IS OF BULK AT MOST 1048576: true; the input reads as it did. -/
def trieFullUptoRow : OpenClaim := { program := "ytkfmammkbmhfaaa", sum := "3d994a99a5bfc684763a5dc704b5b5316c35ee465ec9fb2d80201963c2fa9840", func := "pigeonhole/pigeonholelaw07.TrieFull", spec := "trieFull", apart := false, narrowed := true }
def TrieFullUptoSaid : Prop := trieFullUptoRow.holds Try.pinned (OpenSpec.upto trieFullSpec)

/-- 'pigeonholelaw07.TrieFinds', WHERE WHAT IT READS IS OF BULK AT MOST 1048576: true; the input reads as it did. -/
def trieFindsUptoRow : OpenClaim := { program := "ytkfmammkbmhfaaa", sum := "3d994a99a5bfc684763a5dc704b5b5316c35ee465ec9fb2d80201963c2fa9840", func := "pigeonhole/pigeonholelaw07.TrieFinds", spec := "trieFinds", apart := false, narrowed := true }
def TrieFindsUptoSaid : Prop := trieFindsUptoRow.holds Try.pinned (OpenSpec.upto trieFindsSpec)

/-- 'pigeonholelaw07.TrieOrders', WHERE WHAT IT READS IS OF BULK AT MOST 1048576: true; the input reads as it did. -/
def trieOrdersUptoRow : OpenClaim := { program := "ytkfmammkbmhfaaa", sum := "3d994a99a5bfc684763a5dc704b5b5316c35ee465ec9fb2d80201963c2fa9840", func := "pigeonhole/pigeonholelaw07.TrieOrders", spec := "trieOrders", unfollowed := true, recurses := true, apart := false, narrowed := true }
def TrieOrdersUptoSaid : Prop := trieOrdersUptoRow.holds Try.pinned (OpenSpec.upto trieOrdersSpec)

/-- 'pigeonholelaw07.TrieWalks', WHERE WHAT IT READS IS OF BULK AT MOST 1048576: true; the input reads as it did. -/
def trieWalksUptoRow : OpenClaim := { program := "ytkfmammkbmhfaaa", sum := "3d994a99a5bfc684763a5dc704b5b5316c35ee465ec9fb2d80201963c2fa9840", func := "pigeonhole/pigeonholelaw07.TrieWalks", spec := "trieWalks", unfollowed := true, recurses := true, apart := false, narrowed := true }
def TrieWalksUptoSaid : Prop := trieWalksUptoRow.holds Try.pinned (OpenSpec.upto trieWalksSpec)

/-- 'pigeonholelaw07.TrieEmpties', WHERE WHAT IT READS IS OF BULK AT MOST 1048576: true; the input reads as it did. -/
def trieEmptiesUptoRow : OpenClaim := { program := "ytkfmammkbmhfaaa", sum := "3d994a99a5bfc684763a5dc704b5b5316c35ee465ec9fb2d80201963c2fa9840", func := "pigeonhole/pigeonholelaw07.TrieEmpties", spec := "trieEmpties", unfollowed := true, recurses := true, apart := false, narrowed := true }
def TrieEmptiesUptoSaid : Prop := trieEmptiesUptoRow.holds Try.pinned (OpenSpec.upto trieEmptiesSpec)

/-- 'pigeonholelaw07.TrieHolds', WHERE WHAT IT READS IS OF BULK AT MOST 1048576: true; the input reads as it did. -/
def trieHoldsUptoRow : OpenClaim := { program := "ytkfmammkbmhfaaa", sum := "3d994a99a5bfc684763a5dc704b5b5316c35ee465ec9fb2d80201963c2fa9840", func := "pigeonhole/pigeonholelaw07.TrieHolds", spec := "trieHolds", unfollowed := true, recurses := true, apart := false, narrowed := true }
def TrieHoldsUptoSaid : Prop := trieHoldsUptoRow.holds Try.pinned (OpenSpec.upto trieHoldsSpec)

end Rows
end Go.Proofs.Ytkfmammkbmhfaaa
