/-
  No cell of these rows narrows 'for every input' (looked for: loops, veiled, ifaces, maps, wideKeys, modest, calm, conditions, laid).
  DERIVED. THE GIVEN ROWS OF THIS SEAT. 3 by the template 'for every input the law returns true; each argument reads behind the call as it read before'; 0 by the template 'total and deterministic' (their statements: YtjmnnkhdadoehaaGreatTotals.lean).
  GIVEN WITH THE SEED: the statements are not yours to turn. If you find one false, say at which input.
  Laid BY PROGRAM, IN A SANDBOX (cutbox-rows.mjs): the forced cells as the released guide's own fill.sh prints them over the translation 23ccd76936d6e942… (all of the seat's roots in one cut). By AI agents, Wed Nov 11 2026. No macro, syntax, notation, axiom, sorry.
-/
import Derived.Test.YtjmnnkhdadoehaaGreatChecked
import GoSem.Claim
import GoSem.ClaimJoined
import GoSem.ClaimMapViews
import Derived.JoinedTies
import Derived.KernelRfl
namespace Go.Proofs.YtjmnnkhdadoehaaGreat
/- THE CELL 'sum', in the pinned program and in every row, IS THE sha256 OF THE DUMP (.gsa) THAT YtjmnnkhdadoehaaGreatProg.lean LOADS. Nothing in Lean hashes anything: it is a label: what it is worth is what the hold of that sum in a sandbox is worth. -/
noncomputable def Tryz.pinned : Pinned := { name := "ytjmnnkhdadoehaagreat", sum := "23ccd76936d6e9420a5f3cf64385884b8a8026987abf59ca7faf1fcb2d912a71", checked := Tryz.checked }
namespace Rows
def none {H : Type} : Left H := { results := [], args := [] }

/-- 'pigeonholelaw14.PlanLaid': WHATEVER THE INPUT: true; the input reads as it did. -/
def planLaidSpec : ChangeSpec := { name := "planLaid", fn := fun _ => fun
  | [d1, d2, d3] => { results := [.lit (.bool true)], args := [d1, d2, d3] }
  | _ => none }
def planLaidRow : OpenClaim := { program := "ytjmnnkhdadoehaagreat", sum := "23ccd76936d6e9420a5f3cf64385884b8a8026987abf59ca7faf1fcb2d912a71", func := "pigeonhole/pigeonholelaw14.PlanLaid", spec := "planLaid", unfollowed := true, recurses := true, apart := false }
def PlanLaidSaid : Prop := planLaidRow.holds Tryz.pinned (OpenSpec.ofChange planLaidSpec)

/-- ITS FALSE NEIGHBOUR: 'it returns false'. Refute it at one input. -/
def planLaidWrong : ChangeSpec := { name := "planLaid", fn := fun _ => fun
  | [d1, d2, d3] => { results := [.lit (.bool false)], args := [d1, d2, d3] }
  | _ => none }
def PlanLaidWrongFalsely : Prop := planLaidRow.holds Tryz.pinned (OpenSpec.ofChange planLaidWrong)

/-- 'pigeonholelaw14.PlanTells': WHATEVER THE INPUT: true; the input reads as it did. -/
def planTellsSpec : ChangeSpec := { name := "planTells", fn := fun _ => fun
  | [d1, d2, d3, d4, d5, d6] => { results := [.lit (.bool true)], args := [d1, d2, d3, d4, d5, d6] }
  | _ => none }
def planTellsRow : OpenClaim := { program := "ytjmnnkhdadoehaagreat", sum := "23ccd76936d6e9420a5f3cf64385884b8a8026987abf59ca7faf1fcb2d912a71", func := "pigeonhole/pigeonholelaw14.PlanTells", spec := "planTells", unfollowed := true, recurses := true, apart := false }
def PlanTellsSaid : Prop := planTellsRow.holds Tryz.pinned (OpenSpec.ofChange planTellsSpec)

/-- ITS FALSE NEIGHBOUR: 'it returns false'. Refute it at one input. -/
def planTellsWrong : ChangeSpec := { name := "planTells", fn := fun _ => fun
  | [d1, d2, d3, d4, d5, d6] => { results := [.lit (.bool false)], args := [d1, d2, d3, d4, d5, d6] }
  | _ => none }
def PlanTellsWrongFalsely : Prop := planTellsRow.holds Tryz.pinned (OpenSpec.ofChange planTellsWrong)

/-- 'pigeonholelaw14.PlanFew': WHATEVER THE INPUT: true; the input reads as it did. -/
def planFewSpec : ChangeSpec := { name := "planFew", fn := fun _ => fun
  | [d1, d2, d3, d4] => { results := [.lit (.bool true)], args := [d1, d2, d3, d4] }
  | _ => none }
def planFewRow : OpenClaim := { program := "ytjmnnkhdadoehaagreat", sum := "23ccd76936d6e9420a5f3cf64385884b8a8026987abf59ca7faf1fcb2d912a71", func := "pigeonhole/pigeonholelaw14.PlanFew", spec := "planFew", inPlace := ["slices.overlaps[pigeonhole/rib.Route]"], unfollowed := true, recurses := true, apart := false }
def PlanFewSaid : Prop := planFewRow.holds Tryz.pinned (OpenSpec.ofChange planFewSpec)

/-- ITS FALSE NEIGHBOUR: 'it returns false'. Refute it at one input. -/
def planFewWrong : ChangeSpec := { name := "planFew", fn := fun _ => fun
  | [d1, d2, d3, d4] => { results := [.lit (.bool false)], args := [d1, d2, d3, d4] }
  | _ => none }
def PlanFewWrongFalsely : Prop := planFewRow.holds Tryz.pinned (OpenSpec.ofChange planFewWrong)

/- THE SECOND FORM. 'bulk': how many values and letters a reading holds, each counted each time it is reached (what is shared counts as often as it is met; a slice's spare places count too). A statement '..UptoSaid' is the law's where the arguments, and the package variables that the reading takes, are together of bulk at most 1048576: NARROWER than '..Said'. Prove '..Said' where nothing that the law and all that it calls make is longer than what came in: it says more and counts as full. Else prove '..UptoSaid'. A law counts once. -/
mutual
def uptoBulk {H : Type} : DataW H → Nat
  | .lit (.string bytes) => bytes.length + 1
  | .lit _ => 1
  | .nil => 1
  | .ptr d => uptoBulk d + 1
  | .slice elems spare => uptoBulkAll elems + uptoBulkAll spare + 1
  | .agg parts => uptoBulkAll parts + 1
  | .iface _ d => uptoBulk d + 1
  | .map entries => uptoBulkEntries entries + 1
  | .held _ => 1
def uptoBulkAll {H : Type} : List (DataW H) → Nat
  | [] => 0
  | d :: r => uptoBulk d + uptoBulkAll r
def uptoBulkEntries {H : Type} : List (Lit × DataW H) → Nat
  | [] => 0
  | x :: r => uptoBulkEntry x + uptoBulkEntries r
def uptoBulkEntry {H : Type} : Lit × DataW H → Nat
  | (.string bytes, d) => bytes.length + uptoBulk d + 1
  | (_, d) => uptoBulk d + 1
 end
def uptoSmall : (H : Type) → List (DataW H) → Bool := fun _ ds => decide (uptoBulkAll ds ≤ 1048576)
def OpenSpec.upto (s : _root_.Go.ChangeSpec) : _root_.Go.OpenSpec := { _root_.Go.OpenSpec.ofChange s with cond := some uptoSmall }

/-- 'pigeonholelaw14.PlanLaid', WHERE WHAT IT READS IS OF BULK AT MOST 1048576: true; the input reads as it did. -/
def planLaidUptoRow : OpenClaim := { program := "ytjmnnkhdadoehaagreat", sum := "23ccd76936d6e9420a5f3cf64385884b8a8026987abf59ca7faf1fcb2d912a71", func := "pigeonhole/pigeonholelaw14.PlanLaid", spec := "planLaid", unfollowed := true, recurses := true, apart := false, narrowed := true }
def PlanLaidUptoSaid : Prop := planLaidUptoRow.holds Tryz.pinned (OpenSpec.upto planLaidSpec)

/-- 'pigeonholelaw14.PlanTells', WHERE WHAT IT READS IS OF BULK AT MOST 1048576: true; the input reads as it did. -/
def planTellsUptoRow : OpenClaim := { program := "ytjmnnkhdadoehaagreat", sum := "23ccd76936d6e9420a5f3cf64385884b8a8026987abf59ca7faf1fcb2d912a71", func := "pigeonhole/pigeonholelaw14.PlanTells", spec := "planTells", unfollowed := true, recurses := true, apart := false, narrowed := true }
def PlanTellsUptoSaid : Prop := planTellsUptoRow.holds Tryz.pinned (OpenSpec.upto planTellsSpec)

/-- 'pigeonholelaw14.PlanFew', WHERE WHAT IT READS IS OF BULK AT MOST 1048576: true; the input reads as it did. -/
def planFewUptoRow : OpenClaim := { program := "ytjmnnkhdadoehaagreat", sum := "23ccd76936d6e9420a5f3cf64385884b8a8026987abf59ca7faf1fcb2d912a71", func := "pigeonhole/pigeonholelaw14.PlanFew", spec := "planFew", inPlace := ["slices.overlaps[pigeonhole/rib.Route]"], unfollowed := true, recurses := true, apart := false, narrowed := true }
def PlanFewUptoSaid : Prop := planFewUptoRow.holds Tryz.pinned (OpenSpec.upto planFewSpec)

end Rows
end Go.Proofs.YtjmnnkhdadoehaaGreat
