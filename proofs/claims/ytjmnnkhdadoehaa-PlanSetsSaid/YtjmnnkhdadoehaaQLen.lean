/- What LeadingZeros64 does; how many bits are alike; what prefixes match, in plain Lean. -/
import Derived.Test.YtjmnnkhdadoehaaQLaidB
import Derived.Test.YtjmnnkhdadoehaaQPureA
import Derived.Test.YtjmnnkhdadoehaaQSpec
import Derived.Lib.BitFns
namespace Go.Proofs.Ytjmnnkhdadoehaa
set_option linter.unusedSimpArgs false
set_option linter.unusedVariables false
open Go
def rpMatch (p : Pfx) (a : A2) : Bool := allTo (eqP p.a a) (clamp p.len).toNat
def pCmp (p q : Pfx) : Int := if aCompare p.a q.a = 0 then (if p.len < q.len then -1 else if q.len < p.len then 1 else 0) else aCompare p.a q.a
end Go.Proofs.Ytjmnnkhdadoehaa

/- Prefixes, their order, tables of routes, and those that say something new, in plain Lean. -/
namespace Go.Proofs.Ytjmnnkhdadoehaa
set_option linter.unusedSimpArgs false
set_option linter.unusedVariables false
open Go
structure Canon (p : Pfx) : Prop where
  lo : 0 ≤ p.len
  hi : p.len ≤ 128
  ok : p.a.ok
  zero : ∀ i : Nat, i < 128 → p.len ≤ i → abit p.a i = false
def pLt (p q : Pfx) : Prop := pCmp p q < 0
/-! ### Tables -/
structure TableR (rs : List Rte) : Prop where
  canon : ∀ r ∈ rs, Canon r.p
  act : ∀ r ∈ rs, 1 ≤ r.act ∧ r.act ≤ 255
  sorted : rs.Pairwise fun x y => pLt x.p y.p
structure IsCover (S : List Rte) (p : Pfx) (c : Rte) : Prop where
  mem : c ∈ S
  short : c.p.len < p.len
  hit : rpMatch c.p p.a = true
  near : ∀ d ∈ S, d.p.len < p.len → rpMatch d.p p.a = true → d.p.len ≤ c.p.len
structure Kept (rs S : List Rte) : Prop where
  sub : ∀ r ∈ S, r ∈ rs
  sorted : S.Pairwise fun x y => pLt x.p y.p
  iff : ∀ r ∈ rs, (r ∈ S ↔ ∀ c, IsCover S r.p c → c.act ≠ r.act)
end Go.Proofs.Ytjmnnkhdadoehaa

/- -/
