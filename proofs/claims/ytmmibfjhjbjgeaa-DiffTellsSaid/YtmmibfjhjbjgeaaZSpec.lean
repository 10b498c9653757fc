/- What the functions compute, in plain Lean. -/
import Derived.Test.YtmmibfjhjbjgeaaZBase
import Derived.Laws.Bits
namespace Go.Proofs.Ytmmibfjhjbjgeaa
set_option linter.unusedSimpArgs false
set_option linter.unusedVariables false
open Go
def aAnd (a b : A2) : A2 := ⟨bits .and .u64 a.x b.x, bits .and .u64 a.y b.y⟩
def aOr (a b : A2) : A2 := ⟨bits .or .u64 a.x b.x, bits .or .u64 a.y b.y⟩
def aXor (a b : A2) : A2 := ⟨bits .xor .u64 a.x b.x, bits .xor .u64 a.y b.y⟩
def aDiffer (a b m : A2) : A2 := aAnd (aXor a b) m
def wClean (x : W2) : W2 := ⟨aAnd x.v x.m, x.m⟩
def wRight (x : W2) : Bool := same x (wClean x)
def wMatch (x : W2) (a : A2) : Bool := same (aDiffer x.v a x.m) ⟨0, 0⟩
def wMeet (x y : W2) : Bool := same (aDiffer x.v y.v (aAnd x.m y.m)) ⟨0, 0⟩
def eAbove (x y : Ent) : Bool := decide (y.len < x.len) && wMeet x.w y.w
def eAlike (x y : Ent) : Bool := same x.w y.w && (x.len == y.len)
def cmpInt (a b : Int) : Int := if a < b then -1 else if b < a then 1 else 0
def clamp (n : Int) : Int := if n < 0 then 0 else if 128 < n then 128 else n
def aCompare (a b : A2) : Int := if a.x < b.x then -1 else if b.x < a.x then 1 else if a.y < b.y then -1 else if b.y < a.y then 1 else 0
/-- A word whose first k bits are set. -/
def maskW (k : Int) : Int := bits .xor .u64 IntKind.u64.max (18446744073709551615 / 2 ^ k.toNat)
theorem maskW_0 : bits BinOp.xor IntKind.u64 IntKind.u64.max 18446744073709551615 = maskW 0 := by unfold maskW; rfl
theorem maskW_64 : bits BinOp.xor IntKind.u64 IntKind.u64.max 0 = maskW 64 := by unfold maskW; rfl
theorem maskW_n (n : Int) : bits BinOp.xor IntKind.u64 IntKind.u64.max (18446744073709551615 / 2 ^ n.toNat) = maskW n := rfl
def aMask (n : Int) : A2 := if n ≤ 0 then ⟨maskW 0, maskW 0⟩ else if 128 ≤ n then ⟨maskW 64, maskW 64⟩ else if n ≤ 64 then ⟨maskW n, maskW 0⟩ else ⟨maskW 64, maskW (n - 64)⟩
def aCut (a : A2) (n : Int) : A2 := aAnd a (aMask n)
def pMake (a : A2) (n : Int) : Pfx := ⟨aCut a (clamp n), clamp n⟩
def wOf (p : Pfx) : W2 := ⟨(pMake p.a p.len).a, aMask (pMake p.a p.len).len⟩
def eOf (p : Pfx) (action : Int) : Ent := ⟨wOf p, (pMake p.a p.len).len, action⟩
def eRight (x : Ent) : Bool := wRight x.w && decide (0 ≤ x.len) && decide (x.len ≤ 128) && decide (1 ≤ x.act) && decide (x.act ≤ 255)
end Go.Proofs.Ytmmibfjhjbjgeaa
