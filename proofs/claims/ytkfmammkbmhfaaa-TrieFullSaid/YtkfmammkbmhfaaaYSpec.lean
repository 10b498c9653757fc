/- What the functions compute, in plain Lean. -/
import Derived.Test.YtkfmammkbmhfaaaYBase
import Derived.Laws.Bits
namespace Go.Proofs.Ytkfmammkbmhfaaa
set_option linter.unusedSimpArgs false
set_option linter.unusedVariables false
open Go
def aAnd (a b : A2) : A2 := ⟨bits .and .u64 a.x b.x, bits .and .u64 a.y b.y⟩
def aXor (a b : A2) : A2 := ⟨bits .xor .u64 a.x b.x, bits .xor .u64 a.y b.y⟩
def clamp (n : Int) : Int := if n < 0 then 0 else if 128 < n then 128 else n
def aCompare (a b : A2) : Int := if a.x < b.x then -1 else if b.x < a.x then 1 else if a.y < b.y then -1 else if b.y < a.y then 1 else 0
def maskW (k : Int) : Int := bits .xor .u64 IntKind.u64.max (18446744073709551615 / 2 ^ k.toNat)
theorem maskW_0 : bits BinOp.xor IntKind.u64 IntKind.u64.max 18446744073709551615 = maskW 0 := by unfold maskW; rfl
theorem maskW_64 : bits BinOp.xor IntKind.u64 IntKind.u64.max 0 = maskW 64 := by unfold maskW; rfl
theorem maskW_n (n : Int) : bits BinOp.xor IntKind.u64 IntKind.u64.max (18446744073709551615 / 2 ^ n.toNat) = maskW n := rfl
def aMask (n : Int) : A2 := if n ≤ 0 then ⟨maskW 0, maskW 0⟩ else if 128 ≤ n then ⟨maskW 64, maskW 64⟩ else if n ≤ 64 then ⟨maskW n, maskW 0⟩ else ⟨maskW 64, maskW (n - 64)⟩
def aCut (a : A2) (n : Int) : A2 := aAnd a (aMask n)
def pMake (a : A2) (n : Int) : Pfx := ⟨aCut a (clamp n), clamp n⟩
end Go.Proofs.Ytkfmammkbmhfaaa

/- What the functions over rows compute, in plain Lean. -/
namespace Go.Proofs.Ytkfmammkbmhfaaa
set_option linter.unusedSimpArgs false
set_option linter.unusedVariables false
open Go
def nth {α : Type} [Inhabited α] (xs : List α) (k : Nat) : α := xs.getD k default
theorem nth_at {α : Type} [Inhabited α] (xs : List α) {k : Nat} (h : k < xs.length) : nth xs k = xs[k] := by simp [nth, List.getD, h]
end Go.Proofs.Ytkfmammkbmhfaaa

/- Bits of an address, in plain Lean. -/
namespace Go.Proofs.Ytkfmammkbmhfaaa
set_option linter.unusedSimpArgs false
set_option linter.unusedVariables false
open Go
def U (x : Int) : Prop := 0 ≤ x ∧ x < 18446744073709551616
def A2.ok (a : A2) : Prop := U a.x ∧ U a.y
def wbit (n : Int) (j : Nat) : Bool := (n / 2 ^ j % 2 == 1)
def abit (a : A2) (i : Nat) : Bool := if i < 64 then wbit a.x (63 - i) else wbit a.y (127 - i)
theorem half_step (X : Int) (j : Nat) : X / 2 ^ j / 2 = X / 2 ^ (j + 1) := by
  rw [Int.ediv_ediv_of_nonneg (by exact Int.pow_nonneg (by omega)), Int.pow_succ]
def allTo (p : Nat → Bool) : Nat → Bool
  | 0 => true
  | k + 1 => allTo p k && p k
theorem allTo_iff (p : Nat → Bool) : ∀ n, allTo p n = true ↔ ∀ k, k < n → p k = true
  | 0 => by simp [allTo]
  | n + 1 => by
    simp only [allTo, Bool.and_eq_true, allTo_iff p n]
    constructor
    · rintro ⟨h1, h2⟩ k hk
      by_cases e : k = n
      · subst e; exact h2
      · exact h1 k (by omega)
    · exact fun h => ⟨fun k hk => h k (by omega), h n (by omega)⟩
def rMatchP (x : W2) (a : A2) (k : Nat) : Bool := !(abit x.m k && (abit x.v k != abit a k))
def rMatch (x : W2) (a : A2) : Bool := allTo (rMatchP x a) 128
def rMeetP (x y : W2) (k : Nat) : Bool := !(abit x.m k && abit y.m k && (abit x.v k != abit y.v k))
def rMeet (x y : W2) : Bool := allTo (rMeetP x y) 128
def W2.ok (x : W2) : Prop := x.v.ok ∧ x.m.ok
end Go.Proofs.Ytkfmammkbmhfaaa

/- The two entries of awake. -/
namespace Go.Proofs.Ytkfmammkbmhfaaa
set_option linter.unusedSimpArgs false
set_option linter.unusedVariables false
open Go
end Go.Proofs.Ytkfmammkbmhfaaa

/- Two words out of 128 bits, in plain Lean. -/
namespace Go.Proofs.Ytkfmammkbmhfaaa
set_option linter.unusedSimpArgs false
set_option linter.unusedVariables false
open Go
end Go.Proofs.Ytkfmammkbmhfaaa
