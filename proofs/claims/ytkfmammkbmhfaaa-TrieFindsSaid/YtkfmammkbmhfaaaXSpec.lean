/- What the functions compute, in plain Lean. -/
import Derived.Test.YtkfmammkbmhfaaaXBase
import Derived.Laws.Bits
namespace Go.Proofs.Ytkfmammkbmhfaaa
set_option linter.unusedSimpArgs false
set_option linter.unusedVariables false
open Go
def aAnd (a b : A2) : A2 := ⟨bits .and .u64 a.x b.x, bits .and .u64 a.y b.y⟩
def aXor (a b : A2) : A2 := ⟨bits .xor .u64 a.x b.x, bits .xor .u64 a.y b.y⟩
def aDiffer (a b m : A2) : A2 := aAnd (aXor a b) m
def wMatch (x : W2) (a : A2) : Bool := same (aDiffer x.v a x.m) ⟨0, 0⟩
def clamp (n : Int) : Int := if n < 0 then 0 else if 128 < n then 128 else n
def aCompare (a b : A2) : Int := if a.x < b.x then -1 else if b.x < a.x then 1 else if a.y < b.y then -1 else if b.y < a.y then 1 else 0
def maskW (k : Int) : Int := bits .xor .u64 IntKind.u64.max (18446744073709551615 / 2 ^ k.toNat)
theorem maskW_0 : bits BinOp.xor IntKind.u64 IntKind.u64.max 18446744073709551615 = maskW 0 := by unfold maskW; rfl
theorem maskW_64 : bits BinOp.xor IntKind.u64 IntKind.u64.max 0 = maskW 64 := by unfold maskW; rfl
theorem maskW_n (n : Int) : bits BinOp.xor IntKind.u64 IntKind.u64.max (18446744073709551615 / 2 ^ n.toNat) = maskW n := rfl
def aMask (n : Int) : A2 := if n ≤ 0 then ⟨maskW 0, maskW 0⟩ else if 128 ≤ n then ⟨maskW 64, maskW 64⟩ else if n ≤ 64 then ⟨maskW n, maskW 0⟩ else ⟨maskW 64, maskW (n - 64)⟩
def aCut (a : A2) (n : Int) : A2 := aAnd a (aMask n)
def pMake (a : A2) (n : Int) : Pfx := ⟨aCut a (clamp n), clamp n⟩
end Go.Proofs.Ytkfmammkbmhfaaa

/- What the functions over rows compute, in plain Lean. -/
namespace Go.Proofs.Ytkfmammkbmhfaaa
set_option linter.unusedSimpArgs false
set_option linter.unusedVariables false
open Go
def nth {α : Type} [Inhabited α] (xs : List α) (k : Nat) : α := xs.getD k default
theorem nth_at {α : Type} [Inhabited α] (xs : List α) {k : Nat} (h : k < xs.length) : nth xs k = xs[k] := by simp [nth, List.getD, h]
def bestTo (xs : List Ent) (a : A2) : Nat → Nat × Bool
  | 0 => (0, false)
  | k + 1 => let r := bestTo xs a k
    if wMatch (nth xs k).w a && (!r.2 || decide ((nth xs r.1).len < (nth xs k).len)) then (k, true) else r
def best (xs : List Ent) (a : A2) : Nat × Bool := bestTo xs a xs.length
end Go.Proofs.Ytkfmammkbmhfaaa

/- Bits of an address, in plain Lean. -/
namespace Go.Proofs.Ytkfmammkbmhfaaa
set_option linter.unusedSimpArgs false
set_option linter.unusedVariables false
open Go
def U (x : Int) : Prop := 0 ≤ x ∧ x < 18446744073709551616
def A2.ok (a : A2) : Prop := U a.x ∧ U a.y
def wbit (n : Int) (j : Nat) : Bool := (n / 2 ^ j % 2 == 1)
def abit (a : A2) (i : Nat) : Bool := if i < 64 then wbit a.x (63 - i) else wbit a.y (127 - i)
theorem half_step (X : Int) (j : Nat) : X / 2 ^ j / 2 = X / 2 ^ (j + 1) := by
  rw [Int.ediv_ediv_of_nonneg (by exact Int.pow_nonneg (by omega)), Int.pow_succ]
def bitsRow (a : A2) (j m : Nat) (i : Nat) : Bool := if i < 64 * j ∨ (64 * j + m ≤ i ∧ i < 64 * j + 64) then abit a i else false
theorem bitsRow_step (a : A2) (j m i : Nat) (hm : m < 64) : bitsRow a j m i = if i = 64 * j + m then abit a i else bitsRow a j (m + 1) i := by
  unfold bitsRow
  by_cases h : i = 64 * j + m
  · rw [if_pos h, if_pos (by omega)]
  · rw [if_neg h]
    by_cases h2 : i < 64 * j ∨ (64 * j + m ≤ i ∧ i < 64 * j + 64)
    · rw [if_pos h2, if_pos (by omega)]
    · rw [if_neg h2, if_neg (by omega)]
theorem bitsRow_next (a : A2) (i : Nat) (h : i < 128) : bitsRow a 1 64 i = bitsRow a 0 0 i := by
  unfold bitsRow
  by_cases h2 : i < 64
  · rw [if_pos (by omega), if_pos (by omega)]
  · rw [if_neg (by omega), if_neg (by omega)]
theorem bitsRow_end (a : A2) (i : Nat) (h : i < 128) : bitsRow a 1 0 i = abit a i := by
  unfold bitsRow; rw [if_pos (by omega)]
theorem bitsRow_start (a : A2) (i : Nat) (h : i < 128) : bitsRow a 0 64 i = false := by
  unfold bitsRow; rw [if_neg (by omega)]
theorem abit_lo (a : A2) (m : Nat) (hm : m < 64) : abit a (64 * 0 + m) = wbit a.x (63 - m) := by unfold abit; rw [if_pos (by omega), show 64 * 0 + m = m by omega]
theorem abit_hi (a : A2) (m : Nat) (hm : m < 64) : abit a (64 * 1 + m) = wbit a.y (63 - m) := by unfold abit; rw [if_neg (by omega), show 127 - (64 * 1 + m) = 63 - m by omega]
theorem bits_round {X n : Int} {m : Nat} (h : n = X / 2 ^ (64 - (m + 1))) (hm : m < 64) : n / 2 = X / 2 ^ (64 - m) ∧ (n % 2 == 1) = wbit X (63 - m) := by
  have e : 64 - (m + 1) = 63 - m := by omega
  rw [e] at h
  refine ⟨?_, by rw [h]; rfl⟩
  rw [h, half_step, show 63 - m + 1 = 64 - m by omega]
theorem u_half {n : Int} (h : U n) : U (n / 2) ∧ IntKind.u64.wrap (n.tdiv 2) = n / 2 := by
  obtain ⟨h0, h1⟩ := h
  refine ⟨⟨by omega, by omega⟩, ?_⟩
  rw [Int.tdiv_eq_ediv_of_nonneg h0]
  show (n / 2) % 18446744073709551616 = n / 2
  omega
theorem bits_row {V : Type} (B : Bool → V) {c : Array V} {a : A2} {j m : Nat} {b : Bool} (hc : c.size = 128) (h : ∀ i, i < 128 → c[i]? = some (B (bitsRow a j (m + 1) i))) (hm : m < 64) (hj : j < 2) (hb : b = abit a (64 * j + m)) :
    (c.setIfInBounds (64 * j + m) (B b)).size = 128 ∧ ∀ i, i < 128 → (c.setIfInBounds (64 * j + m) (B b))[i]? = some (B (bitsRow a j m i)) := by
  refine ⟨by simp [hc], fun i hi => ?_⟩
  rw [Array.getElem?_setIfInBounds, bitsRow_step a j m i hm]
  by_cases e : 64 * j + m = i
  · rw [if_pos e, if_pos (by omega), if_pos (by omega), hb, e]
  · rw [if_neg e, if_neg (by omega)]; exact h i hi
def allTo (p : Nat → Bool) : Nat → Bool
  | 0 => true
  | k + 1 => allTo p k && p k
theorem allTo_succ {p : Nat → Bool} {k : Nat} (h : allTo p k = true) (h1 : p k = true) : allTo p (k + 1) = true := by simp [allTo, h, h1]
theorem allTo_iff (p : Nat → Bool) : ∀ n, allTo p n = true ↔ ∀ k, k < n → p k = true
  | 0 => by simp [allTo]
  | n + 1 => by
    simp only [allTo, Bool.and_eq_true, allTo_iff p n]
    constructor
    · rintro ⟨h1, h2⟩ k hk
      by_cases e : k = n
      · subst e; exact h2
      · exact h1 k (by omega)
    · exact fun h => ⟨fun k hk => h k (by omega), h n (by omega)⟩
def rMatchP (x : W2) (a : A2) (k : Nat) : Bool := !(abit x.m k && (abit x.v k != abit a k))
def rMatch (x : W2) (a : A2) : Bool := allTo (rMatchP x a) 128
def rMeetP (x y : W2) (k : Nat) : Bool := !(abit x.m k && abit y.m k && (abit x.v k != abit y.v k))
def rMeet (x y : W2) : Bool := allTo (rMeetP x y) 128
def W2.ok (x : W2) : Prop := x.v.ok ∧ x.m.ok
end Go.Proofs.Ytkfmammkbmhfaaa

/- The two entries of awake. -/
namespace Go.Proofs.Ytkfmammkbmhfaaa
set_option linter.unusedSimpArgs false
set_option linter.unusedVariables false
open Go
end Go.Proofs.Ytkfmammkbmhfaaa

/- Two words out of 128 bits, in plain Lean. -/
namespace Go.Proofs.Ytkfmammkbmhfaaa
set_option linter.unusedSimpArgs false
set_option linter.unusedVariables false
open Go
end Go.Proofs.Ytkfmammkbmhfaaa
