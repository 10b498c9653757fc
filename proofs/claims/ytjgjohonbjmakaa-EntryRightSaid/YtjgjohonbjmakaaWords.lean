/- Two words out of 128 bits, in plain Lean. -/
import Derived.Test.YtjgjohonbjmakaaBits
namespace Go.Proofs.Ytjgjohonbjmakaa
set_option linter.unusedSimpArgs false
set_option linter.unusedVariables false
open Go
/-- The number that the bits from place o on say, j of them. -/
def wTo (f : Nat → Bool) (o : Nat) : Nat → Int
  | 0 => 0
  | j + 1 => 2 * wTo f o j + (if f (o + j) then 1 else 0)
theorem wTo_bound (f : Nat → Bool) (o : Nat) : ∀ j, 0 ≤ wTo f o j ∧ wTo f o j < 2 ^ j
  | 0 => by simp [wTo]
  | j + 1 => by
    have h := wTo_bound f o j
    have e : (2 : Int) ^ (j + 1) = 2 * 2 ^ j := by rw [Int.pow_succ, Int.mul_comm]
    rw [e, wTo]
    split <;> omega
theorem two_pow_le {j m : Nat} (h : j ≤ m) : (2 : Int) ^ j ≤ 2 ^ m := by
  have h2 : (2 ^ j : Nat) ≤ 2 ^ m := Nat.pow_le_pow_right (by omega) h
  have := Int.ofNat_le.2 h2
  simpa using this
theorem wTo_U (f : Nat → Bool) (o : Nat) (j : Nat) (h : j ≤ 64) : U (wTo f o j) := by
  obtain ⟨h1, h2⟩ := wTo_bound f o j
  refine ⟨h1, Int.lt_of_lt_of_le h2 ?_⟩
  have := two_pow_le h
  simpa using this
def words (f : Nat → Bool) : A2 := ⟨wTo f 0 64, wTo f 64 64⟩
theorem wrap_two {x : Int} {j : Nat} {f : Nat → Bool} {o : Nat} (h : x = wTo f o j) (hj : j < 64) : IntKind.u64.wrap (x * 2) = x * 2 ∧ IntKind.u64.wrap (x * 2 + 1) = x * 2 + 1 := by
  have h1 := wTo_U f o (j + 1) (by omega)
  have hb := wTo_bound f o j
  have hp : (2 : Int) ^ j ≤ 9223372036854775808 := by
    have := two_pow_le (show j ≤ 63 by omega)
    simpa using this
  constructor
  · show (x * 2) % 18446744073709551616 = x * 2
    omega
  · show (x * 2 + 1) % 18446744073709551616 = x * 2 + 1
    omega
end Go.Proofs.Ytjgjohonbjmakaa
