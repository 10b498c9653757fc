/- Plain laws of words: bit by bit. -/
import Derived.Test.YtjmnnkhdadoehaaQSpec
import Derived.Laws.BitsAllLaws
import Derived.Laws.BitsLemmas
import Derived.Laws.Bits64
import Derived.Laws.Bits64b
namespace Go.Proofs.Ytjmnnkhdadoehaa
set_option linter.unusedSimpArgs false
set_option linter.unusedVariables false
open Go
theorem U_nat {x : Int} (h : U x) : ∃ n : Nat, x = n ∧ n < 18446744073709551616 := by
  obtain ⟨h0, h1⟩ := h
  exact ⟨x.toNat, by omega, by omega⟩
theorem U_xor {x y : Int} (hx : U x) (hy : U y) : U (bits .xor .u64 x y) := by
  obtain ⟨n, rfl, hn⟩ := U_nat hx
  obtain ⟨m, rfl, hm⟩ := U_nat hy
  rw [bits_xor_u64_nat n m hn hm]
  have : n ^^^ m < 2 ^ 64 := Nat.xor_lt_two_pow (by omega) (by omega)
  exact ⟨by omega, by omega⟩
end Go.Proofs.Ytjmnnkhdadoehaa

/- How many bits are set, in plain Lean. -/
namespace Go.Proofs.Ytjmnnkhdadoehaa
set_option linter.unusedSimpArgs false
set_option linter.unusedVariables false
open Go
def g1 (b : Nat) : Nat := (b / 2 &&& 85) + (b &&& 85)
def g2 (b : Nat) : Nat := (b / 4 &&& 51) + (b &&& 51)
theorem byte1 : ∀ b : Fin 256, ∀ e : Fin 2, ((b.val / 2 + 128 * e.val) &&& 85) + (b.val &&& 85) = g1 b.val ∧ g1 b.val < 256 ∧ b.val / 2 + 128 * e.val < 256 := by decide +kernel
theorem byte2 : ∀ b : Fin 256, ∀ e : Fin 4, ((g1 b.val / 4 + 64 * e.val) &&& 51) + (g1 b.val &&& 51) = g2 (g1 b.val) ∧ g2 (g1 b.val) < 256 ∧ g1 b.val / 4 + 64 * e.val < 256 := by decide +kernel
theorem f1 {b n : Nat} (hb : b < 256) : ((b / 2 + 128 * (n % 2)) &&& 85) + (b &&& 85) = g1 b ∧ b / 2 + 128 * (n % 2) < 256 := by
  have := byte1 ⟨b, hb⟩ ⟨n % 2, by omega⟩; exact ⟨this.1, this.2.2⟩
theorem f2 {b n : Nat} (hb : b < 256) : ((g1 b / 4 + 64 * (n % 4)) &&& 51) + (g1 b &&& 51) = g2 (g1 b) ∧ g1 b / 4 + 64 * (n % 4) < 256 := by
  have := byte2 ⟨b, hb⟩ ⟨n % 4, by omega⟩; exact ⟨this.1, this.2.2⟩
end Go.Proofs.Ytjmnnkhdadoehaa

/- The order of two addresses, bit by bit. -/
namespace Go.Proofs.Ytjmnnkhdadoehaa
set_option linter.unusedSimpArgs false
set_option linter.unusedVariables false
open Go
def eqP (a b : A2) (i : Nat) : Bool := abit a i == abit b i
end Go.Proofs.Ytjmnnkhdadoehaa
