/- What single calls do: the reference's words and masks. -/
import Derived.Test.YtjmnnkhdadoehaaGreatYWalkR
import Derived.Test.YtjmnnkhdadoehaaGreatYSpec
import Derived.Test.YtjmnnkhdadoehaaGreatYAppB
import Derived.Test.YtjmnnkhdadoehaaGreatYPureA
import Derived.Test.YtjmnnkhdadoehaaGreatYWalkA
namespace Go.Proofs.YtjmnnkhdadoehaaGreat
set_option linter.unusedSimpArgs false
set_option linter.unusedVariables false
open Go.RowKit
attribute [local go_sem high] eql_25 neq_25 eql_44 neq_62 eql_48 eql_50
attribute [local go_sem] eqg_25 eqg_62 eqg_48 eqg_50 cell_grew frozen_grew size_grew grew_grew lt_addk Instr.field asAgg lt_gi_k
end Go.Proofs.YtjmnnkhdadoehaaGreat

/- What single calls do: the reference's operation bit by bit. -/
namespace Go.Proofs.YtjmnnkhdadoehaaGreat
set_option linter.unusedSimpArgs false
set_option linter.unusedVariables false
open Go.RowKit
attribute [local go_sem high] eql_25 neq_25 eql_44 neq_62 eql_48 eql_50
attribute [local go_sem] eqg_25 eqg_62 eqg_48 eqg_50 cell_grew frozen_grew size_grew grew_grew lt_addk Instr.field asAgg lt_gi_k
end Go.Proofs.YtjmnnkhdadoehaaGreat

/- Words out of bits, masks: in plain Lean. -/
namespace Go.Proofs.YtjmnnkhdadoehaaGreat
set_option linter.unusedSimpArgs false
set_option linter.unusedVariables false
open Go
theorem wbit_twice (x : Int) (b : Bool) : wbit (2 * x + (if b then 1 else 0)) 0 = b := by
  unfold wbit
  cases b <;> simp <;> omega
theorem wbit_twice' (x : Int) (b : Bool) (m : Nat) : wbit (2 * x + (if b then 1 else 0)) (m + 1) = wbit x m := by
  unfold wbit
  have e : (2 * x + (if b then 1 else 0)) / 2 ^ (m + 1) = x / 2 ^ m := by
    rw [Int.pow_succ, Int.mul_comm (2 ^ m) 2, ← Int.ediv_ediv_of_nonneg (by omega : (0 : Int) ≤ 2)]
    congr 1
    cases b <;> simp <;> omega
  rw [e]
theorem wTo_bit (f : Nat → Bool) (o : Nat) : ∀ (j i : Nat), i < j → wbit (wTo f o j) (j - 1 - i) = f (o + i)
  | 0, i, h => by omega
  | j + 1, i, h => by
    rw [wTo]
    by_cases e : i = j
    · subst e
      rw [show i + 1 - 1 - i = 0 by omega]
      exact wbit_twice _ _
    · rw [show j + 1 - 1 - i = (j - 1 - i) + 1 by omega, wbit_twice']
      exact wTo_bit f o j i (by omega)
theorem words_bit (f : Nat → Bool) {i : Nat} (h : i < 128) : abit (words f) i = f i := by
  unfold abit words
  by_cases h2 : i < 64
  · rw [if_pos h2]
    have := wTo_bit f 0 64 i h2
    rwa [Nat.zero_add] at this
  · rw [if_neg h2]
    have := wTo_bit f 64 64 (i - 64) (by omega)
    rw [show 64 - 1 - (i - 64) = 127 - i by omega, show 64 + (i - 64) = i by omega] at this
    exact this
theorem U_max : U IntKind.u64.max := by unfold U; decide
theorem max_div (k : Nat) : (18446744073709551615 : Int) / 2 ^ k = ((18446744073709551615 / 2 ^ k : Nat) : Int) := by
  simp
theorem U_maxdiv (k : Nat) : U (18446744073709551615 / 2 ^ k) := by
  rw [max_div]
  have : 18446744073709551615 / 2 ^ k ≤ 18446744073709551615 := Nat.div_le_self _ _
  exact ⟨Int.natCast_nonneg _, Int.ofNat_lt.2 (Nat.lt_of_le_of_lt this (by decide))⟩
theorem max_bit (j : Nat) : (18446744073709551615 : Nat).testBit j = decide (j < 64) := by
  rw [show (18446744073709551615 : Nat) = 2 ^ 64 - 1 by decide]
  exact Nat.testBit_two_pow_sub_one 64 j
theorem maskW_U (k : Int) : U (maskW k) := by
  unfold maskW
  exact U_xor U_max (U_maxdiv _)
theorem maskW_bit (k : Nat) {i : Nat} (hi : i < 64) : wbit (maskW k) (63 - i) = decide (i < k) := by
  unfold maskW
  rw [wbit_xor U_max (U_maxdiv _), Int.toNat_natCast, max_div, wbit_nat]
  rw [show IntKind.u64.max = ((18446744073709551615 : Nat) : Int) by decide, wbit_nat, max_bit, Nat.testBit_div_two_pow, max_bit]
  by_cases h : i < k
  · rw [decide_eq_true (by omega : 63 - i < 64), decide_eq_false (by omega), decide_eq_true h]; rfl
  · rw [decide_eq_true (by omega : 63 - i < 64), decide_eq_true (by omega), decide_eq_false h]; rfl
theorem mask_ok (n : Int) : (aMask n).ok := by
  unfold aMask
  (repeat' split) <;> exact ⟨maskW_U _, maskW_U _⟩
theorem mask_bit (n : Int) {i : Nat} (hi : i < 128) : abit (aMask n) i = decide ((i : Int) < n) := by
  have key : ∀ (p q : Nat), abit ⟨maskW p, maskW q⟩ i = if i < 64 then decide (i < p) else decide (i - 64 < q) := by
    intro p q
    unfold abit
    by_cases h : i < 64
    · rw [if_pos h, if_pos h]; exact maskW_bit p h
    · rw [if_neg h, if_neg h, show 127 - i = 63 - (i - 64) by omega]; exact maskW_bit q (by omega)
  unfold aMask
  by_cases h1 : n ≤ 0
  · rw [if_pos h1]
    have := key 0 0
    rw [show ((0 : Nat) : Int) = 0 from rfl] at this
    rw [this, decide_eq_false (by omega : ¬ (i : Int) < n)]
    split <;> simp
  rw [if_neg h1]
  by_cases h2 : 128 ≤ n
  · rw [if_pos h2]
    have := key 64 64
    rw [show ((64 : Nat) : Int) = 64 from rfl] at this
    rw [this, decide_eq_true (by omega : (i : Int) < n)]
    split <;> simp <;> omega
  rw [if_neg h2]
  obtain ⟨m, rfl⟩ : ∃ m : Nat, n = m := ⟨n.toNat, by omega⟩
  by_cases h3 : (m : Int) ≤ 64
  · rw [if_pos h3]
    have := key m 0
    rw [show ((0 : Nat) : Int) = 0 from rfl] at this
    rw [this, Bool.eq_iff_iff]
    split <;> simp <;> omega
  · rw [if_neg h3]
    have := key 64 (m - 64)
    rw [show ((64 : Nat) : Int) = 64 from rfl, show ((m - 64 : Nat) : Int) = (m : Int) - 64 by omega] at this
    rw [this, Bool.eq_iff_iff]
    split <;> simp <;> omega
end Go.Proofs.YtjmnnkhdadoehaaGreat

/- What single calls do: the reference's masks and prefixes. -/
namespace Go.Proofs.YtjmnnkhdadoehaaGreat
set_option linter.unusedSimpArgs false
set_option linter.unusedVariables false
open Go.RowKit
attribute [local go_sem high] eql_25 neq_25 eql_44 neq_62 eql_48 eql_50
attribute [local go_sem] eqg_25 eqg_62 eqg_48 eqg_50 cell_grew frozen_grew size_grew grew_grew lt_addk Instr.field asAgg lt_gi_k
end Go.Proofs.YtjmnnkhdadoehaaGreat
