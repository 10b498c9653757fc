/- Two words out of 128 bits, in plain Lean. -/
import Derived.Test.YtmmibfjhjbjgeaaZBits
import Derived.Test.YtmmibfjhjbjgeaaZWalkR
import Derived.Test.YtmmibfjhjbjgeaaZAppB
namespace Go.Proofs.Ytmmibfjhjbjgeaa
set_option linter.unusedSimpArgs false
set_option linter.unusedVariables false
open Go
/-- The number that the bits from place o on say, j of them. -/
def wTo (f : Nat → Bool) (o : Nat) : Nat → Int
  | 0 => 0
  | j + 1 => 2 * wTo f o j + (if f (o + j) then 1 else 0)
theorem wTo_bound (f : Nat → Bool) (o : Nat) : ∀ j, 0 ≤ wTo f o j ∧ wTo f o j < 2 ^ j
  | 0 => by simp [wTo]
  | j + 1 => by
    have h := wTo_bound f o j
    have e : (2 : Int) ^ (j + 1) = 2 * 2 ^ j := by rw [Int.pow_succ, Int.mul_comm]
    rw [e, wTo]
    split <;> omega
theorem two_pow_le {j m : Nat} (h : j ≤ m) : (2 : Int) ^ j ≤ 2 ^ m := by
  have h2 : (2 ^ j : Nat) ≤ 2 ^ m := Nat.pow_le_pow_right (by omega) h
  have := Int.ofNat_le.2 h2
  simpa using this
theorem wTo_U (f : Nat → Bool) (o : Nat) (j : Nat) (h : j ≤ 64) : U (wTo f o j) := by
  obtain ⟨h1, h2⟩ := wTo_bound f o j
  refine ⟨h1, Int.lt_of_lt_of_le h2 ?_⟩
  have := two_pow_le h
  simpa using this
def words (f : Nat → Bool) : A2 := ⟨wTo f 0 64, wTo f 64 64⟩
theorem wrap_two {x : Int} {j : Nat} {f : Nat → Bool} {o : Nat} (h : x = wTo f o j) (hj : j < 64) : IntKind.u64.wrap (x * 2) = x * 2 ∧ IntKind.u64.wrap (x * 2 + 1) = x * 2 + 1 := by
  have h1 := wTo_U f o (j + 1) (by omega)
  have hb := wTo_bound f o j
  have hp : (2 : Int) ^ j ≤ 9223372036854775808 := by
    have := two_pow_le (show j ≤ 63 by omega)
    simpa using this
  constructor
  · show (x * 2) % 18446744073709551616 = x * 2
    omega
  · show (x * 2 + 1) % 18446744073709551616 = x * 2 + 1
    omega
end Go.Proofs.Ytmmibfjhjbjgeaa

/- What single calls do: the reference's words and masks. -/
namespace Go.Proofs.Ytmmibfjhjbjgeaa
set_option linter.unusedSimpArgs false
set_option linter.unusedVariables false
open Go.RowKit
attribute [local go_sem high] eql_41 neq_41 eql_33 neq_33 eql_43 neq_43 eql_35 neq_35 eql_45 neq_45 eql_37 neq_37 eql_63 neq_63 eql_103 neq_103 eql_86 neq_86 eql_105 neq_105 eql_47 neq_47 eql_39 neq_39
attribute [local go_sem ↓ high] yielded_undef
attribute [local go_sem] eqg_41 eqg_33 eqg_43 eqg_35 eqg_45 eqg_37 eqg_63 eqg_103 eqg_86 eqg_105 eqg_47 eqg_39 cell_grew frozen_grew size_grew grew_grew drewN_grew lt_addk size_setW Instr.field asAgg lt_gi_k lt_gi_kh lt_gi_k_k lt_gi_k_kh lt_gi_k_k_k lt_gi_k_k_kh lt_gi_i_k lt_gi_i_kh lt_gi_i_k_k lt_gi_i_k_kh lt_gi_i_k_k_k lt_gi_i_k_k_kh lt_gi_i_i_k lt_gi_i_i_kh lt_gi_i_i_k_k lt_gi_i_i_k_kh lt_gi_i_i_k_k_k lt_gi_i_i_k_k_kh lt_gi_i_i_i_k lt_gi_i_i_i_kh lt_gi_i_i_i_k_k lt_gi_i_i_i_k_kh lt_gi_i_i_i_k_k_k lt_gi_i_i_i_k_k_kh lt_gi_i_i_i_i_k lt_gi_i_i_i_i_kh lt_gi_i_i_i_i_k_k lt_gi_i_i_i_i_k_kh lt_gi_i_i_i_i_k_k_k lt_gi_i_i_i_i_k_k_kh lt_gi_i_i_i_i_i_k lt_gi_i_i_i_i_i_kh lt_gi_i_i_i_i_i_k_k lt_gi_i_i_i_i_i_k_kh lt_gi_i_i_i_i_i_k_k_k lt_gi_i_i_i_i_i_k_k_kh lt_gi_i_i_i_i_i_i_k lt_gi_i_i_i_i_i_i_kh lt_gi_i_i_i_i_i_i_k_k lt_gi_i_i_i_i_i_i_k_kh lt_gi_i_i_i_i_i_i_k_k_k lt_gi_i_i_i_i_i_i_k_k_kh lt_gi_i_i_i_i_i_i_i_k lt_gi_i_i_i_i_i_i_i_kh lt_gi_i_i_i_i_i_i_i_k_k lt_gi_i_i_i_i_i_i_i_k_kh lt_gi_i_i_i_i_i_i_i_k_k_k lt_gi_i_i_i_i_i_i_i_k_k_kh lt_gi_k_i lt_gi_k_ih lt_gi_k_i_k lt_gi_k_i_kh lt_gi_k_k_i lt_gi_k_k_ih lt_gi_k_k_i_k lt_gi_k_k_i_kh lt_gi_k_i_i lt_gi_k_i_ih lt_gi_k_i_i_k lt_gi_k_i_i_kh lt_gi_k_k_i_i lt_gi_k_k_i_ih lt_gi_k_k_i_i_k lt_gi_k_k_i_i_kh lt_gi_k_i_i_i lt_gi_k_i_i_ih lt_gi_k_i_i_i_k lt_gi_k_i_i_i_kh lt_gi_k_k_i_i_i lt_gi_k_k_i_i_ih lt_gi_k_k_i_i_i_k lt_gi_k_k_i_i_i_kh lt_gi_i_k_i lt_gi_i_k_ih lt_gi_i_k_i_k lt_gi_i_k_i_kh lt_gi_i_k_k_i lt_gi_i_k_k_ih lt_gi_i_k_k_i_k lt_gi_i_k_k_i_kh lt_gi_i_k_i_i lt_gi_i_k_i_ih lt_gi_i_k_i_i_k lt_gi_i_k_i_i_kh lt_gi_i_k_k_i_i lt_gi_i_k_k_i_ih lt_gi_i_k_k_i_i_k lt_gi_i_k_k_i_i_kh lt_gi_i_k_i_i_i lt_gi_i_k_i_i_ih lt_gi_i_k_i_i_i_k lt_gi_i_k_i_i_i_kh lt_gi_i_k_k_i_i_i lt_gi_i_k_k_i_i_ih lt_gi_i_k_k_i_i_i_k lt_gi_i_k_k_i_i_i_kh lt_gi_i_i_k_i lt_gi_i_i_k_ih lt_gi_i_i_k_i_k lt_gi_i_i_k_i_kh lt_gi_i_i_k_k_i lt_gi_i_i_k_k_ih lt_gi_i_i_k_k_i_k lt_gi_i_i_k_k_i_kh lt_gi_i_i_k_i_i lt_gi_i_i_k_i_ih lt_gi_i_i_k_i_i_k lt_gi_i_i_k_i_i_kh lt_gi_i_i_k_k_i_i lt_gi_i_i_k_k_i_ih lt_gi_i_i_k_k_i_i_k lt_gi_i_i_k_k_i_i_kh lt_gi_i_i_k_i_i_i lt_gi_i_i_k_i_i_ih lt_gi_i_i_k_i_i_i_k lt_gi_i_i_k_i_i_i_kh lt_gi_i_i_k_k_i_i_i lt_gi_i_i_k_k_i_i_ih lt_gi_i_i_k_k_i_i_i_k lt_gi_i_i_k_k_i_i_i_kh lt_gi_i_i_i_k_i lt_gi_i_i_i_k_ih lt_gi_i_i_i_k_i_k lt_gi_i_i_i_k_i_kh lt_gi_i_i_i_k_k_i lt_gi_i_i_i_k_k_ih lt_gi_i_i_i_k_k_i_k lt_gi_i_i_i_k_k_i_kh lt_gi_i_i_i_k_i_i lt_gi_i_i_i_k_i_ih lt_gi_i_i_i_k_i_i_k lt_gi_i_i_i_k_i_i_kh lt_gi_i_i_i_k_k_i_i lt_gi_i_i_i_k_k_i_ih lt_gi_i_i_i_k_k_i_i_k lt_gi_i_i_i_k_k_i_i_kh lt_gi_i_i_i_k_i_i_i lt_gi_i_i_i_k_i_i_ih lt_gi_i_i_i_k_i_i_i_k lt_gi_i_i_i_k_i_i_i_kh lt_gi_i_i_i_k_k_i_i_i lt_gi_i_i_i_k_k_i_i_ih lt_gi_i_i_i_k_k_i_i_i_k lt_gi_i_i_i_k_k_i_i_i_kh lt_gi_i_i_i_i_k_i lt_gi_i_i_i_i_k_ih lt_gi_i_i_i_i_k_i_k lt_gi_i_i_i_i_k_i_kh lt_gi_i_i_i_i_k_k_i lt_gi_i_i_i_i_k_k_ih lt_gi_i_i_i_i_k_k_i_k lt_gi_i_i_i_i_k_k_i_kh lt_gi_i_i_i_i_k_i_i lt_gi_i_i_i_i_k_i_ih lt_gi_i_i_i_i_k_i_i_k lt_gi_i_i_i_i_k_i_i_kh lt_gi_i_i_i_i_k_k_i_i lt_gi_i_i_i_i_k_k_i_ih lt_gi_i_i_i_i_k_k_i_i_k lt_gi_i_i_i_i_k_k_i_i_kh lt_gi_i_i_i_i_k_i_i_i lt_gi_i_i_i_i_k_i_i_ih lt_gi_i_i_i_i_k_i_i_i_k lt_gi_i_i_i_i_k_i_i_i_kh lt_gi_i_i_i_i_k_k_i_i_i lt_gi_i_i_i_i_k_k_i_i_ih lt_gi_i_i_i_i_k_k_i_i_i_k lt_gi_i_i_i_i_k_k_i_i_i_kh
def bitAt (bs : List Bool) (k : Nat) : Bool := bs.getD k false
theorem bitAt_get {bs : List Bool} {k : Nat} (h : k < bs.length) : bitAt bs k = bs[k] := by
  unfold bitAt
  rw [List.getD_eq_getElem?_getD, List.getElem?_eq_getElem h]; rfl
def maskL (n : Int) : List Bool := (List.range 128).map fun (k : Nat) => decide ((k : Int) < n)
theorem maskL_len (n : Int) : (maskL n).length = 128 := by simp [maskL]
theorem maskL_get (n : Int) {k : Nat} (h : k < (maskL n).length) : (maskL n)[k] = decide ((k : Int) < n) := by simp [maskL]
end Go.Proofs.Ytmmibfjhjbjgeaa
