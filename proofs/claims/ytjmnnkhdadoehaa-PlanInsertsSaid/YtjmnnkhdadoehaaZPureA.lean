/- Plain laws of words: bit by bit. -/
import Derived.Test.YtjmnnkhdadoehaaZSpec
import Derived.Laws.BitsAllLaws
import Derived.Laws.BitsLemmas
import Derived.Laws.Bits64
import Derived.Laws.Bits64b
namespace Go.Proofs.Ytjmnnkhdadoehaa
set_option linter.unusedSimpArgs false
set_option linter.unusedVariables false
open Go
theorem wbit_nat (n j : Nat) : wbit (n : Int) j = n.testBit j := by
  unfold wbit
  rw [Nat.testBit_eq_decide_div_mod_eq, Bool.eq_iff_iff]
  have h : ((n : Int) / 2 ^ j % 2) = ((n / 2 ^ j % 2 : Nat) : Int) := by push_cast; rfl
  simp only [beq_iff_eq, decide_eq_true_eq]
  rw [h]
  omega
theorem U_nat {x : Int} (h : U x) : ∃ n : Nat, x = n ∧ n < 18446744073709551616 := by
  obtain ⟨h0, h1⟩ := h
  exact ⟨x.toNat, by omega, by omega⟩
theorem wbit_and {x y : Int} (hx : U x) (hy : U y) (j : Nat) : wbit (bits .and .u64 x y) j = (wbit x j && wbit y j) := by
  obtain ⟨n, rfl, hn⟩ := U_nat hx
  obtain ⟨m, rfl, hm⟩ := U_nat hy
  rw [bits_and_u64_nat n m hn hm, wbit_nat, wbit_nat, wbit_nat, Nat.testBit_and]
theorem wbit_xor {x y : Int} (hx : U x) (hy : U y) (j : Nat) : wbit (bits .xor .u64 x y) j = (wbit x j != wbit y j) := by
  obtain ⟨n, rfl, hn⟩ := U_nat hx
  obtain ⟨m, rfl, hm⟩ := U_nat hy
  rw [bits_xor_u64_nat n m hn hm, wbit_nat, wbit_nat, wbit_nat, Nat.testBit_xor]
theorem U_and {x y : Int} (hx : U x) (hy : U y) : U (bits .and .u64 x y) := by
  obtain ⟨n, rfl, hn⟩ := U_nat hx
  obtain ⟨m, rfl, hm⟩ := U_nat hy
  rw [bits_and_u64_nat n m hn hm]
  have := Nat.and_le_left (n := n) (m := m)
  exact ⟨by omega, by omega⟩
theorem U_xor {x y : Int} (hx : U x) (hy : U y) : U (bits .xor .u64 x y) := by
  obtain ⟨n, rfl, hn⟩ := U_nat hx
  obtain ⟨m, rfl, hm⟩ := U_nat hy
  rw [bits_xor_u64_nat n m hn hm]
  have : n ^^^ m < 2 ^ 64 := Nat.xor_lt_two_pow (by omega) (by omega)
  exact ⟨by omega, by omega⟩
theorem abit_and {a b : A2} (ha : a.ok) (hb : b.ok) (i : Nat) : abit (aAnd a b) i = (abit a i && abit b i) := by
  unfold abit aAnd
  split
  · exact wbit_and ha.1 hb.1 _
  · exact wbit_and ha.2 hb.2 _
theorem abit_xor {a b : A2} (ha : a.ok) (hb : b.ok) (i : Nat) : abit (aXor a b) i = (abit a i != abit b i) := by
  unfold abit aXor
  split
  · exact wbit_xor ha.1 hb.1 _
  · exact wbit_xor ha.2 hb.2 _
theorem ok_and {a b : A2} (ha : a.ok) (hb : b.ok) : (aAnd a b).ok := ⟨U_and ha.1 hb.1, U_and ha.2 hb.2⟩
theorem ok_xor {a b : A2} (ha : a.ok) (hb : b.ok) : (aXor a b).ok := ⟨U_xor ha.1 hb.1, U_xor ha.2 hb.2⟩
theorem U_ext {x y : Int} (hx : U x) (hy : U y) (h : ∀ j, j < 64 → wbit x j = wbit y j) : x = y := by
  obtain ⟨n, rfl, hn⟩ := U_nat hx
  obtain ⟨m, rfl, hm⟩ := U_nat hy
  congr 1
  apply Nat.eq_of_testBit_eq
  intro j
  by_cases hj : j < 64
  · have := h j hj
    rwa [wbit_nat, wbit_nat] at this
  · have e : 2 ^ 64 ≤ 2 ^ j := Nat.pow_le_pow_right (by omega) (by omega)
    rw [Nat.testBit_lt_two_pow (by omega), Nat.testBit_lt_two_pow (by omega)]
theorem ok_ext {a b : A2} (ha : a.ok) (hb : b.ok) (h : ∀ i, i < 128 → abit a i = abit b i) : a = b := by
  obtain ⟨x, y⟩ := a
  obtain ⟨u, v⟩ := b
  have h1 : x = u := U_ext ha.1 hb.1 fun j hj => by
    have := h (63 - j) (by omega)
    simp only [abit, show 63 - j < 64 from by omega, if_true] at this
    rwa [show 63 - (63 - j) = j by omega] at this
  have h2 : y = v := U_ext ha.2 hb.2 fun j hj => by
    have := h (127 - j) (by omega)
    simp only [abit, show ¬ 127 - j < 64 from by omega, if_false] at this
    rwa [show 127 - (127 - j) = j by omega] at this
  rw [h1, h2]
theorem U_zero : U 0 := ⟨by omega, by omega⟩
theorem ok_zero : (⟨0, 0⟩ : A2).ok := ⟨U_zero, U_zero⟩
theorem abit_zero (i : Nat) : abit ⟨0, 0⟩ i = false := by unfold abit wbit; split <;> simp
theorem differ_zero {v a m : A2} (hv : v.ok) (ha : a.ok) (hm : m.ok) : same (aDiffer v a m) ⟨0, 0⟩ = true ↔ ∀ i, i < 128 → (!(abit m i && (abit v i != abit a i))) = true := by
  have hd : ∀ i, abit (aDiffer v a m) i = ((abit v i != abit a i) && abit m i) := fun i => by unfold aDiffer; rw [abit_and (ok_xor hv ha) hm, abit_xor hv ha]
  unfold same
  rw [decide_eq_true_iff]
  constructor
  · intro h i _
    have := hd i
    rw [h, abit_zero] at this
    cases e1 : abit m i <;> cases e2 : (abit v i != abit a i) <;> simp_all
  · intro h
    refine ok_ext (ok_and (ok_xor hv ha) hm) ok_zero fun i hi => ?_
    have h1 := h i hi
    show abit (aDiffer v a m) i = _
    rw [hd, abit_zero]
    cases e1 : abit m i <;> cases e2 : (abit v i != abit a i) <;> simp_all
theorem meet_ref {x y : W2} (hx : x.ok) (hy : y.ok) : wMeet x y = rMeet x y := by
  rw [Bool.eq_iff_iff]
  unfold wMeet rMeet
  rw [differ_zero hx.1 hy.1 (ok_and hx.2 hy.2), allTo_iff]
  constructor
  · intro h k hk
    have := h k hk
    rw [abit_and hx.2 hy.2] at this
    exact this
  · intro h k hk
    rw [abit_and hx.2 hy.2]
    exact h k hk
end Go.Proofs.Ytjmnnkhdadoehaa

/- How many bits are set, in plain Lean. -/
namespace Go.Proofs.Ytjmnnkhdadoehaa
set_option linter.unusedSimpArgs false
set_option linter.unusedVariables false
open Go
def pc8 (b : Nat) : Nat := (b.testBit 0).toNat + (b.testBit 1).toNat + (b.testBit 2).toNat + (b.testBit 3).toNat + (b.testBit 4).toNat + (b.testBit 5).toNat + (b.testBit 6).toNat + (b.testBit 7).toNat
def g1 (b : Nat) : Nat := (b / 2 &&& 85) + (b &&& 85)
def g2 (b : Nat) : Nat := (b / 4 &&& 51) + (b &&& 51)
theorem byte1 : ∀ b : Fin 256, ∀ e : Fin 2, ((b.val / 2 + 128 * e.val) &&& 85) + (b.val &&& 85) = g1 b.val ∧ g1 b.val < 256 ∧ b.val / 2 + 128 * e.val < 256 := by decide +kernel
theorem byte2 : ∀ b : Fin 256, ∀ e : Fin 4, ((g1 b.val / 4 + 64 * e.val) &&& 51) + (g1 b.val &&& 51) = g2 (g1 b.val) ∧ g2 (g1 b.val) < 256 ∧ g1 b.val / 4 + 64 * e.val < 256 := by decide +kernel
theorem byte3 : ∀ b : Fin 256, ∀ e : Fin 5, ((g2 (g1 b.val) / 16 + 16 * e.val + g2 (g1 b.val)) &&& 15) = pc8 b.val ∧ pc8 b.val ≤ 8 ∧ g2 (g1 b.val) / 16 + 16 * e.val + g2 (g1 b.val) < 256 ∧ g2 (g1 b.val) % 16 < 5 := by decide +kernel
theorem f1 {b n : Nat} (hb : b < 256) : ((b / 2 + 128 * (n % 2)) &&& 85) + (b &&& 85) = g1 b ∧ b / 2 + 128 * (n % 2) < 256 := by
  have := byte1 ⟨b, hb⟩ ⟨n % 2, by omega⟩; exact ⟨this.1, this.2.2⟩
theorem f2 {b n : Nat} (hb : b < 256) : ((g1 b / 4 + 64 * (n % 4)) &&& 51) + (g1 b &&& 51) = g2 (g1 b) ∧ g1 b / 4 + 64 * (n % 4) < 256 := by
  have := byte2 ⟨b, hb⟩ ⟨n % 4, by omega⟩; exact ⟨this.1, this.2.2⟩
theorem l1 {b : Nat} (hb : b < 256) : g1 b < 256 := (byte1 ⟨b, hb⟩ 0).2.1
theorem l2 {b : Nat} (hb : b < 256) : g2 (g1 b) < 256 := (byte2 ⟨b, hb⟩ 0).2.1
theorem l3 {b : Nat} (hb : b < 256) : g2 (g1 b) % 16 < 5 := (byte3 ⟨b, hb⟩ 0).2.2.2
end Go.Proofs.Ytjmnnkhdadoehaa

/- The order of two addresses, bit by bit. -/
namespace Go.Proofs.Ytjmnnkhdadoehaa
set_option linter.unusedSimpArgs false
set_option linter.unusedVariables false
open Go
def eqP (a b : A2) (i : Nat) : Bool := abit a i == abit b i
end Go.Proofs.Ytjmnnkhdadoehaa
