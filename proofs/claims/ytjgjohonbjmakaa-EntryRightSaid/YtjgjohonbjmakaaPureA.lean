/- Plain laws of words: bit by bit. -/
import Derived.Test.YtjgjohonbjmakaaBits
import Derived.Laws.BitsAllLaws
import Derived.Laws.BitsLemmas
import Derived.Laws.Bits64
import Derived.Laws.Bits64b
namespace Go.Proofs.Ytjgjohonbjmakaa
set_option linter.unusedSimpArgs false
set_option linter.unusedVariables false
open Go
theorem wbit_nat (n j : Nat) : wbit (n : Int) j = n.testBit j := by
  unfold wbit
  rw [Nat.testBit_eq_decide_div_mod_eq, Bool.eq_iff_iff]
  have h : ((n : Int) / 2 ^ j % 2) = ((n / 2 ^ j % 2 : Nat) : Int) := by push_cast; rfl
  simp only [beq_iff_eq, decide_eq_true_eq]
  rw [h]
  omega
theorem U_nat {x : Int} (h : U x) : ∃ n : Nat, x = n ∧ n < 18446744073709551616 := by
  obtain ⟨h0, h1⟩ := h
  exact ⟨x.toNat, by omega, by omega⟩
theorem wbit_and {x y : Int} (hx : U x) (hy : U y) (j : Nat) : wbit (bits .and .u64 x y) j = (wbit x j && wbit y j) := by
  obtain ⟨n, rfl, hn⟩ := U_nat hx
  obtain ⟨m, rfl, hm⟩ := U_nat hy
  rw [bits_and_u64_nat n m hn hm, wbit_nat, wbit_nat, wbit_nat, Nat.testBit_and]
theorem wbit_xor {x y : Int} (hx : U x) (hy : U y) (j : Nat) : wbit (bits .xor .u64 x y) j = (wbit x j != wbit y j) := by
  obtain ⟨n, rfl, hn⟩ := U_nat hx
  obtain ⟨m, rfl, hm⟩ := U_nat hy
  rw [bits_xor_u64_nat n m hn hm, wbit_nat, wbit_nat, wbit_nat, Nat.testBit_xor]
theorem U_and {x y : Int} (hx : U x) (hy : U y) : U (bits .and .u64 x y) := by
  obtain ⟨n, rfl, hn⟩ := U_nat hx
  obtain ⟨m, rfl, hm⟩ := U_nat hy
  rw [bits_and_u64_nat n m hn hm]
  have := Nat.and_le_left (n := n) (m := m)
  exact ⟨by omega, by omega⟩
theorem U_xor {x y : Int} (hx : U x) (hy : U y) : U (bits .xor .u64 x y) := by
  obtain ⟨n, rfl, hn⟩ := U_nat hx
  obtain ⟨m, rfl, hm⟩ := U_nat hy
  rw [bits_xor_u64_nat n m hn hm]
  have : n ^^^ m < 2 ^ 64 := Nat.xor_lt_two_pow (by omega) (by omega)
  exact ⟨by omega, by omega⟩
theorem abit_and {a b : A2} (ha : a.ok) (hb : b.ok) (i : Nat) : abit (aAnd a b) i = (abit a i && abit b i) := by
  unfold abit aAnd
  split
  · exact wbit_and ha.1 hb.1 _
  · exact wbit_and ha.2 hb.2 _
theorem abit_xor {a b : A2} (ha : a.ok) (hb : b.ok) (i : Nat) : abit (aXor a b) i = (abit a i != abit b i) := by
  unfold abit aXor
  split
  · exact wbit_xor ha.1 hb.1 _
  · exact wbit_xor ha.2 hb.2 _
theorem ok_and {a b : A2} (ha : a.ok) (hb : b.ok) : (aAnd a b).ok := ⟨U_and ha.1 hb.1, U_and ha.2 hb.2⟩
theorem ok_xor {a b : A2} (ha : a.ok) (hb : b.ok) : (aXor a b).ok := ⟨U_xor ha.1 hb.1, U_xor ha.2 hb.2⟩
theorem U_ext {x y : Int} (hx : U x) (hy : U y) (h : ∀ j, j < 64 → wbit x j = wbit y j) : x = y := by
  obtain ⟨n, rfl, hn⟩ := U_nat hx
  obtain ⟨m, rfl, hm⟩ := U_nat hy
  congr 1
  apply Nat.eq_of_testBit_eq
  intro j
  by_cases hj : j < 64
  · have := h j hj
    rwa [wbit_nat, wbit_nat] at this
  · have e : 2 ^ 64 ≤ 2 ^ j := Nat.pow_le_pow_right (by omega) (by omega)
    rw [Nat.testBit_lt_two_pow (by omega), Nat.testBit_lt_two_pow (by omega)]
/-- Addresses with the same bits are the same. -/
theorem ok_ext {a b : A2} (ha : a.ok) (hb : b.ok) (h : ∀ i, i < 128 → abit a i = abit b i) : a = b := by
  obtain ⟨x, y⟩ := a
  obtain ⟨u, v⟩ := b
  have h1 : x = u := U_ext ha.1 hb.1 fun j hj => by
    have := h (63 - j) (by omega)
    simp only [abit, show 63 - j < 64 from by omega, if_true] at this
    rwa [show 63 - (63 - j) = j by omega] at this
  have h2 : y = v := U_ext ha.2 hb.2 fun j hj => by
    have := h (127 - j) (by omega)
    simp only [abit, show ¬ 127 - j < 64 from by omega, if_false] at this
    rwa [show 127 - (127 - j) = j by omega] at this
  rw [h1, h2]
theorem U_zero : U 0 := ⟨by omega, by omega⟩
theorem ok_zero : (⟨0, 0⟩ : A2).ok := ⟨U_zero, U_zero⟩
theorem abit_zero (i : Nat) : abit ⟨0, 0⟩ i = false := by unfold abit wbit; split <;> simp
theorem differ_zero {v a m : A2} (hv : v.ok) (ha : a.ok) (hm : m.ok) : same (aDiffer v a m) ⟨0, 0⟩ = true ↔ ∀ i, i < 128 → (!(abit m i && (abit v i != abit a i))) = true := by
  have hd : ∀ i, abit (aDiffer v a m) i = ((abit v i != abit a i) && abit m i) := fun i => by unfold aDiffer; rw [abit_and (ok_xor hv ha) hm, abit_xor hv ha]
  unfold same
  rw [decide_eq_true_iff]
  constructor
  · intro h i _
    have := hd i
    rw [h, abit_zero] at this
    cases e1 : abit m i <;> cases e2 : (abit v i != abit a i) <;> simp_all
  · intro h
    refine ok_ext (ok_and (ok_xor hv ha) hm) ok_zero fun i hi => ?_
    have h1 := h i hi
    show abit (aDiffer v a m) i = _
    rw [hd, abit_zero]
    cases e1 : abit m i <;> cases e2 : (abit v i != abit a i) <;> simp_all
theorem match_ref {x : W2} {a : A2} (hx : x.ok) (ha : a.ok) : wMatch x a = rMatch x a := by
  rw [Bool.eq_iff_iff]
  unfold wMatch rMatch
  rw [differ_zero hx.1 ha hx.2, allTo_iff]
  rfl
theorem meet_ref {x y : W2} (hx : x.ok) (hy : y.ok) : wMeet x y = rMeet x y := by
  rw [Bool.eq_iff_iff]
  unfold wMeet rMeet
  rw [differ_zero hx.1 hy.1 (ok_and hx.2 hy.2), allTo_iff]
  constructor
  · intro h k hk
    have := h k hk
    rw [abit_and hx.2 hy.2] at this
    exact this
  · intro h k hk
    rw [abit_and hx.2 hy.2]
    exact h k hk
end Go.Proofs.Ytjgjohonbjmakaa
