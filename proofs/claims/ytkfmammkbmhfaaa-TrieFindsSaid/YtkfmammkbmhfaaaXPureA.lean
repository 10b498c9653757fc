/- Plain laws of words: bit by bit. -/
import Derived.Test.YtkfmammkbmhfaaaXSpec
import Derived.Laws.BitsAllLaws
import Derived.Laws.BitsLemmas
import Derived.Laws.Bits64
import Derived.Laws.Bits64b
namespace Go.Proofs.Ytkfmammkbmhfaaa
set_option linter.unusedSimpArgs false
set_option linter.unusedVariables false
open Go
theorem wbit_nat (n j : Nat) : wbit (n : Int) j = n.testBit j := by
  unfold wbit
  rw [Nat.testBit_eq_decide_div_mod_eq, Bool.eq_iff_iff]
  have h : ((n : Int) / 2 ^ j % 2) = ((n / 2 ^ j % 2 : Nat) : Int) := by push_cast; rfl
  simp only [beq_iff_eq, decide_eq_true_eq]
  rw [h]
  omega
theorem U_nat {x : Int} (h : U x) : ∃ n : Nat, x = n ∧ n < 18446744073709551616 := by
  obtain ⟨h0, h1⟩ := h
  exact ⟨x.toNat, by omega, by omega⟩
theorem wbit_and {x y : Int} (hx : U x) (hy : U y) (j : Nat) : wbit (bits .and .u64 x y) j = (wbit x j && wbit y j) := by
  obtain ⟨n, rfl, hn⟩ := U_nat hx
  obtain ⟨m, rfl, hm⟩ := U_nat hy
  rw [bits_and_u64_nat n m hn hm, wbit_nat, wbit_nat, wbit_nat, Nat.testBit_and]
theorem wbit_xor {x y : Int} (hx : U x) (hy : U y) (j : Nat) : wbit (bits .xor .u64 x y) j = (wbit x j != wbit y j) := by
  obtain ⟨n, rfl, hn⟩ := U_nat hx
  obtain ⟨m, rfl, hm⟩ := U_nat hy
  rw [bits_xor_u64_nat n m hn hm, wbit_nat, wbit_nat, wbit_nat, Nat.testBit_xor]
theorem U_and {x y : Int} (hx : U x) (hy : U y) : U (bits .and .u64 x y) := by
  obtain ⟨n, rfl, hn⟩ := U_nat hx
  obtain ⟨m, rfl, hm⟩ := U_nat hy
  rw [bits_and_u64_nat n m hn hm]
  have := Nat.and_le_left (n := n) (m := m)
  exact ⟨by omega, by omega⟩
theorem U_xor {x y : Int} (hx : U x) (hy : U y) : U (bits .xor .u64 x y) := by
  obtain ⟨n, rfl, hn⟩ := U_nat hx
  obtain ⟨m, rfl, hm⟩ := U_nat hy
  rw [bits_xor_u64_nat n m hn hm]
  have : n ^^^ m < 2 ^ 64 := Nat.xor_lt_two_pow (by omega) (by omega)
  exact ⟨by omega, by omega⟩
theorem abit_and {a b : A2} (ha : a.ok) (hb : b.ok) (i : Nat) : abit (aAnd a b) i = (abit a i && abit b i) := by
  unfold abit aAnd
  split
  · exact wbit_and ha.1 hb.1 _
  · exact wbit_and ha.2 hb.2 _
theorem ok_and {a b : A2} (ha : a.ok) (hb : b.ok) : (aAnd a b).ok := ⟨U_and ha.1 hb.1, U_and ha.2 hb.2⟩
theorem U_ext {x y : Int} (hx : U x) (hy : U y) (h : ∀ j, j < 64 → wbit x j = wbit y j) : x = y := by
  obtain ⟨n, rfl, hn⟩ := U_nat hx
  obtain ⟨m, rfl, hm⟩ := U_nat hy
  congr 1
  apply Nat.eq_of_testBit_eq
  intro j
  by_cases hj : j < 64
  · have := h j hj
    rwa [wbit_nat, wbit_nat] at this
  · have e : 2 ^ 64 ≤ 2 ^ j := Nat.pow_le_pow_right (by omega) (by omega)
    rw [Nat.testBit_lt_two_pow (by omega), Nat.testBit_lt_two_pow (by omega)]
theorem ok_ext {a b : A2} (ha : a.ok) (hb : b.ok) (h : ∀ i, i < 128 → abit a i = abit b i) : a = b := by
  obtain ⟨x, y⟩ := a
  obtain ⟨u, v⟩ := b
  have h1 : x = u := U_ext ha.1 hb.1 fun j hj => by
    have := h (63 - j) (by omega)
    simp only [abit, show 63 - j < 64 from by omega, if_true] at this
    rwa [show 63 - (63 - j) = j by omega] at this
  have h2 : y = v := U_ext ha.2 hb.2 fun j hj => by
    have := h (127 - j) (by omega)
    simp only [abit, show ¬ 127 - j < 64 from by omega, if_false] at this
    rwa [show 127 - (127 - j) = j by omega] at this
  rw [h1, h2]
theorem U_zero : U 0 := ⟨by omega, by omega⟩
theorem ok_zero : (⟨0, 0⟩ : A2).ok := ⟨U_zero, U_zero⟩
theorem abit_zero (i : Nat) : abit ⟨0, 0⟩ i = false := by unfold abit wbit; split <;> simp
end Go.Proofs.Ytkfmammkbmhfaaa

/- The order of two addresses, bit by bit. -/
namespace Go.Proofs.Ytkfmammkbmhfaaa
set_option linter.unusedSimpArgs false
set_option linter.unusedVariables false
open Go
theorem wbit_step (x : Int) (j : Nat) : x / 2 ^ j = 2 * (x / 2 ^ (j + 1)) + (if wbit x j then 1 else 0) := by
  rw [← half_step]
  unfold wbit
  have h := Int.emod_two_eq (x / 2 ^ j)
  rcases h with h | h
  · rw [h]; simp; omega
  · rw [h]; simp; omega
theorem hi_zero {x : Int} (h : U x) : x / 2 ^ 64 = 0 := by
  obtain ⟨h0, h1⟩ := h
  exact Int.ediv_eq_zero_of_lt h0 (by simpa using h1)
theorem hi_eq {x y : Int} (hx : U x) (hy : U y) : ∀ k, k ≤ 64 → (∀ i, i < k → wbit x (63 - i) = wbit y (63 - i)) → x / 2 ^ (64 - k) = y / 2 ^ (64 - k)
  | 0, _, _ => by rw [show 64 - 0 = 64 from rfl, hi_zero hx, hi_zero hy]
  | k + 1, hk, h => by
    have ih := hi_eq hx hy k (by omega) (fun i hi => h i (by omega))
    have hb := h k (by omega)
    rw [show 64 - (k + 1) = 63 - k by omega, wbit_step x, wbit_step y, hb, show 63 - k + 1 = 64 - k by omega, ih]
theorem word_eq {x y : Int} (hx : U x) (hy : U y) (h : ∀ i, i < 64 → wbit x (63 - i) = wbit y (63 - i)) : x = y := by
  have := hi_eq hx hy 64 (Nat.le_refl _) h
  simpa using this
theorem word_lt {x y : Int} (hx : U x) (hy : U y) {k : Nat} (hk : k < 64) (h : ∀ i, i < k → wbit x (63 - i) = wbit y (63 - i)) (h0 : wbit x (63 - k) = false) (h1 : wbit y (63 - k) = true) : x < y := by
  have e := hi_eq hx hy k (by omega) h
  have ex := wbit_step x (63 - k)
  have ey := wbit_step y (63 - k)
  rw [h0, show 63 - k + 1 = 64 - k by omega] at ex
  rw [h1, show 63 - k + 1 = 64 - k by omega] at ey
  simp only [Bool.false_eq_true, if_false, if_true] at ex ey
  by_cases c : y ≤ x
  · have := Int.ediv_le_ediv (show (0 : Int) < 2 ^ (63 - k) by exact Int.pow_pos (by omega)) c
    omega
  · omega
def eqP (a b : A2) (i : Nat) : Bool := abit a i == abit b i
theorem cmp_bits {a b : A2} (ha : a.ok) (hb : b.ok) {k : Nat} (hk : k ≤ 128) (h : allTo (eqP a b) k = true) :
    (k = 128 → aCompare a b = 0) ∧ (k < 128 → abit a k ≠ abit b k → aCompare a b = if abit b k then -1 else 1) := by
  have h' : ∀ i, i < k → abit a i = abit b i := fun i hi => by have := (allTo_iff _ _).1 h i hi; simpa [eqP] using this
  have hx : ∀ n, n ≤ k → n ≤ 64 → ∀ i, i < n → wbit a.x (63 - i) = wbit b.x (63 - i) := fun n hn h64 i hi => by
    have := h' i (by omega)
    unfold abit at this
    rwa [if_pos (by omega), if_pos (by omega)] at this
  have hy : ∀ n, 64 + n ≤ k → ∀ i, i < n → wbit a.y (63 - i) = wbit b.y (63 - i) := fun n hn i hi => by
    have := h' (64 + i) (by omega)
    unfold abit at this
    rw [if_neg (by omega), if_neg (by omega), show 127 - (64 + i) = 63 - i by omega] at this
    exact this
  refine ⟨fun e => ?_, fun hlt hne => ?_⟩
  · have e1 := word_eq ha.1 hb.1 (hx 64 (by omega) (by omega))
    have e2 := word_eq ha.2 hb.2 (hy 64 (by omega))
    unfold aCompare
    rw [e1, e2]; simp
  · by_cases c : k < 64
    · have hb1 : abit a k = wbit a.x (63 - k) := by unfold abit; rw [if_pos c]
      have hb2 : abit b k = wbit b.x (63 - k) := by unfold abit; rw [if_pos c]
      rw [hb1, hb2] at hne
      rw [hb2]
      cases h2 : wbit b.x (63 - k) with
      | true =>
        have h1 : wbit a.x (63 - k) = false := by cases h1 : wbit a.x (63 - k) with | false => rfl | true => rw [h1, h2] at hne; exact absurd rfl hne
        have := word_lt ha.1 hb.1 c (hx k (Nat.le_refl _) (by omega)) h1 h2
        unfold aCompare
        rw [if_pos this]; rfl
      | false =>
        have h1 : wbit a.x (63 - k) = true := by cases h1 : wbit a.x (63 - k) with | true => rfl | false => rw [h1, h2] at hne; exact absurd rfl hne
        have := word_lt hb.1 ha.1 c (fun i hi => (hx k (Nat.le_refl _) (by omega) i hi).symm) h2 h1
        unfold aCompare
        rw [if_neg (by omega), if_pos this]; rfl
    · obtain ⟨m, rfl⟩ : ∃ m, k = 64 + m := ⟨k - 64, by omega⟩
      have e1 := word_eq ha.1 hb.1 (hx 64 (by omega) (by omega))
      have hb1 : abit a (64 + m) = wbit a.y (63 - m) := by unfold abit; rw [if_neg c, show 127 - (64 + m) = 63 - m by omega]
      have hb2 : abit b (64 + m) = wbit b.y (63 - m) := by unfold abit; rw [if_neg c, show 127 - (64 + m) = 63 - m by omega]
      rw [hb1, hb2] at hne
      rw [hb2]
      cases h2 : wbit b.y (63 - m) with
      | true =>
        have h1 : wbit a.y (63 - m) = false := by cases h1 : wbit a.y (63 - m) with | false => rfl | true => rw [h1, h2] at hne; exact absurd rfl hne
        have := word_lt ha.2 hb.2 (by omega) (hy m (Nat.le_refl _)) h1 h2
        unfold aCompare
        rw [if_neg (by omega), if_neg (by omega), if_pos this]; rfl
      | false =>
        have h1 : wbit a.y (63 - m) = true := by cases h1 : wbit a.y (63 - m) with | true => rfl | false => rw [h1, h2] at hne; exact absurd rfl hne
        have := word_lt hb.2 ha.2 (by omega) (fun i hi => (hy m (Nat.le_refl _) i hi).symm) h2 h1
        unfold aCompare
        rw [if_neg (by omega), if_neg (by omega), if_neg (by omega), if_pos this]; rfl
end Go.Proofs.Ytkfmammkbmhfaaa

/- How many bits are set, in plain Lean. -/
namespace Go.Proofs.Ytkfmammkbmhfaaa
set_option linter.unusedSimpArgs false
set_option linter.unusedVariables false
open Go
def g1 (b : Nat) : Nat := (b / 2 &&& 85) + (b &&& 85)
def g2 (b : Nat) : Nat := (b / 4 &&& 51) + (b &&& 51)
theorem byte1 : ∀ b : Fin 256, ∀ e : Fin 2, ((b.val / 2 + 128 * e.val) &&& 85) + (b.val &&& 85) = g1 b.val ∧ g1 b.val < 256 ∧ b.val / 2 + 128 * e.val < 256 := by decide +kernel
theorem byte2 : ∀ b : Fin 256, ∀ e : Fin 4, ((g1 b.val / 4 + 64 * e.val) &&& 51) + (g1 b.val &&& 51) = g2 (g1 b.val) ∧ g2 (g1 b.val) < 256 ∧ g1 b.val / 4 + 64 * e.val < 256 := by decide +kernel
theorem f1 {b n : Nat} (hb : b < 256) : ((b / 2 + 128 * (n % 2)) &&& 85) + (b &&& 85) = g1 b ∧ b / 2 + 128 * (n % 2) < 256 := by
  have := byte1 ⟨b, hb⟩ ⟨n % 2, by omega⟩; exact ⟨this.1, this.2.2⟩
theorem f2 {b n : Nat} (hb : b < 256) : ((g1 b / 4 + 64 * (n % 4)) &&& 51) + (g1 b &&& 51) = g2 (g1 b) ∧ g1 b / 4 + 64 * (n % 4) < 256 := by
  have := byte2 ⟨b, hb⟩ ⟨n % 4, by omega⟩; exact ⟨this.1, this.2.2⟩
theorem l1 {b : Nat} (hb : b < 256) : g1 b < 256 := (byte1 ⟨b, hb⟩ 0).2.1
theorem l2 {b : Nat} (hb : b < 256) : g2 (g1 b) < 256 := (byte2 ⟨b, hb⟩ 0).2.1
end Go.Proofs.Ytkfmammkbmhfaaa
