/- Plain laws of words: bit by bit. -/
import Derived.Test.YtjmnnkhdadoehaaGreatYSpec
import Derived.Laws.BitsAllLaws
import Derived.Laws.BitsLemmas
import Derived.Laws.Bits64
import Derived.Laws.Bits64b
namespace Go.Proofs.YtjmnnkhdadoehaaGreat
set_option linter.unusedSimpArgs false
set_option linter.unusedVariables false
open Go
theorem wbit_nat (n j : Nat) : wbit (n : Int) j = n.testBit j := by
  unfold wbit
  rw [Nat.testBit_eq_decide_div_mod_eq, Bool.eq_iff_iff]
  have h : ((n : Int) / 2 ^ j % 2) = ((n / 2 ^ j % 2 : Nat) : Int) := by push_cast; rfl
  simp only [beq_iff_eq, decide_eq_true_eq]
  rw [h]
  omega
theorem U_nat {x : Int} (h : U x) : ∃ n : Nat, x = n ∧ n < 18446744073709551616 := by
  obtain ⟨h0, h1⟩ := h
  exact ⟨x.toNat, by omega, by omega⟩
theorem wbit_and {x y : Int} (hx : U x) (hy : U y) (j : Nat) : wbit (bits .and .u64 x y) j = (wbit x j && wbit y j) := by
  obtain ⟨n, rfl, hn⟩ := U_nat hx
  obtain ⟨m, rfl, hm⟩ := U_nat hy
  rw [bits_and_u64_nat n m hn hm, wbit_nat, wbit_nat, wbit_nat, Nat.testBit_and]
theorem wbit_xor {x y : Int} (hx : U x) (hy : U y) (j : Nat) : wbit (bits .xor .u64 x y) j = (wbit x j != wbit y j) := by
  obtain ⟨n, rfl, hn⟩ := U_nat hx
  obtain ⟨m, rfl, hm⟩ := U_nat hy
  rw [bits_xor_u64_nat n m hn hm, wbit_nat, wbit_nat, wbit_nat, Nat.testBit_xor]
theorem U_and {x y : Int} (hx : U x) (hy : U y) : U (bits .and .u64 x y) := by
  obtain ⟨n, rfl, hn⟩ := U_nat hx
  obtain ⟨m, rfl, hm⟩ := U_nat hy
  rw [bits_and_u64_nat n m hn hm]
  have := Nat.and_le_left (n := n) (m := m)
  exact ⟨by omega, by omega⟩
theorem U_xor {x y : Int} (hx : U x) (hy : U y) : U (bits .xor .u64 x y) := by
  obtain ⟨n, rfl, hn⟩ := U_nat hx
  obtain ⟨m, rfl, hm⟩ := U_nat hy
  rw [bits_xor_u64_nat n m hn hm]
  have : n ^^^ m < 2 ^ 64 := Nat.xor_lt_two_pow (by omega) (by omega)
  exact ⟨by omega, by omega⟩
theorem abit_and {a b : A2} (ha : a.ok) (hb : b.ok) (i : Nat) : abit (aAnd a b) i = (abit a i && abit b i) := by
  unfold abit aAnd
  split
  · exact wbit_and ha.1 hb.1 _
  · exact wbit_and ha.2 hb.2 _
theorem abit_xor {a b : A2} (ha : a.ok) (hb : b.ok) (i : Nat) : abit (aXor a b) i = (abit a i != abit b i) := by
  unfold abit aXor
  split
  · exact wbit_xor ha.1 hb.1 _
  · exact wbit_xor ha.2 hb.2 _
theorem ok_and {a b : A2} (ha : a.ok) (hb : b.ok) : (aAnd a b).ok := ⟨U_and ha.1 hb.1, U_and ha.2 hb.2⟩
theorem ok_xor {a b : A2} (ha : a.ok) (hb : b.ok) : (aXor a b).ok := ⟨U_xor ha.1 hb.1, U_xor ha.2 hb.2⟩
theorem U_ext {x y : Int} (hx : U x) (hy : U y) (h : ∀ j, j < 64 → wbit x j = wbit y j) : x = y := by
  obtain ⟨n, rfl, hn⟩ := U_nat hx
  obtain ⟨m, rfl, hm⟩ := U_nat hy
  congr 1
  apply Nat.eq_of_testBit_eq
  intro j
  by_cases hj : j < 64
  · have := h j hj
    rwa [wbit_nat, wbit_nat] at this
  · have e : 2 ^ 64 ≤ 2 ^ j := Nat.pow_le_pow_right (by omega) (by omega)
    rw [Nat.testBit_lt_two_pow (by omega), Nat.testBit_lt_two_pow (by omega)]
theorem ok_ext {a b : A2} (ha : a.ok) (hb : b.ok) (h : ∀ i, i < 128 → abit a i = abit b i) : a = b := by
  obtain ⟨x, y⟩ := a
  obtain ⟨u, v⟩ := b
  have h1 : x = u := U_ext ha.1 hb.1 fun j hj => by
    have := h (63 - j) (by omega)
    simp only [abit, show 63 - j < 64 from by omega, if_true] at this
    rwa [show 63 - (63 - j) = j by omega] at this
  have h2 : y = v := U_ext ha.2 hb.2 fun j hj => by
    have := h (127 - j) (by omega)
    simp only [abit, show ¬ 127 - j < 64 from by omega, if_false] at this
    rwa [show 127 - (127 - j) = j by omega] at this
  rw [h1, h2]
theorem U_zero : U 0 := ⟨by omega, by omega⟩
theorem ok_zero : (⟨0, 0⟩ : A2).ok := ⟨U_zero, U_zero⟩
theorem abit_zero (i : Nat) : abit ⟨0, 0⟩ i = false := by unfold abit wbit; split <;> simp
theorem differ_zero {v a m : A2} (hv : v.ok) (ha : a.ok) (hm : m.ok) : same (aDiffer v a m) ⟨0, 0⟩ = true ↔ ∀ i, i < 128 → (!(abit m i && (abit v i != abit a i))) = true := by
  have hd : ∀ i, abit (aDiffer v a m) i = ((abit v i != abit a i) && abit m i) := fun i => by unfold aDiffer; rw [abit_and (ok_xor hv ha) hm, abit_xor hv ha]
  unfold same
  rw [decide_eq_true_iff]
  constructor
  · intro h i _
    have := hd i
    rw [h, abit_zero] at this
    cases e1 : abit m i <;> cases e2 : (abit v i != abit a i) <;> simp_all
  · intro h
    refine ok_ext (ok_and (ok_xor hv ha) hm) ok_zero fun i hi => ?_
    have h1 := h i hi
    show abit (aDiffer v a m) i = _
    rw [hd, abit_zero]
    cases e1 : abit m i <;> cases e2 : (abit v i != abit a i) <;> simp_all
theorem match_ref {x : W2} {a : A2} (hx : x.ok) (ha : a.ok) : wMatch x a = rMatch x a := by
  rw [Bool.eq_iff_iff]
  unfold wMatch rMatch
  rw [differ_zero hx.1 ha hx.2, allTo_iff]
  rfl
theorem meet_ref {x y : W2} (hx : x.ok) (hy : y.ok) : wMeet x y = rMeet x y := by
  rw [Bool.eq_iff_iff]
  unfold wMeet rMeet
  rw [differ_zero hx.1 hy.1 (ok_and hx.2 hy.2), allTo_iff]
  constructor
  · intro h k hk
    have := h k hk
    rw [abit_and hx.2 hy.2] at this
    exact this
  · intro h k hk
    rw [abit_and hx.2 hy.2]
    exact h k hk
end Go.Proofs.YtjmnnkhdadoehaaGreat

/- How many bits are set, in plain Lean. -/
namespace Go.Proofs.YtjmnnkhdadoehaaGreat
set_option linter.unusedSimpArgs false
set_option linter.unusedVariables false
open Go
def ofB : List Nat → Nat
  | [] => 0
  | b :: bs => b + 256 * ofB bs
theorem and_byte {h l mh ml : Nat} (h1 : l < 256) (h2 : ml < 256) : (l + 256 * h) &&& (ml + 256 * mh) = (l &&& ml) + 256 * (h &&& mh) := by
  apply Nat.eq_of_testBit_eq
  intro j
  have key : ∀ a b j : Nat, b < 256 → (b + 256 * a).testBit j = if j < 8 then b.testBit j else a.testBit (j - 8) := fun a b j hb => by
    rw [show b + 256 * a = 2 ^ 8 * a + b by omega, Nat.testBit_two_pow_mul_add a (i := 8) (by simpa using hb)]
  rw [Nat.testBit_and, key _ _ _ h1, key _ _ _ h2, key _ _ _ (Nat.lt_of_le_of_lt Nat.and_le_left h1)]
  split
  · rw [Nat.testBit_and]
  · rw [Nat.testBit_and]
def pc8 (b : Nat) : Nat := (b.testBit 0).toNat + (b.testBit 1).toNat + (b.testBit 2).toNat + (b.testBit 3).toNat + (b.testBit 4).toNat + (b.testBit 5).toNat + (b.testBit 6).toNat + (b.testBit 7).toNat
def g1 (b : Nat) : Nat := (b / 2 &&& 85) + (b &&& 85)
def g2 (b : Nat) : Nat := (b / 4 &&& 51) + (b &&& 51)
theorem byte1 : ∀ b : Fin 256, ∀ e : Fin 2, ((b.val / 2 + 128 * e.val) &&& 85) + (b.val &&& 85) = g1 b.val ∧ g1 b.val < 256 ∧ b.val / 2 + 128 * e.val < 256 := by decide +kernel
theorem byte2 : ∀ b : Fin 256, ∀ e : Fin 4, ((g1 b.val / 4 + 64 * e.val) &&& 51) + (g1 b.val &&& 51) = g2 (g1 b.val) ∧ g2 (g1 b.val) < 256 ∧ g1 b.val / 4 + 64 * e.val < 256 := by decide +kernel
theorem byte3 : ∀ b : Fin 256, ∀ e : Fin 5, ((g2 (g1 b.val) / 16 + 16 * e.val + g2 (g1 b.val)) &&& 15) = pc8 b.val ∧ pc8 b.val ≤ 8 ∧ g2 (g1 b.val) / 16 + 16 * e.val + g2 (g1 b.val) < 256 ∧ g2 (g1 b.val) % 16 < 5 := by decide +kernel
def pop64 (x : Nat) : Nat :=
  let x1 := (x / 2 &&& 6148914691236517205) + (x &&& 6148914691236517205)
  let x2 := (x1 / 4 &&& 3689348814741910323) + (x1 &&& 3689348814741910323)
  let x3 := (x2 / 16 + x2) &&& 1085102592571150095
  let x4 := x3 + x3 / 256
  let x5 := x4 + x4 / 65536
  let x6 := x5 + x5 / 4294967296
  x6 &&& 127
theorem f1 {b n : Nat} (hb : b < 256) : ((b / 2 + 128 * (n % 2)) &&& 85) + (b &&& 85) = g1 b ∧ b / 2 + 128 * (n % 2) < 256 := by
  have := byte1 ⟨b, hb⟩ ⟨n % 2, by omega⟩; exact ⟨this.1, this.2.2⟩
theorem f2 {b n : Nat} (hb : b < 256) : ((g1 b / 4 + 64 * (n % 4)) &&& 51) + (g1 b &&& 51) = g2 (g1 b) ∧ g1 b / 4 + 64 * (n % 4) < 256 := by
  have := byte2 ⟨b, hb⟩ ⟨n % 4, by omega⟩; exact ⟨this.1, this.2.2⟩
theorem f3 {b e : Nat} (hb : b < 256) (he : e < 5) : ((g2 (g1 b) / 16 + 16 * e + g2 (g1 b)) &&& 15) = pc8 b ∧ g2 (g1 b) / 16 + 16 * e + g2 (g1 b) < 256 := by
  have := byte3 ⟨b, hb⟩ ⟨e, he⟩; exact ⟨this.1, this.2.2.1⟩
theorem l1 {b : Nat} (hb : b < 256) : g1 b < 256 := (byte1 ⟨b, hb⟩ 0).2.1
theorem l2 {b : Nat} (hb : b < 256) : g2 (g1 b) < 256 := (byte2 ⟨b, hb⟩ 0).2.1
theorem l3 {b : Nat} (hb : b < 256) : g2 (g1 b) % 16 < 5 := (byte3 ⟨b, hb⟩ 0).2.2.2
theorem l8 {b : Nat} (hb : b < 256) : pc8 b ≤ 8 := (byte3 ⟨b, hb⟩ 0).2.1
theorem step1 : ∀ bs : List Nat, (∀ b ∈ bs, b < 256) → ∀ c, c < 2 → ((ofB bs / 2 + 0 * c) &&& ofB (bs.map fun _ => 85)) + (ofB bs &&& ofB (bs.map fun _ => 85)) = ofB (bs.map g1)
  | [], _, _, _ => by simp [ofB]
  | b :: bs, h, c, hc => by
    have hb := h b List.mem_cons_self
    have ih := step1 bs (fun x hx => h x (List.mem_cons_of_mem _ hx)) 0 (by omega)
    obtain ⟨q1, q2⟩ := f1 (n := ofB bs) hb
    simp only [Nat.zero_mul, Nat.add_zero] at ih ⊢
    simp only [ofB, List.map_cons]
    rw [show (b + 256 * ofB bs) / 2 = (b / 2 + 128 * (ofB bs % 2)) + 256 * (ofB bs / 2) by omega, and_byte q2 (by omega), and_byte hb (by omega), ← ih, ← q1]
    omega
theorem step2 : ∀ bs : List Nat, (∀ b ∈ bs, b < 256) → ((ofB (bs.map g1) / 4) &&& ofB (bs.map fun _ => 51)) + (ofB (bs.map g1) &&& ofB (bs.map fun _ => 51)) = ofB (bs.map fun b => g2 (g1 b))
  | [], _ => by simp [ofB]
  | b :: bs, h => by
    have hb := h b List.mem_cons_self
    have ih := step2 bs (fun x hx => h x (List.mem_cons_of_mem _ hx))
    obtain ⟨q1, q2⟩ := f2 (n := ofB (bs.map g1)) hb
    have hg := l1 hb
    simp only [ofB, List.map_cons]
    rw [show (g1 b + 256 * ofB (bs.map g1)) / 4 = (g1 b / 4 + 64 * (ofB (bs.map g1) % 4)) + 256 * (ofB (bs.map g1) / 4) by omega, and_byte q2 (by omega), and_byte hg (by omega), ← ih, ← q1]
    omega
theorem step3 : ∀ bs : List Nat, (∀ b ∈ bs, b < 256) → ((ofB (bs.map fun b => g2 (g1 b)) / 16 + ofB (bs.map fun b => g2 (g1 b))) &&& ofB (bs.map fun _ => 15)) = ofB (bs.map pc8)
  | [], _ => by simp [ofB]
  | b :: bs, h => by
    have hb := h b List.mem_cons_self
    have hbs := fun x hx => h x (List.mem_cons_of_mem _ hx)
    have ih := step3 bs hbs
    have he : ofB (bs.map fun b => g2 (g1 b)) % 16 < 5 := by
      cases bs with
      | nil => simp [ofB]
      | cons c cs =>
        have := l3 (hbs c List.mem_cons_self)
        simp only [ofB, List.map_cons]
        omega
    obtain ⟨q1, q2⟩ := f3 hb he
    simp only [ofB, List.map_cons]
    generalize hz : ofB (bs.map fun b => g2 (g1 b)) = z at *
    rw [show (g2 (g1 b) + 256 * z) / 16 + (g2 (g1 b) + 256 * z) = (g2 (g1 b) / 16 + 16 * (z % 16) + g2 (g1 b)) + 256 * (z / 16 + z) by omega, and_byte q2 (by omega), ih, q1]
theorem sum2 {p0 p1 p2 w0 w1 w2 w3 : Nat} (k0 : p0 ≤ 8) (k1 : p1 ≤ 8) (k2 : p2 ≤ 8) (e0 : w0 = p0 + 256 * w1) (e1 : w1 = p1 + 256 * w2) (e2 : w2 = p2 + 256 * w3) : (w0 + w1) / 65536 = w2 + w3 := by omega
theorem quad {p0 p1 p2 p3 w0 w1 w2 w3 w4 : Nat} (e0 : w0 = p0 + 256 * w1) (e1 : w1 = p1 + 256 * w2) (e2 : w2 = p2 + 256 * w3) (e3 : w3 = p3 + 256 * w4) : w0 = p0 + 256 * p1 + 65536 * p2 + 16777216 * p3 + 4294967296 * w4 := by omega
theorem sum4 {a b c d w4 w5 w6 w7 w0 w1 w2 w3 : Nat} (ha : a ≤ 1000000000) (hb : b ≤ 1000000000) (hc : c ≤ 1000000000) (hd : d ≤ 1000000000) (e0 : w0 = a + 4294967296 * w4) (e1 : w1 = b + 4294967296 * w5) (e2 : w2 = c + 4294967296 * w6) (e3 : w3 = d + 4294967296 * w7) : (w0 + w1 + (w2 + w3)) / 4294967296 = w4 + w5 + (w6 + w7) := by omega
theorem pop_sum {p0 p1 p2 p3 p4 p5 p6 p7 : Nat} (k0 : p0 ≤ 8) (k1 : p1 ≤ 8) (k2 : p2 ≤ 8) (k3 : p3 ≤ 8) (k4 : p4 ≤ 8) (k5 : p5 ≤ 8) (k6 : p6 ≤ 8) (k7 : p7 ≤ 8) :
    (p0 + 256 * (p1 + 256 * (p2 + 256 * (p3 + 256 * (p4 + 256 * (p5 + 256 * (p6 + 256 * (p7 + 256 * 0))))))) + (p0 + 256 * (p1 + 256 * (p2 + 256 * (p3 + 256 * (p4 + 256 * (p5 + 256 * (p6 + 256 * (p7 + 256 * 0)))))))) / 256 +
      (p0 + 256 * (p1 + 256 * (p2 + 256 * (p3 + 256 * (p4 + 256 * (p5 + 256 * (p6 + 256 * (p7 + 256 * 0))))))) + (p0 + 256 * (p1 + 256 * (p2 + 256 * (p3 + 256 * (p4 + 256 * (p5 + 256 * (p6 + 256 * (p7 + 256 * 0)))))))) / 256) / 65536 +
      (p0 + 256 * (p1 + 256 * (p2 + 256 * (p3 + 256 * (p4 + 256 * (p5 + 256 * (p6 + 256 * (p7 + 256 * 0))))))) + (p0 + 256 * (p1 + 256 * (p2 + 256 * (p3 + 256 * (p4 + 256 * (p5 + 256 * (p6 + 256 * (p7 + 256 * 0)))))))) / 256 +
      (p0 + 256 * (p1 + 256 * (p2 + 256 * (p3 + 256 * (p4 + 256 * (p5 + 256 * (p6 + 256 * (p7 + 256 * 0))))))) + (p0 + 256 * (p1 + 256 * (p2 + 256 * (p3 + 256 * (p4 + 256 * (p5 + 256 * (p6 + 256 * (p7 + 256 * 0)))))))) / 256) / 65536) / 4294967296) % 2 ^ 7 = p0 + p1 + p2 + p3 + p4 + p5 + p6 + p7 := by
  obtain ⟨w7, e7⟩ : ∃ w, w = p7 + 256 * 0 := ⟨_, rfl⟩
  rw [← e7]
  obtain ⟨w6, e6⟩ : ∃ w, w = p6 + 256 * w7 := ⟨_, rfl⟩
  rw [← e6]
  obtain ⟨w5, e5⟩ : ∃ w, w = p5 + 256 * w6 := ⟨_, rfl⟩
  rw [← e5]
  obtain ⟨w4, e4⟩ : ∃ w, w = p4 + 256 * w5 := ⟨_, rfl⟩
  rw [← e4]
  obtain ⟨w3, e3⟩ : ∃ w, w = p3 + 256 * w4 := ⟨_, rfl⟩
  rw [← e3]
  obtain ⟨w2, e2⟩ : ∃ w, w = p2 + 256 * w3 := ⟨_, rfl⟩
  rw [← e2]
  obtain ⟨w1, e1⟩ : ∃ w, w = p1 + 256 * w2 := ⟨_, rfl⟩
  rw [← e1]
  obtain ⟨w0, e0⟩ : ∃ w, w = p0 + 256 * w1 := ⟨_, rfl⟩
  rw [← e0]
  have d1 : w0 / 256 = w1 := by clear e1 e2 e3 e4 e5 e6 e7; omega
  rw [d1, sum2 k0 k1 k2 e0 e1 e2]
  have q0 := quad e0 e1 e2 e3
  have q1 := quad e1 e2 e3 e4
  have q2 := quad e2 e3 e4 e5
  have q3 := quad e3 e4 e5 e6
  rw [sum4 (by clear q0 q1 q2 q3 e0 e1 e2 e3 e4 e5 e6 e7 d1; omega) (by clear q0 q1 q2 q3 e0 e1 e2 e3 e4 e5 e6 e7 d1; omega) (by clear q0 q1 q2 q3 e0 e1 e2 e3 e4 e5 e6 e7 d1; omega) (by clear q0 q1 q2 q3 e0 e1 e2 e3 e4 e5 e6 e7 d1; omega) q0 q1 q2 q3]
  clear q0 q1 q2 q3 d1
  omega
theorem pop_bytes (b0 b1 b2 b3 b4 b5 b6 b7 : Nat) (h : ∀ b ∈ [b0, b1, b2, b3, b4, b5, b6, b7], b < 256) : pop64 (ofB [b0, b1, b2, b3, b4, b5, b6, b7]) = pc8 b0 + pc8 b1 + pc8 b2 + pc8 b3 + pc8 b4 + pc8 b5 + pc8 b6 + pc8 b7 := by
  have s1 := step1 _ h 0 (by omega)
  have s2 := step2 _ h
  have s3 := step3 _ h
  have m1 : ofB (([b0, b1, b2, b3, b4, b5, b6, b7] : List Nat).map fun _ => 85) = 6148914691236517205 := (by decide +kernel : ofB [85, 85, 85, 85, 85, 85, 85, 85] = 6148914691236517205)
  have m2 : ofB ([b0, b1, b2, b3, b4, b5, b6, b7].map fun _ => 51) = 3689348814741910323 := (by decide +kernel : ofB [51, 51, 51, 51, 51, 51, 51, 51] = 3689348814741910323)
  have m3 : ofB ([b0, b1, b2, b3, b4, b5, b6, b7].map fun _ => 15) = 1085102592571150095 := (by decide +kernel : ofB [15, 15, 15, 15, 15, 15, 15, 15] = 1085102592571150095)
  rw [m1, Nat.zero_mul, Nat.add_zero] at s1
  rw [m2] at s2
  rw [m3] at s3
  unfold pop64
  simp only [s1, s2, s3]
  have k0 := l8 (h b0 (by simp)); have k1 := l8 (h b1 (by simp)); have k2 := l8 (h b2 (by simp)); have k3 := l8 (h b3 (by simp))
  have k4 := l8 (h b4 (by simp)); have k5 := l8 (h b5 (by simp)); have k6 := l8 (h b6 (by simp)); have k7 := l8 (h b7 (by simp))
  simp only [List.map_cons, List.map_nil, ofB]
  generalize pc8 b0 = p0 at *; generalize pc8 b1 = p1 at *; generalize pc8 b2 = p2 at *; generalize pc8 b3 = p3 at *
  generalize pc8 b4 = p4 at *; generalize pc8 b5 = p5 at *; generalize pc8 b6 = p6 at *; generalize pc8 b7 = p7 at *
  rw [show (127 : Nat) = 2 ^ 7 - 1 from rfl, Nat.and_two_pow_sub_one_eq_mod]
  clear s1 s2 s3 m1 m2 m3 h
  exact pop_sum k0 k1 k2 k3 k4 k5 k6 k7
def cntTo (p : Nat → Bool) : Nat → Nat
  | 0 => 0
  | k + 1 => cntTo p k + (p k).toNat
theorem cntTo_congr {p q : Nat → Bool} : ∀ n, (∀ i, i < n → p i = q i) → cntTo p n = cntTo q n
  | 0, _ => rfl
  | n + 1, h => by simp only [cntTo]; rw [cntTo_congr n fun i hi => h i (by omega), h n (by omega)]
theorem cntTo_zero {p : Nat → Bool} : ∀ n, cntTo p n = 0 ↔ ∀ i, i < n → p i = false
  | 0 => by simp [cntTo]
  | n + 1 => by
    simp only [cntTo, Nat.add_eq_zero_iff, cntTo_zero n]
    constructor
    · rintro ⟨h1, h2⟩ i hi
      by_cases e : i = n
      · subst e; cases hp : p i with
        | false => rfl
        | true => rw [hp] at h2; cases h2
      · exact h1 i (by omega)
    · exact fun h => ⟨fun i hi => h i (by omega), by rw [h n (by omega)]; rfl⟩
theorem cntTo_add (p : Nat → Bool) (m : Nat) : ∀ n, cntTo p (m + n) = cntTo p m + cntTo (fun i => p (m + i)) n
  | 0 => rfl
  | n + 1 => by show cntTo p (m + n) + (p (m + n)).toNat = _; rw [cntTo_add p m n]; simp only [cntTo]; omega
theorem pc8_mod (m : Nat) : pc8 (m % 256) = (m.testBit 0).toNat + (m.testBit 1).toNat + (m.testBit 2).toNat + (m.testBit 3).toNat + (m.testBit 4).toNat + (m.testBit 5).toNat + (m.testBit 6).toNat + (m.testBit 7).toNat := by
  unfold pc8
  rw [show (256 : Nat) = 2 ^ 8 from rfl]
  simp only [Nat.testBit_mod_two_pow]
  simp
theorem tb_div (n i j : Nat) : (n / 2 ^ i).testBit j = n.testBit (i + j) := by rw [Nat.testBit_div_two_pow, Nat.add_comm]
theorem pop_word (n : Nat) (hn : n < 18446744073709551616) : pop64 n = cntTo (fun i => n.testBit (63 - i)) 64 := by
  have e : ofB [n % 256, n / 2 ^ 8 % 256, n / 2 ^ 16 % 256, n / 2 ^ 24 % 256, n / 2 ^ 32 % 256, n / 2 ^ 40 % 256, n / 2 ^ 48 % 256, n / 2 ^ 56 % 256] = n := by
    simp only [ofB]
    have d : ∀ k, n / 2 ^ (k + 8) = n / 2 ^ k / 256 := fun k => by rw [Nat.pow_add, ← Nat.div_div_eq_div_mul]
    have s : ∀ m : Nat, m % 256 + 256 * (m / 256) = m := fun m => Nat.mod_add_div m 256
    have z : n / 2 ^ 64 = 0 := Nat.div_eq_of_lt (by simpa using hn)
    have c7 : n / 2 ^ 56 % 256 + 256 * 0 = n / 2 ^ 56 := by have := d 56; have := s (n / 2 ^ 56); omega
    rw [c7, d 48, s, d 40, s, d 32, s, d 24, s, d 16, s, d 8, s]
    exact s n
  have hb := pop_bytes (n % 256) (n / 2 ^ 8 % 256) (n / 2 ^ 16 % 256) (n / 2 ^ 24 % 256) (n / 2 ^ 32 % 256) (n / 2 ^ 40 % 256) (n / 2 ^ 48 % 256) (n / 2 ^ 56 % 256) (by
    intro b hb
    simp only [List.mem_cons, List.not_mem_nil, or_false] at hb
    rcases hb with h | h | h | h | h | h | h | h <;> (rw [h]; exact Nat.mod_lt _ (by decide)))
  rw [e] at hb
  rw [hb]
  simp only [pc8_mod, tb_div, Nat.reduceAdd]
  simp only [cntTo, Nat.reduceSub]
  omega
def aOnes (a : A2) : Int := (pop64 a.x.toNat : Int) + (pop64 a.y.toNat : Int)
theorem aOnes_cnt {a : A2} (ha : a.ok) : aOnes a = (cntTo (abit a) 128 : Nat) := by
  obtain ⟨x, hx, hx2⟩ := U_nat ha.1
  obtain ⟨y, hy, hy2⟩ := U_nat ha.2
  unfold aOnes
  rw [hx, hy, Int.toNat_natCast, Int.toNat_natCast, pop_word x hx2, pop_word y hy2, show (128 : Nat) = 64 + 64 from rfl, cntTo_add]
  rw [cntTo_congr (p := fun i => x.testBit (63 - i)) (q := abit a) 64 fun i hi => by unfold abit; rw [if_pos hi, hx, wbit_nat]]
  rw [cntTo_congr (p := fun i => y.testBit (63 - i)) (q := fun i => abit a (64 + i)) 64 fun i hi => by unfold abit; rw [if_neg (by omega), hy, wbit_nat, show 127 - (64 + i) = 63 - i by omega]]
  push_cast
  rfl
end Go.Proofs.YtjmnnkhdadoehaaGreat

/- The order of two addresses, bit by bit. -/
namespace Go.Proofs.YtjmnnkhdadoehaaGreat
set_option linter.unusedSimpArgs false
set_option linter.unusedVariables false
open Go
theorem wbit_step (x : Int) (j : Nat) : x / 2 ^ j = 2 * (x / 2 ^ (j + 1)) + (if wbit x j then 1 else 0) := by
  rw [← half_step]
  unfold wbit
  have h := Int.emod_two_eq (x / 2 ^ j)
  rcases h with h | h
  · rw [h]; simp; omega
  · rw [h]; simp; omega
theorem hi_zero {x : Int} (h : U x) : x / 2 ^ 64 = 0 := by
  obtain ⟨h0, h1⟩ := h
  exact Int.ediv_eq_zero_of_lt h0 (by simpa using h1)
theorem hi_eq {x y : Int} (hx : U x) (hy : U y) : ∀ k, k ≤ 64 → (∀ i, i < k → wbit x (63 - i) = wbit y (63 - i)) → x / 2 ^ (64 - k) = y / 2 ^ (64 - k)
  | 0, _, _ => by rw [show 64 - 0 = 64 from rfl, hi_zero hx, hi_zero hy]
  | k + 1, hk, h => by
    have ih := hi_eq hx hy k (by omega) (fun i hi => h i (by omega))
    have hb := h k (by omega)
    rw [show 64 - (k + 1) = 63 - k by omega, wbit_step x, wbit_step y, hb, show 63 - k + 1 = 64 - k by omega, ih]
theorem word_eq {x y : Int} (hx : U x) (hy : U y) (h : ∀ i, i < 64 → wbit x (63 - i) = wbit y (63 - i)) : x = y := by
  have := hi_eq hx hy 64 (Nat.le_refl _) h
  simpa using this
theorem word_lt {x y : Int} (hx : U x) (hy : U y) {k : Nat} (hk : k < 64) (h : ∀ i, i < k → wbit x (63 - i) = wbit y (63 - i)) (h0 : wbit x (63 - k) = false) (h1 : wbit y (63 - k) = true) : x < y := by
  have e := hi_eq hx hy k (by omega) h
  have ex := wbit_step x (63 - k)
  have ey := wbit_step y (63 - k)
  rw [h0, show 63 - k + 1 = 64 - k by omega] at ex
  rw [h1, show 63 - k + 1 = 64 - k by omega] at ey
  simp only [Bool.false_eq_true, if_false, if_true] at ex ey
  by_cases c : y ≤ x
  · have := Int.ediv_le_ediv (show (0 : Int) < 2 ^ (63 - k) by exact Int.pow_pos (by omega)) c
    omega
  · omega
def eqP (a b : A2) (i : Nat) : Bool := abit a i == abit b i
theorem cmp_bits {a b : A2} (ha : a.ok) (hb : b.ok) {k : Nat} (hk : k ≤ 128) (h : allTo (eqP a b) k = true) :
    (k = 128 → aCompare a b = 0) ∧ (k < 128 → abit a k ≠ abit b k → aCompare a b = if abit b k then -1 else 1) := by
  have h' : ∀ i, i < k → abit a i = abit b i := fun i hi => by have := (allTo_iff _ _).1 h i hi; simpa [eqP] using this
  have hx : ∀ n, n ≤ k → n ≤ 64 → ∀ i, i < n → wbit a.x (63 - i) = wbit b.x (63 - i) := fun n hn h64 i hi => by
    have := h' i (by omega)
    unfold abit at this
    rwa [if_pos (by omega), if_pos (by omega)] at this
  have hy : ∀ n, 64 + n ≤ k → ∀ i, i < n → wbit a.y (63 - i) = wbit b.y (63 - i) := fun n hn i hi => by
    have := h' (64 + i) (by omega)
    unfold abit at this
    rw [if_neg (by omega), if_neg (by omega), show 127 - (64 + i) = 63 - i by omega] at this
    exact this
  refine ⟨fun e => ?_, fun hlt hne => ?_⟩
  · have e1 := word_eq ha.1 hb.1 (hx 64 (by omega) (by omega))
    have e2 := word_eq ha.2 hb.2 (hy 64 (by omega))
    unfold aCompare
    rw [e1, e2]; simp
  · by_cases c : k < 64
    · have hb1 : abit a k = wbit a.x (63 - k) := by unfold abit; rw [if_pos c]
      have hb2 : abit b k = wbit b.x (63 - k) := by unfold abit; rw [if_pos c]
      rw [hb1, hb2] at hne
      rw [hb2]
      cases h2 : wbit b.x (63 - k) with
      | true =>
        have h1 : wbit a.x (63 - k) = false := by cases h1 : wbit a.x (63 - k) with | false => rfl | true => rw [h1, h2] at hne; exact absurd rfl hne
        have := word_lt ha.1 hb.1 c (hx k (Nat.le_refl _) (by omega)) h1 h2
        unfold aCompare
        rw [if_pos this]; rfl
      | false =>
        have h1 : wbit a.x (63 - k) = true := by cases h1 : wbit a.x (63 - k) with | true => rfl | false => rw [h1, h2] at hne; exact absurd rfl hne
        have := word_lt hb.1 ha.1 c (fun i hi => (hx k (Nat.le_refl _) (by omega) i hi).symm) h2 h1
        unfold aCompare
        rw [if_neg (by omega), if_pos this]; rfl
    · obtain ⟨m, rfl⟩ : ∃ m, k = 64 + m := ⟨k - 64, by omega⟩
      have e1 := word_eq ha.1 hb.1 (hx 64 (by omega) (by omega))
      have hb1 : abit a (64 + m) = wbit a.y (63 - m) := by unfold abit; rw [if_neg c, show 127 - (64 + m) = 63 - m by omega]
      have hb2 : abit b (64 + m) = wbit b.y (63 - m) := by unfold abit; rw [if_neg c, show 127 - (64 + m) = 63 - m by omega]
      rw [hb1, hb2] at hne
      rw [hb2]
      cases h2 : wbit b.y (63 - m) with
      | true =>
        have h1 : wbit a.y (63 - m) = false := by cases h1 : wbit a.y (63 - m) with | false => rfl | true => rw [h1, h2] at hne; exact absurd rfl hne
        have := word_lt ha.2 hb.2 (by omega) (hy m (Nat.le_refl _)) h1 h2
        unfold aCompare
        rw [if_neg (by omega), if_neg (by omega), if_pos this]; rfl
      | false =>
        have h1 : wbit a.y (63 - m) = true := by cases h1 : wbit a.y (63 - m) with | true => rfl | false => rw [h1, h2] at hne; exact absurd rfl hne
        have := word_lt hb.2 ha.2 (by omega) (fun i hi => (hy m (Nat.le_refl _) i hi).symm) h2 h1
        unfold aCompare
        rw [if_neg (by omega), if_neg (by omega), if_neg (by omega), if_pos this]; rfl
end Go.Proofs.YtjmnnkhdadoehaaGreat
