/- What the functions compute, in plain Lean. -/
import Derived.Test.YtjmnnkhdadoehaaZBase
import Derived.Laws.Bits
namespace Go.Proofs.Ytjmnnkhdadoehaa
set_option linter.unusedSimpArgs false
set_option linter.unusedVariables false
open Go
def aAnd (a b : A2) : A2 := ⟨bits .and .u64 a.x b.x, bits .and .u64 a.y b.y⟩
def aXor (a b : A2) : A2 := ⟨bits .xor .u64 a.x b.x, bits .xor .u64 a.y b.y⟩
def aDiffer (a b m : A2) : A2 := aAnd (aXor a b) m
def wClean (x : W2) : W2 := ⟨aAnd x.v x.m, x.m⟩
def wRight (x : W2) : Bool := same x (wClean x)
def wMeet (x y : W2) : Bool := same (aDiffer x.v y.v (aAnd x.m y.m)) ⟨0, 0⟩
def eAbove (x y : Ent) : Bool := decide (y.len < x.len) && wMeet x.w y.w
def eAlike (x y : Ent) : Bool := same x.w y.w && (x.len == y.len)
def cmpInt (a b : Int) : Int := if a < b then -1 else if b < a then 1 else 0
def clamp (n : Int) : Int := if n < 0 then 0 else if 128 < n then 128 else n
def aCompare (a b : A2) : Int := if a.x < b.x then -1 else if b.x < a.x then 1 else if a.y < b.y then -1 else if b.y < a.y then 1 else 0
def maskW (k : Int) : Int := bits .xor .u64 IntKind.u64.max (18446744073709551615 / 2 ^ k.toNat)
theorem maskW_0 : bits BinOp.xor IntKind.u64 IntKind.u64.max 18446744073709551615 = maskW 0 := by unfold maskW; rfl
theorem maskW_64 : bits BinOp.xor IntKind.u64 IntKind.u64.max 0 = maskW 64 := by unfold maskW; rfl
theorem maskW_n (n : Int) : bits BinOp.xor IntKind.u64 IntKind.u64.max (18446744073709551615 / 2 ^ n.toNat) = maskW n := rfl
def aMask (n : Int) : A2 := if n ≤ 0 then ⟨maskW 0, maskW 0⟩ else if 128 ≤ n then ⟨maskW 64, maskW 64⟩ else if n ≤ 64 then ⟨maskW n, maskW 0⟩ else ⟨maskW 64, maskW (n - 64)⟩
def aCut (a : A2) (n : Int) : A2 := aAnd a (aMask n)
def pMake (a : A2) (n : Int) : Pfx := ⟨aCut a (clamp n), clamp n⟩
def wOf (p : Pfx) : W2 := ⟨(pMake p.a p.len).a, aMask (pMake p.a p.len).len⟩
def eOf (p : Pfx) (action : Int) : Ent := ⟨wOf p, (pMake p.a p.len).len, action⟩
def eRight (x : Ent) : Bool := wRight x.w && decide (0 ≤ x.len) && decide (x.len ≤ 128) && decide (1 ≤ x.act) && decide (x.act ≤ 255)
end Go.Proofs.Ytjmnnkhdadoehaa

/- Bits of an address, in plain Lean. -/
namespace Go.Proofs.Ytjmnnkhdadoehaa
set_option linter.unusedSimpArgs false
set_option linter.unusedVariables false
open Go
def U (x : Int) : Prop := 0 ≤ x ∧ x < 18446744073709551616
def A2.ok (a : A2) : Prop := U a.x ∧ U a.y
def wbit (n : Int) (j : Nat) : Bool := (n / 2 ^ j % 2 == 1)
def abit (a : A2) (i : Nat) : Bool := if i < 64 then wbit a.x (63 - i) else wbit a.y (127 - i)
theorem half_step (X : Int) (j : Nat) : X / 2 ^ j / 2 = X / 2 ^ (j + 1) := by
  rw [Int.ediv_ediv_of_nonneg (by exact Int.pow_nonneg (by omega)), Int.pow_succ]
def bitsRow (a : A2) (j m : Nat) (i : Nat) : Bool := if i < 64 * j ∨ (64 * j + m ≤ i ∧ i < 64 * j + 64) then abit a i else false
theorem bitsRow_step (a : A2) (j m i : Nat) (hm : m < 64) : bitsRow a j m i = if i = 64 * j + m then abit a i else bitsRow a j (m + 1) i := by
  unfold bitsRow
  by_cases h : i = 64 * j + m
  · rw [if_pos h, if_pos (by omega)]
  · rw [if_neg h]
    by_cases h2 : i < 64 * j ∨ (64 * j + m ≤ i ∧ i < 64 * j + 64)
    · rw [if_pos h2, if_pos (by omega)]
    · rw [if_neg h2, if_neg (by omega)]
theorem bitsRow_next (a : A2) (i : Nat) (h : i < 128) : bitsRow a 1 64 i = bitsRow a 0 0 i := by
  unfold bitsRow
  by_cases h2 : i < 64
  · rw [if_pos (by omega), if_pos (by omega)]
  · rw [if_neg (by omega), if_neg (by omega)]
theorem bitsRow_end (a : A2) (i : Nat) (h : i < 128) : bitsRow a 1 0 i = abit a i := by
  unfold bitsRow; rw [if_pos (by omega)]
theorem bitsRow_start (a : A2) (i : Nat) (h : i < 128) : bitsRow a 0 64 i = false := by
  unfold bitsRow; rw [if_neg (by omega)]
theorem abit_lo (a : A2) (m : Nat) (hm : m < 64) : abit a (64 * 0 + m) = wbit a.x (63 - m) := by unfold abit; rw [if_pos (by omega), show 64 * 0 + m = m by omega]
theorem abit_hi (a : A2) (m : Nat) (hm : m < 64) : abit a (64 * 1 + m) = wbit a.y (63 - m) := by unfold abit; rw [if_neg (by omega), show 127 - (64 * 1 + m) = 63 - m by omega]
theorem bits_round {X n : Int} {m : Nat} (h : n = X / 2 ^ (64 - (m + 1))) (hm : m < 64) : n / 2 = X / 2 ^ (64 - m) ∧ (n % 2 == 1) = wbit X (63 - m) := by
  have e : 64 - (m + 1) = 63 - m := by omega
  rw [e] at h
  refine ⟨?_, by rw [h]; rfl⟩
  rw [h, half_step, show 63 - m + 1 = 64 - m by omega]
theorem u_half {n : Int} (h : U n) : U (n / 2) ∧ IntKind.u64.wrap (n.tdiv 2) = n / 2 := by
  obtain ⟨h0, h1⟩ := h
  refine ⟨⟨by omega, by omega⟩, ?_⟩
  rw [Int.tdiv_eq_ediv_of_nonneg h0]
  show (n / 2) % 18446744073709551616 = n / 2
  omega
theorem bits_row {V : Type} (B : Bool → V) {c : Array V} {a : A2} {j m : Nat} {b : Bool} (hc : c.size = 128) (h : ∀ i, i < 128 → c[i]? = some (B (bitsRow a j (m + 1) i))) (hm : m < 64) (hj : j < 2) (hb : b = abit a (64 * j + m)) :
    (c.setIfInBounds (64 * j + m) (B b)).size = 128 ∧ ∀ i, i < 128 → (c.setIfInBounds (64 * j + m) (B b))[i]? = some (B (bitsRow a j m i)) := by
  refine ⟨by simp [hc], fun i hi => ?_⟩
  rw [Array.getElem?_setIfInBounds, bitsRow_step a j m i hm]
  by_cases e : 64 * j + m = i
  · rw [if_pos e, if_pos (by omega), if_pos (by omega), hb, e]
  · rw [if_neg e, if_neg (by omega)]; exact h i hi
def allTo (p : Nat → Bool) : Nat → Bool
  | 0 => true
  | k + 1 => allTo p k && p k
theorem allTo_false {p : Nat → Bool} {k : Nat} (h : p k = false) : ∀ n, k < n → allTo p n = false
  | 0, hn => by omega
  | n + 1, hn => by
    by_cases e : k = n
    · subst e; simp [allTo, h]
    · simp [allTo, allTo_false h n (by omega)]
theorem allTo_succ {p : Nat → Bool} {k : Nat} (h : allTo p k = true) (h1 : p k = true) : allTo p (k + 1) = true := by simp [allTo, h, h1]
theorem allTo_iff (p : Nat → Bool) : ∀ n, allTo p n = true ↔ ∀ k, k < n → p k = true
  | 0 => by simp [allTo]
  | n + 1 => by
    simp only [allTo, Bool.and_eq_true, allTo_iff p n]
    constructor
    · rintro ⟨h1, h2⟩ k hk
      by_cases e : k = n
      · subst e; exact h2
      · exact h1 k (by omega)
    · exact fun h => ⟨fun k hk => h k (by omega), h n (by omega)⟩
def rMatchP (x : W2) (a : A2) (k : Nat) : Bool := !(abit x.m k && (abit x.v k != abit a k))
def rMatch (x : W2) (a : A2) : Bool := allTo (rMatchP x a) 128
def rMeetP (x y : W2) (k : Nat) : Bool := !(abit x.m k && abit y.m k && (abit x.v k != abit y.v k))
def rMeet (x y : W2) : Bool := allTo (rMeetP x y) 128
def W2.ok (x : W2) : Prop := x.v.ok ∧ x.m.ok
end Go.Proofs.Ytjmnnkhdadoehaa

/- What the functions over rows compute, in plain Lean. -/
namespace Go.Proofs.Ytjmnnkhdadoehaa
set_option linter.unusedSimpArgs false
set_option linter.unusedVariables false
open Go
def nth {α : Type} [Inhabited α] (xs : List α) (k : Nat) : α := xs.getD k default
theorem nth_at {α : Type} [Inhabited α] (xs : List α) {k : Nat} (h : k < xs.length) : nth xs k = xs[k] := by simp [nth, List.getD, h]
def firstAt {α : Type} (p : α → Bool) : List α → Int
  | [] => -1
  | x :: xs => if p x then 0 else if firstAt p xs < 0 then -1 else firstAt p xs + 1
theorem firstAt_ge {α : Type} (p : α → Bool) : ∀ xs : List α, -1 ≤ firstAt p xs
  | [] => by simp [firstAt]
  | x :: xs => by
    have := firstAt_ge p xs
    simp only [firstAt]
    split
    · omega
    · split <;> omega
theorem firstAt_hit {α : Type} (p : α → Bool) : ∀ (xs : List α) (k : Nat) (hk : k < xs.length), (∀ (i : Nat) (x : α), i < k → xs[i]? = some x → p x = false) → p xs[k] = true → firstAt p xs = k
  | [], k, hk, _, _ => by simp at hk
  | x :: xs, 0, _, _, hp => by simp only [List.getElem_cons_zero] at hp; simp [firstAt, hp]
  | x :: xs, k + 1, hk, h, hp => by
    have h0 : p x = false := h 0 x (by omega) rfl
    have h1 := firstAt_hit p xs k (by simpa using hk) (fun i y hi hy => h (i + 1) y (by omega) (by simpa using hy)) (by simpa using hp)
    simp only [firstAt, h0, Bool.false_eq_true, if_false, h1]
    rw [if_neg (by omega)]
    omega
theorem firstAt_none {α : Type} (p : α → Bool) : ∀ xs : List α, (∀ (i : Nat) (x : α), xs[i]? = some x → p x = false) → firstAt p xs = -1
  | [], _ => rfl
  | x :: xs, h => by
    have h0 : p x = false := h 0 x rfl
    have h1 := firstAt_none p xs (fun i y hy => h (i + 1) y (by simpa using hy))
    simp [firstAt, h0, h1]
theorem none_step {α : Type} {p : α → Bool} {xs : List α} {k : Nat} (h : ∀ (i : Nat) (x : α), i < k → xs[i]? = some x → p x = false) (hk : k < xs.length) (h1 : p xs[k] = false) : ∀ (i : Nat) (x : α), i < k + 1 → xs[i]? = some x → p x = false := by
  intro i x hi hx
  by_cases e : i = k
  · subst e
    rw [List.getElem?_eq_getElem hk, Option.some.injEq] at hx
    rw [← hx]; exact h1
  · exact h i x (by omega) hx
def ordTo (xs : List Ent) : Nat → Bool
  | 0 => true
  | k + 1 => ordTo xs k && !(xs.take k).any (fun y => eAbove (nth xs k) y)
def ordered (xs : List Ent) : Bool := ordTo xs xs.length
theorem ordTo_false (xs : List Ent) {k : Nat} (h : (xs.take k).any (fun y => eAbove (nth xs k) y) = true) : ∀ n, k < n → ordTo xs n = false
  | 0, hn => by omega
  | n + 1, hn => by
    by_cases e : k = n
    · subst e; simp [ordTo, h]
    · simp [ordTo, ordTo_false xs h n (by omega)]
theorem firstAt_any {α : Type} (p : α → Bool) (xs : List α) : decide (0 ≤ firstAt p xs) = xs.any p := by
  rw [Bool.eq_iff_iff, decide_eq_true_iff, List.any_eq_true]
  induction xs with
  | nil => simp [firstAt]
  | cons x xs ih =>
    have hge := firstAt_ge p xs
    simp only [firstAt]
    by_cases h : p x = true
    · rw [if_pos h]
      exact ⟨fun _ => ⟨x, List.mem_cons_self, h⟩, fun _ => by omega⟩
    · rw [if_neg h]
      by_cases h2 : firstAt p xs < 0
      · rw [if_pos h2]
        refine ⟨fun h3 => by omega, fun ⟨y, hy, hp⟩ => ?_⟩
        rcases List.mem_cons.1 hy with rfl | hy
        · exact absurd hp h
        · have := ih.2 ⟨y, hy, hp⟩
          omega
      · rw [if_neg h2]
        refine ⟨fun _ => ?_, fun _ => by omega⟩
        obtain ⟨y, hy, hp⟩ := ih.1 (by omega)
        exact ⟨y, List.mem_cons_of_mem _ hy, hp⟩
end Go.Proofs.Ytjmnnkhdadoehaa

/- The two entries of awake. -/
namespace Go.Proofs.Ytjmnnkhdadoehaa
set_option linter.unusedSimpArgs false
set_option linter.unusedVariables false
open Go
end Go.Proofs.Ytjmnnkhdadoehaa

/- The order of two entries, in plain Lean. -/
namespace Go.Proofs.Ytjmnnkhdadoehaa
set_option linter.unusedSimpArgs false
set_option linter.unusedVariables false
open Go
end Go.Proofs.Ytjmnnkhdadoehaa

/- Two words out of 128 bits, in plain Lean. -/
namespace Go.Proofs.Ytjmnnkhdadoehaa
set_option linter.unusedSimpArgs false
set_option linter.unusedVariables false
open Go
def wTo (f : Nat → Bool) (o : Nat) : Nat → Int
  | 0 => 0
  | j + 1 => 2 * wTo f o j + (if f (o + j) then 1 else 0)
theorem wTo_bound (f : Nat → Bool) (o : Nat) : ∀ j, 0 ≤ wTo f o j ∧ wTo f o j < 2 ^ j
  | 0 => by simp [wTo]
  | j + 1 => by
    have h := wTo_bound f o j
    have e : (2 : Int) ^ (j + 1) = 2 * 2 ^ j := by rw [Int.pow_succ, Int.mul_comm]
    rw [e, wTo]
    split <;> omega
theorem two_pow_le {j m : Nat} (h : j ≤ m) : (2 : Int) ^ j ≤ 2 ^ m := by
  have h2 : (2 ^ j : Nat) ≤ 2 ^ m := Nat.pow_le_pow_right (by omega) h
  have := Int.ofNat_le.2 h2
  simpa using this
theorem wTo_U (f : Nat → Bool) (o : Nat) (j : Nat) (h : j ≤ 64) : U (wTo f o j) := by
  obtain ⟨h1, h2⟩ := wTo_bound f o j
  refine ⟨h1, Int.lt_of_lt_of_le h2 ?_⟩
  have := two_pow_le h
  simpa using this
def words (f : Nat → Bool) : A2 := ⟨wTo f 0 64, wTo f 64 64⟩
theorem wrap_two {x : Int} {j : Nat} {f : Nat → Bool} {o : Nat} (h : x = wTo f o j) (hj : j < 64) : IntKind.u64.wrap (x * 2) = x * 2 ∧ IntKind.u64.wrap (x * 2 + 1) = x * 2 + 1 := by
  have h1 := wTo_U f o (j + 1) (by omega)
  have hb := wTo_bound f o j
  have hp : (2 : Int) ^ j ≤ 9223372036854775808 := by
    have := two_pow_le (show j ≤ 63 by omega)
    simpa using this
  constructor
  · show (x * 2) % 18446744073709551616 = x * 2
    omega
  · show (x * 2 + 1) % 18446744073709551616 = x * 2 + 1
    omega
end Go.Proofs.Ytjmnnkhdadoehaa
