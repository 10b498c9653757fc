/- What the functions compute, in plain Lean. -/
import Derived.Test.YtjmnnkhdadoehaaQBase
import Derived.Laws.Bits
namespace Go.Proofs.Ytjmnnkhdadoehaa
set_option linter.unusedSimpArgs false
set_option linter.unusedVariables false
open Go
def aAnd (a b : A2) : A2 := ⟨bits .and .u64 a.x b.x, bits .and .u64 a.y b.y⟩
def aXor (a b : A2) : A2 := ⟨bits .xor .u64 a.x b.x, bits .xor .u64 a.y b.y⟩
def aDiffer (a b m : A2) : A2 := aAnd (aXor a b) m
def wClean (x : W2) : W2 := ⟨aAnd x.v x.m, x.m⟩
def wRight (x : W2) : Bool := same x (wClean x)
def wMatch (x : W2) (a : A2) : Bool := same (aDiffer x.v a x.m) ⟨0, 0⟩
def wMeet (x y : W2) : Bool := same (aDiffer x.v y.v (aAnd x.m y.m)) ⟨0, 0⟩
def eAbove (x y : Ent) : Bool := decide (y.len < x.len) && wMeet x.w y.w
def eAlike (x y : Ent) : Bool := same x.w y.w && (x.len == y.len)
def cmpInt (a b : Int) : Int := if a < b then -1 else if b < a then 1 else 0
def clamp (n : Int) : Int := if n < 0 then 0 else if 128 < n then 128 else n
def aCompare (a b : A2) : Int := if a.x < b.x then -1 else if b.x < a.x then 1 else if a.y < b.y then -1 else if b.y < a.y then 1 else 0
def maskW (k : Int) : Int := bits .xor .u64 IntKind.u64.max (18446744073709551615 / 2 ^ k.toNat)
theorem maskW_0 : bits BinOp.xor IntKind.u64 IntKind.u64.max 18446744073709551615 = maskW 0 := by unfold maskW; rfl
theorem maskW_64 : bits BinOp.xor IntKind.u64 IntKind.u64.max 0 = maskW 64 := by unfold maskW; rfl
theorem maskW_n (n : Int) : bits BinOp.xor IntKind.u64 IntKind.u64.max (18446744073709551615 / 2 ^ n.toNat) = maskW n := rfl
def aMask (n : Int) : A2 := if n ≤ 0 then ⟨maskW 0, maskW 0⟩ else if 128 ≤ n then ⟨maskW 64, maskW 64⟩ else if n ≤ 64 then ⟨maskW n, maskW 0⟩ else ⟨maskW 64, maskW (n - 64)⟩
def aCut (a : A2) (n : Int) : A2 := aAnd a (aMask n)
def pMake (a : A2) (n : Int) : Pfx := ⟨aCut a (clamp n), clamp n⟩
def wOf (p : Pfx) : W2 := ⟨(pMake p.a p.len).a, aMask (pMake p.a p.len).len⟩
def eOf (p : Pfx) (action : Int) : Ent := ⟨wOf p, (pMake p.a p.len).len, action⟩
def eRight (x : Ent) : Bool := wRight x.w && decide (0 ≤ x.len) && decide (x.len ≤ 128) && decide (1 ≤ x.act) && decide (x.act ≤ 255)
end Go.Proofs.Ytjmnnkhdadoehaa

/- Bits of an address, in plain Lean. -/
namespace Go.Proofs.Ytjmnnkhdadoehaa
set_option linter.unusedSimpArgs false
set_option linter.unusedVariables false
open Go
def U (x : Int) : Prop := 0 ≤ x ∧ x < 18446744073709551616
def A2.ok (a : A2) : Prop := U a.x ∧ U a.y
def wbit (n : Int) (j : Nat) : Bool := (n / 2 ^ j % 2 == 1)
def abit (a : A2) (i : Nat) : Bool := if i < 64 then wbit a.x (63 - i) else wbit a.y (127 - i)
def allTo (p : Nat → Bool) : Nat → Bool
  | 0 => true
  | k + 1 => allTo p k && p k
def rMatchP (x : W2) (a : A2) (k : Nat) : Bool := !(abit x.m k && (abit x.v k != abit a k))
def rMatch (x : W2) (a : A2) : Bool := allTo (rMatchP x a) 128
def rMeetP (x y : W2) (k : Nat) : Bool := !(abit x.m k && abit y.m k && (abit x.v k != abit y.v k))
def rMeet (x y : W2) : Bool := allTo (rMeetP x y) 128
def W2.ok (x : W2) : Prop := x.v.ok ∧ x.m.ok
end Go.Proofs.Ytjmnnkhdadoehaa

/- What the functions over rows compute, in plain Lean. -/
namespace Go.Proofs.Ytjmnnkhdadoehaa
set_option linter.unusedSimpArgs false
set_option linter.unusedVariables false
open Go
def nth {α : Type} [Inhabited α] (xs : List α) (k : Nat) : α := xs.getD k default
theorem nth_at {α : Type} [Inhabited α] (xs : List α) {k : Nat} (h : k < xs.length) : nth xs k = xs[k] := by simp [nth, List.getD, h]
def firstAt {α : Type} (p : α → Bool) : List α → Int
  | [] => -1
  | x :: xs => if p x then 0 else if firstAt p xs < 0 then -1 else firstAt p xs + 1
theorem firstAt_ge {α : Type} (p : α → Bool) : ∀ xs : List α, -1 ≤ firstAt p xs
  | [] => by simp [firstAt]
  | x :: xs => by
    have := firstAt_ge p xs
    simp only [firstAt]
    split
    · omega
    · split <;> omega
theorem firstAt_hit {α : Type} (p : α → Bool) : ∀ (xs : List α) (k : Nat) (hk : k < xs.length), (∀ (i : Nat) (x : α), i < k → xs[i]? = some x → p x = false) → p xs[k] = true → firstAt p xs = k
  | [], k, hk, _, _ => by simp at hk
  | x :: xs, 0, _, _, hp => by simp only [List.getElem_cons_zero] at hp; simp [firstAt, hp]
  | x :: xs, k + 1, hk, h, hp => by
    have h0 : p x = false := h 0 x (by omega) rfl
    have h1 := firstAt_hit p xs k (by simpa using hk) (fun i y hi hy => h (i + 1) y (by omega) (by simpa using hy)) (by simpa using hp)
    simp only [firstAt, h0, Bool.false_eq_true, if_false, h1]
    rw [if_neg (by omega)]
    omega
theorem firstAt_none {α : Type} (p : α → Bool) : ∀ xs : List α, (∀ (i : Nat) (x : α), xs[i]? = some x → p x = false) → firstAt p xs = -1
  | [], _ => rfl
  | x :: xs, h => by
    have h0 : p x = false := h 0 x rfl
    have h1 := firstAt_none p xs (fun i y hy => h (i + 1) y (by simpa using hy))
    simp [firstAt, h0, h1]
theorem none_step {α : Type} {p : α → Bool} {xs : List α} {k : Nat} (h : ∀ (i : Nat) (x : α), i < k → xs[i]? = some x → p x = false) (hk : k < xs.length) (h1 : p xs[k] = false) : ∀ (i : Nat) (x : α), i < k + 1 → xs[i]? = some x → p x = false := by
  intro i x hi hx
  by_cases e : i = k
  · subst e
    rw [List.getElem?_eq_getElem hk, Option.some.injEq] at hx
    rw [← hx]; exact h1
  · exact h i x (by omega) hx
def ordTo (xs : List Ent) : Nat → Bool
  | 0 => true
  | k + 1 => ordTo xs k && !(xs.take k).any (fun y => eAbove (nth xs k) y)
def ordered (xs : List Ent) : Bool := ordTo xs xs.length
theorem ordTo_false (xs : List Ent) {k : Nat} (h : (xs.take k).any (fun y => eAbove (nth xs k) y) = true) : ∀ n, k < n → ordTo xs n = false
  | 0, hn => by omega
  | n + 1, hn => by
    by_cases e : k = n
    · subst e; simp [ordTo, h]
    · simp [ordTo, ordTo_false xs h n (by omega)]
theorem firstAt_any {α : Type} (p : α → Bool) (xs : List α) : decide (0 ≤ firstAt p xs) = xs.any p := by
  rw [Bool.eq_iff_iff, decide_eq_true_iff, List.any_eq_true]
  induction xs with
  | nil => simp [firstAt]
  | cons x xs ih =>
    have hge := firstAt_ge p xs
    simp only [firstAt]
    by_cases h : p x = true
    · rw [if_pos h]
      exact ⟨fun _ => ⟨x, List.mem_cons_self, h⟩, fun _ => by omega⟩
    · rw [if_neg h]
      by_cases h2 : firstAt p xs < 0
      · rw [if_pos h2]
        refine ⟨fun h3 => by omega, fun ⟨y, hy, hp⟩ => ?_⟩
        rcases List.mem_cons.1 hy with rfl | hy
        · exact absurd hp h
        · have := ih.2 ⟨y, hy, hp⟩
          omega
      · rw [if_neg h2]
        refine ⟨fun _ => ?_, fun _ => by omega⟩
        obtain ⟨y, hy, hp⟩ := ih.1 (by omega)
        exact ⟨y, List.mem_cons_of_mem _ hy, hp⟩
end Go.Proofs.Ytjmnnkhdadoehaa

/- The two entries of awake. -/
namespace Go.Proofs.Ytjmnnkhdadoehaa
set_option linter.unusedSimpArgs false
set_option linter.unusedVariables false
open Go
end Go.Proofs.Ytjmnnkhdadoehaa

/- The order of two entries, in plain Lean. -/
namespace Go.Proofs.Ytjmnnkhdadoehaa
set_option linter.unusedSimpArgs false
set_option linter.unusedVariables false
open Go
def rCmp (x y : Ent) : Int := if x.len = y.len then (if aCompare x.w.v y.w.v = 0 then (if aCompare x.w.m y.w.m = 0 then cmpInt x.act y.act else aCompare x.w.m y.w.m) else aCompare x.w.v y.w.v) else if y.len < x.len then -1 else 1
def firstNZ : List Int → Int
  | [] => 0
  | n :: ns => if n = 0 then firstNZ ns else n
def eCmp (x y : Ent) : Int := firstNZ [cmpInt y.len x.len, aCompare x.w.v y.w.v, aCompare x.w.m y.w.m, cmpInt x.act y.act]
end Go.Proofs.Ytjmnnkhdadoehaa

/- Two words out of 128 bits, in plain Lean. -/
namespace Go.Proofs.Ytjmnnkhdadoehaa
set_option linter.unusedSimpArgs false
set_option linter.unusedVariables false
open Go
end Go.Proofs.Ytjmnnkhdadoehaa
