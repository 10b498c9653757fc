/- What the functions over rows compute, in plain Lean. -/
import Derived.Test.YtmmibfjhjbjgeaaZSpec
namespace Go.Proofs.Ytmmibfjhjbjgeaa
set_option linter.unusedSimpArgs false
set_option linter.unusedVariables false
open Go
def nth {α : Type} [Inhabited α] (xs : List α) (k : Nat) : α := xs.getD k default
theorem nth_at {α : Type} [Inhabited α] (xs : List α) {k : Nat} (h : k < xs.length) : nth xs k = xs[k] := by simp [nth, List.getD, h]
/-- Best, behind k entries. -/
def bestTo (xs : List Ent) (a : A2) : Nat → Nat × Bool
  | 0 => (0, false)
  | k + 1 => let r := bestTo xs a k
    if wMatch (nth xs k).w a && (!r.2 || decide ((nth xs r.1).len < (nth xs k).len)) then (k, true) else r
theorem bestTo_le (xs : List Ent) (a : A2) : ∀ k, (bestTo xs a k).1 ≤ k ∧ ((bestTo xs a k).2 = true → (bestTo xs a k).1 < k)
  | 0 => ⟨Nat.le_refl _, fun h => by simp [bestTo] at h⟩
  | k + 1 => by
    have h := bestTo_le xs a k
    simp only [bestTo]
    split
    · exact ⟨Nat.le_succ _, fun _ => Nat.lt_succ_self _⟩
    · exact ⟨by omega, fun h1 => by have := h.2 h1; omega⟩
theorem bestTo_hit0 {xs : List Ent} {a : A2} {k j : Nat} (h : bestTo xs a k = (j, false)) (hk : k < xs.length) (hm : wMatch xs[k].w a = true) : bestTo xs a (k + 1) = (k, true) := by
  simp [bestTo, h, nth_at xs hk, hm]
theorem bestTo_hit1 {xs : List Ent} {a : A2} {k j : Nat} {b : Bool} (h : bestTo xs a k = (j, b)) (hk : k < xs.length) (hj : j < xs.length) (hm : wMatch xs[k].w a = true) (hl : xs[j].len < xs[k].len) : bestTo xs a (k + 1) = (k, true) := by
  simp [bestTo, h, nth_at xs hk, nth_at xs hj, hm, hl]
theorem bestTo_miss {xs : List Ent} {a : A2} {k j : Nat} {b : Bool} (h : bestTo xs a k = (j, b)) (hk : k < xs.length) (hm : ¬ wMatch xs[k].w a = true) : bestTo xs a (k + 1) = (j, b) := by
  simp [bestTo, h, nth_at xs hk, hm]
theorem bestTo_less {xs : List Ent} {a : A2} {k j : Nat} (h : bestTo xs a k = (j, true)) (hk : k < xs.length) (hj : j < xs.length) (hl : ¬ xs[j].len < xs[k].len) : bestTo xs a (k + 1) = (j, true) := by
  simp [bestTo, h, nth_at xs hk, nth_at xs hj, hl]
def best (xs : List Ent) (a : A2) : Nat × Bool := bestTo xs a xs.length
/-- The first place where p holds; -1: there is none. -/
def firstAt {α : Type} (p : α → Bool) : List α → Int
  | [] => -1
  | x :: xs => if p x then 0 else if firstAt p xs < 0 then -1 else firstAt p xs + 1
theorem firstAt_ge {α : Type} (p : α → Bool) : ∀ xs : List α, -1 ≤ firstAt p xs
  | [] => by simp [firstAt]
  | x :: xs => by
    have := firstAt_ge p xs
    simp only [firstAt]
    split
    · omega
    · split <;> omega
theorem firstAt_hit {α : Type} (p : α → Bool) : ∀ (xs : List α) (k : Nat) (hk : k < xs.length), (∀ (i : Nat) (x : α), i < k → xs[i]? = some x → p x = false) → p xs[k] = true → firstAt p xs = k
  | [], k, hk, _, _ => by simp at hk
  | x :: xs, 0, _, _, hp => by simp only [List.getElem_cons_zero] at hp; simp [firstAt, hp]
  | x :: xs, k + 1, hk, h, hp => by
    have h0 : p x = false := h 0 x (by omega) rfl
    have h1 := firstAt_hit p xs k (by simpa using hk) (fun i y hi hy => h (i + 1) y (by omega) (by simpa using hy)) (by simpa using hp)
    simp only [firstAt, h0, Bool.false_eq_true, if_false, h1]
    rw [if_neg (by omega)]
    omega
theorem firstAt_none {α : Type} (p : α → Bool) : ∀ xs : List α, (∀ (i : Nat) (x : α), xs[i]? = some x → p x = false) → firstAt p xs = -1
  | [], _ => rfl
  | x :: xs, h => by
    have h0 : p x = false := h 0 x rfl
    have h1 := firstAt_none p xs (fun i y hy => h (i + 1) y (by simpa using hy))
    simp [firstAt, h0, h1]
theorem none_step {α : Type} {p : α → Bool} {xs : List α} {k : Nat} (h : ∀ (i : Nat) (x : α), i < k → xs[i]? = some x → p x = false) (hk : k < xs.length) (h1 : p xs[k] = false) : ∀ (i : Nat) (x : α), i < k + 1 → xs[i]? = some x → p x = false := by
  intro i x hi hx
  by_cases e : i = k
  · subst e
    rw [List.getElem?_eq_getElem hk, Option.some.injEq] at hx
    rw [← hx]; exact h1
  · exact h i x (by omega) hx
def tell (xs : List Ent) (a : A2) : Int := if (best xs a).2 then (nth xs (best xs a).1).act else 0
theorem best_lt (xs : List Ent) (a : A2) (h : (best xs a).2 = true) : (best xs a).1 < xs.length := (bestTo_le xs a xs.length).2 h
/-- Whether a row is ordered, behind k entries. -/
def ordTo (xs : List Ent) : Nat → Bool
  | 0 => true
  | k + 1 => ordTo xs k && !(xs.take k).any (fun y => eAbove (nth xs k) y)
def ordered (xs : List Ent) : Bool := ordTo xs xs.length
theorem ordTo_false (xs : List Ent) {k : Nat} (h : (xs.take k).any (fun y => eAbove (nth xs k) y) = true) : ∀ n, k < n → ordTo xs n = false
  | 0, hn => by omega
  | n + 1, hn => by
    by_cases e : k = n
    · subst e; simp [ordTo, h]
    · simp [ordTo, ordTo_false xs h n (by omega)]
theorem firstAt_any {α : Type} (p : α → Bool) (xs : List α) : decide (0 ≤ firstAt p xs) = xs.any p := by
  rw [Bool.eq_iff_iff, decide_eq_true_iff, List.any_eq_true]
  induction xs with
  | nil => simp [firstAt]
  | cons x xs ih =>
    have hge := firstAt_ge p xs
    simp only [firstAt]
    by_cases h : p x = true
    · rw [if_pos h]
      exact ⟨fun _ => ⟨x, List.mem_cons_self, h⟩, fun _ => by omega⟩
    · rw [if_neg h]
      by_cases h2 : firstAt p xs < 0
      · rw [if_pos h2]
        refine ⟨fun h3 => by omega, fun ⟨y, hy, hp⟩ => ?_⟩
        rcases List.mem_cons.1 hy with rfl | hy
        · exact absurd hp h
        · have := ih.2 ⟨y, hy, hp⟩
          omega
      · rw [if_neg h2]
        refine ⟨fun _ => ?_, fun _ => by omega⟩
        obtain ⟨y, hy, hp⟩ := ih.1 (by omega)
        exact ⟨y, List.mem_cons_of_mem _ hy, hp⟩
end Go.Proofs.Ytmmibfjhjbjgeaa
