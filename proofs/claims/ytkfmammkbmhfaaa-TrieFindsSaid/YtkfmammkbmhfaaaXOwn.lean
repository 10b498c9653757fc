/- Rows of the call's own: append of one element, and what is kept. -/
import Derived.Test.YtkfmammkbmhfaaaXRead
import Derived.Maps.AppendAt
namespace Go.Proofs.Ytkfmammkbmhfaaa
set_option linter.unusedSimpArgs false
set_option linter.unusedVariables false
open Go Go.RowKit

theorem grownBy_of_below {w w' : World} (h : Below w.heap.size w w') (row : Option Nat) : w.grownBy w' row := ⟨h.os, h.tape, h.output, h.size, fun i hi _ => h.block i hi⟩
theorem own_below {w w' : World} {base : Nat} {e : TypeId} {size n : Nat} {v : Value} {xs : List Value} (h : w.ownsRow base e size v n xs) (hb : Below w.heap.size w w') : w'.ownsRow base e size v n xs :=
  h.kept (grownBy_of_below hb none) (by cases v.ownBlock <;> simp)
section
variable {P : Program} {ops : Array Oper} {rest : List Oper} {o : Oper} {a : Act} {Q : Exit → Act → World → Prop}
end
end Go.Proofs.Ytkfmammkbmhfaaa

/- append of a whole row; single operations in a region. -/
namespace Go.Proofs.Ytkfmammkbmhfaaa
set_option linter.unusedSimpArgs false
set_option linter.unusedVariables false
open Go Go.RowKit

theorem flat_get {α : Type} {enc : α → List Value} {k : Nat} (hk : ∀ x, (enc x).length = k) : ∀ (xs : List α) (j : Nat) (u : Value), (xs.flatMap enc)[j]? = some u → ∃ i r x, j = i * k + r ∧ xs[i]? = some x ∧ (enc x)[r]? = some u
  | [], j, u, h => by simp at h
  | x :: xs, j, u, h => by
    rw [List.flatMap_cons] at h
    by_cases hj : j < k
    · rw [List.getElem?_append_left (by rw [hk]; exact hj)] at h
      exact ⟨0, j, x, by omega, rfl, h⟩
    · rw [List.getElem?_append_right (by rw [hk]; omega), hk] at h
      obtain ⟨i, r, y, e, h1, h2⟩ := flat_get hk xs (j - k) u h
      exact ⟨i + 1, r, y, by rw [Nat.succ_mul]; omega, by simpa using h1, h2⟩

theorem Reads.flat {α : Type} {enc : α → List Value} {k : Nat} {w : World} {A : Option Addr} {xs : List α} (hk : ∀ x, (enc x).length = k) (h : Reads enc k w A xs) :
    ∀ ad, A = some ad → ∀ j u, (xs.flatMap enc)[j]? = some u → w.cell? (ad.add j) = some u := by
  intro ad hA j u hj
  obtain ⟨i, r, x, e, hx, hu⟩ := flat_get hk xs j u hj
  obtain ⟨b, off, e2, _, hc⟩ := h.2 i x hx
  rw [hA, Option.some.injEq] at e2
  subst e2
  rw [Addr.add_lit, e, ← Nat.add_assoc]
  exact hc r u hu

section
variable {P : Program} {o : Oper} {a : Act} {K : Act → World → Prop} {Q : Exit → Act → World → Prop}
end
end Go.Proofs.Ytkfmammkbmhfaaa
