/- Slices that are read: lists of elements of k cells. -/
import Derived.Test.YtkfmammkbmhfaaaYRegion
import Derived.Test.YtkfmammkbmhfaaaYBase
import Derived.OwnWalk
import Derived.Deep.OwnRows
namespace Go.Proofs.Ytkfmammkbmhfaaa
set_option linter.unusedSimpArgs false
set_option linter.unusedVariables false
open Go Go.RowKit

def Reads {α : Type} (enc : α → List Value) (k : Nat) (w : World) (A : Option Addr) (xs : List α) : Prop :=
  xs.length ≤ 9223372036854775807 ∧ ∀ i x, xs[i]? = some x → ∃ b off, A = some ⟨b, off, none⟩ ∧ b < w.heap.size ∧ ∀ j u, (enc x)[j]? = some u → w.cell? ⟨b, off + i * k + j, none⟩ = some u

theorem Reads.below {α : Type} {enc : α → List Value} {k : Nat} {w w' : World} {A : Option Addr} {xs : List α} (h : Reads enc k w A xs) (hb : Below w.heap.size w w') : Reads enc k w' A xs :=
  ⟨h.1, fun i x hx => by
    obtain ⟨b, off, e, hl, hc⟩ := h.2 i x hx
    exact ⟨b, off, e, Nat.lt_of_lt_of_le hl hb.size, fun j u hu => (hb.cell (p := ⟨b, off + i * k + j, none⟩) hl).trans (hc j u hu)⟩⟩

theorem Reads.nil {α : Type} (enc : α → List Value) (k : Nat) (w : World) (A : Option Addr) : Reads enc k w A [] := ⟨by simp, fun i x hx => by simp at hx⟩

theorem at_alloc (w : World) (o : Obj) : (w.alloc o).heap[w.heap.size]? = some o := by
  show (w.heap.push o)[w.heap.size]? = some o
  simp
theorem Reads.take {α : Type} {enc : α → List Value} {k : Nat} {w : World} {A : Option Addr} {xs : List α} (h : Reads enc k w A xs) (n : Nat) : Reads enc k w A (xs.take n) :=
  ⟨Nat.le_trans (by simp; omega) h.1, fun i x hx => h.2 i x (by rw [List.getElem?_take] at hx; split at hx; exact hx; cases hx)⟩
theorem Reads.alloc {α : Type} {enc : α → List Value} {k : Nat} {w : World} {A : Option Addr} {xs : List α} (h : Reads enc k w A xs) (o : Obj) : Reads enc k (w.alloc o) A xs := h.below ((Below.refl _ _).alloc (Nat.le_refl _) o)
end Go.Proofs.Ytkfmammkbmhfaaa
