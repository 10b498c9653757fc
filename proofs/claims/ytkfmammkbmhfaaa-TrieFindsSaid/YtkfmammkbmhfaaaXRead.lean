/- Slices that are read: lists of elements of k cells. -/
import Derived.Test.YtkfmammkbmhfaaaXRegion
import Derived.Test.YtkfmammkbmhfaaaXBase
import Derived.OwnWalk
import Derived.Deep.OwnRows
namespace Go.Proofs.Ytkfmammkbmhfaaa
set_option linter.unusedSimpArgs false
set_option linter.unusedVariables false
open Go Go.RowKit

def Reads {α : Type} (enc : α → List Value) (k : Nat) (w : World) (A : Option Addr) (xs : List α) : Prop :=
  xs.length ≤ 9223372036854775807 ∧ ∀ i x, xs[i]? = some x → ∃ b off, A = some ⟨b, off, none⟩ ∧ b < w.heap.size ∧ ∀ j u, (enc x)[j]? = some u → w.cell? ⟨b, off + i * k + j, none⟩ = some u

theorem Reads.below {α : Type} {enc : α → List Value} {k : Nat} {w w' : World} {A : Option Addr} {xs : List α} (h : Reads enc k w A xs) (hb : Below w.heap.size w w') : Reads enc k w' A xs :=
  ⟨h.1, fun i x hx => by
    obtain ⟨b, off, e, hl, hc⟩ := h.2 i x hx
    exact ⟨b, off, e, Nat.lt_of_lt_of_le hl hb.size, fun j u hu => (hb.cell (p := ⟨b, off + i * k + j, none⟩) hl).trans (hc j u hu)⟩⟩

theorem Reads.nil {α : Type} (enc : α → List Value) (k : Nat) (w : World) (A : Option Addr) : Reads enc k w A [] := ⟨by simp, fun i x hx => by simp at hx⟩

theorem rowIs_grew {w : World} {b : Nat} {t : TypeId} {n : Nat} {f : Nat → Value} (h : w.rowIs b t n f) (p : Ext) : (grew w p).rowIs b t n f :=
  h.of_block ((grew_below w p).block b h.lt)
theorem at_alloc (w : World) (o : Obj) : (w.alloc o).heap[w.heap.size]? = some o := by
  show (w.heap.push o)[w.heap.size]? = some o
  simp
theorem at_alloc' (w : World) (o : Obj) (n : Nat) (h : w.heap.size = n) : (w.alloc o).heap[n]? = some o := by rw [← h]; exact at_alloc w o
theorem Reads.take {α : Type} {enc : α → List Value} {k : Nat} {w : World} {A : Option Addr} {xs : List α} (h : Reads enc k w A xs) (n : Nat) : Reads enc k w A (xs.take n) :=
  ⟨Nat.le_trans (by simp; omega) h.1, fun i x hx => h.2 i x (by rw [List.getElem?_take] at hx; split at hx; exact hx; cases hx)⟩
theorem Reads.alloc {α : Type} {enc : α → List Value} {k : Nat} {w : World} {A : Option Addr} {xs : List α} (h : Reads enc k w A xs) (o : Obj) : Reads enc k (w.alloc o) A xs := h.below ((Below.refl _ _).alloc (Nat.le_refl _) o)
def encR (x : Rte) : List Value := [.int .u64 x.p.a.x, .int .u64 x.p.a.y, .int .i64 x.p.len, .int .i64 x.act]
def encI (x : Int) : List Value := [.int .i64 x]
def encB (x : Bool) : List Value := [.bool x]

end Go.Proofs.Ytkfmammkbmhfaaa

/- Calls of a trie. -/
namespace Go.Proofs.Ytkfmammkbmhfaaa
set_option linter.unusedSimpArgs false
set_option linter.unusedVariables false
open Go
structure Opr where
  kind : Int
  r : Rte
instance : DecidableEq Opr := fun a b => decidable_of_iff (a.kind = b.kind ∧ a.r = b.r) (by cases a; cases b; simp)
instance : Inhabited Opr := ⟨⟨0, default⟩⟩
def encO (x : Opr) : List Value := [.int .i64 x.kind, .int .u64 x.r.p.a.x, .int .u64 x.r.p.a.y, .int .i64 x.r.p.len, .int .i64 x.r.act]
end Go.Proofs.Ytkfmammkbmhfaaa
