/- Slices that are read: lists of elements of k cells. -/
import Derived.Test.YtjmnnkhdadoehaaQRegion
import Derived.Test.YtjmnnkhdadoehaaQBase
import Derived.OwnWalk
import Derived.Deep.OwnRows
namespace Go.Proofs.Ytjmnnkhdadoehaa
set_option linter.unusedSimpArgs false
set_option linter.unusedVariables false
open Go Go.RowKit

def Reads {α : Type} (enc : α → List Value) (k : Nat) (w : World) (A : Option Addr) (xs : List α) : Prop :=
  xs.length ≤ 9223372036854775807 ∧ ∀ i x, xs[i]? = some x → ∃ b off, A = some ⟨b, off, none⟩ ∧ b < w.heap.size ∧ ∀ j u, (enc x)[j]? = some u → w.cell? ⟨b, off + i * k + j, none⟩ = some u

theorem Reads.below {α : Type} {enc : α → List Value} {k : Nat} {w w' : World} {A : Option Addr} {xs : List α} (h : Reads enc k w A xs) (hb : Below w.heap.size w w') : Reads enc k w' A xs :=
  ⟨h.1, fun i x hx => by
    obtain ⟨b, off, e, hl, hc⟩ := h.2 i x hx
    exact ⟨b, off, e, Nat.lt_of_lt_of_le hl hb.size, fun j u hu => (hb.cell (p := ⟨b, off + i * k + j, none⟩) hl).trans (hc j u hu)⟩⟩

theorem Reads.nil {α : Type} (enc : α → List Value) (k : Nat) (w : World) (A : Option Addr) : Reads enc k w A [] := ⟨by simp, fun i x hx => by simp at hx⟩

theorem at_alloc (w : World) (o : Obj) : (w.alloc o).heap[w.heap.size]? = some o := by
  show (w.heap.push o)[w.heap.size]? = some o
  simp
theorem Reads.take {α : Type} {enc : α → List Value} {k : Nat} {w : World} {A : Option Addr} {xs : List α} (h : Reads enc k w A xs) (n : Nat) : Reads enc k w A (xs.take n) :=
  ⟨Nat.le_trans (by simp; omega) h.1, fun i x hx => h.2 i x (by rw [List.getElem?_take] at hx; split at hx; exact hx; cases hx)⟩
theorem Reads.grew {α : Type} {enc : α → List Value} {k : Nat} {w : World} {A : Option Addr} {xs : List α} (h : Reads enc k w A xs) (p : Ext) : Reads enc k (grew w p) A xs := h.below (grew_below w p)
theorem Reads.alloc {α : Type} {enc : α → List Value} {k : Nat} {w : World} {A : Option Addr} {xs : List α} (h : Reads enc k w A xs) (o : Obj) : Reads enc k (w.alloc o) A xs := h.below ((Below.refl _ _).alloc (Nat.le_refl _) o)
def encE (x : Ent) : List Value := [.int .u64 x.w.v.x, .int .u64 x.w.v.y, .int .u64 x.w.m.x, .int .u64 x.w.m.y, .int .i64 x.len, .int .i64 x.act]
def encS (x : Slt) : List Value := [.bool x.valid, .int .u64 x.e.w.v.x, .int .u64 x.e.w.v.y, .int .u64 x.e.w.m.x, .int .u64 x.e.w.m.y, .int .i64 x.e.len, .int .i64 x.e.act]
def encX (x : Wrt) : List Value := [.int .i64 x.at_, .bool x.s.valid, .int .u64 x.s.e.w.v.x, .int .u64 x.s.e.w.v.y, .int .u64 x.s.e.w.m.x, .int .u64 x.s.e.w.m.y, .int .i64 x.s.e.len, .int .i64 x.s.e.act]
def encD (x : Stp) : List Value := [.int .i64 x.kind, .int .u64 x.e.w.v.x, .int .u64 x.e.w.v.y, .int .u64 x.e.w.m.x, .int .u64 x.e.w.m.y, .int .i64 x.e.len, .int .i64 x.e.act]
def encI (x : Int) : List Value := [.int .i64 x]
theorem Reads.atE {w : World} {A : Option Addr} {xs : List Ent} (h : Reads encE 6 w A xs) {i : Nat} (hi : i < xs.length) : ∃ b off, A = some ⟨b, off, none⟩ ∧ b < w.heap.size ∧
    w.cell? ⟨b, off + i * 6, none⟩ = some (.int .u64 xs[i].w.v.x) ∧ w.cell? ⟨b, off + i * 6 + 1, none⟩ = some (.int .u64 xs[i].w.v.y) ∧ w.cell? ⟨b, off + i * 6 + 2, none⟩ = some (.int .u64 xs[i].w.m.x) ∧
    w.cell? ⟨b, off + i * 6 + 3, none⟩ = some (.int .u64 xs[i].w.m.y) ∧ w.cell? ⟨b, off + i * 6 + 4, none⟩ = some (.int .i64 xs[i].len) ∧ w.cell? ⟨b, off + i * 6 + 5, none⟩ = some (.int .i64 xs[i].act) := by
  obtain ⟨b, off, e, hl, hc⟩ := h.2 i xs[i] (List.getElem?_eq_getElem hi)
  exact ⟨b, off, e, hl, by simpa using hc 0 _ rfl, hc 1 _ rfl, hc 2 _ rfl, hc 3 _ rfl, hc 4 _ rfl, hc 5 _ rfl⟩
end Go.Proofs.Ytjmnnkhdadoehaa
