/- One walk in the order of the text for a region that draws its order, whose head only reads or calls what lays blocks of its own, and whose tail stands in one forced order. Nothing is asked but the two Bools and the walk. -/
import Derived.StillTail
import Derived.Deep.Quiet
import Derived.Deep.QuietTactic
import Derived.RowKit3
import Derived.Below
import Derived.WalkKit
namespace Go.Proofs.Ytkfmammkbmhfaaa
set_option linter.unusedSimpArgs false
set_option linter.unusedVariables false
open Go Go.RowKit

/-! ### Worlds that have grown: blocks behind, the count of draws anywhere -/
structure Ext where
  d : Nat
  os : Array Obj

instance : Inhabited Ext := ⟨⟨0, #[]⟩⟩

def grew (w : World) (p : Ext) : World := { w with heap := w.heap ++ p.os, drawn := p.d }

theorem grew_below (w : World) (p : Ext) : Below w.heap.size w (grew w p) :=
  ⟨rfl, rfl, rfl, by simp [grew], fun k hk => by simp only [grew]; exact Array.getElem?_append_left hk⟩

theorem below_grew {w w' : World} (h : Below w.heap.size w w') : ∃ p : Ext, w' = grew w p := by
  refine ⟨⟨w'.drawn, w'.heap.extract w.heap.size w'.heap.size⟩, ?_⟩
  have hh : w'.heap = w.heap ++ w'.heap.extract w.heap.size w'.heap.size := by
    apply Array.ext_getElem?
    intro i
    by_cases hi : i < w.heap.size
    · rw [Array.getElem?_append_left hi, h.block i hi]
    · rw [Array.getElem?_append_right (by omega), Array.getElem?_extract]
      by_cases hj : i < w'.heap.size
      · have hs := h.size
        rw [if_pos (by omega)]; congr 1; omega
      · have hs := h.size
        rw [if_neg (by omega)]; exact Array.getElem?_eq_none (by omega)
  obtain ⟨heap, tape, drawn, os, output⟩ := w
  obtain ⟨heap', tape', drawn', os', output'⟩ := w'
  have h1 := h.os; have h2 := h.tape; have h3 := h.output
  simp only at h1 h2 h3 hh
  simp only [grew, World.mk.injEq]
  exact ⟨hh, h2, trivial, h1, h3⟩

theorem cell_grew (w : World) (p : Ext) (a : Addr) (h : a.block < w.heap.size) : (grew w p).cell? a = w.cell? a := (grew_below w p).cell h
theorem frozen_grew (w : World) (p : Ext) (a : Addr) (h : a.block < w.heap.size) : (grew w p).frozen? a = w.frozen? a := (grew_below w p).frozen h
theorem size_grew (w : World) (p : Ext) : (grew w p).heap.size = w.heap.size + p.os.size := by simp [grew]
theorem lt_addk {a b k : Nat} (h : a < b) : a < b + k := by omega
theorem size_setW (w : World) (a : Addr) (v : Value) : (w.setCell a v).heap.size = w.heap.size := by simp [World.setCell]
theorem lt_gi_k (n k0 : Nat) : n < n + 1 + k0 := by omega
theorem lt_gi_kh {a n k0 : Nat} (h : a < n) : a < n + 1 + k0 := by omega
theorem lt_gi_k_k (n k0 k1 : Nat) : n < n + 1 + k0 + k1 := by omega
theorem lt_gi_k_kh {a n k0 k1 : Nat} (h : a < n) : a < n + 1 + k0 + k1 := by omega
theorem lt_gi_k_k_k (n k0 k1 k2 : Nat) : n < n + 1 + k0 + k1 + k2 := by omega
theorem lt_gi_k_k_kh {a n k0 k1 k2 : Nat} (h : a < n) : a < n + 1 + k0 + k1 + k2 := by omega
theorem lt_gi_i_k (n k0 : Nat) : n < n + 1 + 1 + k0 := by omega
theorem lt_gi_i_kh {a n k0 : Nat} (h : a < n) : a < n + 1 + 1 + k0 := by omega
theorem lt_gi_i_k_k (n k0 k1 : Nat) : n < n + 1 + 1 + k0 + k1 := by omega
theorem lt_gi_i_k_kh {a n k0 k1 : Nat} (h : a < n) : a < n + 1 + 1 + k0 + k1 := by omega
theorem lt_gi_i_k_k_k (n k0 k1 k2 : Nat) : n < n + 1 + 1 + k0 + k1 + k2 := by omega
theorem lt_gi_i_k_k_kh {a n k0 k1 k2 : Nat} (h : a < n) : a < n + 1 + 1 + k0 + k1 + k2 := by omega
theorem lt_gi_i_i_k (n k0 : Nat) : n < n + 1 + 1 + 1 + k0 := by omega
theorem lt_gi_i_i_kh {a n k0 : Nat} (h : a < n) : a < n + 1 + 1 + 1 + k0 := by omega
theorem lt_gi_i_i_k_k (n k0 k1 : Nat) : n < n + 1 + 1 + 1 + k0 + k1 := by omega
theorem lt_gi_i_i_k_kh {a n k0 k1 : Nat} (h : a < n) : a < n + 1 + 1 + 1 + k0 + k1 := by omega
theorem lt_gi_i_i_k_k_k (n k0 k1 k2 : Nat) : n < n + 1 + 1 + 1 + k0 + k1 + k2 := by omega
theorem lt_gi_i_i_k_k_kh {a n k0 k1 k2 : Nat} (h : a < n) : a < n + 1 + 1 + 1 + k0 + k1 + k2 := by omega
theorem lt_gi_i_i_i_k (n k0 : Nat) : n < n + 1 + 1 + 1 + 1 + k0 := by omega
theorem lt_gi_i_i_i_kh {a n k0 : Nat} (h : a < n) : a < n + 1 + 1 + 1 + 1 + k0 := by omega
theorem lt_gi_i_i_i_k_k (n k0 k1 : Nat) : n < n + 1 + 1 + 1 + 1 + k0 + k1 := by omega
theorem lt_gi_i_i_i_k_kh {a n k0 k1 : Nat} (h : a < n) : a < n + 1 + 1 + 1 + 1 + k0 + k1 := by omega
theorem lt_gi_i_i_i_k_k_k (n k0 k1 k2 : Nat) : n < n + 1 + 1 + 1 + 1 + k0 + k1 + k2 := by omega
theorem lt_gi_i_i_i_k_k_kh {a n k0 k1 k2 : Nat} (h : a < n) : a < n + 1 + 1 + 1 + 1 + k0 + k1 + k2 := by omega
theorem lt_gi_i_i_i_i_k (n k0 : Nat) : n < n + 1 + 1 + 1 + 1 + 1 + k0 := by omega
theorem lt_gi_i_i_i_i_kh {a n k0 : Nat} (h : a < n) : a < n + 1 + 1 + 1 + 1 + 1 + k0 := by omega
theorem lt_gi_i_i_i_i_k_k (n k0 k1 : Nat) : n < n + 1 + 1 + 1 + 1 + 1 + k0 + k1 := by omega
theorem lt_gi_i_i_i_i_k_kh {a n k0 k1 : Nat} (h : a < n) : a < n + 1 + 1 + 1 + 1 + 1 + k0 + k1 := by omega
theorem lt_gi_i_i_i_i_k_k_k (n k0 k1 k2 : Nat) : n < n + 1 + 1 + 1 + 1 + 1 + k0 + k1 + k2 := by omega
theorem lt_gi_i_i_i_i_k_k_kh {a n k0 k1 k2 : Nat} (h : a < n) : a < n + 1 + 1 + 1 + 1 + 1 + k0 + k1 + k2 := by omega
theorem lt_gi_i_i_i_i_i_k (n k0 : Nat) : n < n + 1 + 1 + 1 + 1 + 1 + 1 + k0 := by omega
theorem lt_gi_i_i_i_i_i_kh {a n k0 : Nat} (h : a < n) : a < n + 1 + 1 + 1 + 1 + 1 + 1 + k0 := by omega
theorem lt_gi_i_i_i_i_i_k_k (n k0 k1 : Nat) : n < n + 1 + 1 + 1 + 1 + 1 + 1 + k0 + k1 := by omega
theorem lt_gi_i_i_i_i_i_k_kh {a n k0 k1 : Nat} (h : a < n) : a < n + 1 + 1 + 1 + 1 + 1 + 1 + k0 + k1 := by omega
theorem lt_gi_i_i_i_i_i_k_k_k (n k0 k1 k2 : Nat) : n < n + 1 + 1 + 1 + 1 + 1 + 1 + k0 + k1 + k2 := by omega
theorem lt_gi_i_i_i_i_i_k_k_kh {a n k0 k1 k2 : Nat} (h : a < n) : a < n + 1 + 1 + 1 + 1 + 1 + 1 + k0 + k1 + k2 := by omega
theorem lt_gi_i_i_i_i_i_i_k (n k0 : Nat) : n < n + 1 + 1 + 1 + 1 + 1 + 1 + 1 + k0 := by omega
theorem lt_gi_i_i_i_i_i_i_kh {a n k0 : Nat} (h : a < n) : a < n + 1 + 1 + 1 + 1 + 1 + 1 + 1 + k0 := by omega
theorem lt_gi_i_i_i_i_i_i_k_k (n k0 k1 : Nat) : n < n + 1 + 1 + 1 + 1 + 1 + 1 + 1 + k0 + k1 := by omega
theorem lt_gi_i_i_i_i_i_i_k_kh {a n k0 k1 : Nat} (h : a < n) : a < n + 1 + 1 + 1 + 1 + 1 + 1 + 1 + k0 + k1 := by omega
theorem lt_gi_i_i_i_i_i_i_k_k_k (n k0 k1 k2 : Nat) : n < n + 1 + 1 + 1 + 1 + 1 + 1 + 1 + k0 + k1 + k2 := by omega
theorem lt_gi_i_i_i_i_i_i_k_k_kh {a n k0 k1 k2 : Nat} (h : a < n) : a < n + 1 + 1 + 1 + 1 + 1 + 1 + 1 + k0 + k1 + k2 := by omega
theorem lt_gi_i_i_i_i_i_i_i_k (n k0 : Nat) : n < n + 1 + 1 + 1 + 1 + 1 + 1 + 1 + 1 + k0 := by omega
theorem lt_gi_i_i_i_i_i_i_i_kh {a n k0 : Nat} (h : a < n) : a < n + 1 + 1 + 1 + 1 + 1 + 1 + 1 + 1 + k0 := by omega
theorem lt_gi_i_i_i_i_i_i_i_k_k (n k0 k1 : Nat) : n < n + 1 + 1 + 1 + 1 + 1 + 1 + 1 + 1 + k0 + k1 := by omega
theorem lt_gi_i_i_i_i_i_i_i_k_kh {a n k0 k1 : Nat} (h : a < n) : a < n + 1 + 1 + 1 + 1 + 1 + 1 + 1 + 1 + k0 + k1 := by omega
theorem lt_gi_i_i_i_i_i_i_i_k_k_k (n k0 k1 k2 : Nat) : n < n + 1 + 1 + 1 + 1 + 1 + 1 + 1 + 1 + k0 + k1 + k2 := by omega
theorem lt_gi_i_i_i_i_i_i_i_k_k_kh {a n k0 k1 k2 : Nat} (h : a < n) : a < n + 1 + 1 + 1 + 1 + 1 + 1 + 1 + 1 + k0 + k1 + k2 := by omega
theorem lt_gi_k_i (n k0 : Nat) : n < n + 1 + k0 + 1 := by omega
theorem lt_gi_k_ih {a n k0 : Nat} (h : a < n) : a < n + 1 + k0 + 1 := by omega
theorem lt_gi_k_i_k (n k0 k1 : Nat) : n < n + 1 + k0 + 1 + k1 := by omega
theorem lt_gi_k_i_kh {a n k0 k1 : Nat} (h : a < n) : a < n + 1 + k0 + 1 + k1 := by omega
theorem lt_gi_k_k_i (n k0 k1 : Nat) : n < n + 1 + k0 + k1 + 1 := by omega
theorem lt_gi_k_k_ih {a n k0 k1 : Nat} (h : a < n) : a < n + 1 + k0 + k1 + 1 := by omega
theorem lt_gi_k_k_i_k (n k0 k1 k2 : Nat) : n < n + 1 + k0 + k1 + 1 + k2 := by omega
theorem lt_gi_k_k_i_kh {a n k0 k1 k2 : Nat} (h : a < n) : a < n + 1 + k0 + k1 + 1 + k2 := by omega
theorem lt_gi_k_i_i (n k0 : Nat) : n < n + 1 + k0 + 1 + 1 := by omega
theorem lt_gi_k_i_ih {a n k0 : Nat} (h : a < n) : a < n + 1 + k0 + 1 + 1 := by omega
theorem lt_gi_k_i_i_k (n k0 k1 : Nat) : n < n + 1 + k0 + 1 + 1 + k1 := by omega
theorem lt_gi_k_i_i_kh {a n k0 k1 : Nat} (h : a < n) : a < n + 1 + k0 + 1 + 1 + k1 := by omega
theorem lt_gi_k_k_i_i (n k0 k1 : Nat) : n < n + 1 + k0 + k1 + 1 + 1 := by omega
theorem lt_gi_k_k_i_ih {a n k0 k1 : Nat} (h : a < n) : a < n + 1 + k0 + k1 + 1 + 1 := by omega
theorem lt_gi_k_k_i_i_k (n k0 k1 k2 : Nat) : n < n + 1 + k0 + k1 + 1 + 1 + k2 := by omega
theorem lt_gi_k_k_i_i_kh {a n k0 k1 k2 : Nat} (h : a < n) : a < n + 1 + k0 + k1 + 1 + 1 + k2 := by omega
theorem lt_gi_k_i_i_i (n k0 : Nat) : n < n + 1 + k0 + 1 + 1 + 1 := by omega
theorem lt_gi_k_i_i_ih {a n k0 : Nat} (h : a < n) : a < n + 1 + k0 + 1 + 1 + 1 := by omega
theorem lt_gi_k_i_i_i_k (n k0 k1 : Nat) : n < n + 1 + k0 + 1 + 1 + 1 + k1 := by omega
theorem lt_gi_k_i_i_i_kh {a n k0 k1 : Nat} (h : a < n) : a < n + 1 + k0 + 1 + 1 + 1 + k1 := by omega
theorem lt_gi_k_k_i_i_i (n k0 k1 : Nat) : n < n + 1 + k0 + k1 + 1 + 1 + 1 := by omega
theorem lt_gi_k_k_i_i_ih {a n k0 k1 : Nat} (h : a < n) : a < n + 1 + k0 + k1 + 1 + 1 + 1 := by omega
theorem lt_gi_k_k_i_i_i_k (n k0 k1 k2 : Nat) : n < n + 1 + k0 + k1 + 1 + 1 + 1 + k2 := by omega
theorem lt_gi_k_k_i_i_i_kh {a n k0 k1 k2 : Nat} (h : a < n) : a < n + 1 + k0 + k1 + 1 + 1 + 1 + k2 := by omega
theorem lt_gi_i_k_i (n k0 : Nat) : n < n + 1 + 1 + k0 + 1 := by omega
theorem lt_gi_i_k_ih {a n k0 : Nat} (h : a < n) : a < n + 1 + 1 + k0 + 1 := by omega
theorem lt_gi_i_k_i_k (n k0 k1 : Nat) : n < n + 1 + 1 + k0 + 1 + k1 := by omega
theorem lt_gi_i_k_i_kh {a n k0 k1 : Nat} (h : a < n) : a < n + 1 + 1 + k0 + 1 + k1 := by omega
theorem lt_gi_i_k_k_i (n k0 k1 : Nat) : n < n + 1 + 1 + k0 + k1 + 1 := by omega
theorem lt_gi_i_k_k_ih {a n k0 k1 : Nat} (h : a < n) : a < n + 1 + 1 + k0 + k1 + 1 := by omega
theorem lt_gi_i_k_k_i_k (n k0 k1 k2 : Nat) : n < n + 1 + 1 + k0 + k1 + 1 + k2 := by omega
theorem lt_gi_i_k_k_i_kh {a n k0 k1 k2 : Nat} (h : a < n) : a < n + 1 + 1 + k0 + k1 + 1 + k2 := by omega
theorem lt_gi_i_k_i_i (n k0 : Nat) : n < n + 1 + 1 + k0 + 1 + 1 := by omega
theorem lt_gi_i_k_i_ih {a n k0 : Nat} (h : a < n) : a < n + 1 + 1 + k0 + 1 + 1 := by omega
theorem lt_gi_i_k_i_i_k (n k0 k1 : Nat) : n < n + 1 + 1 + k0 + 1 + 1 + k1 := by omega
theorem lt_gi_i_k_i_i_kh {a n k0 k1 : Nat} (h : a < n) : a < n + 1 + 1 + k0 + 1 + 1 + k1 := by omega
theorem lt_gi_i_k_k_i_i (n k0 k1 : Nat) : n < n + 1 + 1 + k0 + k1 + 1 + 1 := by omega
theorem lt_gi_i_k_k_i_ih {a n k0 k1 : Nat} (h : a < n) : a < n + 1 + 1 + k0 + k1 + 1 + 1 := by omega
theorem lt_gi_i_k_k_i_i_k (n k0 k1 k2 : Nat) : n < n + 1 + 1 + k0 + k1 + 1 + 1 + k2 := by omega
theorem lt_gi_i_k_k_i_i_kh {a n k0 k1 k2 : Nat} (h : a < n) : a < n + 1 + 1 + k0 + k1 + 1 + 1 + k2 := by omega
theorem lt_gi_i_k_i_i_i (n k0 : Nat) : n < n + 1 + 1 + k0 + 1 + 1 + 1 := by omega
theorem lt_gi_i_k_i_i_ih {a n k0 : Nat} (h : a < n) : a < n + 1 + 1 + k0 + 1 + 1 + 1 := by omega
theorem lt_gi_i_k_i_i_i_k (n k0 k1 : Nat) : n < n + 1 + 1 + k0 + 1 + 1 + 1 + k1 := by omega
theorem lt_gi_i_k_i_i_i_kh {a n k0 k1 : Nat} (h : a < n) : a < n + 1 + 1 + k0 + 1 + 1 + 1 + k1 := by omega
theorem lt_gi_i_k_k_i_i_i (n k0 k1 : Nat) : n < n + 1 + 1 + k0 + k1 + 1 + 1 + 1 := by omega
theorem lt_gi_i_k_k_i_i_ih {a n k0 k1 : Nat} (h : a < n) : a < n + 1 + 1 + k0 + k1 + 1 + 1 + 1 := by omega
theorem lt_gi_i_k_k_i_i_i_k (n k0 k1 k2 : Nat) : n < n + 1 + 1 + k0 + k1 + 1 + 1 + 1 + k2 := by omega
theorem lt_gi_i_k_k_i_i_i_kh {a n k0 k1 k2 : Nat} (h : a < n) : a < n + 1 + 1 + k0 + k1 + 1 + 1 + 1 + k2 := by omega
theorem lt_gi_i_i_k_i (n k0 : Nat) : n < n + 1 + 1 + 1 + k0 + 1 := by omega
theorem lt_gi_i_i_k_ih {a n k0 : Nat} (h : a < n) : a < n + 1 + 1 + 1 + k0 + 1 := by omega
theorem lt_gi_i_i_k_i_k (n k0 k1 : Nat) : n < n + 1 + 1 + 1 + k0 + 1 + k1 := by omega
theorem lt_gi_i_i_k_i_kh {a n k0 k1 : Nat} (h : a < n) : a < n + 1 + 1 + 1 + k0 + 1 + k1 := by omega
theorem lt_gi_i_i_k_k_i (n k0 k1 : Nat) : n < n + 1 + 1 + 1 + k0 + k1 + 1 := by omega
theorem lt_gi_i_i_k_k_ih {a n k0 k1 : Nat} (h : a < n) : a < n + 1 + 1 + 1 + k0 + k1 + 1 := by omega
theorem lt_gi_i_i_k_k_i_k (n k0 k1 k2 : Nat) : n < n + 1 + 1 + 1 + k0 + k1 + 1 + k2 := by omega
theorem lt_gi_i_i_k_k_i_kh {a n k0 k1 k2 : Nat} (h : a < n) : a < n + 1 + 1 + 1 + k0 + k1 + 1 + k2 := by omega
theorem lt_gi_i_i_k_i_i (n k0 : Nat) : n < n + 1 + 1 + 1 + k0 + 1 + 1 := by omega
theorem lt_gi_i_i_k_i_ih {a n k0 : Nat} (h : a < n) : a < n + 1 + 1 + 1 + k0 + 1 + 1 := by omega
theorem lt_gi_i_i_k_i_i_k (n k0 k1 : Nat) : n < n + 1 + 1 + 1 + k0 + 1 + 1 + k1 := by omega
theorem lt_gi_i_i_k_i_i_kh {a n k0 k1 : Nat} (h : a < n) : a < n + 1 + 1 + 1 + k0 + 1 + 1 + k1 := by omega
theorem lt_gi_i_i_k_k_i_i (n k0 k1 : Nat) : n < n + 1 + 1 + 1 + k0 + k1 + 1 + 1 := by omega
theorem lt_gi_i_i_k_k_i_ih {a n k0 k1 : Nat} (h : a < n) : a < n + 1 + 1 + 1 + k0 + k1 + 1 + 1 := by omega
theorem lt_gi_i_i_k_k_i_i_k (n k0 k1 k2 : Nat) : n < n + 1 + 1 + 1 + k0 + k1 + 1 + 1 + k2 := by omega
theorem lt_gi_i_i_k_k_i_i_kh {a n k0 k1 k2 : Nat} (h : a < n) : a < n + 1 + 1 + 1 + k0 + k1 + 1 + 1 + k2 := by omega
theorem lt_gi_i_i_k_i_i_i (n k0 : Nat) : n < n + 1 + 1 + 1 + k0 + 1 + 1 + 1 := by omega
theorem lt_gi_i_i_k_i_i_ih {a n k0 : Nat} (h : a < n) : a < n + 1 + 1 + 1 + k0 + 1 + 1 + 1 := by omega
theorem lt_gi_i_i_k_i_i_i_k (n k0 k1 : Nat) : n < n + 1 + 1 + 1 + k0 + 1 + 1 + 1 + k1 := by omega
theorem lt_gi_i_i_k_i_i_i_kh {a n k0 k1 : Nat} (h : a < n) : a < n + 1 + 1 + 1 + k0 + 1 + 1 + 1 + k1 := by omega
theorem lt_gi_i_i_k_k_i_i_i (n k0 k1 : Nat) : n < n + 1 + 1 + 1 + k0 + k1 + 1 + 1 + 1 := by omega
theorem lt_gi_i_i_k_k_i_i_ih {a n k0 k1 : Nat} (h : a < n) : a < n + 1 + 1 + 1 + k0 + k1 + 1 + 1 + 1 := by omega
theorem lt_gi_i_i_k_k_i_i_i_k (n k0 k1 k2 : Nat) : n < n + 1 + 1 + 1 + k0 + k1 + 1 + 1 + 1 + k2 := by omega
theorem lt_gi_i_i_k_k_i_i_i_kh {a n k0 k1 k2 : Nat} (h : a < n) : a < n + 1 + 1 + 1 + k0 + k1 + 1 + 1 + 1 + k2 := by omega
theorem lt_gi_i_i_i_k_i (n k0 : Nat) : n < n + 1 + 1 + 1 + 1 + k0 + 1 := by omega
theorem lt_gi_i_i_i_k_ih {a n k0 : Nat} (h : a < n) : a < n + 1 + 1 + 1 + 1 + k0 + 1 := by omega
theorem lt_gi_i_i_i_k_i_k (n k0 k1 : Nat) : n < n + 1 + 1 + 1 + 1 + k0 + 1 + k1 := by omega
theorem lt_gi_i_i_i_k_i_kh {a n k0 k1 : Nat} (h : a < n) : a < n + 1 + 1 + 1 + 1 + k0 + 1 + k1 := by omega
theorem lt_gi_i_i_i_k_k_i (n k0 k1 : Nat) : n < n + 1 + 1 + 1 + 1 + k0 + k1 + 1 := by omega
theorem lt_gi_i_i_i_k_k_ih {a n k0 k1 : Nat} (h : a < n) : a < n + 1 + 1 + 1 + 1 + k0 + k1 + 1 := by omega
theorem lt_gi_i_i_i_k_k_i_k (n k0 k1 k2 : Nat) : n < n + 1 + 1 + 1 + 1 + k0 + k1 + 1 + k2 := by omega
theorem lt_gi_i_i_i_k_k_i_kh {a n k0 k1 k2 : Nat} (h : a < n) : a < n + 1 + 1 + 1 + 1 + k0 + k1 + 1 + k2 := by omega
theorem lt_gi_i_i_i_k_i_i (n k0 : Nat) : n < n + 1 + 1 + 1 + 1 + k0 + 1 + 1 := by omega
theorem lt_gi_i_i_i_k_i_ih {a n k0 : Nat} (h : a < n) : a < n + 1 + 1 + 1 + 1 + k0 + 1 + 1 := by omega
theorem lt_gi_i_i_i_k_i_i_k (n k0 k1 : Nat) : n < n + 1 + 1 + 1 + 1 + k0 + 1 + 1 + k1 := by omega
theorem lt_gi_i_i_i_k_i_i_kh {a n k0 k1 : Nat} (h : a < n) : a < n + 1 + 1 + 1 + 1 + k0 + 1 + 1 + k1 := by omega
theorem lt_gi_i_i_i_k_k_i_i (n k0 k1 : Nat) : n < n + 1 + 1 + 1 + 1 + k0 + k1 + 1 + 1 := by omega
theorem lt_gi_i_i_i_k_k_i_ih {a n k0 k1 : Nat} (h : a < n) : a < n + 1 + 1 + 1 + 1 + k0 + k1 + 1 + 1 := by omega
theorem lt_gi_i_i_i_k_k_i_i_k (n k0 k1 k2 : Nat) : n < n + 1 + 1 + 1 + 1 + k0 + k1 + 1 + 1 + k2 := by omega
theorem lt_gi_i_i_i_k_k_i_i_kh {a n k0 k1 k2 : Nat} (h : a < n) : a < n + 1 + 1 + 1 + 1 + k0 + k1 + 1 + 1 + k2 := by omega
theorem lt_gi_i_i_i_k_i_i_i (n k0 : Nat) : n < n + 1 + 1 + 1 + 1 + k0 + 1 + 1 + 1 := by omega
theorem lt_gi_i_i_i_k_i_i_ih {a n k0 : Nat} (h : a < n) : a < n + 1 + 1 + 1 + 1 + k0 + 1 + 1 + 1 := by omega
theorem lt_gi_i_i_i_k_i_i_i_k (n k0 k1 : Nat) : n < n + 1 + 1 + 1 + 1 + k0 + 1 + 1 + 1 + k1 := by omega
theorem lt_gi_i_i_i_k_i_i_i_kh {a n k0 k1 : Nat} (h : a < n) : a < n + 1 + 1 + 1 + 1 + k0 + 1 + 1 + 1 + k1 := by omega
theorem lt_gi_i_i_i_k_k_i_i_i (n k0 k1 : Nat) : n < n + 1 + 1 + 1 + 1 + k0 + k1 + 1 + 1 + 1 := by omega
theorem lt_gi_i_i_i_k_k_i_i_ih {a n k0 k1 : Nat} (h : a < n) : a < n + 1 + 1 + 1 + 1 + k0 + k1 + 1 + 1 + 1 := by omega
theorem lt_gi_i_i_i_k_k_i_i_i_k (n k0 k1 k2 : Nat) : n < n + 1 + 1 + 1 + 1 + k0 + k1 + 1 + 1 + 1 + k2 := by omega
theorem lt_gi_i_i_i_k_k_i_i_i_kh {a n k0 k1 k2 : Nat} (h : a < n) : a < n + 1 + 1 + 1 + 1 + k0 + k1 + 1 + 1 + 1 + k2 := by omega
theorem lt_gi_i_i_i_i_k_i (n k0 : Nat) : n < n + 1 + 1 + 1 + 1 + 1 + k0 + 1 := by omega
theorem lt_gi_i_i_i_i_k_ih {a n k0 : Nat} (h : a < n) : a < n + 1 + 1 + 1 + 1 + 1 + k0 + 1 := by omega
theorem lt_gi_i_i_i_i_k_i_k (n k0 k1 : Nat) : n < n + 1 + 1 + 1 + 1 + 1 + k0 + 1 + k1 := by omega
theorem lt_gi_i_i_i_i_k_i_kh {a n k0 k1 : Nat} (h : a < n) : a < n + 1 + 1 + 1 + 1 + 1 + k0 + 1 + k1 := by omega
theorem lt_gi_i_i_i_i_k_k_i (n k0 k1 : Nat) : n < n + 1 + 1 + 1 + 1 + 1 + k0 + k1 + 1 := by omega
theorem lt_gi_i_i_i_i_k_k_ih {a n k0 k1 : Nat} (h : a < n) : a < n + 1 + 1 + 1 + 1 + 1 + k0 + k1 + 1 := by omega
theorem lt_gi_i_i_i_i_k_k_i_k (n k0 k1 k2 : Nat) : n < n + 1 + 1 + 1 + 1 + 1 + k0 + k1 + 1 + k2 := by omega
theorem lt_gi_i_i_i_i_k_k_i_kh {a n k0 k1 k2 : Nat} (h : a < n) : a < n + 1 + 1 + 1 + 1 + 1 + k0 + k1 + 1 + k2 := by omega
theorem lt_gi_i_i_i_i_k_i_i (n k0 : Nat) : n < n + 1 + 1 + 1 + 1 + 1 + k0 + 1 + 1 := by omega
theorem lt_gi_i_i_i_i_k_i_ih {a n k0 : Nat} (h : a < n) : a < n + 1 + 1 + 1 + 1 + 1 + k0 + 1 + 1 := by omega
theorem lt_gi_i_i_i_i_k_i_i_k (n k0 k1 : Nat) : n < n + 1 + 1 + 1 + 1 + 1 + k0 + 1 + 1 + k1 := by omega
theorem lt_gi_i_i_i_i_k_i_i_kh {a n k0 k1 : Nat} (h : a < n) : a < n + 1 + 1 + 1 + 1 + 1 + k0 + 1 + 1 + k1 := by omega
theorem lt_gi_i_i_i_i_k_k_i_i (n k0 k1 : Nat) : n < n + 1 + 1 + 1 + 1 + 1 + k0 + k1 + 1 + 1 := by omega
theorem lt_gi_i_i_i_i_k_k_i_ih {a n k0 k1 : Nat} (h : a < n) : a < n + 1 + 1 + 1 + 1 + 1 + k0 + k1 + 1 + 1 := by omega
theorem lt_gi_i_i_i_i_k_k_i_i_k (n k0 k1 k2 : Nat) : n < n + 1 + 1 + 1 + 1 + 1 + k0 + k1 + 1 + 1 + k2 := by omega
theorem lt_gi_i_i_i_i_k_k_i_i_kh {a n k0 k1 k2 : Nat} (h : a < n) : a < n + 1 + 1 + 1 + 1 + 1 + k0 + k1 + 1 + 1 + k2 := by omega
theorem lt_gi_i_i_i_i_k_i_i_i (n k0 : Nat) : n < n + 1 + 1 + 1 + 1 + 1 + k0 + 1 + 1 + 1 := by omega
theorem lt_gi_i_i_i_i_k_i_i_ih {a n k0 : Nat} (h : a < n) : a < n + 1 + 1 + 1 + 1 + 1 + k0 + 1 + 1 + 1 := by omega
theorem lt_gi_i_i_i_i_k_i_i_i_k (n k0 k1 : Nat) : n < n + 1 + 1 + 1 + 1 + 1 + k0 + 1 + 1 + 1 + k1 := by omega
theorem lt_gi_i_i_i_i_k_i_i_i_kh {a n k0 k1 : Nat} (h : a < n) : a < n + 1 + 1 + 1 + 1 + 1 + k0 + 1 + 1 + 1 + k1 := by omega
theorem lt_gi_i_i_i_i_k_k_i_i_i (n k0 k1 : Nat) : n < n + 1 + 1 + 1 + 1 + 1 + k0 + k1 + 1 + 1 + 1 := by omega
theorem lt_gi_i_i_i_i_k_k_i_i_ih {a n k0 k1 : Nat} (h : a < n) : a < n + 1 + 1 + 1 + 1 + 1 + k0 + k1 + 1 + 1 + 1 := by omega
theorem lt_gi_i_i_i_i_k_k_i_i_i_k (n k0 k1 k2 : Nat) : n < n + 1 + 1 + 1 + 1 + 1 + k0 + k1 + 1 + 1 + 1 + k2 := by omega
theorem lt_gi_i_i_i_i_k_k_i_i_i_kh {a n k0 k1 k2 : Nat} (h : a < n) : a < n + 1 + 1 + 1 + 1 + 1 + k0 + k1 + 1 + 1 + 1 + k2 := by omega
theorem grew_grew (w : World) (p q : Ext) : grew (grew w p) q = grew w ⟨q.d, p.os ++ q.os⟩ := by simp [grew]
theorem drew_grew (w : World) : w.drew = grew w ⟨w.drawn + 1, #[]⟩ := by unfold grew; rw [Array.append_empty]; rfl
theorem drewN_grew (w : World) (p : Ext) (n : Nat) : (grew w p).drewN n = grew w ⟨p.d + n, p.os⟩ := rfl

section
variable {P : Program} {ops : Array Oper} {md : Region.Mode} {C : World → Prop}

end
end Go.Proofs.Ytkfmammkbmhfaaa

/- A region that draws its order, walked once, in an order of our choosing: operations that are quiet (one value in every world of the class) may come whenever they are ready; the others each stand alone when their turn comes; the tail as it stands. -/
namespace Go.Proofs.Ytkfmammkbmhfaaa
set_option linter.unusedSimpArgs false
set_option linter.unusedVariables false
open Go Go.RowKit

section
variable {P : Program} {ops : Array Oper} {md : Region.Mode}

def Later (w w' : World) : Prop := Below w.heap.size w w'
theorem Later.refl (w : World) : Later w w := Below.refl _ _
theorem Later.trans {a b c : World} (h : Later a b) (k : Later b c) : Later a c := Below.trans h ⟨k.os, k.tape, k.output, k.size, fun i hi => k.block i (Nat.lt_of_lt_of_le hi h.size)⟩

def opMix (P : Program) (ops : Array Oper) (i : Nat) (K : Act → World → Prop) (a : Act) (w : World) : Prop :=
  match ops[i]? with
  | none => K a w
  | some o => if Region.wanted o (yielded ops a.tmps) then o.wp P a w K (fun _ _ _ => False) else K (a.put o.dst undef) w

theorem upon_false {o : Oper} {a : Act} {w : World} {K : Act → World → Prop} {Q : Exit → Act → World → Prop} (h : o.wp P a w K (fun _ _ _ => False)) : o.wp P a w K Q := by
  unfold Oper.wp at *
  generalize (execOp a.eval o).run P w = r at *
  cases r with
  | ok n w' =>
    cases n <;> simp only [Oper.upon] at h ⊢ <;>
      first
        | exact h
        | exact Calls.mono h (fun e w'' he => by
            cases e with
            | returned v => exact he
            | panicked c => exact he.elim
            | outgrown => obtain ⟨_, _, hf⟩ := he; exact hf.elim)
  | halt x w' => cases x <;> simp only [Oper.upon] at h ⊢

theorem opMix_mono {i : Nat} {a : Act} {w : World} {K K' : Act → World → Prop} (h : ∀ a w, K a w → K' a w) (hh : opMix P ops i K a w) : opMix P ops i K' a w := by
  unfold opMix at *
  split
  · exact h _ _ (by simpa [*] using hh)
  · rename_i o ho
    simp only [ho] at hh
    split
    · rename_i hw; simp only [hw, if_true] at hh; exact Oper.wp_mono h hh
    · rename_i hw; simp only [hw] at hh; exact h _ _ hh

theorem wpOp_of_opMix {i : Nat} {a : Act} {w : World} {K : Act → World → Prop} {Q : Exit → Act → World → Prop} (hh : opMix P ops i K a w) : wpOp P ops Q i K a w := by
  unfold opMix at hh
  unfold wpOp
  split
  · simpa [*] using hh
  · rename_i o ho
    simp only [ho] at hh
    split
    · rename_i hw; simp only [hw, if_true] at hh; exact .inl (upon_false hh)
    · rename_i hw; simp only [hw] at hh; exact hh

def YieldsC (P : Program) (ops : Array Oper) (C : World → Prop) (o : Oper) (v : Value) (a : Act) : Prop :=
  (Region.wanted o (yielded ops a.tmps) = true ∧ ∀ w, C w → Oper.quietUpon P (Later w) w v ((execOp a.eval o).run P w)) ∨
  (Region.wanted o (yielded ops a.tmps) = false ∧ v = undef)

variable {C : World → Prop}

theorem YieldsC.of_same {o : Oper} {v : Value} {a a' : Act} (hy : YieldsC P ops C o v a) (he : execOp a'.eval o = execOp a.eval o)
    (hw : Region.wanted o (yielded ops a'.tmps) = Region.wanted o (yielded ops a.tmps)) : YieldsC P ops C o v a' := by
  unfold YieldsC at *
  rw [he, hw]
  exact hy

theorem YieldsC.opMix {i : Nat} {o : Oper} {v : Value} {a : Act} {w : World} (hi : ops[i]? = some o) (hy : YieldsC P ops C o v a) (hC : C w) {K : Act → World → Prop}
    (h : ∀ w', Later w w' → K (a.put o.dst v) w') : opMix P ops i K a w := by
  unfold Proofs.Ytkfmammkbmhfaaa.opMix
  simp only [hi]
  rcases hy with ⟨hw, hv⟩ | ⟨hw, rfl⟩
  · simp only [hw, if_true]
    have h3 := hv w hC
    unfold Oper.wp
    generalize (execOp a.eval o).run P w = r at *
    cases r with
    | ok n w' =>
      cases n <;> simp only [Oper.quietUpon] at h3 <;> simp only [Oper.upon]
      case value u => obtain ⟨rfl, rfl⟩ := h3; exact h _ (Later.refl _)
      case skip => obtain ⟨rfl, rfl⟩ := h3; exact h _ (Later.refl _)
      case enter f args =>
        obtain ⟨rfl, hc⟩ := h3
        exact hc.mono fun e w'' ⟨he, hw''⟩ => by subst he; exact h _ hw''
    | halt x w' => simp only [Oper.quietUpon] at h3
  · simp only [hw, Bool.false_eq_true, if_false]; exact h _ (Later.refl _)

theorem opMix_put {j : Nat} {oi oj : Oper} {v : Value} (hj : ops[j]? = some oj) (hap : oi.apart ops oj = true)
    (hsi : ∀ cs b, oi.op ≠ .select cs b) (hsj : ∀ cs b, oj.op ≠ .select cs b) {K : Act → World → Prop} {a : Act} {w : World}
    (hy : YieldsC P ops C oi v a) (h : opMix P ops j K (a.put oi.dst v) w) :
    opMix P ops j (fun a' w' => YieldsC P ops C oi v a' ∧ K (a'.put oi.dst v) w') a w := by
  obtain ⟨h1, h2, h3⟩ := Oper.apart_spec hap
  have keep : ∀ (a : Act), YieldsC P ops C oi v a → ∀ u, YieldsC P ops C oi v (a.put oj.dst u) := fun a hy u =>
    hy.of_same (execOp_put oi hsi a oj.dst u h3) (wanted_put oi a oj.dst u h3)
  have keepD : ∀ d, YieldsC P ops C oi v { a with defers := d :: a.defers } := fun d => hy.of_same rfl rfl
  unfold opMix at *
  simp only [hj] at *
  rw [wanted_put oj a oi.dst v h1] at h
  split
  · rename_i hw
    simp only [hw, if_true] at h
    unfold Oper.wp at *
    rw [execOp_put oj hsj a oi.dst v h1] at h
    generalize (execOp a.eval oj).run P w = r at *
    cases r with
    | ok n w' =>
      cases n <;> simp only [Oper.upon] at h ⊢
      case value u => exact ⟨keep a hy u, by rw [← Act.put_comm a v u h2]; exact h⟩
      case skip => exact ⟨keep a hy _, by rw [← Act.put_comm a v undef h2]; exact h⟩
      case defer d =>
        refine ⟨keep _ (keepD d) _, ?_⟩
        rw [← Act.put_comm _ v undef h2, ← Act.put_defers]
        exact h
      case enter f args =>
        refine Calls.mono h fun e w'' he => ?_
        cases e with
        | returned u => exact ⟨keep a hy u, by rw [← Act.put_comm a v u h2]; exact he⟩
        | panicked c => exact he
        | outgrown => exact he
      case row row args => exact Rows.mono h fun u w'' he => ⟨keep a hy u, by rw [← Act.put_comm a v u h2]; exact he⟩
    | halt x w' => cases x <;> simp only [Oper.upon] at h ⊢
  · rename_i hw
    simp only [hw] at h
    exact ⟨keep a hy _, by rw [← Act.put_comm a v undef h2]; exact h⟩

def wpM (P : Program) (md : Region.Mode) (ops : Array Oper) (C : World → Prop) (n : Nat) (L : Array Bool → Act → World → Prop) : Nat → Array Bool → Act → World → Prop
  | 0, listed, a, w => L listed a w
  | f + 1, listed, a, w => Region.ready md ops listed ≠ [] ∧ ∀ i ∈ Region.ready md ops listed, i < n ∧
      opMix P ops i (fun a' w' => C w' ∧ ∀ w'', Later w' w'' → wpM P md ops C n L f (listed.setIfInBounds i true) a' w'') a w

theorem wpAny_of_wpM {n g : Nat} {L : Array Bool → Act → World → Prop} {Q' : Exit → Act → World → Prop} (hL : ∀ listed a w, L listed a w → wpAny P md ops Q' g listed a w) :
    ∀ (f : Nat) (listed : Array Bool) (a : Act) (w : World), wpM P md ops C n L f listed a w → wpAny P md ops Q' (f + g) listed a w
  | 0, listed, a, w, h => by rw [Nat.zero_add]; exact hL _ _ w h
  | f + 1, listed, a, w, h => by
    rw [show f + 1 + g = (f + g) + 1 by omega]
    exact ⟨fun h0 => absurd h0 h.1, fun i hi => wpOp_of_opMix (opMix_mono (fun a' w' h' => wpAny_of_wpM hL f _ a' w' (h'.2 _ (Later.refl _))) (h.2 i hi).2)⟩

theorem wpM_first {n i : Nat} {oi : Oper} {v : Value} {L : Array Bool → Act → World → Prop} (hCl : ∀ w w', C w → Later w w' → C w')
    (hi : ops[i]? = some oi) (hsel : ∀ (j : Nat) (o : Oper) cs b, ops[j]? = some o → o.op ≠ .select cs b)
    (hs : Region.sinkB md ops n = true) (hc : Region.chainB md ops n = true) (hn : n < ops.size) (hin : i < n)
    (hdone : ∀ listed a w, L listed a w → ∀ j ∈ Region.ready md ops listed, n ≤ j) :
    ∀ (f : Nat) (listed : Array Bool) (a : Act) (w : World), HeadInv md ops n listed →
      (∀ j oj, ops[j]? = some oj → j ≠ i → listed.getD j true = false → (∀ e ∈ oj.after, Region.binds md e = true → e.on ≠ i) → oi.apart ops oj = true) →
      i ∈ Region.ready md ops listed → YieldsC P ops C oi v a → C w →
      (∀ w', Later w w' → wpM P md ops C n L f (listed.setIfInBounds i true) (a.put oi.dst v) w') → wpM P md ops C n L (f + 1) listed a w := by
  intro f
  induction f with
  | zero =>
    intro listed a w inv _ hr hy hC H
    have hun := (mem_ready.1 hr).1
    refine ⟨fun h => (by rw [h] at hr; cases hr), fun j hj => ?_⟩
    have hjn : j < n := by
      rcases Nat.lt_or_ge j n with h | h
      · exact h
      · exact absurd hj (tail_waits hs hc hn inv _ i rfl hin hun j h)
    refine ⟨hjn, ?_⟩
    by_cases hji : j = i
    · subst hji; exact hy.opMix hi hC fun w' hw' => ⟨hCl _ _ hC hw', fun w'' hw'' => H _ (hw'.trans hw'')⟩
    · have := hdone _ _ _ (H w (Later.refl _)) j (ready_mono hj hji)
      omega
  | succ f ih =>
    intro listed a w inv hfree hr hy hC H
    have hun := (mem_ready.1 hr).1
    refine ⟨fun h => (by rw [h] at hr; cases hr), fun j hj => ?_⟩
    have hjn : j < n := by
      rcases Nat.lt_or_ge j n with h | h
      · exact h
      · exact absurd hj (tail_waits hs hc hn inv _ i rfl hin hun j h)
    refine ⟨hjn, ?_⟩
    by_cases hji : j = i
    · subst hji; exact hy.opMix hi hC fun w' hw' => ⟨hCl _ _ hC hw', fun w'' hw'' => H _ (hw'.trans hw'')⟩
    · have h1 := ((H w (Later.refl _)).2 j (ready_mono hj hji)).2
      obtain ⟨hjun, oj, hoj, hall⟩ := mem_ready.1 hj
      have hnot : ∀ e ∈ oj.after, Region.binds md e = true → e.on ≠ i := fun e he hb heq => by
        have h1 := hall e he hb
        rw [heq, getD_both hun] at h1
        cases h1
      have h2 := opMix_put hoj (hfree j oj hoj hji hjun hnot) (fun cs b => hsel i oi cs b hi) (fun cs b => hsel j oj cs b hoj) hy h1
      have hfree' : ∀ k ok, ops[k]? = some ok → k ≠ i → (listed.setIfInBounds j true).getD k true = false →
          (∀ e ∈ ok.after, Region.binds md e = true → e.on ≠ i) → oi.apart ops ok = true := fun k ok hk hki hun hno => by
        refine hfree k ok hk hki ?_ hno
        by_cases hjk : j = k
        · subst hjk; exact hjun
        · rw [getD_set_ne true hjk] at hun; exact hun
      refine opMix_mono (fun a' w' h3 => ⟨h3.2.1, fun w'' hw'' => ih (listed.setIfInBounds j true) a' w'' (inv.set hj hjn) hfree' (ready_mono hr (Ne.symm hji)) h3.1 (hCl _ _ h3.2.1 hw'') fun w3 hw3 => ?_⟩) h2
      rw [Array.setIfInBounds_comm _ _ hji]
      exact h3.2.2 _ (hw''.trans hw3)

def wpMix (P : Program) (ops : Array Oper) (C : World → Prop) (T : Act → World → Prop) : List (Nat × Bool) → Act → World → Prop
  | [], a, w => ∀ w', Later w w' → T a w'
  | (i, true) :: r, a, w => ∃ o v, ops[i]? = some o ∧ YieldsC P ops C o v a ∧ wpMix P ops C T r (a.put o.dst v) w
  | (i, false) :: r, a, w => ∀ w', Later w w' → opMix P ops i (fun a' w'' => C w'' ∧ wpMix P ops C T r a' w'') a w'

theorem wpMix_later {T : Act → World → Prop} : ∀ (r : List (Nat × Bool)) (a : Act) (w w' : World), Later w w' → wpMix P ops C T r a w → wpMix P ops C T r a w'
  | [], _, _, _, h, H => fun w'' h'' => H w'' (h.trans h'')
  | (_, true) :: r, _, _, _, h, ⟨o, v, ho, hy, H⟩ => ⟨o, v, ho, hy, wpMix_later r _ _ _ h H⟩
  | (_, false) :: _, _, _, _, h, H => fun w'' h'' => H w'' (h.trans h'')

def mixB (md : Region.Mode) (ops : Array Oper) (g n : Nat) : List (Nat × Bool) → Array Bool → Bool
  | [], listed => Region.seqB md ops g n listed
  | (i, true) :: r, listed => decide (i < n) && (Region.ready md ops listed).contains i && Region.free md ops listed i && mixB md ops g n r (listed.setIfInBounds i true)
  | (i, false) :: r, listed => decide (i < n) && decide (Region.ready md ops listed = [i]) && mixB md ops g n r (listed.setIfInBounds i true)

theorem wpM_of_mix {n g : Nat} {T : Act → World → Prop} (hCl : ∀ w w', C w → Later w w' → C w') (hsel : Region.noSelect ops = true) (hs : Region.sinkB md ops n = true) (hc : Region.chainB md ops n = true) (hn : n < ops.size) :
    ∀ (r : List (Nat × Bool)) (listed : Array Bool) (a : Act) (w : World), HeadInv md ops n listed → mixB md ops g n r listed = true → C w → wpMix P ops C T r a w →
    wpM P md ops C n (fun listed' a' w' => Region.seqB md ops g n listed' = true ∧ T a' w') r.length listed a w
  | [], listed, a, w, _, hB, _, h => ⟨hB, h _ (Later.refl _)⟩
  | (i, true) :: r, listed, a, w, inv, hB, hC, h => by
    obtain ⟨o, v, ho, hy, H⟩ := h
    simp only [mixB, Bool.and_eq_true, decide_eq_true_eq] at hB
    obtain ⟨⟨⟨hin, hr⟩, hf⟩, hB'⟩ := hB
    have hr' : i ∈ Region.ready md ops listed := by simpa using hr
    exact wpM_first hCl ho (Region.noSelect_spec hsel) hs hc hn hin (fun listed' a' w' hL => seqB_ready hL.1) r.length listed a w inv (Region.free_spec ho hf) hr' hy hC
      fun w' hw' => wpM_of_mix hCl hsel hs hc hn r _ _ w' (inv.set hr' hin) hB' (hCl _ _ hC hw') (wpMix_later r _ _ _ hw' H)
  | (i, false) :: r, listed, a, w, inv, hB, hC, h => by
    simp only [mixB, Bool.and_eq_true, decide_eq_true_eq] at hB
    obtain ⟨⟨hin, hr⟩, hB'⟩ := hB
    have hr' : i ∈ Region.ready md ops listed := by rw [hr]; simp
    refine ⟨fun h0 => (by rw [h0] at hr; cases hr), fun j hj => ?_⟩
    rw [hr] at hj
    obtain rfl : j = i := by simpa using hj
    exact ⟨hin, opMix_mono (fun a' w' h' => ⟨h'.1, fun w'' hw'' => wpM_of_mix hCl hsel hs hc hn r _ _ w'' (inv.set hr' hin) hB' (hCl _ _ h'.1 hw'') (wpMix_later r _ _ _ hw'' h'.2)⟩) (h w (Later.refl _))⟩

def mixAllB (md : Region.Mode) (ops : Array Oper) (n : Nat) (r : List (Nat × Bool)) : Bool :=
  Region.noSelect ops && decide (n < ops.size) && Region.sinkB md ops n && Region.chainB md ops n && decide (r.length + (ops.size - n) = ops.size) && mixB md ops (ops.size - n) n r (Array.replicate ops.size false)

theorem wp_region_mix {id : Nat} {Q : Exit → Act → World → Prop} {a : Act} {w : World} {l : List Oper} (n : Nat) (r : List (Nat × Bool)) (hm : P.follows .mixedOrders = true) (hB : mixAllB .any l.toArray n r = true)
    (h : wpMix P l.toArray (fun w' => ∃ p : Ext, w' = grew w p) (fun a' w' => wpList P l.toArray Q (l.drop n) a' w') r a w) : (Code.region id l.toArray true).wp P Q a w := by
  simp only [mixAllB, Bool.and_eq_true, decide_eq_true_eq] at hB
  obtain ⟨⟨⟨⟨⟨hsel, hn⟩, hs⟩, hc⟩, hlen⟩, hmix⟩ := hB
  have hdl : (l.drop n).length = l.toArray.size - n := by simp
  have inv0 : HeadInv .any l.toArray n (Array.replicate l.toArray.size false) :=
    ⟨by simp, fun j oj _ hl => (by rw [getD_replicate_false] at hl; cases hl), fun t _ ht => getD_in (by simpa using ht) (getD_replicate_false _ _)⟩
  have hCl : ∀ w1 w2, (∃ p : Ext, w1 = grew w p) → Later w1 w2 → ∃ p : Ext, w2 = grew w p := fun w1 w2 ⟨p, h1⟩ h2 => by
    subst h1
    obtain ⟨q, hq⟩ := below_grew h2
    exact ⟨_, hq.trans (grew_grew w p q)⟩
  have hd : Later w { w with drawn := w.drawn + 1 } := ⟨rfl, rfl, rfl, Nat.le_refl _, fun _ _ => rfl⟩
  have H := wpM_of_mix (md := .any) (g := l.toArray.size - n) (T := fun a' w' => wpList P l.toArray Q (l.drop n) a' w') hCl hsel hs hc hn r _ a _ inv0 hmix ⟨⟨w.drawn + 1, #[]⟩, drew_grew w⟩ (wpMix_later r _ _ _ hd h)
  refine wp_region_any hm ?_
  have := wpAny_of_wpM (Q' := Q) (g := l.toArray.size - n) (fun listed a' w' hL => by
    have := wpAny_of_seq (md := .any) (Q' := Q) (l.drop n) n listed a' w' (fun j => by simp [List.getElem?_drop]) (by rw [hdl]; exact hL.1) hL.2
    rwa [hdl] at this) _ _ _ _ H
  rw [hlen] at this
  exact this

end

/-! ### Steps of the walk -/
section
variable {P : Program} {ops : Array Oper} {C : World → Prop} {T : Act → World → Prop} {a : Act} {w : World} {r : List (Nat × Bool)} {i : Nat}

theorem mix_quiet {o : Oper} (ho : ops[i]? = some o)
    (h : ∀ K : Act → Prop, (∀ a, wpMix P ops C T r a w → K a) → if Region.wanted o (yielded ops a.tmps) then (∃ v, (∀ w', C w' → Oper.quietUpon P (Later w') w' v ((execOp a.eval o).run P w')) ∧ K (a.put o.dst v)) else K (a.put o.dst undef)) :
    wpMix P ops C T ((i, true) :: r) a w := by
  have h1 := h _ (fun _ h => h)
  by_cases hw : Region.wanted o (yielded ops a.tmps) = true
  · rw [if_pos hw] at h1
    obtain ⟨v, h2, h3⟩ := h1
    exact ⟨o, v, ho, .inl ⟨hw, h2⟩, h3⟩
  · rw [if_neg hw] at h1
    exact ⟨o, undef, ho, .inr ⟨by simpa using hw, rfl⟩, h1⟩

theorem calls_later {f : FuncId} {args : Array Value} {w : World} {v : Value} (h : Calls P f args w fun e w' => e = .returned v ∧ Below w.heap.size w w') : Calls P f args w fun e w' => e = .returned v ∧ Later w w' := h

theorem mix_end (h : ∀ p : Ext, T a (grew w p)) : wpMix P ops C T [] a w := fun w' hw' => by
  obtain ⟨p, hp⟩ := below_grew hw'
  subst hp
  exact h p
end

theorem yielded_undef {ops : Array Oper} {tmps : Array Value} {j : Nat} (h : ((ops[j]?).bind (·.dst)).bind (tmps[·]?) = some undef) : yielded ops tmps j = none := by
  unfold yielded
  rw [h]
  rfl

theorem below_grews {w W : World} (h : Below w.heap.size w W) (p : Ext) : Below w.heap.size w (grew W p) :=
  Below.trans h ⟨rfl, rfl, rfl, by simp [grew], fun k hk => (grew_below W p).block k (Nat.lt_of_lt_of_le hk h.size)⟩
end Go.Proofs.Ytkfmammkbmhfaaa
