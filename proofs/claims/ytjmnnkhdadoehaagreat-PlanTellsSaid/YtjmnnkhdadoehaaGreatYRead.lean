/- Slices that are read: lists of elements of k cells. -/
import Derived.Test.YtjmnnkhdadoehaaGreatYRegion
import Derived.Test.YtjmnnkhdadoehaaGreatYBase
import Derived.OwnWalk
import Derived.Deep.OwnRows
namespace Go.Proofs.YtjmnnkhdadoehaaGreat
set_option linter.unusedSimpArgs false
set_option linter.unusedVariables false
open Go Go.RowKit

def Reads {α : Type} (enc : α → List Value) (k : Nat) (w : World) (A : Option Addr) (xs : List α) : Prop :=
  xs.length ≤ 9223372036854775807 ∧ ∀ i x, xs[i]? = some x → ∃ b off, A = some ⟨b, off, none⟩ ∧ b < w.heap.size ∧ ∀ j u, (enc x)[j]? = some u → w.cell? ⟨b, off + i * k + j, none⟩ = some u

theorem Reads.below {α : Type} {enc : α → List Value} {k : Nat} {w w' : World} {A : Option Addr} {xs : List α} (h : Reads enc k w A xs) (hb : Below w.heap.size w w') : Reads enc k w' A xs :=
  ⟨h.1, fun i x hx => by
    obtain ⟨b, off, e, hl, hc⟩ := h.2 i x hx
    exact ⟨b, off, e, Nat.lt_of_lt_of_le hl hb.size, fun j u hu => (hb.cell (p := ⟨b, off + i * k + j, none⟩) hl).trans (hc j u hu)⟩⟩

theorem Reads.nil {α : Type} (enc : α → List Value) (k : Nat) (w : World) (A : Option Addr) : Reads enc k w A [] := ⟨by simp, fun i x hx => by simp at hx⟩

theorem Reads.of_own {α : Type} {enc : α → List Value} {k base : Nat} {e : TypeId} {w : World} {A : Option Addr} {n c : Nat} {xs : List α} (hk : ∀ x, (enc x).length = k)
    (h : w.ownsRow base e k (.slice A n c) xs.length (xs.flatMap enc)) : n = xs.length ∧ Reads enc k w A xs := by
  have hfl : ∀ (ys : List α) (i : Nat) (x : α), ys[i]? = some x → ∀ j u, (enc x)[j]? = some u → (ys.flatMap enc)[i * k + j]? = some u := by
    intro ys
    induction ys with
    | nil => intro i x hx; simp at hx
    | cons y ys ih =>
      intro i x hx j u hu
      rw [List.flatMap_cons]
      cases i with
      | zero =>
        simp only [List.getElem?_cons_zero, Option.some.injEq] at hx
        subst hx
        rw [Nat.zero_mul, Nat.zero_add, List.getElem?_append_left (by rw [List.getElem?_eq_some_iff] at hu; exact hu.1)]; exact hu
      | succ i =>
        rw [List.getElem?_cons_succ] at hx
        rw [List.getElem?_append_right (by rw [hk]; rw [Nat.succ_mul]; omega), hk, show (i + 1) * k + j - k = i * k + j by rw [Nat.succ_mul]; omega]
        exact ih i x hx j u hu
  rcases h.2 with ⟨hv, h0⟩ | ⟨g, cap, cur, hv, hb, hg, h1, h2, h3, h4⟩
  · injection hv with hA hn hc
    have : xs = [] := List.eq_nil_of_length_eq_zero h0
    subst this
    exact ⟨by simpa using hn, Reads.nil _ _ _ _⟩
  · injection hv with hA hn hc
    have hlt : g < w.heap.size := (Array.getElem?_eq_some_iff.1 hg).1
    refine ⟨hn, by unfold maxLen at h2; omega, fun i x hx => ⟨g, 0, hA, hlt, fun j u hu => ?_⟩⟩
    have := h.cells (g := g) (by rw [hA]; rfl) (i * k + j) u (hfl xs i x hx j u hu)
    rw [Addr.add_lit] at this
    rw [show 0 + i * k + j = 0 + (i * k + j) by omega]; exact this

theorem rowIs_grew {w : World} {b : Nat} {t : TypeId} {n : Nat} {f : Nat → Value} (h : w.rowIs b t n f) (p : Ext) : (grew w p).rowIs b t n f :=
  h.of_block ((grew_below w p).block b h.lt)
theorem at_alloc (w : World) (o : Obj) : (w.alloc o).heap[w.heap.size]? = some o := by
  show (w.heap.push o)[w.heap.size]? = some o
  simp
theorem at_alloc' (w : World) (o : Obj) (n : Nat) (h : w.heap.size = n) : (w.alloc o).heap[n]? = some o := by rw [← h]; exact at_alloc w o
theorem Reads.take {α : Type} {enc : α → List Value} {k : Nat} {w : World} {A : Option Addr} {xs : List α} (h : Reads enc k w A xs) (n : Nat) : Reads enc k w A (xs.take n) :=
  ⟨Nat.le_trans (by simp; omega) h.1, fun i x hx => h.2 i x (by rw [List.getElem?_take] at hx; split at hx; exact hx; cases hx)⟩
theorem Reads.grew {α : Type} {enc : α → List Value} {k : Nat} {w : World} {A : Option Addr} {xs : List α} (h : Reads enc k w A xs) (p : Ext) : Reads enc k (grew w p) A xs := h.below (grew_below w p)
theorem Reads.alloc {α : Type} {enc : α → List Value} {k : Nat} {w : World} {A : Option Addr} {xs : List α} (h : Reads enc k w A xs) (o : Obj) : Reads enc k (w.alloc o) A xs := h.below ((Below.refl _ _).alloc (Nat.le_refl _) o)
theorem Reads.made {α : Type} {enc : α → List Value} {k : Nat} (hk : ∀ x, (enc x).length = k) (w : World) (xs : List α) (t : TypeId) (hx : xs.length ≤ 9223372036854775807) {cs : Array Value} (hcs : cs.toList = xs.flatMap enc) : Reads enc k (w.alloc (.cells cs t)) (some ⟨w.heap.size, 0, none⟩) xs := by
  have hfl : ∀ (ys : List α) (i : Nat) (x : α), ys[i]? = some x → ∀ j u, (enc x)[j]? = some u → (ys.flatMap enc)[i * k + j]? = some u := by
    intro ys
    induction ys with
    | nil => intro i x hx; simp at hx
    | cons y ys ih =>
      intro i x hx j u hu
      rw [List.flatMap_cons]
      cases i with
      | zero =>
        simp only [List.getElem?_cons_zero, Option.some.injEq] at hx
        subst hx
        rw [Nat.zero_mul, Nat.zero_add, List.getElem?_append_left (by rw [List.getElem?_eq_some_iff] at hu; exact hu.1)]; exact hu
      | succ i =>
        rw [List.getElem?_cons_succ] at hx
        rw [List.getElem?_append_right (by rw [hk]; rw [Nat.succ_mul]; omega), hk, show (i + 1) * k + j - k = i * k + j by rw [Nat.succ_mul]; omega]
        exact ih i x hx j u hu
  refine ⟨hx, fun i x hi => ⟨w.heap.size, 0, rfl, by simp, fun j u hu => ?_⟩⟩
  have h1 := hfl xs i x hi j u hu
  simp only [World.cell?, at_alloc]
  rw [← hcs] at h1
  rw [show 0 + i * k + j = i * k + j by omega]
  simpa using h1
theorem Reads.made' {α : Type} {enc : α → List Value} {k : Nat} (hk : ∀ x, (enc x).length = k) (xs : List α) (hx : xs.length ≤ 9223372036854775807) {w : World} {t : TypeId} {cs : Array Value} {N : Nat} (hcs : cs.toList = xs.flatMap enc) (hN : w.heap.size = N) : Reads enc k (w.alloc (.cells cs t)) (some ⟨N, 0, none⟩) xs := by
  subst hN; exact Reads.made hk w xs t hx hcs
def encE (x : Ent) : List Value := [.int .u64 x.w.v.x, .int .u64 x.w.v.y, .int .u64 x.w.m.x, .int .u64 x.w.m.y, .int .i64 x.len, .int .i64 x.act]
def encR (x : Rte) : List Value := [.int .u64 x.p.a.x, .int .u64 x.p.a.y, .int .i64 x.p.len, .int .i64 x.act]
def encS (x : Slt) : List Value := [.bool x.valid, .int .u64 x.e.w.v.x, .int .u64 x.e.w.v.y, .int .u64 x.e.w.m.x, .int .u64 x.e.w.m.y, .int .i64 x.e.len, .int .i64 x.e.act]
def encX (x : Wrt) : List Value := [.int .i64 x.at_, .bool x.s.valid, .int .u64 x.s.e.w.v.x, .int .u64 x.s.e.w.v.y, .int .u64 x.s.e.w.m.x, .int .u64 x.s.e.w.m.y, .int .i64 x.s.e.len, .int .i64 x.s.e.act]
def encD (x : Stp) : List Value := [.int .i64 x.kind, .int .u64 x.e.w.v.x, .int .u64 x.e.w.v.y, .int .u64 x.e.w.m.x, .int .u64 x.e.w.m.y, .int .i64 x.e.len, .int .i64 x.e.act]
def encI (x : Int) : List Value := [.int .i64 x]
def encB (x : Bool) : List Value := [.bool x]

theorem Reads.atE {w : World} {A : Option Addr} {xs : List Ent} (h : Reads encE 6 w A xs) {i : Nat} (hi : i < xs.length) : ∃ b off, A = some ⟨b, off, none⟩ ∧ b < w.heap.size ∧
    w.cell? ⟨b, off + i * 6, none⟩ = some (.int .u64 xs[i].w.v.x) ∧ w.cell? ⟨b, off + i * 6 + 1, none⟩ = some (.int .u64 xs[i].w.v.y) ∧ w.cell? ⟨b, off + i * 6 + 2, none⟩ = some (.int .u64 xs[i].w.m.x) ∧
    w.cell? ⟨b, off + i * 6 + 3, none⟩ = some (.int .u64 xs[i].w.m.y) ∧ w.cell? ⟨b, off + i * 6 + 4, none⟩ = some (.int .i64 xs[i].len) ∧ w.cell? ⟨b, off + i * 6 + 5, none⟩ = some (.int .i64 xs[i].act) := by
  obtain ⟨b, off, e, hl, hc⟩ := h.2 i xs[i] (List.getElem?_eq_getElem hi)
  exact ⟨b, off, e, hl, by simpa using hc 0 _ rfl, hc 1 _ rfl, hc 2 _ rfl, hc 3 _ rfl, hc 4 _ rfl, hc 5 _ rfl⟩
end Go.Proofs.YtjmnnkhdadoehaaGreat
