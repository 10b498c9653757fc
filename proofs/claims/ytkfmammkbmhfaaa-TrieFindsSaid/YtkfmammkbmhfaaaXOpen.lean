/- Arguments, opened to what they read as. -/
import Derived.Test.YtkfmammkbmhfaaaProg
import Derived.Test.YtkfmammkbmhfaaaXRead
import Derived.Test.YtkfmammkbmhfaaaXSpec
import Derived.ProofKit
import Derived.OpenShut
import Derived.Deep.Slices
import Derived.ChangeOld
import Derived.Below
namespace Go.Proofs.Ytkfmammkbmhfaaa
set_option linter.unusedSimpArgs false
set_option linter.unusedVariables false
open Go.ChangeShapes Go.WideShapes Go.ChangeAt Go.RowKit Go.Deep
def OkI (n : Int) : Prop := -9223372036854775808 ≤ n ∧ n ≤ 9223372036854775807
theorem okI_wf {n : Int} (h : (Lit.int .i64 n).wf = true) : OkI n := bounds_i64 h
theorem okU_wf {n : Int} (h : (Lit.int .u64 n).wf = true) : U n := by have := bounds_u64 h; exact ⟨this.1, by omega⟩
def OkA (a : A2) : Prop := A2.ok a
def OkP (x : Pfx) : Prop := OkA x.a ∧ OkI x.len
def OkR (x : Rte) : Prop := OkP x.p ∧ OkI x.act
theorem okWide_arr {P : Program} {w : World} {r : Reach} {base : Nat} {t e : TypeId} {n : Nat} {v : Value} (ht : P.underlying t = some (.array n e)) (h : Value.okWide P w r base t v) : ∃ cs, v = .agg cs ∧ cs.size = P.cellsOf t := by
  simp only [Value.okWide, ht] at h
  obtain ⟨cs, h1, h2, _⟩ := h
  exact ⟨cs, h1, h2⟩
theorem len_2 {cs : List Value} (h : cs.length = 2) : ∃ x0 x1, cs = [x0, x1] := by
  match cs, h with
  | [x0, x1], _ => exact ⟨x0, x1, rfl⟩
theorem len_3 {cs : List Value} (h : cs.length = 3) : ∃ x0 x1 x2, cs = [x0, x1, x2] := by
  match cs, h with
  | [x0, x1, x2], _ => exact ⟨x0, x1, x2, rfl⟩
theorem len_4 {cs : List Value} (h : cs.length = 4) : ∃ x0 x1 x2 x3, cs = [x0, x1, x2, x3] := by
  match cs, h with
  | [x0, x1, x2, x3], _ => exact ⟨x0, x1, x2, x3, rfl⟩
set_option maxRecDepth 100000 in
theorem open_31 {H : Type} {enc : TypeId × Value → H} {w : World} {base : Nat} {spare : Nat → Bool} {held : Bool} {fuel : Nat} {cs : List Value} {x : DataW H × List MemPlace} (h : DataW.trod enc Try.prog w base spare held fuel 31 cs = some x) : ∃ e : A2, cs = [.int .u64 e.x, .int .u64 e.y] ∧ OkA e := by
  obtain ⟨ys, n, _, _, hlen, hy, hf⟩ := DataW.trod_array Try.underlying31 h
  have hl : cs.length = 2 := hlen.trans (by kernel_rfl)
  obtain ⟨x0, x1, rfl⟩ := len_2 hl
  clear hl hlen h
  have h0 := hf 0 (by omega)
  rw [List.getElem?_eq_getElem (show 0 < ys.length by rw [hy]; decide)] at h0
  rw [show Try.prog.cellsOf 28 = 1 from by kernel_rfl] at h0
  obtain ⟨a0, c0, _, o0⟩ := DataW.trod_int Try.underlying28 h0
  simp at c0
  have h1 := hf 1 (by omega)
  rw [List.getElem?_eq_getElem (show 1 < ys.length by rw [hy]; decide)] at h1
  rw [show Try.prog.cellsOf 28 = 1 from by kernel_rfl] at h1
  obtain ⟨a1, c1, _, o1⟩ := DataW.trod_int Try.underlying28 h1
  simp at c1
  refine ⟨⟨a0, a1⟩, ?_, ⟨okU_wf o0, okU_wf o1⟩⟩
  simp_all
set_option maxRecDepth 100000 in
theorem open_33 {H : Type} {enc : TypeId × Value → H} {w : World} {base : Nat} {spare : Nat → Bool} {held : Bool} {fuel : Nat} {cs : List Value} {x : DataW H × List MemPlace} (h : DataW.trod enc Try.prog w base spare held fuel 33 cs = some x) : ∃ e : Pfx, cs = [.int .u64 e.a.x, .int .u64 e.a.y, .int .i64 e.len] ∧ OkP e := by
  obtain ⟨ys, n, _, _, hlen, hy, hf⟩ := DataW.trod_struct Try.underlying33 h
  have hl : cs.length = 3 := hlen.trans (by kernel_rfl)
  obtain ⟨x0, x1, x2, rfl⟩ := len_3 hl
  clear hl hlen h
  have h0 : DataW.trod enc Try.prog w base spare held n 31 ((List.drop 0 [x0, x1, x2]).take (Try.prog.cellsOf 31)) = ys[0]? := hf 0 _ rfl
  rw [List.getElem?_eq_getElem (show 0 < ys.length by rw [hy]; decide)] at h0
  rw [show Try.prog.cellsOf 31 = 2 from by kernel_rfl] at h0
  obtain ⟨a0, c0, o0⟩ := open_31 h0
  simp at c0
  have h1 : DataW.trod enc Try.prog w base spare held n 3 ((List.drop 2 [x0, x1, x2]).take (Try.prog.cellsOf 3)) = ys[1]? := hf 1 _ rfl
  rw [List.getElem?_eq_getElem (show 1 < ys.length by rw [hy]; decide)] at h1
  rw [show Try.prog.cellsOf 3 = 1 from by kernel_rfl] at h1
  obtain ⟨a1, c1, _, o1⟩ := DataW.trod_int Try.underlying3 h1
  simp at c1
  refine ⟨⟨a0, a1⟩, ?_, ⟨o0, okI_wf o1⟩⟩
  simp_all
set_option maxRecDepth 100000 in
theorem open_35 {H : Type} {enc : TypeId × Value → H} {w : World} {base : Nat} {spare : Nat → Bool} {held : Bool} {fuel : Nat} {cs : List Value} {x : DataW H × List MemPlace} (h : DataW.trod enc Try.prog w base spare held fuel 35 cs = some x) : ∃ e : Rte, cs = [.int .u64 e.p.a.x, .int .u64 e.p.a.y, .int .i64 e.p.len, .int .i64 e.act] ∧ OkR e := by
  obtain ⟨ys, n, _, _, hlen, hy, hf⟩ := DataW.trod_struct Try.underlying35 h
  have hl : cs.length = 4 := hlen.trans (by kernel_rfl)
  obtain ⟨x0, x1, x2, x3, rfl⟩ := len_4 hl
  clear hl hlen h
  have h0 : DataW.trod enc Try.prog w base spare held n 33 ((List.drop 0 [x0, x1, x2, x3]).take (Try.prog.cellsOf 33)) = ys[0]? := hf 0 _ rfl
  rw [List.getElem?_eq_getElem (show 0 < ys.length by rw [hy]; decide)] at h0
  rw [show Try.prog.cellsOf 33 = 3 from by kernel_rfl] at h0
  obtain ⟨a0, c0, o0⟩ := open_33 h0
  simp at c0
  have h1 : DataW.trod enc Try.prog w base spare held n 3 ((List.drop 3 [x0, x1, x2, x3]).take (Try.prog.cellsOf 3)) = ys[1]? := hf 1 _ rfl
  rw [List.getElem?_eq_getElem (show 1 < ys.length by rw [hy]; decide)] at h1
  rw [show Try.prog.cellsOf 3 = 1 from by kernel_rfl] at h1
  obtain ⟨a1, c1, _, o1⟩ := DataW.trod_int Try.underlying3 h1
  simp at c1
  refine ⟨⟨a0, a1⟩, ?_, ⟨o0, okI_wf o1⟩⟩
  simp_all
end Go.Proofs.Ytkfmammkbmhfaaa

/- Rows of routes, opened. -/
namespace Go.Proofs.Ytkfmammkbmhfaaa
set_option linter.unusedSimpArgs false
set_option linter.unusedVariables false
open Go.ChangeShapes Go.WideShapes Go.ChangeAt Go.RowKit Go.Deep
end Go.Proofs.Ytkfmammkbmhfaaa

/- Rows of calls, opened. -/
namespace Go.Proofs.Ytkfmammkbmhfaaa
set_option linter.unusedSimpArgs false
set_option linter.unusedVariables false
open Go.ChangeShapes Go.WideShapes Go.ChangeAt Go.RowKit Go.Deep
def OkO (x : Opr) : Prop := OkI x.kind ∧ OkR x.r
theorem len_5 {cs : List Value} (h : cs.length = 5) : ∃ x0 x1 x2 x3 x4, cs = [x0, x1, x2, x3, x4] := by
  match cs, h with
  | [x0, x1, x2, x3, x4], _ => exact ⟨x0, x1, x2, x3, x4, rfl⟩
set_option maxRecDepth 100000 in
theorem open_85 {H : Type} {enc : TypeId × Value → H} {w : World} {base : Nat} {spare : Nat → Bool} {held : Bool} {fuel : Nat} {cs : List Value} {x : DataW H × List MemPlace} (h : DataW.trod enc Try.prog w base spare held fuel 85 cs = some x) : ∃ e : Opr, cs = [.int .i64 e.kind, .int .u64 e.r.p.a.x, .int .u64 e.r.p.a.y, .int .i64 e.r.p.len, .int .i64 e.r.act] ∧ OkO e := by
  obtain ⟨ys, n, _, _, hlen, hy, hf⟩ := DataW.trod_struct Try.underlying85 h
  have hl : cs.length = 5 := hlen.trans (by kernel_rfl)
  obtain ⟨x0, x1, x2, x3, x4, rfl⟩ := len_5 hl
  clear hl hlen h
  have h0 : DataW.trod enc Try.prog w base spare held n 3 ((List.drop 0 [x0, x1, x2, x3, x4]).take (Try.prog.cellsOf 3)) = ys[0]? := hf 0 _ rfl
  rw [List.getElem?_eq_getElem (show 0 < ys.length by rw [hy]; decide)] at h0
  rw [show Try.prog.cellsOf 3 = 1 from by kernel_rfl] at h0
  obtain ⟨a0, c0, _, o0⟩ := DataW.trod_int Try.underlying3 h0
  simp at c0
  have h1 : DataW.trod enc Try.prog w base spare held n 35 ((List.drop 1 [x0, x1, x2, x3, x4]).take (Try.prog.cellsOf 35)) = ys[1]? := hf 1 _ rfl
  rw [List.getElem?_eq_getElem (show 1 < ys.length by rw [hy]; decide)] at h1
  rw [show Try.prog.cellsOf 35 = 4 from by kernel_rfl] at h1
  obtain ⟨a1, c1, o1⟩ := open_35 h1
  simp at c1
  refine ⟨⟨a0, a1⟩, ?_, ⟨okI_wf o0, o1⟩⟩
  simp_all
set_option maxRecDepth 100000 in
theorem opens_41 {H : Type} {enc : TypeId × Value → H} {w : World} {r : Reach} {b0 : Nat} {spare : Nat → Bool} {v : Value} {d : DataW H} {p : List MemPlace} (hv : Value.okWide Try.prog w r b0 41 v) (h : DataW.Trod enc Try.prog w 0 spare true 41 v d p) (hlt : ∀ x ∈ p, x.block < w.heap.size) :
    ∃ (a : Option Addr) (c : Nat) (xs : List Opr), v = .slice a xs.length c ∧ xs.length ≤ c ∧ (a = none → c = 0) ∧ Reads encO 5 w a xs ∧ ∀ x ∈ xs, OkO x := by
  obtain ⟨a, len, cap, rfl⟩ := okWide_slice Try.underlying41 hv
  obtain ⟨fuel, hf⟩ := h
  rcases open_slice Try.underlying41 hf with ⟨hcs, _⟩ | ⟨a', len', cap', m, n, D, Pl, hcs, hb, hl, hm, hmm, hx, hi⟩
  · simp [Value.cells] at hcs
    obtain ⟨rfl, rfl, rfl⟩ := hcs
    exact ⟨none, 0, [], rfl, Nat.le_refl _, fun _ => rfl, Reads.nil _ _ _ _, fun x hx => by simp at hx⟩
  · simp [Value.cells] at hcs
    obtain ⟨rfl, rfl, rfl⟩ := hcs
    have hC : Try.prog.cellsOf 85 = 5 := by kernel_rfl
    have hle : len ≤ m := by rw [hmm]; split <;> omega
    have H : ∀ i, i < len → ∃ e : Opr, OkO e ∧ ∀ j u, (encO e)[j]? = some u → w.cell? (a'.add (i * 5 + j)) = some u := by
      intro i hlt
      obtain ⟨cs', h1, h2⟩ := hi i (by omega)
      obtain ⟨e, he, ho⟩ := open_85 h2
      rw [hC] at h1
      obtain ⟨_, hcl, hat⟩ := World.cells?_some h1
      refine ⟨e, ho, fun j u hj => ?_⟩
      have hj' : j < 5 := (List.getElem?_eq_some_iff.1 hj).1
      have h3 := hat j hj'
      rw [← Go.Deep.add_add, h3, he]
      exact hj
    obtain ⟨f, hf2⟩ := Go.Deep.choose_lt (α := Opr) (p := fun i e => OkO e ∧ ∀ j u, (encO e)[j]? = some u → w.cell? (a'.add (i * 5 + j)) = some u) H
    refine ⟨some a', cap, (List.range len).map f, by simp, by simpa using hl, fun h => (by cases h), ⟨by simp; unfold maxLen at hm; omega, fun i x hx => ?_⟩, fun x hx => ?_⟩
    · obtain ⟨hlt, rfl⟩ : i < len ∧ f i = x := by
        rw [List.getElem?_map] at hx
        by_cases hlt : i < len
        · rw [List.getElem?_range hlt] at hx; exact ⟨hlt, by simpa using hx⟩
        · rw [List.getElem?_eq_none (by simp; omega)] at hx; cases hx
      obtain ⟨_, hc⟩ := hf2 i hlt
      obtain ⟨b, off, spot⟩ := a'
      have h0 := hc 0 _ rfl
      have hs : spot = none := by
        have h9 := (hf2 0 (by omega)).2 0 _ rfl
        simpa [Addr.add] using World.cell?_spot h9
      subst hs
      refine ⟨b, off, rfl, ?_, fun j u hj => ?_⟩
      · have := World.block_lt_of_cell? w _ h0
        rw [Addr.add_lit] at this
        exact this
      · have h4 := hc j u hj
        rw [Addr.add_lit] at h4
        rw [Nat.add_assoc]; exact h4
    · obtain ⟨i, hi2, rfl⟩ := List.mem_map.1 hx
      exact (hf2 i (by simpa using hi2)).1
end Go.Proofs.Ytkfmammkbmhfaaa
