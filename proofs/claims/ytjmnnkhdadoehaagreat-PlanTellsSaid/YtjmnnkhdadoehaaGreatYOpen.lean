/- Arguments, opened to what they read as. -/
import Derived.Test.YtjmnnkhdadoehaaGreatProg
import Derived.Test.YtjmnnkhdadoehaaGreatYRead
import Derived.Test.YtjmnnkhdadoehaaGreatYSpec
import Derived.ProofKit
import Derived.OpenShut
import Derived.Deep.Slices
import Derived.ChangeOld
import Derived.Below
namespace Go.Proofs.YtjmnnkhdadoehaaGreat
set_option linter.unusedSimpArgs false
set_option linter.unusedVariables false
open Go.ChangeShapes Go.WideShapes Go.ChangeAt Go.RowKit Go.Deep
def OkI (n : Int) : Prop := -9223372036854775808 ≤ n ∧ n ≤ 9223372036854775807
theorem okI_wf {n : Int} (h : (Lit.int .i64 n).wf = true) : OkI n := bounds_i64 h
theorem okU_wf {n : Int} (h : (Lit.int .u64 n).wf = true) : U n := by have := bounds_u64 h; exact ⟨this.1, by omega⟩
def OkA (a : A2) : Prop := A2.ok a
def OkP (x : Pfx) : Prop := OkA x.a ∧ OkI x.len
def OkR (x : Rte) : Prop := OkP x.p ∧ OkI x.act
theorem okWide_arr {P : Program} {w : World} {r : Reach} {base : Nat} {t e : TypeId} {n : Nat} {v : Value} (ht : P.underlying t = some (.array n e)) (h : Value.okWide P w r base t v) : ∃ cs, v = .agg cs ∧ cs.size = P.cellsOf t := by
  simp only [Value.okWide, ht] at h
  obtain ⟨cs, h1, h2, _⟩ := h
  exact ⟨cs, h1, h2⟩
theorem len_2 {cs : List Value} (h : cs.length = 2) : ∃ x0 x1, cs = [x0, x1] := by
  match cs, h with
  | [x0, x1], _ => exact ⟨x0, x1, rfl⟩
theorem len_3 {cs : List Value} (h : cs.length = 3) : ∃ x0 x1 x2, cs = [x0, x1, x2] := by
  match cs, h with
  | [x0, x1, x2], _ => exact ⟨x0, x1, x2, rfl⟩
theorem len_4 {cs : List Value} (h : cs.length = 4) : ∃ x0 x1 x2 x3, cs = [x0, x1, x2, x3] := by
  match cs, h with
  | [x0, x1, x2, x3], _ => exact ⟨x0, x1, x2, x3, rfl⟩
set_option maxRecDepth 100000 in
theorem open_25 {H : Type} {enc : TypeId × Value → H} {w : World} {base : Nat} {spare : Nat → Bool} {held : Bool} {fuel : Nat} {cs : List Value} {x : DataW H × List MemPlace} (h : DataW.trod enc Tryz.prog w base spare held fuel 25 cs = some x) : ∃ e : A2, cs = [.int .u64 e.x, .int .u64 e.y] ∧ OkA e := by
  obtain ⟨ys, n, _, _, hlen, hy, hf⟩ := DataW.trod_array Tryz.underlying25 h
  have hl : cs.length = 2 := hlen.trans (by kernel_rfl)
  obtain ⟨x0, x1, rfl⟩ := len_2 hl
  clear hl hlen h
  have h0 := hf 0 (by omega)
  rw [List.getElem?_eq_getElem (show 0 < ys.length by rw [hy]; decide)] at h0
  rw [show Tryz.prog.cellsOf 23 = 1 from by kernel_rfl] at h0
  obtain ⟨a0, c0, _, o0⟩ := DataW.trod_int Tryz.underlying23 h0
  simp at c0
  have h1 := hf 1 (by omega)
  rw [List.getElem?_eq_getElem (show 1 < ys.length by rw [hy]; decide)] at h1
  rw [show Tryz.prog.cellsOf 23 = 1 from by kernel_rfl] at h1
  obtain ⟨a1, c1, _, o1⟩ := DataW.trod_int Tryz.underlying23 h1
  simp at c1
  refine ⟨⟨a0, a1⟩, ?_, ⟨okU_wf o0, okU_wf o1⟩⟩
  simp_all
set_option maxRecDepth 100000 in
theorem open_65 {H : Type} {enc : TypeId × Value → H} {w : World} {base : Nat} {spare : Nat → Bool} {held : Bool} {fuel : Nat} {cs : List Value} {x : DataW H × List MemPlace} (h : DataW.trod enc Tryz.prog w base spare held fuel 65 cs = some x) : ∃ e : Pfx, cs = [.int .u64 e.a.x, .int .u64 e.a.y, .int .i64 e.len] ∧ OkP e := by
  obtain ⟨ys, n, _, _, hlen, hy, hf⟩ := DataW.trod_struct Tryz.underlying65 h
  have hl : cs.length = 3 := hlen.trans (by kernel_rfl)
  obtain ⟨x0, x1, x2, rfl⟩ := len_3 hl
  clear hl hlen h
  have h0 : DataW.trod enc Tryz.prog w base spare held n 25 ((List.drop 0 [x0, x1, x2]).take (Tryz.prog.cellsOf 25)) = ys[0]? := hf 0 _ rfl
  rw [List.getElem?_eq_getElem (show 0 < ys.length by rw [hy]; decide)] at h0
  rw [show Tryz.prog.cellsOf 25 = 2 from by kernel_rfl] at h0
  obtain ⟨a0, c0, o0⟩ := open_25 h0
  simp at c0
  have h1 : DataW.trod enc Tryz.prog w base spare held n 3 ((List.drop 2 [x0, x1, x2]).take (Tryz.prog.cellsOf 3)) = ys[1]? := hf 1 _ rfl
  rw [List.getElem?_eq_getElem (show 1 < ys.length by rw [hy]; decide)] at h1
  rw [show Tryz.prog.cellsOf 3 = 1 from by kernel_rfl] at h1
  obtain ⟨a1, c1, _, o1⟩ := DataW.trod_int Tryz.underlying3 h1
  simp at c1
  refine ⟨⟨a0, a1⟩, ?_, ⟨o0, okI_wf o1⟩⟩
  simp_all
set_option maxRecDepth 100000 in
theorem open_67 {H : Type} {enc : TypeId × Value → H} {w : World} {base : Nat} {spare : Nat → Bool} {held : Bool} {fuel : Nat} {cs : List Value} {x : DataW H × List MemPlace} (h : DataW.trod enc Tryz.prog w base spare held fuel 67 cs = some x) : ∃ e : Rte, cs = [.int .u64 e.p.a.x, .int .u64 e.p.a.y, .int .i64 e.p.len, .int .i64 e.act] ∧ OkR e := by
  obtain ⟨ys, n, _, _, hlen, hy, hf⟩ := DataW.trod_struct Tryz.underlying67 h
  have hl : cs.length = 4 := hlen.trans (by kernel_rfl)
  obtain ⟨x0, x1, x2, x3, rfl⟩ := len_4 hl
  clear hl hlen h
  have h0 : DataW.trod enc Tryz.prog w base spare held n 65 ((List.drop 0 [x0, x1, x2, x3]).take (Tryz.prog.cellsOf 65)) = ys[0]? := hf 0 _ rfl
  rw [List.getElem?_eq_getElem (show 0 < ys.length by rw [hy]; decide)] at h0
  rw [show Tryz.prog.cellsOf 65 = 3 from by kernel_rfl] at h0
  obtain ⟨a0, c0, o0⟩ := open_65 h0
  simp at c0
  have h1 : DataW.trod enc Tryz.prog w base spare held n 3 ((List.drop 3 [x0, x1, x2, x3]).take (Tryz.prog.cellsOf 3)) = ys[1]? := hf 1 _ rfl
  rw [List.getElem?_eq_getElem (show 1 < ys.length by rw [hy]; decide)] at h1
  rw [show Tryz.prog.cellsOf 3 = 1 from by kernel_rfl] at h1
  obtain ⟨a1, c1, _, o1⟩ := DataW.trod_int Tryz.underlying3 h1
  simp at c1
  refine ⟨⟨a0, a1⟩, ?_, ⟨o0, okI_wf o1⟩⟩
  simp_all
end Go.Proofs.YtjmnnkhdadoehaaGreat

/- Rows of routes, opened. -/
namespace Go.Proofs.YtjmnnkhdadoehaaGreat
set_option linter.unusedSimpArgs false
set_option linter.unusedVariables false
open Go.ChangeShapes Go.WideShapes Go.ChangeAt Go.RowKit Go.Deep
set_option maxRecDepth 100000 in
theorem opens_22 {H : Type} {enc : TypeId × Value → H} {w : World} {r : Reach} {b0 : Nat} {spare : Nat → Bool} {v : Value} {d : DataW H} {p : List MemPlace} (hv : Value.okWide Tryz.prog w r b0 22 v) (h : DataW.Trod enc Tryz.prog w 0 spare true 22 v d p) (hlt : ∀ x ∈ p, x.block < w.heap.size) :
    ∃ (a : Option Addr) (c : Nat) (xs : List Rte), v = .slice a xs.length c ∧ xs.length ≤ c ∧ (a = none → c = 0) ∧ Reads encR 4 w a xs ∧ ∀ x ∈ xs, OkR x := by
  obtain ⟨a, len, cap, rfl⟩ := okWide_slice Tryz.underlying22 hv
  obtain ⟨fuel, hf⟩ := h
  rcases open_slice Tryz.underlying22 hf with ⟨hcs, _⟩ | ⟨a', len', cap', m, n, D, Pl, hcs, hb, hl, hm, hmm, hx, hi⟩
  · simp [Value.cells] at hcs
    obtain ⟨rfl, rfl, rfl⟩ := hcs
    exact ⟨none, 0, [], rfl, Nat.le_refl _, fun _ => rfl, Reads.nil _ _ _ _, fun x hx => by simp at hx⟩
  · simp [Value.cells] at hcs
    obtain ⟨rfl, rfl, rfl⟩ := hcs
    have hC : Tryz.prog.cellsOf 67 = 4 := by kernel_rfl
    have hle : len ≤ m := by rw [hmm]; split <;> omega
    have H : ∀ i, i < len → ∃ e : Rte, OkR e ∧ ∀ j u, (encR e)[j]? = some u → w.cell? (a'.add (i * 4 + j)) = some u := by
      intro i hlt
      obtain ⟨cs', h1, h2⟩ := hi i (by omega)
      obtain ⟨e, he, ho⟩ := open_67 h2
      rw [hC] at h1
      obtain ⟨_, hcl, hat⟩ := World.cells?_some h1
      refine ⟨e, ho, fun j u hj => ?_⟩
      have hj' : j < 4 := (List.getElem?_eq_some_iff.1 hj).1
      have h3 := hat j hj'
      rw [← Go.Deep.add_add, h3, he]
      exact hj
    obtain ⟨f, hf2⟩ := Go.Deep.choose_lt (α := Rte) (p := fun i e => OkR e ∧ ∀ j u, (encR e)[j]? = some u → w.cell? (a'.add (i * 4 + j)) = some u) H
    refine ⟨some a', cap, (List.range len).map f, by simp, by simpa using hl, fun h => (by cases h), ⟨by simp; unfold maxLen at hm; omega, fun i x hx => ?_⟩, fun x hx => ?_⟩
    · obtain ⟨hlt, rfl⟩ : i < len ∧ f i = x := by
        rw [List.getElem?_map] at hx
        by_cases hlt : i < len
        · rw [List.getElem?_range hlt] at hx; exact ⟨hlt, by simpa using hx⟩
        · rw [List.getElem?_eq_none (by simp; omega)] at hx; cases hx
      obtain ⟨_, hc⟩ := hf2 i hlt
      obtain ⟨b, off, spot⟩ := a'
      have h0 := hc 0 _ rfl
      have hs : spot = none := by
        have h9 := (hf2 0 (by omega)).2 0 _ rfl
        simpa [Addr.add] using World.cell?_spot h9
      subst hs
      refine ⟨b, off, rfl, ?_, fun j u hj => ?_⟩
      · have := World.block_lt_of_cell? w _ h0
        rw [Addr.add_lit] at this
        exact this
      · have h4 := hc j u hj
        rw [Addr.add_lit] at h4
        rw [Nat.add_assoc]; exact h4
    · obtain ⟨i, hi2, rfl⟩ := List.mem_map.1 hx
      exact (hf2 i (by simpa using hi2)).1
end Go.Proofs.YtjmnnkhdadoehaaGreat
