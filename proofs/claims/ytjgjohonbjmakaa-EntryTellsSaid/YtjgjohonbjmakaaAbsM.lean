/- The steps of a walk. -/
import Derived.Test.YtjgjohonbjmakaaAbsL
namespace Go.Proofs.Ytjgjohonbjmakaa
set_option linter.unusedSimpArgs false
set_option linter.unusedVariables false
open Go Go.RowKit Go.Shelf

section
variable {P : Program} {N : Nat} {K0 : Know} {w0 : World} {tm : List (Nat × AV)} {bs : List (Nat × List AV)} {Q : St → Prop} {ops : Array Oper} {l l' : List Oper}
variable {d : Nat} {op : Op} {ty : TypeId} {pos : String} {aft : Array Edge} {v : AV}

theorem LT.cons1 (h : OpH P N K0 w0 ⟨some d, op, ty, pos, aft, none⟩ ⟨tm, bs⟩ v) (hd : d < N) (hr : LT P N K0 w0 ops l ⟨(d, v) :: tm, bs⟩ Q) : LT P N K0 w0 ops (⟨some d, op, ty, pos, aft, none⟩ :: l) ⟨tm, bs⟩ Q :=
  LT.cons rfl (h.toT (fun t e => by injection e with e; rw [← e]; exact hd) hr)
theorem LT.guard1 {g : Nat} {want : Bool} {dg : Nat} {c : Bool} (h1 : dstAt ops g = some dg) (h2 : getT tm dg = .val (.bool c)) (hc : (c == want) = true) (hdg : dg < N) (h : OpH P N K0 w0 ⟨some d, op, ty, pos, aft, some (g, want)⟩ ⟨tm, bs⟩ v) (hd : d < N)
    (hr : LT P N K0 w0 ops l ⟨(d, v) :: tm, bs⟩ Q) : LT P N K0 w0 ops (⟨some d, op, ty, pos, aft, some (g, want)⟩ :: l) ⟨tm, bs⟩ Q :=
  LT.guard rfl h1 hdg h2 hc (h.toT (fun t e => by injection e with e; rw [← e]; exact hd) hr)
theorem LT.skip1 {g : Nat} {want : Bool} {dg : Nat} {c : Bool} (h1 : dstAt ops g = some dg) (h2 : getT tm dg = .val (.bool c)) (hc : (c == want) = false) (hdg : dg < N) (hd : d < N)
    (hr : LT P N K0 w0 ops l ⟨(d, .val undef) :: tm, bs⟩ Q) : LT P N K0 w0 ops (⟨some d, op, ty, pos, aft, some (g, want)⟩ :: l) ⟨tm, bs⟩ Q :=
  LT.skipB rfl h1 hdg h2 hc (fun t e => by injection e with e; rw [← e]; exact hd) hr
theorem LT.skip2 {g : Nat} {want : Bool} {dg : Nat} (h1 : dstAt ops g = some dg) (h2 : getT tm dg = .val undef) (hdg : dg < N) (hd : d < N)
    (hr : LT P N K0 w0 ops l ⟨(d, .val undef) :: tm, bs⟩ Q) : LT P N K0 w0 ops (⟨some d, op, ty, pos, aft, some (g, want)⟩ :: l) ⟨tm, bs⟩ Q :=
  LT.skipU rfl h1 hdg h2 (fun t e => by injection e with e; rw [← e]; exact hd) hr
theorem LT.consT {o : Option Nat} (h : OpT P N K0 w0 ⟨o, op, ty, pos, aft, none⟩ ⟨tm, bs⟩ fun S' => LT P N K0 w0 ops l S' Q) : LT P N K0 w0 ops (⟨o, op, ty, pos, aft, none⟩ :: l) ⟨tm, bs⟩ Q :=
  LT.cons rfl h
theorem LT.part1 {g : Nat} {want : Bool} {o : Option Nat} {dg : Nat} {c : Bool} (h1 : dstAt ops g = some dg) (h2 : getT tm dg = .val (.bool c))
    (ht : c = true → LT P N K0 w0 ops (⟨o, op, ty, pos, aft, some (g, want)⟩ :: l) ⟨(dg, .val (.bool true)) :: tm, bs⟩ Q) (hf : c = false → LT P N K0 w0 ops (⟨o, op, ty, pos, aft, some (g, want)⟩ :: l) ⟨(dg, .val (.bool false)) :: tm, bs⟩ Q) : LT P N K0 w0 ops (⟨o, op, ty, pos, aft, some (g, want)⟩ :: l) ⟨tm, bs⟩ Q :=
  LT.part (t := dg) h2 ht hf
theorem HT.cons1 {Q' : St → Prop} (h : OpH P N K0 w0 ⟨some d, op, ty, pos, aft, none⟩ ⟨tm, bs⟩ v) (hr : HT P N K0 w0 ops l ⟨(d, v) :: tm, bs⟩ Q') : HT P N K0 w0 ops (⟨some d, op, ty, pos, aft, none⟩ :: l) ⟨tm, bs⟩ Q' :=
  ⟨v, .inl ⟨rfl, h⟩, hr⟩
theorem HT.guard1 {Q' : St → Prop} {g : Nat} {want : Bool} {dg : Nat} {c : Bool} (h1 : dstAt ops g = some dg) (h2 : getT tm dg = .val (.bool c)) (hc : (c == want) = true) (h : OpH P N K0 w0 ⟨some d, op, ty, pos, aft, some (g, want)⟩ ⟨tm, bs⟩ v)
    (hr : HT P N K0 w0 ops l ⟨(d, v) :: tm, bs⟩ Q') : HT P N K0 w0 ops (⟨some d, op, ty, pos, aft, some (g, want)⟩ :: l) ⟨tm, bs⟩ Q' :=
  ⟨v, .inl ⟨⟨dg, h1, .inl ⟨c, h2, hc.symm⟩⟩, h⟩, hr⟩
theorem HT.skip1 {Q' : St → Prop} {g : Nat} {want : Bool} {dg : Nat} {c : Bool} (h1 : dstAt ops g = some dg) (h2 : getT tm dg = .val (.bool c)) (hc : (c == want) = false)
    (hr : HT P N K0 w0 ops l ⟨(d, .val undef) :: tm, bs⟩ Q') : HT P N K0 w0 ops (⟨some d, op, ty, pos, aft, some (g, want)⟩ :: l) ⟨tm, bs⟩ Q' :=
  ⟨.val undef, .inr ⟨⟨dg, h1, .inl ⟨c, h2, hc.symm⟩⟩, rfl⟩, hr⟩
theorem HT.skip2 {Q' : St → Prop} {g : Nat} {want : Bool} {dg : Nat} (h1 : dstAt ops g = some dg) (h2 : getT tm dg = .val undef)
    (hr : HT P N K0 w0 ops l ⟨(d, .val undef) :: tm, bs⟩ Q') : HT P N K0 w0 ops (⟨some d, op, ty, pos, aft, some (g, want)⟩ :: l) ⟨tm, bs⟩ Q' :=
  ⟨.val undef, .inr ⟨⟨dg, h1, .inr ⟨h2, rfl⟩⟩, rfl⟩, hr⟩
theorem HT.part1 {Q0 : St → Prop} {g : Nat} {want : Bool} {dg : Nat} {o : Option Nat} {c : Bool} (h1 : dstAt ops g = some dg) (h2 : getT tm dg = .val (.bool c))
    (ht : c = true → HT P N K0 w0 ops (⟨o, op, ty, pos, aft, some (g, want)⟩ :: l) ⟨(dg, .val (.bool true)) :: tm, bs⟩ fun S' => LT P N K0 w0 ops l' S' Q0) (hf : c = false → HT P N K0 w0 ops (⟨o, op, ty, pos, aft, some (g, want)⟩ :: l) ⟨(dg, .val (.bool false)) :: tm, bs⟩ fun S' => LT P N K0 w0 ops l' S' Q0) :
    HT P N K0 w0 ops (⟨o, op, ty, pos, aft, some (g, want)⟩ :: l) ⟨tm, bs⟩ fun S' => LT P N K0 w0 ops l' S' Q0 :=
  HT.part (t := dg) h2 ht hf
theorem HT.nil1 {Q' : St → Prop} (h : Q' ⟨tm, bs⟩) : HT P N K0 w0 ops [] ⟨tm, bs⟩ Q' := h
section
variable {QE : Exit → St → Prop} {c1 c2 : Code}
theorem CT.seq1 (h : CT P N K0 w0 c1 ⟨tm, bs⟩ (thenA (fun S' => CT P N K0 w0 c2 S' QE) QE)) : CT P N K0 w0 (c1.seq c2) ⟨tm, bs⟩ QE := CT.seq h
theorem CT.condT {x : Operand} (hc : St.opv ⟨tm, bs⟩ x = .val (.bool true)) (h : CT P N K0 w0 c1 ⟨tm, bs⟩ QE) : CT P N K0 w0 (.cond x c1 c2) ⟨tm, bs⟩ QE := CT.cond hc (fun _ => h) (fun e => by cases e)
theorem CT.condF {x : Operand} (hc : St.opv ⟨tm, bs⟩ x = .val (.bool false)) (h : CT P N K0 w0 c2 ⟨tm, bs⟩ QE) : CT P N K0 w0 (.cond x c1 c2) ⟨tm, bs⟩ QE := CT.cond hc (fun e => by cases e) (fun _ => h)
end
/-! Loads, by how many cells. -/
variable {S : St} {dO : Option Nat} {g : Option (Nat × Bool)} {t : TypeId} {x : Operand}
theorem loadC2 {a b : Value} {r : List Value} (h : S.opv x = .cptr (a :: b :: r)) (hk : rowSize P t = some 2) : OpH P N K0 w0 ⟨dO, .load t x, ty, pos, aft, g⟩ S (.val (.agg #[a, b])) := OpH.loadC (cs := [a, b]) h hk rfl rfl
theorem loadC3 {a b c : Value} {r : List Value} (h : S.opv x = .cptr (a :: b :: c :: r)) (hk : rowSize P t = some 3) : OpH P N K0 w0 ⟨dO, .load t x, ty, pos, aft, g⟩ S (.val (.agg #[a, b, c])) := OpH.loadC (cs := [a, b, c]) h hk rfl rfl
theorem loadC4 {a b c d : Value} {r : List Value} (h : S.opv x = .cptr (a :: b :: c :: d :: r)) (hk : rowSize P t = some 4) : OpH P N K0 w0 ⟨dO, .load t x, ty, pos, aft, g⟩ S (.val (.agg #[a, b, c, d])) := OpH.loadC (cs := [a, b, c, d]) h hk rfl rfl
theorem loadC6 {a b c d e f : Value} {r : List Value} (h : S.opv x = .cptr (a :: b :: c :: d :: e :: f :: r)) (hk : rowSize P t = some 6) : OpH P N K0 w0 ⟨dO, .load t x, ty, pos, aft, g⟩ S (.val (.agg #[a, b, c, d, e, f])) := OpH.loadC (cs := [a, b, c, d, e, f]) h hk rfl rfl
theorem loadC7 {a b c d e f i : Value} {r : List Value} (h : S.opv x = .cptr (a :: b :: c :: d :: e :: f :: i :: r)) (hk : rowSize P t = some 7) : OpH P N K0 w0 ⟨dO, .load t x, ty, pos, aft, g⟩ S (.val (.agg #[a, b, c, d, e, f, i])) := OpH.loadC (cs := [a, b, c, d, e, f, i]) h hk rfl rfl
theorem loadC8 {a b c d e f i j : Value} {r : List Value} (h : S.opv x = .cptr (a :: b :: c :: d :: e :: f :: i :: j :: r)) (hk : rowSize P t = some 8) : OpH P N K0 w0 ⟨dO, .load t x, ty, pos, aft, g⟩ S (.val (.agg #[a, b, c, d, e, f, i, j])) := OpH.loadC (cs := [a, b, c, d, e, f, i, j]) h hk rfl rfl
theorem loadB2 {p o : Nat} {cs : List AV} {a b : Value} (h : S.opv x = .ptr p o) (hb : getB S.boxes p = some cs) (hk : rowSize P t = some 2) (hv : valCells ((cs.drop o).take 2) = some [a, b]) : OpH P N K0 w0 ⟨dO, .load t x, ty, pos, aft, g⟩ S (.val (.agg #[a, b])) := OpH.loadB (vs := [a, b]) h hb hk hv rfl
theorem loadB3 {p o : Nat} {cs : List AV} {a b c : Value} (h : S.opv x = .ptr p o) (hb : getB S.boxes p = some cs) (hk : rowSize P t = some 3) (hv : valCells ((cs.drop o).take 3) = some [a, b, c]) : OpH P N K0 w0 ⟨dO, .load t x, ty, pos, aft, g⟩ S (.val (.agg #[a, b, c])) := OpH.loadB (vs := [a, b, c]) h hb hk hv rfl
theorem loadB4 {p o : Nat} {cs : List AV} {a b c d : Value} (h : S.opv x = .ptr p o) (hb : getB S.boxes p = some cs) (hk : rowSize P t = some 4) (hv : valCells ((cs.drop o).take 4) = some [a, b, c, d]) : OpH P N K0 w0 ⟨dO, .load t x, ty, pos, aft, g⟩ S (.val (.agg #[a, b, c, d])) := OpH.loadB (vs := [a, b, c, d]) h hb hk hv rfl
theorem loadB6 {p o : Nat} {cs : List AV} {a b c d e f : Value} (h : S.opv x = .ptr p o) (hb : getB S.boxes p = some cs) (hk : rowSize P t = some 6) (hv : valCells ((cs.drop o).take 6) = some [a, b, c, d, e, f]) : OpH P N K0 w0 ⟨dO, .load t x, ty, pos, aft, g⟩ S (.val (.agg #[a, b, c, d, e, f])) := OpH.loadB (vs := [a, b, c, d, e, f]) h hb hk hv rfl
theorem loadB7 {p o : Nat} {cs : List AV} {a b c d e f i : Value} (h : S.opv x = .ptr p o) (hb : getB S.boxes p = some cs) (hk : rowSize P t = some 7) (hv : valCells ((cs.drop o).take 7) = some [a, b, c, d, e, f, i]) : OpH P N K0 w0 ⟨dO, .load t x, ty, pos, aft, g⟩ S (.val (.agg #[a, b, c, d, e, f, i])) := OpH.loadB (vs := [a, b, c, d, e, f, i]) h hb hk hv rfl
theorem loadB8 {p o : Nat} {cs : List AV} {a b c d e f i j : Value} (h : S.opv x = .ptr p o) (hb : getB S.boxes p = some cs) (hk : rowSize P t = some 8) (hv : valCells ((cs.drop o).take 8) = some [a, b, c, d, e, f, i, j]) : OpH P N K0 w0 ⟨dO, .load t x, ty, pos, aft, g⟩ S (.val (.agg #[a, b, c, d, e, f, i, j])) := OpH.loadB (vs := [a, b, c, d, e, f, i, j]) h hb hk hv rfl
/-- The element of a mapped row. -/
theorem map_at {α : Type} {enc : α → List Value} {xs : List α} {j : Nat} (h : j < xs.length) : (xs.map enc)[j]? = some (enc xs[j]) := by simp [h]
end
end Go.Proofs.Ytjgjohonbjmakaa
