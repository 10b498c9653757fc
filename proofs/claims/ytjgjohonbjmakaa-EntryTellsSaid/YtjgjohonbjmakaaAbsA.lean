/- Abstract states: what is known of the slots of a frame, of its boxes, and of the rows that it owns. -/
import Derived.Test.YtjgjohonbjmakaaRead
import Derived.Test.YtjgjohonbjmakaaOwn
namespace Go.Proofs.Ytjgjohonbjmakaa
set_option linter.unusedSimpArgs false
set_option linter.unusedVariables false
open Go Go.RowKit

/-- Cells that do not change any more. -/
abbrev Know := Nat → Nat → Option Value
def Know.le (K K' : Know) : Prop := ∀ b o v, K b o = some v → K' b o = some v
def Know.ok (K : Know) (w : World) : Prop := ∀ b o v, K b o = some v → w.cell? ⟨b, o, none⟩ = some v
theorem Know.le_refl (K : Know) : K.le K := fun _ _ _ h => h
theorem Know.le_trans {K K' K'' : Know} (h : K.le K') (h' : K'.le K'') : K.le K'' := fun b o v e => h' b o v (h b o v e)
theorem Know.lt {K : Know} {w : World} (h : K.ok w) {b o : Nat} {v : Value} (e : K b o = some v) : b < w.heap.size := World.block_lt_of_cell? w _ (h b o v e)
theorem Know.below {K : Know} {w w' : World} (h : K.ok w) (hb : Below w.heap.size w w') : K.ok w' := fun b o v e => (hb.cell (p := ⟨b, o, none⟩) (Know.lt h e)).trans (h b o v e)

abbrev Cells := List (List Value)
/-- At A lie elements of k cells. -/
def Rd (K : Know) (k : Nat) (A : Option Addr) (xs : Cells) : Prop :=
  xs.length ≤ 9223372036854775807 ∧ ∀ i x, xs[i]? = some x → x.length = k ∧ (∀ u ∈ x, u.oneCell' = true) ∧ ∃ b off, A = some ⟨b, off, none⟩ ∧ ∀ j u, x[j]? = some u → K b (off + i * k + j) = some u
theorem Rd.mono {K K' : Know} {k : Nat} {A : Option Addr} {xs : Cells} (h : Rd K k A xs) (hK : K.le K') : Rd K' k A xs :=
  ⟨h.1, fun i x hx => by
    obtain ⟨h1, h3, b, off, e, h2⟩ := h.2 i x hx
    exact ⟨h1, h3, b, off, e, fun j u hu => hK _ _ _ (h2 j u hu)⟩⟩
def CP (K : Know) (vs : List Value) (c : Value) : Prop := ∃ b off, c = Value.pointer (some ⟨b, off, none⟩) ∧ ∀ j u, vs[j]? = some u → K b (off + j) = some u
theorem CP.mono {K K' : Know} {vs : List Value} {c : Value} (h : CP K vs c) (hK : K.le K') : CP K' vs c := by
  obtain ⟨b, off, e, h2⟩ := h
  exact ⟨b, off, e, fun j u hu => hK _ _ _ (h2 j u hu)⟩

inductive AV
  | dead
  | val (v : Value)
  | sl (k : Nat) (xs : Cells)
  | full (k : Nat) (xs : Cells)
  | cptr (vs : List Value)
  | clo (f : FuncId) (caps : List (List Value))
  | row (r e k : Nat) (xs : Cells)
  | ptr (d off : Nat)
  | cloB (f : FuncId) (ds : List (Nat × Nat))
  | pr (p : Know → Value → Prop)
  | tup (vs : List AV)

structure Nm where
  β : Nat → Option Nat
  ρ : Nat → Value

def Rep1 (K : Know) (n : Nm) : AV → Value → Prop
  | .dead, _ => True
  | .val v, c => c = v
  | .sl k xs, c => ∃ A cap, c = .slice A xs.length cap ∧ xs.length ≤ cap ∧ (A = none → cap = 0) ∧ Rd K k A xs
  | .full k xs, c => ∃ A, c = .slice A xs.length xs.length ∧ Rd K k A xs
  | .cptr vs, c => CP K vs c
  | .clo f caps, c => ∃ ps : List Value, c = .func (.func f) #[] ps.toArray ∧ ps.length = caps.length ∧ ∀ (i : Nat) p vs, ps[i]? = some p → caps[i]? = some vs → CP K vs p
  | .row r _ k xs, c => c = n.ρ r ∧ ∃ A cap, c = .slice A xs.length cap ∧ xs.length ≤ cap ∧ (A = none → cap = 0) ∧ Rd K k A xs
  | .ptr d off, c => ∃ b, n.β d = some b ∧ c = .pointer (some ⟨b, off, none⟩)
  | .cloB f ds, c => ∃ ps : List Value, c = .func (.func f) #[] ps.toArray ∧ ps.length = ds.length ∧ ∀ (i : Nat) p d off, ps[i]? = some p → ds[i]? = some (d, off) → ∃ b, n.β d = some b ∧ p = Value.pointer (some ⟨b, off, none⟩)
  | .pr p, c => ∀ K', K.le K' → p K' c
  | .tup _, _ => False
def Rep (K : Know) (n : Nm) : AV → Value → Prop
  | .tup vs, c => ∃ cs : Array Value, c = .tuple cs ∧ cs.size = vs.length ∧ ∀ (i : Nat) v, vs[i]? = some v → Rep1 K n v (cs.getD i undef)
  | A, c => Rep1 K n A c
theorem Rep1.mono {K K' : Know} {n : Nm} {A : AV} {c : Value} (h : Rep1 K n A c) (hK : K.le K') : Rep1 K' n A c := by
  cases A with
  | sl k xs => obtain ⟨A, cap, e, h1, h3, h2⟩ := h; exact ⟨A, cap, e, h1, h3, h2.mono hK⟩
  | full k xs => obtain ⟨A, e, h2⟩ := h; exact ⟨A, e, h2.mono hK⟩
  | cptr vs => exact CP.mono h hK
  | clo f caps => obtain ⟨ps, e, h1, h2⟩ := h; exact ⟨ps, e, h1, fun i p vs a b => (h2 i p vs a b).mono hK⟩
  | row r e k xs => obtain ⟨e1, A, cap, e, h1, h3, h2⟩ := h; exact ⟨e1, A, cap, e, h1, h3, h2.mono hK⟩
  | pr p => exact fun K'' h' => h K'' (Know.le_trans hK h')
  | _ => exact h
theorem Rep.mono {K K' : Know} {n : Nm} {A : AV} {c : Value} (h : Rep K n A c) (hK : K.le K') : Rep K' n A c := by
  cases A with
  | tup vs => obtain ⟨cs, e, h1, h2⟩ := h; exact ⟨cs, e, h1, fun i v hv => (h2 i v hv).mono hK⟩
  | dead => exact trivial
  | val v => exact Rep1.mono (n := n) (A := .val v) h hK
  | sl k xs => exact Rep1.mono (n := n) (A := .sl k xs) h hK
  | full k xs => exact Rep1.mono (n := n) (A := .full k xs) h hK
  | cptr vs => exact Rep1.mono (n := n) (A := .cptr vs) h hK
  | clo f cs => exact Rep1.mono (n := n) (A := .clo f cs) h hK
  | row r e k xs => exact Rep1.mono (n := n) (A := .row r e k xs) h hK
  | ptr d o => exact Rep1.mono (n := n) (A := .ptr d o) h hK
  | cloB f ds => exact Rep1.mono (n := n) (A := .cloB f ds) h hK
  | pr p => exact Rep1.mono (n := n) (A := .pr p) h hK
theorem Rep.of1 {K : Know} {n : Nm} {A : AV} {c : Value} (h : Rep1 K n A c) : Rep K n A c := by
  cases A with
  | tup vs => exact h.elim
  | _ => exact h

theorem Rd.none_nil {K : Know} {k : Nat} {xs : Cells} (h : Rd K k none xs) : xs = [] := by
  cases xs with
  | nil => rfl
  | cons x xs => obtain ⟨_, _, _, _, e, _⟩ := h.2 0 x rfl; cases e
/-- Without names. -/
def Nm.nil : Nm := ⟨fun _ => none, fun _ => undef⟩

/-- Which names an abstract value speaks of: boxes, rows. -/
def AV.boxIn (d : Nat) : AV → Bool
  | .ptr d' _ => d' == d
  | .cloB _ ds => ds.any fun p => p.1 == d
  | _ => false
def AV.rowIn (r : Nat) : AV → Bool
  | .row r' _ _ _ => r' == r
  | _ => false
/-- The box d is another one from now on. -/
def AV.unbox1 (d : Nat) : AV → AV
  | .ptr d' o => bif d' == d then .dead else .ptr d' o
  | .cloB f ds => bif ds.any (fun p => p.1 == d) then .dead else .cloB f ds
  | A => A
/-- The row r is owned no more. -/
def AV.unrow1 (r : Nat) : AV → AV
  | .row r' e k xs => bif r' == r then .sl k xs else .row r' e k xs
  | A => A
def AV.map1 (f : AV → AV) : AV → AV
  | .tup vs => .tup (vs.map f)
  | A => f A
end Go.Proofs.Ytjgjohonbjmakaa
