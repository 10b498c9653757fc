/- Abstract states: what is known of the slots of a frame, of its boxes, and of the rows that it owns; single operations. -/
import Derived.Test.YtkfmammkbmhfaaaXRead
import Derived.Test.YtkfmammkbmhfaaaXOwn
import Derived.KernelRfl
import Derived.Deep.MidRow
import Derived.Great.BuildSlice
import Derived.WalkKit
import Derived.WalkSpells
import Derived.WalkLawsBesides
import Derived.Shelf.Abstract
namespace Go.Proofs.Ytkfmammkbmhfaaa
set_option linter.unusedSimpArgs false
set_option linter.unusedVariables false
open Go Go.RowKit

abbrev Know := Nat → Nat → Option Value
def Know.le (K K' : Know) : Prop := ∀ b o v, K b o = some v → K' b o = some v
def Know.ok (K : Know) (w : World) : Prop := ∀ b o v, K b o = some v → w.cell? ⟨b, o, none⟩ = some v
theorem Know.le_refl (K : Know) : K.le K := fun _ _ _ h => h
theorem Know.le_trans {K K' K'' : Know} (h : K.le K') (h' : K'.le K'') : K.le K'' := fun b o v e => h' b o v (h b o v e)
theorem Know.lt {K : Know} {w : World} (h : K.ok w) {b o : Nat} {v : Value} (e : K b o = some v) : b < w.heap.size := World.block_lt_of_cell? w _ (h b o v e)
theorem Know.below {K : Know} {w w' : World} (h : K.ok w) (hb : Below w.heap.size w w') : K.ok w' := fun b o v e => (hb.cell (p := ⟨b, o, none⟩) (Know.lt h e)).trans (h b o v e)

abbrev Cells := List (List Value)
def Rd (K : Know) (k : Nat) (A : Option Addr) (xs : Cells) : Prop :=
  xs.length ≤ 9223372036854775807 ∧ ∀ i x, xs[i]? = some x → x.length = k ∧ (∀ u ∈ x, u.oneCell' = true) ∧ ∃ b off, A = some ⟨b, off, none⟩ ∧ ∀ j u, x[j]? = some u → K b (off + i * k + j) = some u
theorem Rd.mono {K K' : Know} {k : Nat} {A : Option Addr} {xs : Cells} (h : Rd K k A xs) (hK : K.le K') : Rd K' k A xs :=
  ⟨h.1, fun i x hx => by
    obtain ⟨h1, h3, b, off, e, h2⟩ := h.2 i x hx
    exact ⟨h1, h3, b, off, e, fun j u hu => hK _ _ _ (h2 j u hu)⟩⟩
def CP (K : Know) (vs : List Value) (c : Value) : Prop := ∃ b off, c = Value.pointer (some ⟨b, off, none⟩) ∧ ∀ j u, vs[j]? = some u → K b (off + j) = some u
theorem CP.mono {K K' : Know} {vs : List Value} {c : Value} (h : CP K vs c) (hK : K.le K') : CP K' vs c := by
  obtain ⟨b, off, e, h2⟩ := h
  exact ⟨b, off, e, fun j u hu => hK _ _ _ (h2 j u hu)⟩

inductive AV
  | dead
  | val (v : Value)
  | sl (k : Nat) (xs : Cells)
  | full (k : Nat) (xs : Cells)
  | cptr (vs : List Value)
  | clo (f : FuncId) (caps : List (List Value))
  | row (r e k : Nat) (xs : Cells)
  | ptr (d off : Nat)
  | cloB (f : FuncId) (ds : List (Nat × Nat))
  | pr (p : Know → Value → Prop)
  | arow (d : Nat)
  | aptr (d k j o : Nat)
  | asub (d k lo m : Nat)
  | tup (vs : List AV)

structure Nm where
  β : Nat → Option Nat
  ρ : Nat → Value

def Rep1 (K : Know) (n : Nm) : AV → Value → Prop
  | .dead, _ => True
  | .val v, c => c = v
  | .sl k xs, c => ∃ A cap, c = .slice A xs.length cap ∧ xs.length ≤ cap ∧ (A = none → cap = 0) ∧ Rd K k A xs
  | .full k xs, c => ∃ A, c = .slice A xs.length xs.length ∧ Rd K k A xs
  | .cptr vs, c => CP K vs c
  | .clo f caps, c => ∃ ps : List Value, c = .func (.func f) #[] ps.toArray ∧ ps.length = caps.length ∧ ∀ (i : Nat) p vs, ps[i]? = some p → caps[i]? = some vs → CP K vs p
  | .row r _ k xs, c => c = n.ρ r ∧ ∃ A cap, c = .slice A xs.length cap ∧ xs.length ≤ cap ∧ (A = none → cap = 0) ∧ Rd K k A xs
  | .ptr d off, c => ∃ b, n.β d = some b ∧ c = .pointer (some ⟨b, off, none⟩)
  | .cloB f ds, c => ∃ ps : List Value, c = .func (.func f) #[] ps.toArray ∧ ps.length = ds.length ∧ ∀ (i : Nat) p d off, ps[i]? = some p → ds[i]? = some (d, off) → ∃ b, n.β d = some b ∧ p = Value.pointer (some ⟨b, off, none⟩)
  | .pr p, c => ∀ K', K.le K' → p K' c
  | .arow d, c => c = n.ρ d
  | .asub d k lo m, c => ∃ A l cap, n.ρ d = .slice A l cap ∧ lo + m ≤ cap ∧ c = .slice (if cap = lo then A else A.map (·.add (lo * k))) m (cap - lo)
  | .aptr d k j o, c => ∃ g, (n.ρ d).ownBlock = some g ∧ c = .pointer (some ⟨g, j * k + o, none⟩)
  | .tup _, _ => False
def Rep (K : Know) (n : Nm) : AV → Value → Prop
  | .tup vs, c => ∃ cs : Array Value, c = .tuple cs ∧ cs.size = vs.length ∧ ∀ (i : Nat) v, vs[i]? = some v → Rep1 K n v (cs.getD i undef)
  | A, c => Rep1 K n A c
theorem Rep1.mono {K K' : Know} {n : Nm} {A : AV} {c : Value} (h : Rep1 K n A c) (hK : K.le K') : Rep1 K' n A c := by
  cases A with
  | sl k xs => obtain ⟨A, cap, e, h1, h3, h2⟩ := h; exact ⟨A, cap, e, h1, h3, h2.mono hK⟩
  | full k xs => obtain ⟨A, e, h2⟩ := h; exact ⟨A, e, h2.mono hK⟩
  | cptr vs => exact CP.mono h hK
  | clo f caps => obtain ⟨ps, e, h1, h2⟩ := h; exact ⟨ps, e, h1, fun i p vs a b => (h2 i p vs a b).mono hK⟩
  | row r e k xs => obtain ⟨e1, A, cap, e, h1, h3, h2⟩ := h; exact ⟨e1, A, cap, e, h1, h3, h2.mono hK⟩
  | pr p => exact fun K'' h' => h K'' (Know.le_trans hK h')
  | _ => exact h
theorem Rep.mono {K K' : Know} {n : Nm} {A : AV} {c : Value} (h : Rep K n A c) (hK : K.le K') : Rep K' n A c := by
  cases A with
  | tup vs => obtain ⟨cs, e, h1, h2⟩ := h; exact ⟨cs, e, h1, fun i v hv => (h2 i v hv).mono hK⟩
  | dead => exact trivial
  | val v => exact Rep1.mono (n := n) (A := .val v) h hK
  | sl k xs => exact Rep1.mono (n := n) (A := .sl k xs) h hK
  | full k xs => exact Rep1.mono (n := n) (A := .full k xs) h hK
  | cptr vs => exact Rep1.mono (n := n) (A := .cptr vs) h hK
  | clo f cs => exact Rep1.mono (n := n) (A := .clo f cs) h hK
  | row r e k xs => exact Rep1.mono (n := n) (A := .row r e k xs) h hK
  | ptr d o => exact Rep1.mono (n := n) (A := .ptr d o) h hK
  | cloB f ds => exact Rep1.mono (n := n) (A := .cloB f ds) h hK
  | pr p => exact Rep1.mono (n := n) (A := .pr p) h hK
  | arow d => exact h
  | aptr d k j o => exact h
  | asub d k lo m => exact h
theorem Rep.of1 {K : Know} {n : Nm} {A : AV} {c : Value} (h : Rep1 K n A c) : Rep K n A c := by
  cases A with
  | tup vs => exact h.elim
  | _ => exact h

theorem Rd.none_nil {K : Know} {k : Nat} {xs : Cells} (h : Rd K k none xs) : xs = [] := by
  cases xs with
  | nil => rfl
  | cons x xs => obtain ⟨_, _, _, _, e, _⟩ := h.2 0 x rfl; cases e
def Nm.nil : Nm := ⟨fun _ => none, fun _ => undef⟩

def AV.unrow1 (r : Nat) : AV → AV
  | .row r' e k xs => bif r' == r then .sl k xs else .row r' e k xs
  | A => A
def AV.map1 (f : AV → AV) : AV → AV
  | .tup vs => .tup (vs.map f)
  | A => f A
end Go.Proofs.Ytkfmammkbmhfaaa
namespace Go.Proofs.Ytkfmammkbmhfaaa
set_option linter.unusedSimpArgs false
set_option linter.unusedVariables false
open Go Go.RowKit

structure Arr where
  e : Nat
  k : Nat
  xs : Cells
def Arr.ok (A : Arr) : Prop := ∀ x ∈ A.xs, x.length = A.k ∧ ∀ u ∈ x, u.oneCell' = true
structure St where
  tmps : List (Nat × AV)
  boxes : List (Nat × List AV)
  arrs : List (Nat × Arr)
structure Bas where
  w : World
  own : Nat → Prop
  β : Nat → Option Nat
  /-- it is a whole function -/
  top : Bool
def Bas.bare (B : Bas) : Prop := (∀ g, ¬ B.own g) ∧ ∀ d, B.β d = none
def Bas.isOwn (B : Bas) (b : Nat) : Prop := B.w.heap.size ≤ b ∨ B.own b
structure Keeps (B : Bas) (w : World) : Prop where
  os : w.os = B.w.os
  tape : w.tape = B.w.tape
  output : w.output = B.w.output
  size : B.w.heap.size ≤ w.heap.size
  block : ∀ b, b < B.w.heap.size → ¬ B.own b → w.heap[b]? = B.w.heap[b]?
theorem Keeps.step {B : Bas} {w w' : World} (h : Keeps B w) (h1 : w'.os = w.os) (h2 : w'.tape = w.tape) (h3 : w'.output = w.output) (h4 : w.heap.size ≤ w'.heap.size) (h5 : ∀ b, b < B.w.heap.size → ¬ B.own b → w'.heap[b]? = w.heap[b]?) : Keeps B w' :=
  ⟨h1.trans h.os, h2.trans h.tape, h3.trans h.output, Nat.le_trans h.size h4, fun b hb ho => (h5 b hb ho).trans (h.block b hb ho)⟩
def getT : List (Nat × AV) → Nat → AV
  | [], _ => .dead
  | (s, A) :: l, t => cond (Nat.beq s t) A (getT l t)
def St.get (S : St) (t : Nat) : AV := getT S.tmps t
def St.put (S : St) (d : Nat) (A : AV) : St := ⟨(d, A) :: S.tmps, S.boxes, S.arrs⟩
def St.mem (S : St) : List (Nat × List AV) × List (Nat × Arr) := (S.boxes, S.arrs)
theorem St.mem_boxes {S S' : St} (h : S'.mem = S.mem) : S'.boxes = S.boxes := congrArg Prod.fst h
theorem St.mem_arrs {S S' : St} (h : S'.mem = S.mem) : S'.arrs = S.arrs := congrArg Prod.snd h
theorem St.get_put (S : St) (d : Nat) (A : AV) (t : Nat) : (S.put d A).get t = if d = t then A else S.get t := by
  simp only [St.get, St.put, getT]
  by_cases h : d = t
  · subst h; simp
  · have hb : Nat.beq d t = false := by
      cases e : Nat.beq d t with
      | false => rfl
      | true => exact absurd (Nat.eq_of_beq_eq_true e) h
    rw [if_neg h, hb]; rfl
def AV.of (A B : AV) : Prop := B = A ∨ ∃ vs, B = .tup vs ∧ A ∈ vs
def St.has (S : St) (A : AV) : Prop := (∃ t, A.of (S.get t)) ∨ ∃ d cs, (d, cs) ∈ S.boxes ∧ A ∈ cs

def mark (D : Nat) : Deferred := { target := .collected D, args := #[] }
def Marks (B : Bas) (a : Act) (w : World) : Prop := ∃ Ds : List Nat, a.defers = Ds.map mark ∧ Ds.Nodup ∧ ∀ D ∈ Ds, B.w.heap.size ≤ D ∧ w.heap[D]? = some (Obj.deferred (some []))
theorem Marks.nil {B : Bas} {a : Act} {w : World} (h : a.defers = []) : Marks B a w := ⟨[], h, List.nodup_nil, fun D h => by cases h⟩
theorem Marks.keep {B : Bas} {a a' : Act} {w w' : World} (h : Marks B a w) (ha : a'.defers = a.defers) (hb : ∀ D : Nat, w.heap[D]? = some (Obj.deferred (some [])) → w'.heap[D]? = some (Obj.deferred (some []))) : Marks B a' w' := by
  obtain ⟨Ds, h1, h2, h3⟩ := h
  exact ⟨Ds, ha.trans h1, h2, fun D hD => ⟨(h3 D hD).1, hb D (h3 D hD).2⟩⟩
theorem Marks.put {B : Bas} {a : Act} {w : World} (h : Marks B a w) {d : Option Nat} {v : Value} : Marks B (a.put d v) w := h.keep (by cases d <;> rfl) fun _ h => h
theorem Marks.below {B : Bas} {a : Act} {w w' : World} (h : Marks B a w) (hb : Below w.heap.size w w') : Marks B a w' := h.keep rfl fun D hD => (hb.block D (Array.getElem?_eq_some_iff.1 hD).1).trans hD
theorem Marks.grown {B : Bas} {a : Act} {w w' : World} (h : Marks B a w) {g0 : Option Nat} (hg : w.grownBy w' g0) (hc : ∀ g, g0 = some g → ∃ c t f, w.heap[g]? = some (.cells c t f)) : Marks B a w' := h.keep rfl fun D hD =>
  (hg.block D (Array.getElem?_eq_some_iff.1 hD).1 (fun e => by obtain ⟨c, t, f, h1⟩ := hc D e.symm; rw [hD] at h1; cases h1)).trans hD
structure Sim (N : Nat) (K0 : Know) (w0 : Bas) (S : St) (K : Know) (n : Nm) (a : Act) (w : World) : Prop where
  size : N ≤ a.tmps.size
  defers : w0.top = true → Marks w0 a w
  below : Keeps w0 w
  k0 : K0.le K
  knew : ∀ b o u, K b o = some u → b < w0.w.heap.size → K0 b o = some u
  ok : K.ok w
  tmp : ∀ t, Rep K n (S.get t) (a.tmps.getD t undef)
  box : ∀ d cs, (d, cs) ∈ S.boxes → ∃ b arr ty, n.β d = some b ∧ w0.isOwn b ∧ w.heap[b]? = some (.cells arr ty) ∧ arr.size = cs.length ∧ (∀ (i : Nat) c, cs[i]? = some c → Rep1 K n c (arr.getD i undef)) ∧ ∀ o, K b o = none
  boxInj : ∀ d cs d' cs' b, (d, cs) ∈ S.boxes → (d', cs') ∈ S.boxes → n.β d = some b → n.β d' = some b → d = d'
  boxOne : ∀ d cs cs', (d, cs) ∈ S.boxes → (d, cs') ∈ S.boxes → cs = cs'
  row : ∀ r e k xs, S.has (.row r e k xs) → w.ownsRow w0.w.heap.size e k (n.ρ r) xs.length xs.flatten ∧ ∀ g, (n.ρ r).ownBlock = some g → (∀ o u, K g o = some u → o < xs.length * k) ∧ ∀ d cs, (d, cs) ∈ S.boxes → n.β d ≠ some g
  rowInj : ∀ r e k xs r' e' k' xs' g, S.has (.row r e k xs) → S.has (.row r' e' k' xs') → (n.ρ r).ownBlock = some g → (n.ρ r').ownBlock = some g → r = r'
  arr : ∀ d A, (d, A) ∈ S.arrs → w.ownsRow 0 A.e A.k (n.ρ d) A.xs.length A.xs.flatten ∧ A.ok ∧ ∀ g, (n.ρ d).ownBlock = some g → w0.isOwn g ∧ (∀ o, K g o = none) ∧ (∀ d' cs, (d', cs) ∈ S.boxes → n.β d' ≠ some g) ∧ ∀ r e k xs, S.has (.row r e k xs) → (n.ρ r).ownBlock ≠ some g
  arrInj : ∀ d A d' A' g, (d, A) ∈ S.arrs → (d', A') ∈ S.arrs → (n.ρ d).ownBlock = some g → (n.ρ d').ownBlock = some g → d = d'
  arrOne : ∀ d A A', (d, A) ∈ S.arrs → (d, A') ∈ S.arrs → A = A'
  fix : ∀ d b, w0.β d = some b → n.β d = some b ∧ N ≤ d

section
variable {N : Nat} {K0 : Know} {w0 : Bas} {S S' : St} {K K' : Know} {n : Nm} {a : Act} {w w' : World}

theorem below_at {B : Bas} (h : Keeps B w) (hb : Below w.heap.size w w') : Keeps B w' :=
  h.step hb.os hb.tape hb.output hb.size fun b hB _ => hb.block b (Nat.lt_of_lt_of_le hB h.size)
theorem Sim.base (h : Sim N K0 w0 S K n a w) : w0.w.heap.size ≤ w.heap.size := h.below.size

theorem Sim.grow (h : Sim N K0 w0 S K n a w) (hb : Below w.heap.size w w') (hK : K.le K') (hok : K'.ok w') (hn : ∀ b o u, K' b o = some u → b < w.heap.size → K b o = some u) : Sim N K0 w0 S K' n a w' where
  size := h.size
  defers := fun ht => (h.defers ht).below hb
  below := below_at h.below hb
  k0 := Know.le_trans h.k0 hK
  knew := fun b o u e hlt => h.knew b o u (hn b o u e (Nat.lt_of_lt_of_le hlt h.base)) hlt
  ok := hok
  tmp := fun t => (h.tmp t).mono hK
  box := fun d cs hd => by
    obtain ⟨b, arr, ty, e1, e2, e3, e4, e5, e6⟩ := h.box d cs hd
    have hlt : b < w.heap.size := (Array.getElem?_eq_some_iff.1 e3).1
    refine ⟨b, arr, ty, e1, e2, (hb.block b hlt).trans e3, e4, fun i c hi => (e5 i c hi).mono hK, fun o => ?_⟩
    cases hko : K' b o with
    | none => rfl
    | some u => have := hn b o u hko hlt; rw [e6 o] at this; cases this
  boxInj := h.boxInj
  boxOne := h.boxOne
  row := fun r e k xs hr => by
    obtain ⟨h1, h2⟩ := h.row r e k xs hr
    refine ⟨own_below h1 hb, fun g hg => ⟨fun o u hu => ?_, (h2 g hg).2⟩⟩
    exact (h2 g hg).1 o u (hn g o u hu (h1.lt g hg).2)
  rowInj := h.rowInj
  arr := fun d A hd => by
    obtain ⟨h1, h2, h3⟩ := h.arr d A hd
    refine ⟨own_below h1 hb, h2, fun g hg => ⟨(h3 g hg).1, fun o => ?_, (h3 g hg).2.2⟩⟩
    cases hko : K' g o with
    | none => rfl
    | some u => have := hn g o u hko (h1.lt g hg).2; rw [(h3 g hg).2.1 o] at this; cases this
  arrInj := h.arrInj
  arrOne := h.arrOne
  fix := h.fix

theorem Sim.put (h : Sim N K0 w0 S K n a w) {d : Nat} (hd : d < N) {A : AV} {c : Value} (hv : Rep K n A c) (hA : ∀ r e k xs, (AV.row r e k xs).of A → S.has (.row r e k xs)) : Sim N K0 w0 (S.put d A) K n (a.put (some d) c) w := by
  have hh : ∀ r e k xs, (S.put d A).has (.row r e k xs) → S.has (.row r e k xs) := by
    intro r e k xs hr
    rcases hr with ⟨t, ht⟩ | hb
    · rw [St.get_put] at ht
      split at ht
      · exact hA r e k xs ht
      · exact .inl ⟨t, ht⟩
    · exact .inr hb
  have hsz : d < a.tmps.size := Nat.lt_of_lt_of_le hd h.size
  exact {
    size := by simp [Act.put]; exact h.size
    defers := fun ht => (h.defers ht).put
    below := h.below
    k0 := h.k0
    knew := h.knew
    ok := h.ok
    tmp := fun t => by
      rw [St.get_put]
      by_cases e : d = t
      · subst e
        rw [if_pos rfl]
        simp only [Act.put, Array.getD_eq_getD_getElem?, Array.getElem?_setIfInBounds, hsz, if_true, Option.getD_some]
        exact hv
      · rw [if_neg e]
        simp only [Act.put, Array.getD_eq_getD_getElem?, Array.getElem?_setIfInBounds, e, if_false]
        have := h.tmp t
        rwa [Array.getD_eq_getD_getElem?] at this
    box := h.box
    boxInj := h.boxInj
    boxOne := h.boxOne
    row := fun r e k xs hr => h.row r e k xs (hh r e k xs hr)
    rowInj := fun r e k xs r' e' k' xs' g h1 h2 => h.rowInj r e k xs r' e' k' xs' g (hh _ _ _ _ h1) (hh _ _ _ _ h2)
    arr := fun d A hd => by
      obtain ⟨h1, h2, h3⟩ := h.arr d A hd
      exact ⟨h1, h2, fun g hg => ⟨(h3 g hg).1, (h3 g hg).2.1, (h3 g hg).2.2.1, fun r e k xs hr => (h3 g hg).2.2.2 r e k xs (hh r e k xs hr)⟩⟩
    arrInj := h.arrInj
    arrOne := h.arrOne
    fix := h.fix }

def AV.wk1 (A A' : AV) : Prop := A' = A ∨ A' = .dead ∨ (∃ r e k xs, A = .row r e k xs ∧ A' = .sl k xs) ∨ ∃ k xs, A = .full k xs ∧ A' = .sl k xs
def AV.wk (A A' : AV) : Prop := A.wk1 A' ∨ ∃ vs vs', A = .tup vs ∧ A' = .tup vs' ∧ vs.length = vs'.length ∧ ∀ (i : Nat) v v', vs[i]? = some v → vs'[i]? = some v' → v.wk1 v'
theorem AV.wk1.rep1 {A A' : AV} {c : Value} (hw : A.wk1 A') (h : Rep1 K n A c) : Rep1 K n A' c := by
  rcases hw with rfl | rfl | ⟨r, e, k, xs, rfl, rfl⟩ | ⟨k, xs, rfl, rfl⟩
  · exact h
  · trivial
  · exact h.2
  · obtain ⟨A, e, hr⟩ := h; exact ⟨A, _, e, Nat.le_refl _, (fun h => by subst h; rw [hr.none_nil]; rfl), hr⟩
theorem AV.wk.rep {A A' : AV} {c : Value} (hw : A.wk A') (h : Rep K n A c) : Rep K n A' c := by
  rcases hw with h1 | ⟨vs, vs', rfl, rfl, hl, hc⟩
  · rcases h1 with rfl | rfl | ⟨r, e, k, xs, rfl, rfl⟩ | ⟨k, xs, rfl, rfl⟩
    · exact h
    · trivial
    · exact h.2
    · obtain ⟨A, e, hr⟩ := h; exact ⟨A, _, e, Nat.le_refl _, (fun h => by subst h; rw [hr.none_nil]; rfl), hr⟩
  · obtain ⟨cs, e, h1, h2⟩ := h
    refine ⟨cs, e, h1.trans hl, fun i v' hv' => ?_⟩
    have hi : i < vs.length := by rw [hl]; exact (List.getElem?_eq_some_iff.1 hv').1
    exact (hc i _ v' (List.getElem?_eq_getElem hi) hv').rep1 (h2 i _ (List.getElem?_eq_getElem hi))
theorem AV.wk1.row {A : AV} {r e k : Nat} {xs : Cells} (h : A.wk1 (.row r e k xs)) : A = .row r e k xs := by
  rcases h with h | h | ⟨_, _, _, _, _, h⟩ | ⟨_, _, _, h⟩
  · exact h.symm
  all_goals cases h
theorem AV.wk.row {A A' : AV} {r e k : Nat} {xs : Cells} (h : A.wk A') (hr : (AV.row r e k xs).of A') : (AV.row r e k xs).of A := by
  rcases h with h | ⟨vs, vs', rfl, rfl, hl, hc⟩
  · rcases hr with rfl | ⟨vs, rfl, hm⟩
    · exact .inl (AV.wk1.row h)
    · rcases h with h | h | ⟨_, _, _, _, _, h⟩ | ⟨_, _, _, h⟩
      · exact .inr ⟨vs, h.symm, hm⟩
      all_goals cases h
  · rcases hr with h | ⟨us, h, hm⟩
    · cases h
    · injection h with h; subst h
      obtain ⟨i, hi, e1⟩ := List.getElem_of_mem hm
      have hi' : i < vs.length := by rw [hl]; exact hi
      have h2 := hc i _ _ (List.getElem?_eq_getElem hi') (List.getElem?_eq_getElem hi)
      rw [e1] at h2
      exact .inr ⟨vs, rfl, by rw [← AV.wk1.row h2]; exact List.getElem_mem hi'⟩
def St.wk (S S' : St) : Prop := ((∀ t, (S.get t).wk (S'.get t)) ∧ ∀ d A, (d, A) ∈ S'.arrs → (d, A) ∈ S.arrs) ∧ ∀ d cs', (d, cs') ∈ S'.boxes → (∃ cs, (d, cs) ∈ S.boxes ∧ cs.length = cs'.length ∧ ∀ (i : Nat) c c', cs[i]? = some c → cs'[i]? = some c' → c.wk1 c')
theorem St.wk.has {r e k : Nat} {xs : Cells} (h : S.wk S') (hr : S'.has (.row r e k xs)) : S.has (.row r e k xs) := by
  rcases hr with ⟨t, ht⟩ | ⟨d, cs', hd, hm⟩
  · exact .inl ⟨t, (h.1.1 t).row ht⟩
  · obtain ⟨cs, h1, hl, h2⟩ := h.2 d cs' hd
    obtain ⟨i, hi, e1⟩ := List.getElem_of_mem hm
    have hi' : i < cs.length := by rw [hl]; exact hi
    have h3 := h2 i _ _ (List.getElem?_eq_getElem hi') (List.getElem?_eq_getElem hi)
    rw [e1] at h3
    exact .inr ⟨d, cs, h1, by rw [← AV.wk1.row h3]; exact List.getElem_mem hi'⟩
theorem Sim.weak (h : Sim N K0 w0 S K n a w) (hw : S.wk S') (h1 : ∀ d cs cs', (d, cs) ∈ S'.boxes → (d, cs') ∈ S'.boxes → cs = cs') : Sim N K0 w0 S' K n a w where
  size := h.size
  defers := h.defers
  below := h.below
  k0 := h.k0
  knew := h.knew
  ok := h.ok
  tmp := fun t => (hw.1.1 t).rep (h.tmp t)
  box := fun d cs' hd => by
    obtain ⟨cs, h1, hl, h2⟩ := hw.2 d cs' hd
    obtain ⟨b, arr, ty, e1, e2, e3, e4, e5, e6⟩ := h.box d cs h1
    refine ⟨b, arr, ty, e1, e2, e3, e4.trans hl, fun i c' hi => ?_, e6⟩
    have hi' : i < cs.length := by rw [hl]; exact (List.getElem?_eq_some_iff.1 hi).1
    exact (h2 i _ c' (List.getElem?_eq_getElem hi') hi).rep1 (e5 i _ (List.getElem?_eq_getElem hi'))
  boxInj := fun d cs d' cs' b h1 h2 => by
    obtain ⟨cs1, k1, _⟩ := hw.2 d cs h1
    obtain ⟨cs2, k2, _⟩ := hw.2 d' cs' h2
    exact h.boxInj d cs1 d' cs2 b k1 k2
  boxOne := h1
  row := fun r e k xs hr => by
    obtain ⟨h1, h2⟩ := h.row r e k xs (hw.has hr)
    refine ⟨h1, fun g hg => ⟨(h2 g hg).1, fun d cs' hd => ?_⟩⟩
    obtain ⟨cs, h3, _⟩ := hw.2 d cs' hd
    exact (h2 g hg).2 d cs h3
  rowInj := fun r e k xs r' e' k' xs' g h1 h2 => h.rowInj r e k xs r' e' k' xs' g (hw.has h1) (hw.has h2)
  arr := fun d A hd => by
    obtain ⟨h1, h2, h3⟩ := h.arr d A (hw.1.2 d A hd)
    refine ⟨h1, h2, fun g hg => ⟨(h3 g hg).1, (h3 g hg).2.1, fun d' cs' hd' => ?_, fun r e k xs hr => (h3 g hg).2.2.2 r e k xs (hw.has hr)⟩⟩
    obtain ⟨cs, h4, _⟩ := hw.2 d' cs' hd'
    exact (h3 g hg).2.2.1 d' cs h4
  arrInj := fun d A d' A' g h1 h2 => h.arrInj d A d' A' g (hw.1.2 d A h1) (hw.1.2 d' A' h2)
  arrOne := fun d A A' h1 h2 => h.arrOne d A A' (hw.1.2 d A h1) (hw.1.2 d A' h2)
  fix := h.fix
end
end Go.Proofs.Ytkfmammkbmhfaaa
namespace Go.Proofs.Ytkfmammkbmhfaaa
set_option linter.unusedSimpArgs false
set_option linter.unusedVariables false
open Go Go.RowKit

def St.opv (S : St) : Operand → AV
  | .tmp t => S.get t
  | .const v => .val v
  | .global g => .val (.pointer (some ⟨g, 0, none⟩))
  | .func f => .val (.func (.func f) #[] #[])
theorem Sim.opv {N : Nat} {K0 : Know} {w0 : Bas} {S : St} {K : Know} {n : Nm} {a : Act} {w : World} (h : Sim N K0 w0 S K n a w) (x : Operand) : Rep K n (S.opv x) (a.eval x) := by
  cases x with
  | tmp t => exact h.tmp t
  | const v => exact rfl
  | global g => exact rfl
  | func f => exact rfl
theorem St.opv_has {S : St} {x : Operand} {r e k : Nat} {xs : Cells} (h : (AV.row r e k xs).of (S.opv x)) : S.has (.row r e k xs) := by
  cases x with
  | tmp t => exact .inl ⟨t, h⟩
  | _ => rcases h with h | ⟨_, h, _⟩ <;> cases h

def OpT (P : Program) (N : Nat) (K0 : Know) (w0 : Bas) (o : Oper) (S : St) (Q : St → Prop) : Prop :=
  ∀ K n a w, Sim N K0 w0 S K n a w → o.wp P a w (fun a' w' => ∃ K' n' S', Q S' ∧ Sim N K0 w0 S' K' n' a' w') (fun _ _ _ => False)
def OpH (P : Program) (N : Nat) (K0 : Know) (w0 : Bas) (o : Oper) (S : St) (v : AV) : Prop :=
  ∀ S' K n a w, Sim N K0 w0 S' K n a w → S'.mem = S.mem → (∀ x ∈ o.op.operands.toList, S'.opv x = S.opv x) →
    o.wp P a w (fun a' w' => ∃ c K', a' = a.put o.dst c ∧ Below w.heap.size w w' ∧ K.le K' ∧ K'.ok w' ∧ (∀ b o u, K' b o = some u → b < w.heap.size → K b o = some u) ∧ Rep K' n v c ∧ ∀ r e k xs, (AV.row r e k xs).of v → S'.has (.row r e k xs)) (fun _ _ _ => False)
def St.putO (S : St) : Option Nat → AV → St
  | some d, A => S.put d A
  | none, _ => S
theorem Sim.putO {N : Nat} {K0 : Know} {w0 : Bas} {S : St} {K : Know} {n : Nm} {a : Act} {w : World} (h : Sim N K0 w0 S K n a w) {d : Option Nat} (hd : ∀ t, d = some t → t < N) {A : AV} {c : Value} (hv : Rep K n A c) (hA : ∀ r e k xs, (AV.row r e k xs).of A → S.has (.row r e k xs)) : Sim N K0 w0 (S.putO d A) K n (a.put d c) w := by
  cases d with
  | none => exact h
  | some d => exact h.put (hd d rfl) hv hA
theorem has_val {v : Value} {S : St} (r e k xs) (h : (AV.row r e k xs).of (.val v)) : S.has (.row r e k xs) := by
  rcases h with h | ⟨_, h, _⟩ <;> cases h

section
variable {P : Program} {N : Nat} {K0 : Know} {w0 : Bas} {S S' : St} {Q : St → Prop} {ops : Array Oper} {l : List Oper} {o : Oper}

theorem OpH.toT {v : AV} (h : OpH P N K0 w0 o S v) (hd : ∀ t, o.dst = some t → t < N) (hq : Q (S.putO o.dst v)) : OpT P N K0 w0 o S Q := by
  intro K n a w hs
  refine Oper.wp_mono ?_ (h S K n a w hs rfl (fun _ _ => rfl))
  rintro a' w' ⟨c, K', rfl, hb, hK, hok, hn, hv, hA⟩
  exact ⟨K', n, _, hq, (hs.grow hb hK hok hn).putO hd hv hA⟩

def LT (P : Program) (N : Nat) (K0 : Know) (w0 : Bas) (ops : Array Oper) (l : List Oper) (S : St) (Q : St → Prop) : Prop :=
  ∀ K n a w, Sim N K0 w0 S K n a w → wpList P ops (fun e a' w' => e = .normal ∧ ∃ K' n' S', Q S' ∧ Sim N K0 w0 S' K' n' a' w') l a w
theorem LT.nil (h : Q S) : LT P N K0 w0 ops [] S Q := fun K n a w hs => ⟨rfl, K, n, S, h, hs⟩
theorem LT.wk (h : LT P N K0 w0 ops l S' Q) (hw : S.wk S') (h1 : ∀ d cs cs', (d, cs) ∈ S'.boxes → (d, cs') ∈ S'.boxes → cs = cs') : LT P N K0 w0 ops l S Q := fun K n a w hs => h K n a w (hs.weak hw h1)
theorem LT.step (hw : ∀ K n a w, Sim N K0 w0 S K n a w → Region.wanted o (yielded ops a.tmps) = true) (h : OpT P N K0 w0 o S fun S' => LT P N K0 w0 ops l S' Q) : LT P N K0 w0 ops (o :: l) S Q := by
  intro K n a w hs
  simp only [wpList, hw K n a w hs, if_true]
  refine .inl (upon_false (Oper.wp_mono ?_ (h K n a w hs)))
  rintro a' w' ⟨K', n', S', hl, hs'⟩
  exact hl K' n' a' w' hs'
theorem LT.cons (hg : o.guard = none) (h : OpT P N K0 w0 o S fun S' => LT P N K0 w0 ops l S' Q) : LT P N K0 w0 ops (o :: l) S Q :=
  LT.step (fun _ _ _ _ _ => by unfold Region.wanted; rw [hg]) h
def GuardIs (ops : Array Oper) (o : Oper) (S : St) (b : Bool) : Prop :=
  match o.guard with
  | none => b = true
  | some (g, want) => ∃ dg, ((ops[g]?).bind (·.dst)) = some dg ∧ ((∃ c, S.get dg = .val (.bool c) ∧ b = (c == want)) ∨ (S.get dg = .val undef ∧ b = false))
theorem yielded_of {K : Know} {n : Nm} {a : Act} {w : World} (hs : Sim N K0 w0 S K n a w) {g dg : Nat} (h : ((ops[g]?).bind (·.dst)) = some dg) (hd : dg < N) {v : Value} (hv : S.get dg = .val v) :
    ((ops[g]?).bind (·.dst)).bind (a.tmps[·]?) = some v := by
  rw [h]
  have h1 := hs.tmp dg
  rw [hv] at h1
  have hlt : dg < a.tmps.size := Nat.lt_of_lt_of_le hd hs.size
  simp only [Option.bind_some]
  rw [Array.getElem?_eq_getElem hlt]
  simp only [Array.getD_eq_getD_getElem?, Array.getElem?_eq_getElem hlt, Option.getD_some] at h1
  exact congrArg some h1
theorem wanted_of {K : Know} {n : Nm} {a : Act} {w : World} (hs : Sim N K0 w0 S K n a w) {b : Bool} (h : GuardIs ops o S b) (hN : ∀ g want dg, o.guard = some (g, want) → ((ops[g]?).bind (·.dst)) = some dg → dg < N) : Region.wanted o (yielded ops a.tmps) = b := by
  unfold GuardIs at h
  unfold Region.wanted
  cases hg : o.guard with
  | none => rw [hg] at h; exact h.symm
  | some p =>
    obtain ⟨g, want⟩ := p
    rw [hg] at h
    obtain ⟨dg, h1, h2⟩ := h
    have hd := hN g want dg hg h1
    simp only
    rcases h2 with ⟨c, h2, rfl⟩ | ⟨h2, rfl⟩
    · have := yielded_of hs h1 hd h2
      unfold yielded
      rw [this]
      cases c <;> cases want <;> rfl
    · have := yielded_of hs h1 hd h2
      unfold yielded
      rw [this]
      rfl
theorem LT.guard {g : Nat} {want : Bool} {dg : Nat} {c : Bool} (hg : o.guard = some (g, want)) (h1 : ((ops[g]?).bind (·.dst)) = some dg) (hd : dg < N) (h2 : S.get dg = .val (.bool c)) (hc : (c == want) = true)
    (h : OpT P N K0 w0 o S fun S' => LT P N K0 w0 ops l S' Q) : LT P N K0 w0 ops (o :: l) S Q :=
  LT.step (fun K n a w hs => by
    refine wanted_of hs (b := true) ?_ ?_
    · unfold GuardIs; rw [hg]; exact ⟨dg, h1, .inl ⟨c, h2, hc.symm⟩⟩
    · intro g' want' dg' hg' h1'; rw [hg] at hg'; injection hg' with hg'; injection hg' with e1 e2; subst e1; rw [h1] at h1'; injection h1' with h1'; subst h1'; exact hd) h
theorem LT.skip_ {b : Bool} (hw : ∀ K n a w, Sim N K0 w0 S K n a w → Region.wanted o (yielded ops a.tmps) = false) (hd : ∀ t, o.dst = some t → t < N) (h : LT P N K0 w0 ops l (S.putO o.dst (.val undef)) Q) : LT P N K0 w0 ops (o :: l) S Q := by
  intro K n a w hs
  simp only [wpList, hw K n a w hs, Bool.false_eq_true, if_false]
  exact h K n _ w (hs.putO hd (A := .val undef) rfl has_val)
theorem LT.skipB {g : Nat} {want : Bool} {dg : Nat} {c : Bool} (hg : o.guard = some (g, want)) (h1 : ((ops[g]?).bind (·.dst)) = some dg) (hd : dg < N) (h2 : S.get dg = .val (.bool c)) (hc : (c == want) = false)
    (hdo : ∀ t, o.dst = some t → t < N) (h : LT P N K0 w0 ops l (S.putO o.dst (.val undef)) Q) : LT P N K0 w0 ops (o :: l) S Q :=
  LT.skip_ (b := true) (fun K n a w hs => by
    refine wanted_of hs (b := false) ?_ ?_
    · unfold GuardIs; rw [hg]; exact ⟨dg, h1, .inl ⟨c, h2, hc.symm⟩⟩
    · intro g' want' dg' hg' h1'; rw [hg] at hg'; injection hg' with hg'; injection hg' with e1 e2; subst e1; rw [h1] at h1'; injection h1' with h1'; subst h1'; exact hd) hdo h
theorem LT.skipU {g : Nat} {want : Bool} {dg : Nat} (hg : o.guard = some (g, want)) (h1 : ((ops[g]?).bind (·.dst)) = some dg) (hd : dg < N) (h2 : S.get dg = .val undef)
    (hdo : ∀ t, o.dst = some t → t < N) (h : LT P N K0 w0 ops l (S.putO o.dst (.val undef)) Q) : LT P N K0 w0 ops (o :: l) S Q :=
  LT.skip_ (b := true) (fun K n a w hs => by
    refine wanted_of hs (b := false) ?_ ?_
    · unfold GuardIs; rw [hg]; exact ⟨dg, h1, .inr ⟨h2, rfl⟩⟩
    · intro g' want' dg' hg' h1'; rw [hg] at hg'; injection hg' with hg'; injection hg' with e1 e2; subst e1; rw [h1] at h1'; injection h1' with h1'; subst h1'; exact hd) hdo h

def CT (P : Program) (N : Nat) (K0 : Know) (w0 : Bas) (c : Code) (S : St) (Q : Exit → St → Prop) : Prop :=
  ∀ K n a w, Sim N K0 w0 S K n a w → c.wp P (fun e a' w' => ∃ K' n' S', Q e S' ∧ Sim N K0 w0 S' K' n' a' w') a w
section
variable {QE : Exit → St → Prop} {c c1 c2 : Code}
theorem CT.mono {QE' : Exit → St → Prop} (h : CT P N K0 w0 c S QE) (hq : ∀ e S, QE e S → QE' e S) : CT P N K0 w0 c S QE' :=
  fun K n a w hs => wp_mono (h K n a w hs) fun _ _ _ ⟨K', n', S', h1, h2⟩ => ⟨K', n', S', hq _ _ h1, h2⟩
theorem CT.wk (h : CT P N K0 w0 c S' QE) (hw : S.wk S') (h1 : ∀ d cs cs', (d, cs) ∈ S'.boxes → (d, cs') ∈ S'.boxes → cs = cs') : CT P N K0 w0 c S QE := fun K n a w hs => h K n a w (hs.weak hw h1)
def thenA (next : St → Prop) (QE : Exit → St → Prop) : Exit → St → Prop
  | .normal, S => next S
  | e, S => QE e S
theorem CT.seq (h : CT P N K0 w0 c1 S (thenA (fun S' => CT P N K0 w0 c2 S' QE) QE)) : CT P N K0 w0 (c1.seq c2) S QE := by
  intro K n a w hs
  refine wp_seq (wp_mono (h K n a w hs) ?_)
  rintro e a' w' ⟨K', n', S', h1, h2⟩
  cases e with
  | normal => exact h1 K' n' a' w' h2
  | exit id => exact ⟨K', n', S', h1, h2⟩
  | goto id => exact ⟨K', n', S', h1, h2⟩
  | ret => exact ⟨K', n', S', h1, h2⟩
  | panic ch => exact ⟨K', n', S', h1, h2⟩
  | outgrown => exact ⟨K', n', S', h1, h2⟩
theorem CT.skip (h : QE .normal S) : CT P N K0 w0 .skip S QE := fun K n a w hs => wp_skip ⟨K, n, S, h, hs⟩
theorem CT.exit {id : Nat} (h : QE (.exit id) S) : CT P N K0 w0 (.exit id) S QE := fun K n a w hs => wp_exit ⟨K, n, S, h, hs⟩
theorem CT.goto {id : Nat} (h : QE (.goto id) S) : CT P N K0 w0 (.goto id) S QE := fun K n a w hs => wp_goto ⟨K, n, S, h, hs⟩
theorem CT.label {id : Nat} (h : QE .normal S) : CT P N K0 w0 (.label id) S QE := fun K n a w hs => wp_label ⟨K, n, S, h, hs⟩
theorem CT.ret (h : QE .ret S) : CT P N K0 w0 .ret S QE := fun K n a w hs => wp_ret ⟨K, n, S, h, hs⟩
theorem CT.cond {x : Operand} {t : Bool} (hc : S.opv x = .val (.bool t)) (ht : t = true → CT P N K0 w0 c1 S QE) (hf : t = false → CT P N K0 w0 c2 S QE) : CT P N K0 w0 (.cond x c1 c2) S QE := by
  intro K n a w hs
  have h1 := hs.opv x
  rw [hc] at h1
  exact wp_cond_split h1 (fun e => ht e K n a w hs) (fun e => hf e K n a w hs)
def blockA (id : Nat) (QE : Exit → St → Prop) : Exit → St → Prop
  | .exit id', S => cond (Nat.beq id' id) (QE .normal S) (QE (.exit id') S)
  | e, S => QE e S
theorem CT.block {id : Nat} (h : CT P N K0 w0 c S (blockA id QE)) : CT P N K0 w0 (.block id c) S QE := by
  intro K n a w hs
  refine wp_block (wp_mono (h K n a w hs) ?_)
  rintro e a' w' ⟨K', n', S', h1, h2⟩
  cases e with
  | exit id' =>
    by_cases e : id' = id
    · subst e
      have : (Nat.beq id' id') = true := Nat.beq_refl id'
      simp only [blockA, this, cond_true] at h1
      simp only [Exit.inBlock, if_true]
      exact ⟨K', n', S', h1, h2⟩
    · have : Nat.beq id' id = false := by
        cases e' : Nat.beq id' id with
        | false => rfl
        | true => exact absurd (Nat.eq_of_beq_eq_true e') e
      simp only [blockA, this, cond_false] at h1
      simp only [Exit.inBlock, e, if_false]
      exact ⟨K', n', S', h1, h2⟩
  | normal => exact ⟨K', n', S', h1, h2⟩
  | goto id => exact ⟨K', n', S', h1, h2⟩
  | ret => exact ⟨K', n', S', h1, h2⟩
  | panic ch => exact ⟨K', n', S', h1, h2⟩
  | outgrown => exact ⟨K', n', S', h1, h2⟩
theorem least (p : Nat → Prop) : ∀ n, p n → ∃ m, p m ∧ ∀ k, p k → m ≤ k := by
  intro n
  induction n using Nat.strongRecOn with
  | _ n ih =>
    intro hn
    by_cases h : ∃ k, k < n ∧ p k
    · obtain ⟨k, hk, hp⟩ := h; exact ih k hk hp
    · exact ⟨n, hn, fun k hk => Nat.le_of_not_lt fun hlt => h ⟨k, hlt, hk⟩⟩
theorem CT.loop (I : Nat → St → Prop) {m : Nat} (h0 : I m S) (h : ∀ m S, I m S → CT P N K0 w0 c S (thenA (fun S' => ∃ m', m' < m ∧ I m' S') QE)) : CT P N K0 w0 (.loop c) S QE := by
  intro K n a w hs
  have key : ∀ m S K n a w, I m S → Sim N K0 w0 S K n a w → (Code.loop c).wp P (fun e a' w' => ∃ K' n' S', QE e S' ∧ Sim N K0 w0 S' K' n' a' w') a w := by
    intro m S K n a w hI hs
    classical
    let J : Nat → Act → World → Prop := fun m a w => ∃ S K n, I m S ∧ Sim N K0 w0 S K n a w
    let μ : Act → World → Nat := fun a w => if h : ∃ m, J m a w ∧ ∀ k, J k a w → m ≤ k then Classical.choose h else 0
    have hμ : ∀ m a w, J m a w → μ a w ≤ m := fun m a w hj => by
      have hex : ∃ m, J m a w ∧ ∀ k, J k a w → m ≤ k := least (fun m => J m a w) m hj
      simp only [μ, dif_pos hex]
      exact (Classical.choose_spec hex).2 m hj
    have hμJ : ∀ m a w, J m a w → J (μ a w) a w := fun m a w hj => by
      have hex : ∃ m, J m a w ∧ ∀ k, J k a w → m ≤ k := least (fun m => J m a w) m hj
      simp only [μ, dif_pos hex]
      exact (Classical.choose_spec hex).1
    refine wp_loop (fun a w => ∃ m, J m a w) μ ⟨m, S, K, n, hI, hs⟩ ?_
    rintro a w ⟨m, hj⟩
    obtain ⟨S1, K1, n1, hI1, hs1⟩ := hμJ m a w hj
    refine wp_mono (h _ S1 hI1 K1 n1 a w hs1) ?_
    rintro e a' w' ⟨K', n', S', h1, h2⟩
    cases e with
    | normal =>
      obtain ⟨m', hlt, hI'⟩ := h1
      have hj' : J m' a' w' := ⟨S', K', n', hI', h2⟩
      exact ⟨⟨m', hj'⟩, Nat.lt_of_le_of_lt (hμ m' a' w' hj') hlt⟩
    | exit id => exact ⟨K', n', S', h1, h2⟩
    | goto id => exact ⟨K', n', S', h1, h2⟩
    | ret => exact ⟨K', n', S', h1, h2⟩
    | panic ch => exact ⟨K', n', S', h1, h2⟩
    | outgrown => exact ⟨K', n', S', h1, h2⟩
  exact key m S K n a w h0 hs
theorem CT.region {id : Nat} {l : List Oper} (h : LT P N K0 w0 l.toArray l S (fun S' => QE .normal S')) : CT P N K0 w0 (.region id l.toArray false) S QE := by
  intro K n a w hs
  refine wp_mono (wp_region_lit (h K n a w hs)) ?_
  rintro e a' w' ⟨rfl, K', n', S', h1, h2⟩
  exact ⟨K', n', S', h1, h2⟩
end
end
end Go.Proofs.Ytkfmammkbmhfaaa
namespace Go.Proofs.Ytkfmammkbmhfaaa
set_option linter.unusedSimpArgs false
set_option linter.unusedVariables false
open Go Go.RowKit

section
variable {P : Program} {N : Nat} {K0 : Know} {w0 : Bas} {S S' : St} {Q : St → Prop} {o : Oper}
variable {d : Option Nat} {ty : TypeId} {pos : String} {aft : Array Edge} {g : Option (Nat × Bool)}

theorem OpH.ret {v : AV} (h : ∀ S' K n a w, Sim N K0 w0 S' K n a w → S'.mem = S.mem → (∀ x ∈ o.op.operands.toList, S'.opv x = S.opv x) → ∃ c, (execOp a.eval o).run P w = .ok (.value c) w ∧ Rep K n v c)
    (hr : ∀ r e k xs, (AV.row r e k xs).of v → ∃ x ∈ o.op.operands.toList, (AV.row r e k xs).of (S.opv x)) : OpH P N K0 w0 o S v := by
  intro S' K n a w hs hb hop
  obtain ⟨c, h1, h2⟩ := h S' K n a w hs hb hop
  unfold Oper.wp
  rw [h1]
  exact ⟨c, K, rfl, Below.refl _ _, Know.le_refl K, hs.ok, fun _ _ _ h _ => h, h2, fun r e k xs hh => by
    obtain ⟨x, hx, hh⟩ := hr r e k xs hh
    rw [← hop x hx] at hh
    exact St.opv_has hh⟩
theorem no_row_val {v : Value} {L : List Operand} (r e k xs) (h : (AV.row r e k xs).of (.val v)) : ∃ x ∈ L, (AV.row r e k xs).of (S.opv x) := by
  rcases h with h | ⟨_, h, _⟩ <;> cases h

theorem OpH.move {x : Operand} {v : AV} (hv : S.opv x = v) : OpH P N K0 w0 ⟨d, .move x, ty, pos, aft, g⟩ S v := by
  subst hv
  exact OpH.ret (fun S' K n a w hs _ hop => ⟨a.eval x, rfl, by rw [← hop x (by simp [Op.operands])]; exact hs.opv x⟩) fun r e k xs h => ⟨x, by simp [Op.operands], h⟩
theorem OpH.assign {x : Operand} {v : AV} (hv : S.opv x = v) : OpH P N K0 w0 ⟨d, .assign x, ty, pos, aft, g⟩ S v := by
  subst hv
  exact OpH.ret (fun S' K n a w hs _ hop => ⟨a.eval x, rfl, by rw [← hop x (by simp [Op.operands])]; exact hs.opv x⟩) fun r e k xs h => ⟨x, by simp [Op.operands], h⟩

def St.ev (S : St) (x : Operand) : Value := match S.opv x with | .val v => v | _ => undef
def AV.isVal : AV → Bool | .val _ => true | _ => false
theorem opv_ev {x : Operand} (h : (S.opv x).isVal = true) : S.opv x = .val (S.ev x) := by
  unfold St.ev
  generalize S.opv x = A at *
  cases A <;> first | rfl | cases h
theorem OpH.bin {op : BinOp} {xt yt : TypeId} {x y : Operand} {v1 v2 v : Value} (h1 : S.opv x = .val v1) (h2 : S.opv y = .val v2)
    (hb : ∀ w, (do eqGuard op xt x y v1 v2; binOp op xt v1 v2 : Sem Value).run P w = .ok v w) : OpH P N K0 w0 ⟨d, .binOp op xt x y yt, ty, pos, aft, g⟩ S (.val v) := by
  refine OpH.ret (fun S' K n a w hs _ hop => ⟨v, ?_, rfl⟩) no_row_val
  have e1 := hs.opv x
  have e2 := hs.opv y
  rw [hop x (by simp [Op.operands]), h1] at e1
  rw [hop y (by simp [Op.operands]), h2] at e2
  have := hb w
  simp only [execOp]
  rw [show a.eval x = v1 from e1, show a.eval y = v2 from e2, Sem.run_bind, this]
  rfl
theorem OpH.un {op : UnOp} {xt : TypeId} {x : Operand} {v1 v : Value} (h1 : S.opv x = .val v1)
    (hb : ∀ w, (Op.unary op v1).run P w = .ok v w) : OpH P N K0 w0 ⟨d, .unOp op xt x, ty, pos, aft, g⟩ S (.val v) := by
  refine OpH.ret (fun S' K n a w hs _ hop => ⟨v, ?_, rfl⟩) no_row_val
  have e1 := hs.opv x
  rw [hop x (by simp [Op.operands]), h1] at e1
  simp only [execOp]
  rw [show a.eval x = v1 from e1, Sem.run_bind, hb w]
  rfl
theorem OpH.field {xt : TypeId} {x : Operand} {f : Nat} {v1 v : Value} (h1 : S.opv x = .val v1)
    (hb : ∀ w, (Instr.field xt v1 f).run P w = .ok v w) : OpH P N K0 w0 ⟨d, .field xt x f, ty, pos, aft, g⟩ S (.val v) := by
  refine OpH.ret (fun S' K n a w hs _ hop => ⟨v, ?_, rfl⟩) no_row_val
  have e1 := hs.opv x
  rw [hop x (by simp [Op.operands]), h1] at e1
  simp only [execOp]
  rw [show a.eval x = v1 from e1, Sem.run_bind, hb w]
  rfl
theorem OpH.pick {c x y : Operand} {b : Bool} {v : AV} (h0 : S.opv c = .val (.bool b)) (hv : (if b then S.opv x else S.opv y) = v) : OpH P N K0 w0 ⟨d, .pick c x y, ty, pos, aft, g⟩ S v := by
  subst hv
  refine OpH.ret (fun S' K n a w hs _ hop => ⟨if b then a.eval x else a.eval y, ?_, ?_⟩) fun r e k xs h => ?_
  · have e1 := hs.opv c
    rw [hop c (by simp [Op.operands]), h0] at e1
    simp only [execOp]
    rw [show a.eval c = .bool b from e1]
    cases b <;> rfl
  · have e1 := hs.opv x
    have e2 := hs.opv y
    rw [hop x (by simp [Op.operands])] at e1
    rw [hop y (by simp [Op.operands])] at e2
    cases b
    · exact e2
    · exact e1
  · cases b
    · exact ⟨y, by simp [Op.operands], h⟩
    · exact ⟨x, by simp [Op.operands], h⟩
theorem OpH.pickV {c x y : Operand} {b : Bool} {v1 v2 : Value} (h0 : S.opv c = .val (.bool b)) (h1 : S.opv x = .val v1) (h2 : S.opv y = .val v2) : OpH P N K0 w0 ⟨d, .pick c x y, ty, pos, aft, g⟩ S (.val (if b then v1 else v2)) :=
  OpH.pick h0 (by rw [h1, h2]; cases b <;> rfl)
theorem OpH.extract {x : Operand} {i : Nat} {vs : List AV} {v : AV} (h0 : S.opv x = .tup vs) (hi : vs[i]? = some v) (hne : ∀ us, v ≠ .tup us) : OpH P N K0 w0 ⟨d, .extract x i, ty, pos, aft, g⟩ S v := by
  refine OpH.ret (fun S' K n a w hs _ hop => ?_) fun r e k xs h => ⟨x, by simp [Op.operands], ?_⟩
  · have e1 := hs.opv x
    rw [hop x (by simp [Op.operands]), h0] at e1
    obtain ⟨cs, e2, h1, h2⟩ := e1
    have hlt : i < cs.size := by rw [h1]; exact (List.getElem?_eq_some_iff.1 hi).1
    have h3 := h2 i v hi
    simp only [Array.getD_eq_getD_getElem?, Array.getElem?_eq_getElem hlt, Option.getD_some] at h3
    refine ⟨cs[i], ?_, Rep.of1 h3⟩
    simp only [execOp]
    rw [e2]
    simp [Instr.extract, Array.getElem?_eq_getElem hlt]
  · rw [h0]
    rcases h with h | ⟨_, h, _⟩
    · exact .inr ⟨vs, rfl, by rw [← h]; exact List.mem_of_getElem? hi⟩
    · exact absurd h (hne _)
theorem OpH.build {t : TypeId} {parts : Array (Nat × Operand)} {cells : Array Value} (hv : parts.all (fun p => (S.opv p.2).isVal) = true) (hb : P.built t (parts.map fun p => (p.1, S.ev p.2)).toList = some cells) :
    OpH P N K0 w0 ⟨d, .build t parts, ty, pos, aft, g⟩ S (.val (.agg cells)) := by
  refine OpH.ret (fun S' K n a w hs _ hop => ⟨.agg cells, ?_, rfl⟩) no_row_val
  have e : (parts.map fun (i, x) => (i, a.eval x)) = parts.map fun p => (p.1, S.ev p.2) := by
    apply Array.map_congr_left
    intro p hp
    obtain ⟨i, x⟩ := p
    have h1 := hs.opv x
    rw [hop x (by simp only [Op.operands]; simp; exact ⟨i, hp⟩)] at h1
    have h2 : (S.opv x).isVal = true := (Array.all_eq_true_iff_forall_mem.1 hv) _ hp
    rw [opv_ev h2] at h1
    show (i, a.eval x) = (i, S.ev x)
    rw [show a.eval x = S.ev x from h1]
  simp only [execOp]
  rw [e, Sem.run_bind, run_build w t _ cells hb]
  rfl

theorem take_some {α : Type} {l : List α} {n i : Nat} {v : α} (h : (l.take n)[i]? = some v) : l[i]? = some v := by
  rw [List.getElem?_take] at h
  split at h
  · exact h
  · cases h
/-! ### Addresses and loads -/
def fieldOff (P : Program) (s : TypeId) (f : Nat) : Option Nat :=
  match P.underlying s with
  | some (.struct fs) => match fs[f]? with
    | some fd => match P.info? fd.type with
      | some i => if i.size = 0 then none else some fd.offset
      | none => none
    | none => none
  | _ => none
theorem run_fieldOff {s : TypeId} {f off : Nat} (h : fieldOff P s f = some off) (b o : Nat) (w : World) : (Instr.fieldAt s (.pointer (some ⟨b, o, none⟩)) f).run P w = .ok (.pointer (some ⟨b, o + off, none⟩)) w := by
  unfold fieldOff at h
  split at h
  · rename_i fs hu
    split at h
    · rename_i fd hf
      split at h
      · rename_i i hi
        split at h
        · cases h
        · rename_i hne
          injection h with h
          subst h
          simp [Instr.fieldAt, run_underlying hu, hf, Instr.sureAddr, fieldPlace, sizeOf, typeInfo, hi, hne, Addr.add_mid]
      · cases h
    · cases h
  · cases h
theorem OpH.fieldC {s : TypeId} {x : Operand} {f off : Nat} {vs : List Value} {v : AV} (h1 : S.opv x = .cptr vs) (hf : fieldOff P s f = some off) (hv : .cptr (vs.drop off) = v) : OpH P N K0 w0 ⟨d, .fieldAddr s x f, ty, pos, aft, g⟩ S v := by
  subst hv
  refine OpH.ret (fun S' K n a w hs _ hop => ?_) (fun r e k xs h => by rcases h with h | ⟨_, h, _⟩ <;> cases h)
  have e1 := hs.opv x
  rw [hop x (by simp [Op.operands]), h1] at e1
  obtain ⟨b, o, e2, h2⟩ := e1
  refine ⟨.pointer (some ⟨b, o + off, none⟩), ?_, ⟨b, o + off, rfl, fun j u hj => ?_⟩⟩
  · simp only [execOp]
    rw [e2, Sem.run_bind, run_fieldOff hf]
    rfl
  · rw [List.getElem?_drop] at hj
    rw [Nat.add_assoc]
    exact h2 _ u hj
theorem OpH.fieldB {s : TypeId} {x : Operand} {f off b o : Nat} {v : AV} (h1 : S.opv x = .ptr b o) (hf : fieldOff P s f = some off) (hv : .ptr b (o + off) = v) : OpH P N K0 w0 ⟨d, .fieldAddr s x f, ty, pos, aft, g⟩ S v := by
  subst hv
  refine OpH.ret (fun S' K n a w hs _ hop => ?_) (fun r e k xs h => by rcases h with h | ⟨_, h, _⟩ <;> cases h)
  have e1 := hs.opv x
  rw [hop x (by simp [Op.operands]), h1] at e1
  obtain ⟨b', hb, e2⟩ := e1
  refine ⟨.pointer (some ⟨b', o + off, none⟩), ?_, ⟨b', hb, rfl⟩⟩
  simp only [execOp]
  rw [e2, Sem.run_bind, run_fieldOff hf]
  rfl
def Slice (K : Know) (k : Nat) (xs : Cells) (c : Value) : Prop := ∃ A cap, c = .slice A xs.length cap ∧ xs.length ≤ cap ∧ (A = none → cap = 0) ∧ Rd K k A xs
inductive AV.Sl : AV → Nat → Cells → Prop
  | sl (k xs) : AV.Sl (.sl k xs) k xs
  | full (k xs) : AV.Sl (.full k xs) k xs
  | row (r e k xs) : AV.Sl (.row r e k xs) k xs
theorem AV.Sl.slice {K : Know} {n : Nm} {A : AV} {k : Nat} {xs : Cells} {c : Value} (h : A.Sl k xs) (hr : Rep K n A c) : Slice K k xs c := by
  cases h with
  | sl => exact hr
  | full => obtain ⟨A, e, h⟩ := hr; exact ⟨A, _, e, Nat.le_refl _, (fun h' => by subst h'; rw [h.none_nil]; rfl), h⟩
  | row => exact hr.2
def elemSize (P : Program) (t : TypeId) : Option Nat :=
  match P.underlying t with
  | some (.slice e) => (P.info? e).map (·.size)
  | _ => none
theorem elemSize_spec {t : TypeId} {k : Nat} (h : elemSize P t = some k) : ∃ e i, P.underlying t = some (.slice e) ∧ P.info? e = some i ∧ i.size = k := by
  unfold elemSize at h
  split at h
  · rename_i e hu
    obtain ⟨i, hi, hk⟩ := Option.map_eq_some_iff.1 h
    exact ⟨e, i, hu, hi, hk⟩
  · cases h
theorem OpH.indexS {t : TypeId} {x y : Operand} {A : AV} {k : Nat} {xs : Cells} {kk : IntKind} {j : Nat} {i : Int} {vs : List Value} {v : AV} (h1 : S.opv x = A) (hA : A.Sl k xs) (h2 : S.opv y = .val (.int kk i)) (hi : i = (j : Int)) (hk : elemSize P t = some k) (hj : xs[j]? = some vs) (hv : .cptr vs = v) :
    OpH P N K0 w0 ⟨d, .indexAddr t x y, ty, pos, aft, g⟩ S v := by
  subst hv hi
  refine OpH.ret (fun S' K n a w hs _ hop => ?_) (fun r e k xs h => by rcases h with h | ⟨_, h, _⟩ <;> cases h)
  have e1 := hs.opv x
  have e2 := hs.opv y
  rw [hop x (by simp [Op.operands]), h1] at e1
  rw [hop y (by simp [Op.operands]), h2] at e2
  obtain ⟨A, cap, e3, _, _, hr⟩ := hA.slice e1
  obtain ⟨_, _, b, o, e4, h3⟩ := hr.2 j vs hj
  subst e4
  obtain ⟨e, ie, hu, hie, hks⟩ := elemSize_spec hk
  have hlt : j < xs.length := (List.getElem?_eq_some_iff.1 hj).1
  refine ⟨.pointer (some ⟨b, o + j * k, none⟩), ?_, ⟨b, o + j * k, rfl, fun i u hu => h3 i u hu⟩⟩
  simp only [execOp]
  rw [e3, show a.eval y = .int kk (j : Int) from e2]
  simp [Instr.indexAt, run_underlying hu, asIntOf, sizeOf, typeInfo, hie, hks, hlt, Addr.add_mid]
def rowSize (P : Program) (t : TypeId) : Option Nat :=
  match P.underlying t with
  | some (.struct _) | some (.array _ _) => (P.info? t).map (·.size)
  | _ => none
def oneSize (P : Program) (t : TypeId) : Bool :=
  match P.underlying t with
  | some (.struct _) | some (.array _ _) | none => false
  | _ => true
theorem run_load_many {t : TypeId} {cs : List Value} (h : rowSize P t = some cs.length) {w : World} {b o : Nat} (hc : w.rangeAt b o cs) : (Instr.loadAt t (.pointer (some ⟨b, o, none⟩))).run P w = .ok (.agg cs.toArray) w := by
  unfold rowSize at h
  split at h
  · rename_i fs hu; exact run_loadAt_mid w b o t cs _ hc hu rfl h
  · rename_i n e hu; exact run_loadAt_mid w b o t cs _ hc hu rfl h
  · cases h
theorem run_load_one {t : TypeId} (h : oneSize P t = true) {w : World} {b o : Nat} {v : Value} (hc : w.cell? ⟨b, o, none⟩ = some v) : (Instr.loadAt t (.pointer (some ⟨b, o, none⟩))).run P w = .ok v w := by
  unfold oneSize at h
  have hagg : (isAgg t).run P w = .ok false w := by
    unfold isAgg
    split at h
    · cases h
    · cases h
    · cases h
    · rename_i d hd
      cases hu : P.underlying t with
      | none => exact absurd hu hd
      | some d => rw [Sem.run_bind, run_underlying hu]; cases d <;> simp_all
  simp [Instr.loadAt, Instr.sureAddr, loadVar, Sem.run_bind, hagg, run_load, hc]
theorem OpH.loadC {t : TypeId} {x : Operand} {vs cs : List Value} {v : AV} (h1 : S.opv x = .cptr vs) (hk : rowSize P t = some cs.length) (hcs : vs.take cs.length = cs) (hv : .val (.agg cs.toArray) = v) : OpH P N K0 w0 ⟨d, .load t x, ty, pos, aft, g⟩ S v := by
  subst hv
  refine OpH.ret (fun S' K n a w hs _ hop => ?_) no_row_val
  have e1 := hs.opv x
  rw [hop x (by simp [Op.operands]), h1] at e1
  obtain ⟨b, o, e2, h2⟩ := e1
  refine ⟨.agg cs.toArray, ?_, rfl⟩
  simp only [execOp]
  rw [e2, Sem.run_bind, run_load_many hk (fun j v hv => hs.ok _ _ _ (h2 j v (by
    rw [← hcs] at hv
    exact take_some hv)))]
  rfl
theorem OpH.loadC1 {t : TypeId} {x : Operand} {u : Value} {vs : List Value} {v : AV} (h1 : S.opv x = .cptr (u :: vs)) (hk : oneSize P t = true) (hv : .val u = v) : OpH P N K0 w0 ⟨d, .load t x, ty, pos, aft, g⟩ S v := by
  subst hv
  refine OpH.ret (fun S' K n a w hs _ hop => ?_) no_row_val
  have e1 := hs.opv x
  rw [hop x (by simp [Op.operands]), h1] at e1
  obtain ⟨b, o, e2, h2⟩ := e1
  refine ⟨u, ?_, rfl⟩
  simp only [execOp]
  rw [e2, Sem.run_bind, run_load_one hk (v := u) (by have := hs.ok _ _ _ (h2 0 u rfl); simpa using this)]
  rfl
def getB : List (Nat × List AV) → Nat → Option (List AV)
  | [], _ => none
  | (s, A) :: l, t => cond (Nat.beq s t) (some A) (getB l t)
theorem getB_mem : ∀ {l : List (Nat × List AV)} {t : Nat} {cs : List AV}, getB l t = some cs → (t, cs) ∈ l
  | [], _, _, h => by cases h
  | (s, A) :: l, t, cs, h => by
    simp only [getB] at h
    cases hb : Nat.beq s t with
    | true => rw [hb] at h; injection h with h; subst h; rw [Nat.eq_of_beq_eq_true hb]; exact List.mem_cons_self
    | false => rw [hb] at h; exact List.mem_cons_of_mem _ (getB_mem h)
def valCells : List AV → Option (List Value)
  | [] => some []
  | .val v :: l => (valCells l).map (v :: ·)
  | _ :: _ => none
theorem valCells_get : ∀ {l : List AV} {vs : List Value}, valCells l = some vs → l.length = vs.length ∧ ∀ (i : Nat) v, vs[i]? = some v → l[i]? = some (.val v)
  | [], vs, h => by injection h with h; subst h; simp
  | .val v :: l, vs, h => by
    simp only [valCells, Option.map_eq_some_iff] at h
    obtain ⟨us, h1, rfl⟩ := h
    obtain ⟨h2, h3⟩ := valCells_get h1
    refine ⟨by simp [h2], fun i u hi => ?_⟩
    cases i with
    | zero => simpa using hi
    | succ i => simpa using h3 i u (by simpa using hi)
  | .dead :: _, _, h => by cases h
  | .sl _ _ :: _, _, h => by cases h
  | .full _ _ :: _, _, h => by cases h
  | .cptr _ :: _, _, h => by cases h
  | .clo _ _ :: _, _, h => by cases h
  | .row _ _ _ _ :: _, _, h => by cases h
  | .ptr _ _ :: _, _, h => by cases h
  | .cloB _ _ :: _, _, h => by cases h
  | .pr _ :: _, _, h => by cases h
  | .arow _ :: _, _, h => by cases h
  | .aptr _ _ _ _ :: _, _, h => by cases h
  | .asub _ _ _ _ :: _, _, h => by cases h
  | .tup _ :: _, _, h => by cases h
theorem OpH.loadB {t : TypeId} {x : Operand} {b o : Nat} {cs : List AV} {vs : List Value} {v : AV} (h1 : S.opv x = .ptr b o) (hb : getB S.boxes b = some cs) (hk : rowSize P t = some vs.length) (hcs : valCells ((cs.drop o).take vs.length) = some vs) (hv : .val (.agg vs.toArray) = v) :
    OpH P N K0 w0 ⟨d, .load t x, ty, pos, aft, g⟩ S v := by
  subst hv
  refine OpH.ret (fun S' K n a w hs hB hop => ?_) no_row_val
  have e1 := hs.opv x
  rw [hop x (by simp [Op.operands]), h1] at e1
  obtain ⟨b', hβ, e2⟩ := e1
  obtain ⟨b2, arr, ty2, hβ2, _, hh, hsz, hc, _⟩ := hs.box b cs (by rw [St.mem_boxes hB]; exact getB_mem hb)
  rw [hβ] at hβ2
  injection hβ2 with hβ2
  subst hβ2
  refine ⟨.agg vs.toArray, ?_, rfl⟩
  simp only [execOp]
  rw [e2, Sem.run_bind, run_load_many hk (fun j v hv => ?_)]
  · rfl
  · obtain ⟨h3, h4⟩ := valCells_get hcs
    have h5 := h4 j v hv
    have h6 := take_some h5
    rw [List.getElem?_drop] at h6
    have h7 := hc _ _ h6
    have hlt : o + j < arr.size := by rw [hsz]; exact (List.getElem?_eq_some_iff.1 h6).1
    simp only [World.cell?, hh]
    simp only [Array.getD_eq_getD_getElem?, Array.getElem?_eq_getElem hlt, Option.getD_some] at h7
    simp only [Option.isSome_none, Bool.false_eq_true, if_false, Array.getElem?_eq_getElem hlt]
    exact congrArg some h7
theorem OpH.loadB1 {t : TypeId} {x : Operand} {b o : Nat} {cs : List AV} {v : AV} (h1 : S.opv x = .ptr b o) (hb : getB S.boxes b = some cs) (hk : oneSize P t = true) (hcs : cs[o]? = some v) :
    OpH P N K0 w0 ⟨d, .load t x, ty, pos, aft, g⟩ S v := by
  intro S' K n a w hs hB hop
  have e1 := hs.opv x
  rw [hop x (by simp [Op.operands]), h1] at e1
  obtain ⟨b', hβ, e2⟩ := e1
  have hm : (b, cs) ∈ S'.boxes := by rw [St.mem_boxes hB]; exact getB_mem hb
  obtain ⟨b2, arr, ty2, hβ2, _, hh, hsz, hc, _⟩ := hs.box b cs hm
  rw [hβ] at hβ2
  injection hβ2 with hβ2
  subst hβ2
  have h7 := hc _ _ hcs
  have hlt : o < arr.size := by rw [hsz]; exact (List.getElem?_eq_some_iff.1 hcs).1
  simp only [Array.getD_eq_getD_getElem?, Array.getElem?_eq_getElem hlt, Option.getD_some] at h7
  unfold Oper.wp
  simp only [execOp]
  rw [e2, Sem.run_bind, run_load_one hk (v := arr[o]) (by simp only [World.cell?, hh]; simp [Array.getElem?_eq_getElem hlt])]
  refine ⟨arr[o], K, rfl, Below.refl _ _, Know.le_refl K, hs.ok, fun _ _ _ h _ => h, Rep.of1 h7, fun r e k xs hh => ?_⟩
  rcases hh with hh | ⟨us, hh, _⟩
  · exact .inr ⟨b, cs, hm, by rw [← hh]; exact List.mem_of_getElem? hcs⟩
  · subst hh; exact h7.elim
end
end Go.Proofs.Ytkfmammkbmhfaaa
namespace Go.Proofs.Ytkfmammkbmhfaaa
set_option linter.unusedSimpArgs false
set_option linter.unusedVariables false
open Go Go.RowKit Go.Shelf

section
variable {P : Program} {N : Nat} {K0 : Know} {w0 : Bas} {S S' : St} {Q : St → Prop} {o : Oper}
variable {d : Option Nat} {ty : TypeId} {pos : String} {aft : Array Edge} {g : Option (Nat × Bool)}

theorem no_row {A : AV} (h1 : ∀ r e k xs, A ≠ .row r e k xs) (h2 : ∀ vs, A ≠ .tup vs) {L : List Operand} (r e k xs) (h : (AV.row r e k xs).of A) : ∃ x ∈ L, (AV.row r e k xs).of (S.opv x) := by
  rcases h with h | ⟨_, h, _⟩
  · exact absurd h (h1 _ _ _ _)
  · exact absurd h (h2 _)
theorem Rd.part {K : Know} {k : Nat} {A : Option Addr} {xs : Cells} (h : Rd K k A xs) (l hi : Nat) : Rd K k (A.map (·.add (l * k))) ((xs.take hi).drop l) := by
  refine ⟨Nat.le_trans (by simp; omega) h.1, fun i x hx => ?_⟩
  rw [List.getElem?_drop] at hx
  obtain ⟨h1, h2, b, off, e, h3⟩ := h.2 (l + i) x (take_some hx)
  refine ⟨h1, h2, b, off + l * k, by rw [e]; simp [Addr.add_mid], fun j u hu => ?_⟩
  rw [show off + l * k + i * k + j = off + (l + i) * k + j by rw [Nat.add_mul]; omega]
  exact h3 j u hu
theorem Rd.nil_ {K : Know} {k : Nat} {A : Option Addr} : Rd K k A [] := ⟨by simp, fun i x h => by simp at h⟩
theorem Slice.part {K : Know} {k : Nat} {xs : Cells} {A : Option Addr} {cap : Nat} (h0 : xs.length ≤ cap) (h1 : A = none → cap = 0) (hr : Rd K k A xs) {l hi : Nat} (hl : l ≤ hi) (hh : hi ≤ xs.length) :
    Slice K k ((xs.take hi).drop l) (.slice (if cap = l then A else A.map (·.add (l * k))) (hi - l) (cap - l)) := by
  have hlen : ((xs.take hi).drop l).length = hi - l := by simp; omega
  refine ⟨_, _, by rw [hlen], by rw [hlen]; omega, fun hA => ?_, ?_⟩
  · split at hA
    · omega
    · cases A with
      | none => rw [h1 rfl]; omega
      | some a => cases hA
  · split
    · rename_i hc
      have : (xs.take hi).drop l = [] := List.eq_nil_of_length_eq_zero (by rw [hlen]; omega)
      rw [this]; exact Rd.nil_
    · exact hr.part l hi
theorem run_sub {t : TypeId} {k : Nat} (hk : elemSize P t = some k) {xs : Cells} {A : Option Addr} {cap : Nat} (h0 : xs.length ≤ cap) {lo hi : Option Value} {l h : Nat} (hlo : lo = none ∧ l = 0 ∨ ∃ kk, lo = some (.int kk (l : Int))) (hhi : hi = none ∧ h = xs.length ∨ ∃ kk, hi = some (.int kk (h : Int)))
    (hl : l ≤ h) (hh : h ≤ xs.length) (w : World) :
    (Instr.sliceAt t (.slice A xs.length cap) lo hi none).run P w = .ok (.slice (if cap = l then A else A.map (·.add (l * k))) (h - l) (cap - l)) w := by
  obtain ⟨e, ie, hu, hie, hks⟩ := elemSize_spec hk
  have e1 : (Instr.sliceBounds true xs.length cap lo hi none).run P w = .ok (l, h, cap) w := by
    rcases hlo with ⟨rfl, rfl⟩ | ⟨kk, rfl⟩ <;> rcases hhi with ⟨rfl, rfl⟩ | ⟨kk', rfl⟩
    · simp [Instr.sliceBounds]
    · simp [Instr.sliceBounds, Instr.sliceBound, asIntOf, show h ≤ cap by omega]
    · simp [Instr.sliceBounds, Instr.sliceBound, asIntOf, hl]
    · simp [Instr.sliceBounds, Instr.sliceBound, asIntOf, show h ≤ cap by omega, hl]
  have e2 : (Instr.sliceAt t (.slice A xs.length cap) lo hi none).run P w = (Instr.slice t (.slice A xs.length cap) lo hi none).run P w := by
    unfold Instr.sliceAt
    rw [Sem.run_bind, run_underlying hu]
    rfl
  rw [e2]
  unfold Instr.slice
  rw [Sem.run_bind, run_underlying hu]
  simp only [Result.andThen_ok]
  rw [Sem.run_bind, e1]
  simp [sizeOf, typeInfo, hie, hks]
def optOp (S : St) (x : Option Operand) (n dflt : Nat) : Prop := (x = none ∧ n = dflt) ∨ ∃ y kk, x = some y ∧ S.opv y = .val (.int kk (n : Int))
theorem OpH.slice {t : TypeId} {x : Operand} {A : AV} {k : Nat} {xs ys : Cells} {lo hi : Option Operand} {l h : Nat} (h1 : S.opv x = A) (hA : A.Sl k xs) (hk : elemSize P t = some k) (hlo : optOp S lo l 0) (hhi : optOp S hi h xs.length)
    (hl : l ≤ h) (hh : h ≤ xs.length) (hy : (xs.take h).drop l = ys) : OpH P N K0 w0 ⟨d, .slice t x lo hi none, ty, pos, aft, g⟩ S (.sl k ys) := by
  subst hy
  refine OpH.ret (fun S' K n a w hs _ hop => ?_) (no_row (by intros; intro h; cases h) (by intros; intro h; cases h))
  have e1 := hs.opv x
  rw [hop x (by simp [Op.operands]), h1] at e1
  obtain ⟨A', cap, e3, h3, h4, hr⟩ := hA.slice e1
  have f1 : lo.map a.eval = none ∧ l = 0 ∨ ∃ kk, lo.map a.eval = some (.int kk (l : Int)) := by
    rcases hlo with ⟨rfl, rfl⟩ | ⟨y, kk, rfl, hy⟩
    · exact .inl ⟨rfl, rfl⟩
    · have e := hs.opv y
      rw [hop y (by simp [Op.operands]), hy] at e
      exact .inr ⟨kk, by rw [Option.map_some, show a.eval y = _ from e]⟩
  have f2 : hi.map a.eval = none ∧ h = xs.length ∨ ∃ kk, hi.map a.eval = some (.int kk (h : Int)) := by
    rcases hhi with ⟨rfl, rfl⟩ | ⟨y, kk, rfl, hy⟩
    · exact .inl ⟨rfl, rfl⟩
    · have e := hs.opv y
      rw [hop y (by simp [Op.operands]), hy] at e
      exact .inr ⟨kk, by rw [Option.map_some, show a.eval y = _ from e]⟩
  refine ⟨_, ?_, Slice.part h3 h4 hr hl hh⟩
  simp only [execOp]
  rw [e3, Sem.run_bind, Option.map_none, run_sub hk h3 f1 f2 hl hh]
  rfl
theorem OpH.len {t : TypeId} {x : Operand} {A : AV} {k : Nat} {xs : Cells} (h1 : S.opv x = A) (hA : A.Sl k xs) (hk : (elemSize P t).isSome = true) : OpH P N K0 w0 ⟨d, .call { callee := .builtin .len, args := #[x], argTypes := #[t] }, ty, pos, aft, g⟩ S (.val (.int .i64 xs.length)) := by
  refine OpH.ret (fun S' K n a w hs _ hop => ?_) no_row_val
  have e1 := hs.opv x
  rw [hop x (by simp [Op.operands, Call.operands]), h1] at e1
  obtain ⟨A', cap, e3, h3, h4, hr⟩ := hA.slice e1
  obtain ⟨k', hk'⟩ := Option.isSome_iff_exists.1 hk
  obtain ⟨e, ie, hu, hie, hks⟩ := elemSize_spec hk'
  refine ⟨_, ?_, rfl⟩
  simp [execOp, resolve, invoke, builtin, e3, Builtin.len_, run_underlying hu, goInt]
theorem OpH.lenNil {t : TypeId} {x : Operand} (h1 : S.opv x = .val (.slice none 0 0)) (hk : (elemSize P t).isSome = true) : OpH P N K0 w0 ⟨d, .call { callee := .builtin .len, args := #[x], argTypes := #[t] }, ty, pos, aft, g⟩ S (.val (.int .i64 0)) := by
  refine OpH.ret (fun S' K n a w hs _ hop => ?_) no_row_val
  have e1 := hs.opv x
  rw [hop x (by simp [Op.operands, Call.operands]), h1] at e1
  obtain ⟨k', hk'⟩ := Option.isSome_iff_exists.1 hk
  obtain ⟨e, ie, hu, hie, hks⟩ := elemSize_spec hk'
  refine ⟨_, ?_, rfl⟩
  simp [execOp, resolve, invoke, builtin, show a.eval x = .slice none 0 0 from e1, Builtin.len_, run_underlying hu, goInt]

/-! ### New blocks that are known whole -/
def Know.plus (K : Know) (b : Nat) (f : Nat → Option Value) : Know := fun b' o => if b' = b then f o else K b' o
theorem Know.plus_at (K : Know) (b : Nat) (f : Nat → Option Value) (o : Nat) : K.plus b f b o = f o := by simp [Know.plus]
theorem Know.plus_le {K : Know} {w : World} (h : K.ok w) (f : Nat → Option Value) : K.le (K.plus w.heap.size f) := fun b o v e => by
  have := Know.lt h e
  unfold Know.plus
  rw [if_neg (by omega)]; exact e
theorem Know.plus_new {K : Know} {B : Nat} (f : Nat → Option Value) : ∀ b o u, K.plus B f b o = some u → b < B → K b o = some u := fun b o u h hlt => by
  unfold Know.plus at h
  rwa [if_neg (by omega)] at h
theorem Know.plus_ok {K : Know} {w : World} (h : K.ok w) (arr : Array Value) (e : TypeId) : (K.plus w.heap.size fun o => arr[o]?).ok (w.alloc (.cells arr e)) := fun b o v hv => by
  unfold Know.plus at hv
  split at hv
  · rename_i hb
    subst hb
    simp only [World.cell?, at_alloc]
    simpa using hv
  · exact Know.below h ((Below.refl _ _).alloc (Nat.le_refl _) _) b o v hv
def oneCells (xs : Cells) : Bool := xs.all fun x => x.all (·.oneCell')
theorem flatten_get : ∀ {xs : Cells} {k : Nat}, (∀ x ∈ xs, x.length = k) → ∀ (i : Nat) x, xs[i]? = some x → ∀ j u, x[j]? = some u → xs.flatten[i * k + j]? = some u
  | [], _, _, i, x, h => by simp at h
  | y :: ys, k, hk, 0, x, h => fun j u hu => by
    simp only [List.getElem?_cons_zero, Option.some.injEq] at h
    subst h
    rw [List.flatten_cons, Nat.zero_mul, Nat.zero_add, List.getElem?_append_left (List.getElem?_eq_some_iff.1 hu).1]
    exact hu
  | y :: ys, k, hk, i + 1, x, h => fun j u hu => by
    have hy : y.length = k := hk y List.mem_cons_self
    rw [List.flatten_cons, List.getElem?_append_right (by rw [hy, Nat.succ_mul]; omega), hy, show (i + 1) * k + j - k = i * k + j by rw [Nat.succ_mul]; omega]
    exact flatten_get (fun x hx => hk x (List.mem_cons_of_mem _ hx)) i x (by simpa using h) j u hu
theorem flatten_len : ∀ {xs : Cells} {k : Nat}, (∀ x ∈ xs, x.length = k) → xs.flatten.length = xs.length * k
  | [], _, _ => by simp
  | y :: ys, k, hk => by
    rw [List.flatten_cons, List.length_append, hk y List.mem_cons_self, flatten_len (fun x hx => hk x (List.mem_cons_of_mem _ hx)), List.length_cons, Nat.succ_mul, Nat.add_comm]
theorem Rd.of_know {K : Know} {k b : Nat} {xs : Cells} (h : ∀ o u, xs.flatten[o]? = some u → K b o = some u) (hk : ∀ x ∈ xs, x.length = k) (h1 : oneCells xs = true) (hl : xs.length ≤ 9223372036854775807) : Rd K k (some ⟨b, 0, none⟩) xs := by
  refine ⟨hl, fun i x hx => ⟨hk x (List.mem_of_getElem? hx), fun u hu => ?_, b, 0, rfl, fun j u hu => h _ u ?_⟩⟩
  · exact List.all_eq_true.1 (List.all_eq_true.1 h1 x (List.mem_of_getElem? hx)) u hu
  · rw [Nat.zero_add]; exact flatten_get hk i x hx j u hu
def litCells (P : Program) (e : TypeId) (len : Nat) (parts : List (Nat × Value)) : Option (Array Value) :=
  match P.info? e with
  | some ie => match ie.zero with
    | some z => if len * ie.size > 2 ^ 24 ∨ len * ie.size = 0 then none else Instr.fill (fun i => some (i * ie.size, ie.size)) ((Array.range (len * ie.size)).map (z.cells[· % z.cells.size]!)) parts
    | none => none
  | none => none
theorem evs_eq {parts : Array (Nat × Operand)} {K : Know} {n : Nm} {a : Act} {w : World} (hs : Sim N K0 w0 S' K n a w) (hop : ∀ p ∈ parts, S'.opv p.2 = S.opv p.2) (hv : parts.all (fun p => (S.opv p.2).isVal) = true) :
    (parts.map fun (i, x) => (i, a.eval x)) = parts.map fun p => (p.1, S.ev p.2) := by
  apply Array.map_congr_left
  intro p hp
  obtain ⟨i, x⟩ := p
  have h1 := hs.opv x
  rw [hop _ hp] at h1
  have h2 : (S.opv x).isVal = true := (Array.all_eq_true_iff_forall_mem.1 hv) _ hp
  rw [opv_ev h2] at h1
  show (i, a.eval x) = (i, S.ev x)
  rw [show a.eval x = S.ev x from h1]
theorem OpH.lit {t e : TypeId} {len k : Nat} {parts : Array (Nat × Operand)} {xs : Cells} (hu : P.underlying t = some (.slice e)) (hv : parts.all (fun p => (S.opv p.2).isVal) = true)
    (hx : (parts.toList.map fun p => (S.ev p.2).cells.toList) = xs) (hc : litCells P e len (parts.map fun p => (p.1, S.ev p.2)).toList = some xs.flatten.toArray) (hl : xs.length = len) (hk : xs.all (fun x => x.length == k) = true) (h1 : oneCells xs = true) :
    OpH P N K0 w0 ⟨d, .buildSlice t len parts, ty, pos, aft, g⟩ S (.full k xs) := by
  clear hx
  subst hl
  intro S' K n a w hs hB hop
  have e0 := evs_eq (S := S) (parts := parts) hs (fun p hp => hop p.2 (by simp only [Op.operands]; simp; exact ⟨p.1, by simpa using hp⟩)) hv
  unfold litCells at hc
  split at hc
  · rename_i ie hie
    split at hc
    · rename_i z hz
      split at hc
      · cases hc
      · rename_i hn
        have hn1 : ¬ xs.length * ie.size > 2 ^ 24 := fun h => hn (.inl h)
        have hn2 : ¬ xs.length * ie.size = 0 := fun h => hn (.inr h)
        have hrun := run_buildSlice w t e xs.length _ xs.flatten.toArray ie z hu hie hz hn1 hn2 hc
        unfold Oper.wp
        simp only [execOp]
        rw [e0, Sem.run_bind, hrun]
        have hk' : ∀ x ∈ xs, x.length = k := fun x hx => by simpa using List.all_eq_true.1 hk x hx
        refine ⟨_, K.plus w.heap.size (fun o => xs.flatten.toArray[o]?), rfl, (Below.refl _ _).alloc (Nat.le_refl _) _, Know.plus_le hs.ok _, Know.plus_ok hs.ok _ _, Know.plus_new _, ⟨_, rfl, ?_⟩, fun r e k xs h => by rcases h with h | ⟨_, h, _⟩ <;> cases h⟩
        refine Rd.of_know (fun o u hu => by rw [Know.plus_at]; simpa using hu) hk' h1 ?_
        have : xs.length ≤ xs.length * ie.size := Nat.le_mul_of_pos_right _ (Nat.pos_of_ne_zero (fun h => hn2 (by rw [h, Nat.mul_zero])))
        have h3 : (2 : Nat) ^ 24 = 16777216 := by decide
        omega
    · cases hc
  · cases hc
end
end Go.Proofs.Ytkfmammkbmhfaaa
