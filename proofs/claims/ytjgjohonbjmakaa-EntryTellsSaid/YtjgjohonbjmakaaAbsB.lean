/- Abstract states and the worlds that they speak of. -/
import Derived.Test.YtjgjohonbjmakaaAbsA
namespace Go.Proofs.Ytjgjohonbjmakaa
set_option linter.unusedSimpArgs false
set_option linter.unusedVariables false
open Go Go.RowKit

structure St where
  tmps : List (Nat × AV)
  boxes : List (Nat × List AV)
def getT : List (Nat × AV) → Nat → AV
  | [], _ => .dead
  | (s, A) :: l, t => cond (Nat.beq s t) A (getT l t)
def St.get (S : St) (t : Nat) : AV := getT S.tmps t
def St.put (S : St) (d : Nat) (A : AV) : St := ⟨(d, A) :: S.tmps, S.boxes⟩
theorem St.get_put (S : St) (d : Nat) (A : AV) (t : Nat) : (S.put d A).get t = if d = t then A else S.get t := by
  simp only [St.get, St.put, getT]
  by_cases h : d = t
  · subst h; simp
  · have hb : Nat.beq d t = false := by
      cases e : Nat.beq d t with
      | false => rfl
      | true => exact absurd (Nat.eq_of_beq_eq_true e) h
    rw [if_neg h, hb]; rfl
/-- An abstract value has a part. -/
def AV.of (A B : AV) : Prop := B = A ∨ ∃ vs, B = .tup vs ∧ A ∈ vs
def St.has (S : St) (A : AV) : Prop := (∃ t, A.of (S.get t)) ∨ ∃ d cs, (d, cs) ∈ S.boxes ∧ A ∈ cs

structure Sim (N : Nat) (K0 : Know) (w0 : World) (S : St) (K : Know) (n : Nm) (a : Act) (w : World) : Prop where
  size : N ≤ a.tmps.size
  defers : a.defers = []
  below : Below w0.heap.size w0 w
  k0 : K0.le K
  knew : ∀ b o u, K b o = some u → b < w0.heap.size → K0 b o = some u
  ok : K.ok w
  tmp : ∀ t, Rep K n (S.get t) (a.tmps.getD t undef)
  box : ∀ d cs, (d, cs) ∈ S.boxes → ∃ b arr ty, n.β d = some b ∧ w0.heap.size ≤ b ∧ w.heap[b]? = some (.cells arr ty) ∧ arr.size = cs.length ∧ (∀ (i : Nat) c, cs[i]? = some c → Rep1 K n c (arr.getD i undef)) ∧ ∀ o, K b o = none
  boxInj : ∀ d cs d' cs' b, (d, cs) ∈ S.boxes → (d', cs') ∈ S.boxes → n.β d = some b → n.β d' = some b → d = d'
  boxOne : ∀ d cs cs', (d, cs) ∈ S.boxes → (d, cs') ∈ S.boxes → cs = cs'
  row : ∀ r e k xs, S.has (.row r e k xs) → w.ownsRow w0.heap.size e k (n.ρ r) xs.length xs.flatten ∧ ∀ g, (n.ρ r).ownBlock = some g → (∀ o u, K g o = some u → o < xs.length * k) ∧ ∀ d cs, (d, cs) ∈ S.boxes → n.β d ≠ some g
  rowInj : ∀ r e k xs r' e' k' xs' g, S.has (.row r e k xs) → S.has (.row r' e' k' xs') → (n.ρ r).ownBlock = some g → (n.ρ r').ownBlock = some g → r = r'

section
variable {N : Nat} {K0 : Know} {w0 : World} {S S' : St} {K K' : Know} {n : Nm} {a : Act} {w w' : World}

theorem below_at {B : Nat} (h : Below B w0 w) (hB : B ≤ w.heap.size) (hb : Below w.heap.size w w') : Below B w0 w' :=
  h.trans (hb.mono hB)
theorem Sim.base (h : Sim N K0 w0 S K n a w) : w0.heap.size ≤ w.heap.size := h.below.size

/-- The world has grown. -/
theorem Sim.grow (h : Sim N K0 w0 S K n a w) (hb : Below w.heap.size w w') (hK : K.le K') (hok : K'.ok w') (hn : ∀ b o u, K' b o = some u → b < w.heap.size → K b o = some u) : Sim N K0 w0 S K' n a w' where
  size := h.size
  defers := h.defers
  below := below_at h.below h.base hb
  k0 := Know.le_trans h.k0 hK
  knew := fun b o u e hlt => h.knew b o u (hn b o u e (Nat.lt_of_lt_of_le hlt h.base)) hlt
  ok := hok
  tmp := fun t => (h.tmp t).mono hK
  box := fun d cs hd => by
    obtain ⟨b, arr, ty, e1, e2, e3, e4, e5, e6⟩ := h.box d cs hd
    have hlt : b < w.heap.size := (Array.getElem?_eq_some_iff.1 e3).1
    refine ⟨b, arr, ty, e1, e2, (hb.block b hlt).trans e3, e4, fun i c hi => (e5 i c hi).mono hK, fun o => ?_⟩
    cases hko : K' b o with
    | none => rfl
    | some u => have := hn b o u hko hlt; rw [e6 o] at this; cases this
  boxInj := h.boxInj
  boxOne := h.boxOne
  row := fun r e k xs hr => by
    obtain ⟨h1, h2⟩ := h.row r e k xs hr
    refine ⟨own_below h1 hb, fun g hg => ⟨fun o u hu => ?_, (h2 g hg).2⟩⟩
    exact (h2 g hg).1 o u (hn g o u hu (h1.lt g hg).2)
  rowInj := h.rowInj

/-- A slot takes a value. -/
theorem Sim.put (h : Sim N K0 w0 S K n a w) {d : Nat} (hd : d < N) {A : AV} {c : Value} (hv : Rep K n A c) (hA : ∀ r e k xs, (AV.row r e k xs).of A → S.has (.row r e k xs)) : Sim N K0 w0 (S.put d A) K n (a.put (some d) c) w := by
  have hh : ∀ r e k xs, (S.put d A).has (.row r e k xs) → S.has (.row r e k xs) := by
    intro r e k xs hr
    rcases hr with ⟨t, ht⟩ | hb
    · rw [St.get_put] at ht
      split at ht
      · exact hA r e k xs ht
      · exact .inl ⟨t, ht⟩
    · exact .inr hb
  have hsz : d < a.tmps.size := Nat.lt_of_lt_of_le hd h.size
  exact {
    size := by simp [Act.put]; exact h.size
    defers := h.defers
    below := h.below
    k0 := h.k0
    knew := h.knew
    ok := h.ok
    tmp := fun t => by
      rw [St.get_put]
      by_cases e : d = t
      · subst e
        rw [if_pos rfl]
        simp only [Act.put, Array.getD_eq_getD_getElem?, Array.getElem?_setIfInBounds, hsz, if_true, Option.getD_some]
        exact hv
      · rw [if_neg e]
        simp only [Act.put, Array.getD_eq_getD_getElem?, Array.getElem?_setIfInBounds, e, if_false]
        have := h.tmp t
        rwa [Array.getD_eq_getD_getElem?] at this
    box := h.box
    boxInj := h.boxInj
    boxOne := h.boxOne
    row := fun r e k xs hr => h.row r e k xs (hh r e k xs hr)
    rowInj := fun r e k xs r' e' k' xs' g h1 h2 => h.rowInj r e k xs r' e' k' xs' g (hh _ _ _ _ h1) (hh _ _ _ _ h2) }

/-- Less is known. -/
def AV.wk1 (A A' : AV) : Prop := A' = A ∨ A' = .dead ∨ (∃ r e k xs, A = .row r e k xs ∧ A' = .sl k xs) ∨ ∃ k xs, A = .full k xs ∧ A' = .sl k xs
def AV.wk (A A' : AV) : Prop := A.wk1 A' ∨ ∃ vs vs', A = .tup vs ∧ A' = .tup vs' ∧ vs.length = vs'.length ∧ ∀ (i : Nat) v v', vs[i]? = some v → vs'[i]? = some v' → v.wk1 v'
theorem AV.wk1.rep1 {A A' : AV} {c : Value} (hw : A.wk1 A') (h : Rep1 K n A c) : Rep1 K n A' c := by
  rcases hw with rfl | rfl | ⟨r, e, k, xs, rfl, rfl⟩ | ⟨k, xs, rfl, rfl⟩
  · exact h
  · trivial
  · exact h.2
  · obtain ⟨A, e, hr⟩ := h; exact ⟨A, _, e, Nat.le_refl _, (fun h => by subst h; rw [hr.none_nil]; rfl), hr⟩
theorem AV.wk.rep {A A' : AV} {c : Value} (hw : A.wk A') (h : Rep K n A c) : Rep K n A' c := by
  rcases hw with h1 | ⟨vs, vs', rfl, rfl, hl, hc⟩
  · rcases h1 with rfl | rfl | ⟨r, e, k, xs, rfl, rfl⟩ | ⟨k, xs, rfl, rfl⟩
    · exact h
    · trivial
    · exact h.2
    · obtain ⟨A, e, hr⟩ := h; exact ⟨A, _, e, Nat.le_refl _, (fun h => by subst h; rw [hr.none_nil]; rfl), hr⟩
  · obtain ⟨cs, e, h1, h2⟩ := h
    refine ⟨cs, e, h1.trans hl, fun i v' hv' => ?_⟩
    have hi : i < vs.length := by rw [hl]; exact (List.getElem?_eq_some_iff.1 hv').1
    exact (hc i _ v' (List.getElem?_eq_getElem hi) hv').rep1 (h2 i _ (List.getElem?_eq_getElem hi))
theorem AV.wk1.row {A : AV} {r e k : Nat} {xs : Cells} (h : A.wk1 (.row r e k xs)) : A = .row r e k xs := by
  rcases h with h | h | ⟨_, _, _, _, _, h⟩ | ⟨_, _, _, h⟩
  · exact h.symm
  all_goals cases h
theorem AV.wk.row {A A' : AV} {r e k : Nat} {xs : Cells} (h : A.wk A') (hr : (AV.row r e k xs).of A') : (AV.row r e k xs).of A := by
  rcases h with h | ⟨vs, vs', rfl, rfl, hl, hc⟩
  · rcases hr with rfl | ⟨vs, rfl, hm⟩
    · exact .inl (AV.wk1.row h)
    · rcases h with h | h | ⟨_, _, _, _, _, h⟩ | ⟨_, _, _, h⟩
      · exact .inr ⟨vs, h.symm, hm⟩
      all_goals cases h
  · rcases hr with h | ⟨us, h, hm⟩
    · cases h
    · injection h with h; subst h
      obtain ⟨i, hi, e1⟩ := List.getElem_of_mem hm
      have hi' : i < vs.length := by rw [hl]; exact hi
      have h2 := hc i _ _ (List.getElem?_eq_getElem hi') (List.getElem?_eq_getElem hi)
      rw [e1] at h2
      exact .inr ⟨vs, rfl, by rw [← AV.wk1.row h2]; exact List.getElem_mem hi'⟩
def St.wk (S S' : St) : Prop := (∀ t, (S.get t).wk (S'.get t)) ∧ ∀ d cs', (d, cs') ∈ S'.boxes → ∃ cs, (d, cs) ∈ S.boxes ∧ cs.length = cs'.length ∧ ∀ (i : Nat) c c', cs[i]? = some c → cs'[i]? = some c' → c.wk1 c'
theorem St.wk.has {r e k : Nat} {xs : Cells} (h : S.wk S') (hr : S'.has (.row r e k xs)) : S.has (.row r e k xs) := by
  rcases hr with ⟨t, ht⟩ | ⟨d, cs', hd, hm⟩
  · exact .inl ⟨t, (h.1 t).row ht⟩
  · obtain ⟨cs, h1, hl, h2⟩ := h.2 d cs' hd
    obtain ⟨i, hi, e1⟩ := List.getElem_of_mem hm
    have hi' : i < cs.length := by rw [hl]; exact hi
    have h3 := h2 i _ _ (List.getElem?_eq_getElem hi') (List.getElem?_eq_getElem hi)
    rw [e1] at h3
    exact .inr ⟨d, cs, h1, by rw [← AV.wk1.row h3]; exact List.getElem_mem hi'⟩
theorem Sim.weak (h : Sim N K0 w0 S K n a w) (hw : S.wk S') (h1 : ∀ d cs cs', (d, cs) ∈ S'.boxes → (d, cs') ∈ S'.boxes → cs = cs') : Sim N K0 w0 S' K n a w where
  size := h.size
  defers := h.defers
  below := h.below
  k0 := h.k0
  knew := h.knew
  ok := h.ok
  tmp := fun t => (hw.1 t).rep (h.tmp t)
  box := fun d cs' hd => by
    obtain ⟨cs, h1, hl, h2⟩ := hw.2 d cs' hd
    obtain ⟨b, arr, ty, e1, e2, e3, e4, e5, e6⟩ := h.box d cs h1
    refine ⟨b, arr, ty, e1, e2, e3, e4.trans hl, fun i c' hi => ?_, e6⟩
    have hi' : i < cs.length := by rw [hl]; exact (List.getElem?_eq_some_iff.1 hi).1
    exact (h2 i _ c' (List.getElem?_eq_getElem hi') hi).rep1 (e5 i _ (List.getElem?_eq_getElem hi'))
  boxInj := fun d cs d' cs' b h1 h2 => by
    obtain ⟨cs1, k1, _⟩ := hw.2 d cs h1
    obtain ⟨cs2, k2, _⟩ := hw.2 d' cs' h2
    exact h.boxInj d cs1 d' cs2 b k1 k2
  boxOne := h1
  row := fun r e k xs hr => by
    obtain ⟨h1, h2⟩ := h.row r e k xs (hw.has hr)
    refine ⟨h1, fun g hg => ⟨(h2 g hg).1, fun d cs' hd => ?_⟩⟩
    obtain ⟨cs, h3, _⟩ := hw.2 d cs' hd
    exact (h2 g hg).2 d cs h3
  rowInj := fun r e k xs r' e' k' xs' g h1 h2 => h.rowInj r e k xs r' e' k' xs' g (hw.has h1) (hw.has h2)
end
end Go.Proofs.Ytjgjohonbjmakaa
