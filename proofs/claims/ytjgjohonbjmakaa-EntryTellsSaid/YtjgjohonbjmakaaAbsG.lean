/- Boxes; rows that grow. -/
import Derived.Test.YtjgjohonbjmakaaAbsF
import Derived.Maps.AppendAt
namespace Go.Proofs.Ytjgjohonbjmakaa
set_option linter.unusedSimpArgs false
set_option linter.unusedVariables false
open Go Go.RowKit Go.Shelf

def Nm.setβ (n : Nm) (d : Nat) (b : Nat) : Nm := ⟨fun r => if r = d then some b else n.β r, n.ρ⟩
theorem Rep1.setβ {K : Know} {n : Nm} {A : AV} {c : Value} {d b : Nat} (hf : A.free1 d = true) (h : Rep1 K n A c) : Rep1 K (n.setβ d b) A c := by
  cases A with
  | ptr d' o =>
    have : d' ≠ d := by rintro rfl; simp [AV.free1] at hf
    obtain ⟨b', h1, h2⟩ := h
    exact ⟨b', by simp only [Nm.setβ, if_neg this]; exact h1, h2⟩
  | cloB f ds =>
    obtain ⟨ps, e, h1, h2⟩ := h
    refine ⟨ps, e, h1, fun i p d' off hp hd => ?_⟩
    obtain ⟨b', h3, h4⟩ := h2 i p d' off hp hd
    have : d' ≠ d := by
      rintro rfl
      have := List.all_eq_true.1 hf _ (List.mem_of_getElem? hd)
      simp at this
    exact ⟨b', by simp only [Nm.setβ, if_neg this]; exact h3, h4⟩
  | _ => exact h
theorem Rep.setβ {K : Know} {n : Nm} {A : AV} {c : Value} {d b : Nat} (hf : A.free d = true) (h : Rep K n A c) : Rep K (n.setβ d b) A c := by
  cases A with
  | tup vs =>
    obtain ⟨cs, e, h1, h2⟩ := h
    exact ⟨cs, e, h1, fun i v hv => (h2 i v hv).setβ (List.all_eq_true.1 hf v (List.mem_of_getElem? hv))⟩
  | row r e k xs => exact h
  | ptr d' o => exact Rep1.setβ (K := K) (A := .ptr d' o) hf h
  | cloB f ds => exact Rep1.setβ (K := K) (A := .cloB f ds) hf h
  | dead => exact h
  | val v => exact h
  | sl k xs => exact h
  | full k xs => exact h
  | cptr vs => exact h
  | clo f cs => exact h
  | pr p => exact h

section
variable {P : Program} {N : Nat} {K0 : Know} {w0 : World} {S S' : St} {Q : St → Prop} {o : Oper}
variable {d : Option Nat} {ty : TypeId} {pos : String} {aft : Array Edge} {g : Option (Nat × Bool)}

theorem St.free_box {d : Nat} (h : S.free d = true) {b : Nat} {cs : List AV} (hb : (b, cs) ∈ S.boxes) : cs.all (AV.free1 d) = true := by
  simp only [St.free, Bool.and_eq_true] at h
  exact List.all_eq_true.1 h.2 _ hb
/-- A new box. -/
theorem Sim.newBox {K : Know} {n : Nm} {a : Act} {w : World} (h : Sim N K0 w0 S K n a w) {d : Nat} (hd : d < N) (hf : S.free d = true) (hnb : S.boxes.all (fun p => !(Nat.beq p.1 d)) = true) {arr : Array Value} {ty : TypeId} {cs : List AV} (hl : arr.size = cs.length)
    (hc : ∀ (i : Nat) c, cs[i]? = some c → Rep1 K n c (arr.getD i undef)) (hcf : cs.all (AV.free1 d) = true) (hrow : ∀ r e k xs, AV.row r e k xs ∈ cs → S.has (.row r e k xs)) :
    Sim N K0 w0 ⟨(d, .ptr d 0) :: S.tmps, (d, cs) :: S.boxes⟩ K (n.setβ d w.heap.size) (a.put (some d) (.pointer (some ⟨w.heap.size, 0, none⟩))) (w.alloc (.cells arr ty)) := by
  have hg := h.grow (K' := K) (w' := w.alloc (.cells arr ty)) ((Below.refl _ _).alloc (Nat.le_refl _) _) (Know.le_refl K) (Know.below h.ok ((Below.refl _ _).alloc (Nat.le_refl _) _)) (fun _ _ _ h _ => h)
  have hsz : d < a.tmps.size := Nat.lt_of_lt_of_le hd h.size
  have hnb' : ∀ b cs, (b, cs) ∈ S.boxes → b ≠ d := fun b cs hb => by
    rintro rfl
    have := List.all_eq_true.1 hnb _ hb
    simp at this
  have hβ : (n.setβ d w.heap.size).β d = some w.heap.size := by simp [Nm.setβ]
  have hβ' : ∀ b cs, (b, cs) ∈ S.boxes → (n.setβ d w.heap.size).β b = n.β b := fun b cs hb => by simp only [Nm.setβ, if_neg (hnb' b cs hb)]
  have hlt : ∀ b cs, (b, cs) ∈ S.boxes → n.β b ≠ some w.heap.size := fun b cs hb he => by
    obtain ⟨b', arr', ty', q1, _, q3, _⟩ := h.box b cs hb
    rw [he] at q1
    injection q1 with q1
    subst q1
    exact absurd (Array.getElem?_eq_some_iff.1 q3).1 (Nat.lt_irrefl _)
  have hh : ∀ r e k xs, (⟨(d, .ptr d 0) :: S.tmps, (d, cs) :: S.boxes⟩ : St).has (.row r e k xs) → S.has (.row r e k xs) := by
    intro r e k xs hr
    rcases hr with ⟨t, ht⟩ | ⟨b, cs', hb, hm⟩
    · have ht' : (AV.row r e k xs).of ((S.put d (.ptr d 0)).get t) := ht
      rw [St.get_put] at ht'
      split at ht'
      · rcases ht' with ht' | ⟨_, ht', _⟩ <;> cases ht'
      · exact .inl ⟨t, ht'⟩
    · rcases List.mem_cons.1 hb with hb | hb
      · injection hb with e1 e2; subst e2; exact hrow r e k xs hm
      · exact .inr ⟨b, cs', hb, hm⟩
  exact {
    size := by simp [Act.put]; exact h.size
    defers := h.defers
    below := hg.below
    k0 := h.k0
    knew := h.knew
    ok := hg.ok
    tmp := fun t => by
      show Rep K _ ((S.put d (.ptr d 0)).get t) _
      rw [St.get_put]
      by_cases e : d = t
      · subst e
        rw [if_pos rfl]
        simp only [Act.put, Array.getD_eq_getD_getElem?, Array.getElem?_setIfInBounds, hsz, if_true, Option.getD_some]
        exact ⟨_, hβ, rfl⟩
      · rw [if_neg e]
        simp only [Act.put, Array.getD_eq_getD_getElem?, Array.getElem?_setIfInBounds, e, if_false]
        have := (h.tmp t).setβ (b := w.heap.size) (St.free_get hf t)
        rwa [Array.getD_eq_getD_getElem?] at this
    box := fun b cs' hb => by
      rcases List.mem_cons.1 hb with hb | hb
      · injection hb with e1 e2
        subst e1 e2
        refine ⟨w.heap.size, arr, ty, hβ, h.base, at_alloc w _, hl, fun i c hi => (hc i c hi).setβ (List.all_eq_true.1 hcf _ (List.mem_of_getElem? hi)), fun o => ?_⟩
        cases hk : K w.heap.size o with
        | none => rfl
        | some v => exact absurd (Know.lt h.ok hk) (Nat.lt_irrefl _)
      · obtain ⟨b', arr', ty', q1, q2, q3, q4, q5, q6⟩ := hg.box b cs' hb
        exact ⟨b', arr', ty', by rw [hβ' b cs' hb]; exact q1, q2, q3, q4, fun i c hi => (q5 i c hi).setβ (List.all_eq_true.1 (St.free_box hf hb) _ (List.mem_of_getElem? hi)), q6⟩
    boxInj := fun b1 c1 b2 c2 b p1 p2 q3 q4 => by
      rcases List.mem_cons.1 p1 with q1 | q1 <;> rcases List.mem_cons.1 p2 with q2 | q2
      · injection q1 with e1 _; injection q2 with e2 _; rw [e1, e2]
      · injection q1 with e1 _
        rw [e1, hβ] at q3; rw [hβ' _ _ q2, ← q3] at q4; exact absurd q4 (hlt _ _ q2)
      · injection q2 with e2 _
        rw [e2, hβ] at q4; rw [hβ' _ _ q1, ← q4] at q3; exact absurd q3 (hlt _ _ q1)
      · rw [hβ' _ _ q1] at q3; rw [hβ' _ _ q2] at q4; exact h.boxInj b1 c1 b2 c2 b q1 q2 q3 q4
    boxOne := fun b c1 c2 p1 p2 => by
      rcases List.mem_cons.1 p1 with q1 | q1 <;> rcases List.mem_cons.1 p2 with q2 | q2
      · injection q1 with _ e1; injection q2 with _ e2; rw [e1, e2]
      · injection q1 with e1 _; exact absurd e1 (hnb' _ _ q2)
      · injection q2 with e2 _; exact absurd e2 (hnb' _ _ q1)
      · exact h.boxOne b c1 c2 q1 q2
    row := fun r e k xs hr => by
      obtain ⟨q1, q2⟩ := hg.row r e k xs (hh r e k xs hr)
      refine ⟨q1, fun g hg' => ⟨(q2 g hg').1, fun b cs' hb => ?_⟩⟩
      rcases List.mem_cons.1 hb with hb | hb
      · injection hb with e1 _; subst e1
        rw [hβ]
        intro he
        injection he with he
        have := (own_block_lt (h.row r e k xs (hh r e k xs hr)).1 hg').2
        omega
      · rw [hβ' _ _ hb]; exact (q2 g hg').2 b cs' hb
    rowInj := fun r e k xs r' e' k' xs' g q1 q2 => h.rowInj r e k xs r' e' k' xs' g (hh _ _ _ _ q1) (hh _ _ _ _ q2) }
theorem vals_rep {K : Know} {n : Nm} (vs : Array Value) (i : Nat) (c : AV) (h : (vs.toList.map AV.val)[i]? = some c) : Rep1 K n c (vs.getD i undef) := by
  rw [List.getElem?_map, Option.map_eq_some_iff] at h
  obtain ⟨v, hv, rfl⟩ := h
  have hv' : vs[i]? = some v := by simpa using hv
  show vs.getD i undef = v
  simp [Array.getD_eq_getD_getElem?, hv']
theorem vals_free {d : Nat} (vs : List Value) : (vs.map AV.val).all (AV.free1 d) = true := by
  simp [AV.free1]
theorem vals_row (vs : List Value) {r e k : Nat} {xs : Cells} (h : AV.row r e k xs ∈ vs.map AV.val) : False := by
  obtain ⟨v, _, h⟩ := List.mem_map.1 h; cases h
theorem OpT.box {e : TypeId} {x : Operand} {d : Nat} {v : Value} {cs : List AV} (h1 : S.opv x = .val v) (hcs : v.cells.toList.map AV.val = cs) (hd : d < N) (hf : S.free d = true) (hnb : S.boxes.all (fun p => !(Nat.beq p.1 d)) = true) (hq : Q ⟨(d, .ptr d 0) :: S.tmps, (d, cs) :: S.boxes⟩) :
    OpT P N K0 w0 ⟨some d, .box e x, ty, pos, aft, g⟩ S Q := by
  subst hcs
  intro K n a w hs
  have e1 := hs.opv x
  rw [h1] at e1
  unfold Oper.wp
  simp only [execOp]
  rw [show a.eval x = v from e1]
  exact ⟨K, _, _, hq, hs.newBox hd hf hnb (by simp) (vals_rep v.cells) (vals_free _) (fun r e k xs h => (vals_row _ h).elim)⟩
theorem OpT.boxS {e : TypeId} {x : Operand} {d : Nat} {A : AV} {k : Nat} {xs : Cells} (h1 : S.opv x = A) (hA : A.Sl k xs) (hd : d < N) (hf : S.free d = true) (hnb : S.boxes.all (fun p => !(Nat.beq p.1 d)) = true) (hq : Q ⟨(d, .ptr d 0) :: S.tmps, (d, [.sl k xs]) :: S.boxes⟩) :
    OpT P N K0 w0 ⟨some d, .box e x, ty, pos, aft, g⟩ S Q := by
  intro K n a w hs
  have e1 := hs.opv x
  rw [h1] at e1
  obtain ⟨A', cap, e3, h3, h4, hr⟩ := hA.slice e1
  unfold Oper.wp
  simp only [execOp]
  rw [e3]
  refine ⟨K, _, _, hq, hs.newBox hd hf hnb (arr := #[.slice A' xs.length cap]) (by simp) (fun i c hi => ?_) rfl (fun r e k xs h => by simp at h)⟩
  cases i with
  | zero => simp at hi; subst hi; exact ⟨A', cap, rfl, h3, h4, hr⟩
  | succ i => simp at hi
theorem OpT.alloc {e : TypeId} {d : Nat} {z : Value} {cs : List AV} (hz : ((P.info? e).bind (·.zero)) = some z) (hcs : z.cells.toList.map AV.val = cs) (hd : d < N) (hf : S.free d = true) (hnb : S.boxes.all (fun p => !(Nat.beq p.1 d)) = true) (hq : Q ⟨(d, .ptr d 0) :: S.tmps, (d, cs) :: S.boxes⟩) :
    OpT P N K0 w0 ⟨some d, .alloc e, ty, pos, aft, g⟩ S Q := by
  subst hcs
  intro K n a w hs
  cases hi : P.info? e with
  | none => simp [hi] at hz
  | some i =>
    have hz' : i.zero = some z := by simpa [hi] using hz
    have hrun : (Instr.alloc e true (.tuple #[])).run P w = .ok (.pointer (some ⟨w.heap.size, 0, none⟩)) (w.alloc (.cells z.cells e)) := by
      simp [Instr.alloc, zeroValue, typeInfo, hi, hz', newVar, newRow]
    unfold Oper.wp
    simp only [execOp]
    rw [Sem.run_bind, hrun]
    exact ⟨K, _, _, hq, hs.newBox hd hf hnb (by simp) (vals_rep z.cells) (vals_free _) (fun r e k xs h => (vals_row _ h).elim)⟩

/-! ### Stores into boxes -/
def setA : Array Value → Nat → List Value → Array Value
  | arr, _, [] => arr
  | arr, o, v :: r => setA (arr.setIfInBounds o v) (o + 1) r
theorem setA_size : ∀ (vs : List Value) (arr : Array Value) (o : Nat), (setA arr o vs).size = arr.size
  | [], _, _ => rfl
  | v :: r, arr, o => by rw [setA, setA_size r]; simp
theorem setA_get : ∀ (vs : List Value) (arr : Array Value) (o i : Nat), o + vs.length ≤ arr.size → (setA arr o vs)[i]? = if o ≤ i ∧ i < o + vs.length then vs[i - o]? else arr[i]?
  | [], arr, o, i, _ => by simp [setA]; intro h1 h2; omega
  | v :: r, arr, o, i, h => by
    simp only [List.length_cons] at h
    rw [setA, setA_get r _ (o + 1) i (by simp; omega)]
    by_cases h1 : o + 1 ≤ i ∧ i < o + 1 + r.length
    · rw [if_pos h1, if_pos (by simp; omega), show i - o = (i - (o + 1)) + 1 by omega]
      simp
    · rw [if_neg h1, Array.getElem?_setIfInBounds]
      by_cases h2 : o = i
      · subst h2
        rw [if_pos rfl, if_pos (by omega), if_pos (by simp)]
        simp
      · rw [if_neg h2, if_neg (by simp; omega)]
theorem setCells_block {b : Nat} {ty : TypeId} {fr : Nat × Nat} : ∀ (vs : List Value) (o : Nat) (w : World) (arr : Array Value), w.heap[b]? = some (.cells arr ty fr) → (w.setCells b o vs).heap[b]? = some (.cells (setA arr o vs) ty fr)
  | [], _, _, _, h => h
  | v :: r, o, w, arr, h => by
    rw [World.setCells, setA]
    refine setCells_block r (o + 1) _ _ ?_
    simp only [World.setCell, Array.getElem?_modify, if_true, h, Option.map_some]
    simp
theorem setCells_other {b : Nat} : ∀ (vs : List Value) (o : Nat) (w : World) (k : Nat), k ≠ b → (w.setCells b o vs).heap[k]? = w.heap[k]?
  | [], _, _, _, _ => rfl
  | v :: r, o, w, k, h => by
    rw [World.setCells, setCells_other r _ _ k h]
    exact Below.heap_setCell w ⟨b, o, none⟩ v k h
theorem setCells_rest {b : Nat} : ∀ (vs : List Value) (o : Nat) (w : World), (w.setCells b o vs).heap.size = w.heap.size ∧ (w.setCells b o vs).os = w.os ∧ (w.setCells b o vs).tape = w.tape ∧ (w.setCells b o vs).output = w.output
  | [], _, _ => ⟨rfl, rfl, rfl, rfl⟩
  | v :: r, o, w => by
    obtain ⟨h1, h2, h3, h4⟩ := setCells_rest (b := b) r (o + 1) (w.setCell ⟨b, o, none⟩ v)
    rw [World.setCells]
    exact ⟨h1.trans (by simp), h2, h3, h4⟩
def setBx (l : List (Nat × List AV)) (t : Nat) (cs : List AV) : List (Nat × List AV) := l.map fun p => cond (Nat.beq p.1 t) (p.1, cs) p
theorem setBx_mem {l : List (Nat × List AV)} {t : Nat} {cs : List AV} {b : Nat} {cs' : List AV} (h : (b, cs') ∈ setBx l t cs) : ∃ c, (b, c) ∈ l ∧ ((b = t ∧ cs' = cs) ∨ (b ≠ t ∧ c = cs')) := by
  obtain ⟨⟨s, A⟩, hm, h⟩ := List.mem_map.1 h
  cases hb : Nat.beq s t with
  | true =>
    rw [hb] at h
    injection h with e1 e2
    subst e1 e2
    exact ⟨A, hm, .inl ⟨Nat.eq_of_beq_eq_true hb, rfl⟩⟩
  | false =>
    rw [hb] at h
    injection h with e1 e2
    subst e1 e2
    exact ⟨A, hm, .inr ⟨fun e => by rw [e] at hb; simp at hb, rfl⟩⟩
/-- A store into a box. -/
theorem Sim.store {K : Know} {n : Nm} {a : Act} {w : World} (h : Sim N K0 w0 S K n a w) {d o : Nat} {cs cs' : List AV} {vs : List Value} {b : Nat} (hβ : n.β d = some b) (hm : (d, cs) ∈ S.boxes) (ho : o + vs.length ≤ cs.length) (hl : cs'.length = cs.length)
    (hin : ∀ (i : Nat) c v, cs'[o + i]? = some c → vs[i]? = some v → Rep1 K n c v) (hout : ∀ (i : Nat) c, cs'[i]? = some c → (i < o ∨ o + vs.length ≤ i) → cs[i]? = some c) (hrow : ∀ r e k xs, AV.row r e k xs ∈ cs' → S.has (.row r e k xs)) :
    Sim N K0 w0 ⟨S.tmps, setBx S.boxes d cs'⟩ K n a (w.setCells b o vs) := by
  obtain ⟨b', arr, ty, q1, q2, q3, q4, q5, q6⟩ := h.box d cs hm
  rw [hβ] at q1
  injection q1 with q1
  subst q1
  obtain ⟨r1, r2, r3, r4⟩ := setCells_rest (b := b) vs o w
  have hblk : ∀ k, k ≠ b → (w.setCells b o vs).heap[k]? = w.heap[k]? := fun k hk => setCells_other vs o w k hk
  have hh : ∀ r e k xs, (⟨S.tmps, setBx S.boxes d cs'⟩ : St).has (.row r e k xs) → S.has (.row r e k xs) := by
    intro r e k xs hr
    rcases hr with ht | ⟨b2, c2, hb, hm2⟩
    · exact .inl ht
    · obtain ⟨c, hc, ⟨rfl, rfl⟩ | ⟨_, rfl⟩⟩ := setBx_mem hb
      · exact hrow r e k xs hm2
      · exact .inr ⟨b2, c, hc, hm2⟩
  exact {
    size := h.size
    defers := h.defers
    below := h.below.trans ⟨r2, r3, r4, by rw [r1]; exact Nat.le_refl _, fun k hk => hblk k (by omega)⟩
    k0 := h.k0
    knew := h.knew
    ok := fun b2 o2 v hv => by
      have hne : b2 ≠ b := fun e => by rw [e, q6 o2] at hv; cases hv
      have := h.ok b2 o2 v hv
      simp only [World.cell?, hblk b2 hne] at this ⊢
      exact this
    tmp := h.tmp
    box := fun d2 c2 hb => by
      obtain ⟨c, hc, ⟨rfl, rfl⟩ | ⟨hne, rfl⟩⟩ := setBx_mem hb
      · refine ⟨b, setA arr o vs, ty, hβ, q2, setCells_block vs o w arr q3, by rw [setA_size, hl, q4], fun i c hi => ?_, q6⟩
        have hget := setA_get vs arr o i (by rw [q4]; exact ho)
        rw [Array.getD_eq_getD_getElem?, hget]
        by_cases hin' : o ≤ i ∧ i < o + vs.length
        · rw [if_pos hin']
          have hlt : i - o < vs.length := by omega
          rw [List.getElem?_eq_getElem hlt]
          exact hin (i - o) c _ (by rw [show o + (i - o) = i by omega]; exact hi) (List.getElem?_eq_getElem hlt)
        · rw [if_neg hin']
          have := q5 i c (hout i c hi (by omega))
          rwa [Array.getD_eq_getD_getElem?] at this
      · obtain ⟨b3, arr3, ty3, p1, p2, p3, p4, p5, p6⟩ := h.box d2 c hc
        refine ⟨b3, arr3, ty3, p1, p2, ?_, p4, p5, p6⟩
        rw [hblk b3 (fun e => hne (h.boxInj d2 c d cs b hc hm (by rw [p1, e]) hβ))]
        exact p3
    boxInj := fun d1 c1 d2 c2 b2 p1 p2 => by
      obtain ⟨e1, h1, _⟩ := setBx_mem p1
      obtain ⟨e2, h2, _⟩ := setBx_mem p2
      exact h.boxInj d1 e1 d2 e2 b2 h1 h2
    boxOne := fun d1 c1 c2 p1 p2 => by
      obtain ⟨e1, h1, ⟨rfl, rfl⟩ | ⟨n1, rfl⟩⟩ := setBx_mem p1 <;> obtain ⟨e2, h2, ⟨k1, k2⟩ | ⟨n2, rfl⟩⟩ := setBx_mem p2
      · exact k2.symm
      · exact absurd rfl n2
      · exact absurd k1 n1
      · exact h.boxOne d1 e1 e2 h1 h2
    row := fun r e k xs hr => by
      obtain ⟨p1, p2⟩ := h.row r e k xs (hh r e k xs hr)
      have hne : ∀ g, (n.ρ r).ownBlock = some g → g ≠ b := fun g hg e => (p2 g hg).2 d cs hm (by rw [hβ, e])
      refine ⟨⟨p1.1, ?_⟩, fun g hg => ⟨(p2 g hg).1, fun d2 c2 hb => ?_⟩⟩
      · rcases p1.2 with p1 | ⟨g, cap, cur, u1, u2, u3, u4⟩
        · exact .inl p1
        · exact .inr ⟨g, cap, cur, u1, u2, by rw [hblk g (hne g (by rw [u1]; rfl))]; exact u3, u4⟩
      · obtain ⟨c, hc, _⟩ := setBx_mem hb
        exact (p2 g hg).2 d2 c hc
    rowInj := fun r e k xs r' e' k' xs' g p1 p2 => h.rowInj r e k xs r' e' k' xs' g (hh _ _ _ _ p1) (hh _ _ _ _ p2) }
theorem run_storeV {t : TypeId} {v : Value} (hk : (P.info? t).map (·.size) = some v.cells.size) (h1 : v.cells.all (·.oneCell') = true) {w : World} {b o : Nat} {arr : Array Value} {ty : TypeId} (hh : w.heap[b]? = some (.cells arr ty)) (ho : o + v.cells.size ≤ arr.size) :
    (Instr.storeAt t (.pointer (some ⟨b, o, none⟩)) v).run P w = .ok () (w.setCells b o v.cells.toList) := by
  have hcell : ∀ j, j < v.cells.toList.length → (w.cell? ⟨b, o + 0 + j, none⟩).isSome = true := fun j hj => by
    simp only [World.cell?, hh]
    have : o + j < arr.size := by simp at hj; omega
    simp [this]
  have hfz : ∀ j, j < v.cells.toList.length → w.frozen? ⟨b, o + 0 + j, none⟩ = false := fun j hj => by
    simp [World.frozen?, hh]
  have := run_storeCells_cells (P := P) b o v.cells.toList 0 w hcell hfz (fun u hu => (Array.all_eq_true_iff_forall_mem.1 h1) u (by simpa using hu))
  cases hq : P.info? t with
  | none => simp [hq] at hk
  | some i =>
    have hs : v.cells.size = i.size := by simp [hq] at hk; omega
    simp only [Nat.add_zero] at this
    simp [Instr.storeAt, Instr.sureAddr, storeVar, sizeOf, typeInfo, hq, hs, this]
theorem OpT.store {t : TypeId} {x y : Operand} {b o : Nat} {v : Value} {cs cs' : List AV} (h1 : S.opv x = .ptr b o) (h2 : S.opv y = .val v) (hb : getB S.boxes b = some cs) (hk : (P.info? t).map (·.size) = some v.cells.size) (ho1 : v.cells.all (·.oneCell') = true) (ho : o + v.cells.size ≤ cs.length)
    (hcs : cs.take o ++ v.cells.toList.map AV.val ++ cs.drop (o + v.cells.size) = cs') {bs : List (Nat × List AV)} (hbs : setBx S.boxes b cs' = bs) (hq : Q ⟨S.tmps, bs⟩) : OpT P N K0 w0 ⟨none, .store t x y, ty, pos, aft, g⟩ S Q := by
  subst hbs
  intro K n a w hs
  have e1 := hs.opv x
  have e2 := hs.opv y
  rw [h1] at e1
  rw [h2] at e2
  obtain ⟨b', hβ, e1⟩ := e1
  have hm := getB_mem hb
  obtain ⟨b2, arr, ty2, q1, q2, q3, q4, q5, q6⟩ := hs.box b cs hm
  rw [hβ] at q1
  injection q1 with q1
  subst q1
  unfold Oper.wp
  simp only [execOp]
  rw [e1, show a.eval y = v from e2, Sem.run_bind, run_storeV hk ho1 q3 (by rw [q4]; exact ho)]
  have hlen : cs'.length = cs.length := by rw [← hcs]; simp; omega
  have hput : a.put none undef = a := rfl
  refine ⟨K, n, _, hq, hs.store hβ hm (by simpa using ho) hlen (fun i c u hi hu => ?_) (fun i c hi hio => ?_) (fun r e k xs h => ?_)⟩
  · rw [← hcs, List.append_assoc, List.getElem?_append_right (by simp; omega)] at hi
    have hlo : (cs.take o).length = o := by simp; omega
    rw [hlo, show o + i - o = i by omega, List.getElem?_append_left (by simp; have := (List.getElem?_eq_some_iff.1 hu).1; simpa using this), List.getElem?_map, hu] at hi
    simp at hi
    subst hi
    exact rfl
  · rw [← hcs, List.append_assoc] at hi
    have hlo : (cs.take o).length = o := by simp; omega
    rcases hio with hio | hio
    · rw [List.getElem?_append_left (by rw [hlo]; exact hio)] at hi
      exact take_some hi
    · simp at hio
      rw [List.getElem?_append_right (by rw [hlo]; omega), hlo, List.getElem?_append_right (by simp; omega), List.getElem?_drop] at hi
      simp at hi
      rwa [show o + v.cells.size + (i - o - v.cells.size) = i by omega] at hi
  · rw [← hcs] at h
    rcases List.mem_append.1 h with h | h
    · rcases List.mem_append.1 h with h | h
      · exact .inr ⟨b, cs, hm, List.mem_of_mem_take h⟩
      · exact (vals_row _ h).elim
    · exact .inr ⟨b, cs, hm, List.mem_of_mem_drop h⟩
end
end Go.Proofs.Ytjgjohonbjmakaa
