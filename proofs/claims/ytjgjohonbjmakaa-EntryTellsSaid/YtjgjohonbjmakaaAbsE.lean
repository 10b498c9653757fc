/- Slices, literals, calls. -/
import Derived.Test.YtjgjohonbjmakaaAbsD
import Derived.Shelf.Abstract
namespace Go.Proofs.Ytjgjohonbjmakaa
set_option linter.unusedSimpArgs false
set_option linter.unusedVariables false
open Go Go.RowKit Go.Shelf

section
variable {P : Program} {N : Nat} {K0 : Know} {w0 : World} {S S' : St} {Q : St → Prop} {o : Oper}
variable {d : Option Nat} {ty : TypeId} {pos : String} {aft : Array Edge} {g : Option (Nat × Bool)}

theorem no_row {A : AV} (h1 : ∀ r e k xs, A ≠ .row r e k xs) (h2 : ∀ vs, A ≠ .tup vs) {L : List Operand} (r e k xs) (h : (AV.row r e k xs).of A) : ∃ x ∈ L, (AV.row r e k xs).of (S.opv x) := by
  rcases h with h | ⟨_, h, _⟩
  · exact absurd h (h1 _ _ _ _)
  · exact absurd h (h2 _)
theorem Rd.part {K : Know} {k : Nat} {A : Option Addr} {xs : Cells} (h : Rd K k A xs) (l hi : Nat) : Rd K k (A.map (·.add (l * k))) ((xs.take hi).drop l) := by
  refine ⟨Nat.le_trans (by simp; omega) h.1, fun i x hx => ?_⟩
  rw [List.getElem?_drop] at hx
  obtain ⟨h1, h2, b, off, e, h3⟩ := h.2 (l + i) x (take_some hx)
  refine ⟨h1, h2, b, off + l * k, by rw [e]; simp [Addr.add_mid], fun j u hu => ?_⟩
  rw [show off + l * k + i * k + j = off + (l + i) * k + j by rw [Nat.add_mul]; omega]
  exact h3 j u hu
theorem Rd.nil_ {K : Know} {k : Nat} {A : Option Addr} : Rd K k A [] := ⟨by simp, fun i x h => by simp at h⟩
theorem Slice.part {K : Know} {k : Nat} {xs : Cells} {A : Option Addr} {cap : Nat} (h0 : xs.length ≤ cap) (h1 : A = none → cap = 0) (hr : Rd K k A xs) {l hi : Nat} (hl : l ≤ hi) (hh : hi ≤ xs.length) :
    Slice K k ((xs.take hi).drop l) (.slice (if cap = l then A else A.map (·.add (l * k))) (hi - l) (cap - l)) := by
  have hlen : ((xs.take hi).drop l).length = hi - l := by simp; omega
  refine ⟨_, _, by rw [hlen], by rw [hlen]; omega, fun hA => ?_, ?_⟩
  · split at hA
    · omega
    · cases A with
      | none => rw [h1 rfl]; omega
      | some a => cases hA
  · split
    · rename_i hc
      have : (xs.take hi).drop l = [] := List.eq_nil_of_length_eq_zero (by rw [hlen]; omega)
      rw [this]; exact Rd.nil_
    · exact hr.part l hi
theorem run_sub {t : TypeId} {k : Nat} (hk : elemSize P t = some k) {xs : Cells} {A : Option Addr} {cap : Nat} (h0 : xs.length ≤ cap) {lo hi : Option Value} {l h : Nat} (hlo : lo = none ∧ l = 0 ∨ ∃ kk, lo = some (.int kk (l : Int))) (hhi : hi = none ∧ h = xs.length ∨ ∃ kk, hi = some (.int kk (h : Int)))
    (hl : l ≤ h) (hh : h ≤ xs.length) (w : World) :
    (Instr.sliceAt t (.slice A xs.length cap) lo hi none).run P w = .ok (.slice (if cap = l then A else A.map (·.add (l * k))) (h - l) (cap - l)) w := by
  obtain ⟨e, ie, hu, hie, hks⟩ := elemSize_spec hk
  have e1 : (Instr.sliceBounds true xs.length cap lo hi none).run P w = .ok (l, h, cap) w := by
    rcases hlo with ⟨rfl, rfl⟩ | ⟨kk, rfl⟩ <;> rcases hhi with ⟨rfl, rfl⟩ | ⟨kk', rfl⟩
    · simp [Instr.sliceBounds]
    · simp [Instr.sliceBounds, Instr.sliceBound, asIntOf, show h ≤ cap by omega]
    · simp [Instr.sliceBounds, Instr.sliceBound, asIntOf, hl]
    · simp [Instr.sliceBounds, Instr.sliceBound, asIntOf, show h ≤ cap by omega, hl]
  have e2 : (Instr.sliceAt t (.slice A xs.length cap) lo hi none).run P w = (Instr.slice t (.slice A xs.length cap) lo hi none).run P w := by
    unfold Instr.sliceAt
    rw [Sem.run_bind, run_underlying hu]
    rfl
  rw [e2]
  unfold Instr.slice
  rw [Sem.run_bind, run_underlying hu]
  simp only [Result.andThen_ok]
  rw [Sem.run_bind, e1]
  simp [sizeOf, typeInfo, hie, hks]
def optOp (S : St) (x : Option Operand) (n dflt : Nat) : Prop := (x = none ∧ n = dflt) ∨ ∃ y kk, x = some y ∧ S.opv y = .val (.int kk (n : Int))
theorem OpH.slice {t : TypeId} {x : Operand} {A : AV} {k : Nat} {xs ys : Cells} {lo hi : Option Operand} {l h : Nat} (h1 : S.opv x = A) (hA : A.Sl k xs) (hk : elemSize P t = some k) (hlo : optOp S lo l 0) (hhi : optOp S hi h xs.length)
    (hl : l ≤ h) (hh : h ≤ xs.length) (hy : (xs.take h).drop l = ys) : OpH P N K0 w0 ⟨d, .slice t x lo hi none, ty, pos, aft, g⟩ S (.sl k ys) := by
  subst hy
  refine OpH.ret (fun S' K n a w hs _ hop => ?_) (no_row (by intros; intro h; cases h) (by intros; intro h; cases h))
  have e1 := hs.opv x
  rw [hop x (by simp [Op.operands]), h1] at e1
  obtain ⟨A', cap, e3, h3, h4, hr⟩ := hA.slice e1
  have f1 : lo.map a.eval = none ∧ l = 0 ∨ ∃ kk, lo.map a.eval = some (.int kk (l : Int)) := by
    rcases hlo with ⟨rfl, rfl⟩ | ⟨y, kk, rfl, hy⟩
    · exact .inl ⟨rfl, rfl⟩
    · have e := hs.opv y
      rw [hop y (by simp [Op.operands]), hy] at e
      exact .inr ⟨kk, by rw [Option.map_some, show a.eval y = _ from e]⟩
  have f2 : hi.map a.eval = none ∧ h = xs.length ∨ ∃ kk, hi.map a.eval = some (.int kk (h : Int)) := by
    rcases hhi with ⟨rfl, rfl⟩ | ⟨y, kk, rfl, hy⟩
    · exact .inl ⟨rfl, rfl⟩
    · have e := hs.opv y
      rw [hop y (by simp [Op.operands]), hy] at e
      exact .inr ⟨kk, by rw [Option.map_some, show a.eval y = _ from e]⟩
  refine ⟨_, ?_, Slice.part h3 h4 hr hl hh⟩
  simp only [execOp]
  rw [e3, Sem.run_bind, Option.map_none, run_sub hk h3 f1 f2 hl hh]
  rfl
theorem OpH.len {t : TypeId} {x : Operand} {A : AV} {k : Nat} {xs : Cells} (h1 : S.opv x = A) (hA : A.Sl k xs) (hk : (elemSize P t).isSome = true) : OpH P N K0 w0 ⟨d, .call { callee := .builtin .len, args := #[x], argTypes := #[t] }, ty, pos, aft, g⟩ S (.val (.int .i64 xs.length)) := by
  refine OpH.ret (fun S' K n a w hs _ hop => ?_) no_row_val
  have e1 := hs.opv x
  rw [hop x (by simp [Op.operands, Call.operands]), h1] at e1
  obtain ⟨A', cap, e3, h3, h4, hr⟩ := hA.slice e1
  obtain ⟨k', hk'⟩ := Option.isSome_iff_exists.1 hk
  obtain ⟨e, ie, hu, hie, hks⟩ := elemSize_spec hk'
  refine ⟨_, ?_, rfl⟩
  simp [execOp, resolve, invoke, builtin, e3, Builtin.len_, run_underlying hu, goInt]
theorem OpH.lenNil {t : TypeId} {x : Operand} (h1 : S.opv x = .val (.slice none 0 0)) (hk : (elemSize P t).isSome = true) : OpH P N K0 w0 ⟨d, .call { callee := .builtin .len, args := #[x], argTypes := #[t] }, ty, pos, aft, g⟩ S (.val (.int .i64 0)) := by
  refine OpH.ret (fun S' K n a w hs _ hop => ?_) no_row_val
  have e1 := hs.opv x
  rw [hop x (by simp [Op.operands, Call.operands]), h1] at e1
  obtain ⟨k', hk'⟩ := Option.isSome_iff_exists.1 hk
  obtain ⟨e, ie, hu, hie, hks⟩ := elemSize_spec hk'
  refine ⟨_, ?_, rfl⟩
  simp [execOp, resolve, invoke, builtin, show a.eval x = .slice none 0 0 from e1, Builtin.len_, run_underlying hu, goInt]

/-! ### New blocks that are known whole -/
def Know.plus (K : Know) (b : Nat) (f : Nat → Option Value) : Know := fun b' o => if b' = b then f o else K b' o
theorem Know.plus_at (K : Know) (b : Nat) (f : Nat → Option Value) (o : Nat) : K.plus b f b o = f o := by simp [Know.plus]
theorem Know.plus_le {K : Know} {w : World} (h : K.ok w) (f : Nat → Option Value) : K.le (K.plus w.heap.size f) := fun b o v e => by
  have := Know.lt h e
  unfold Know.plus
  rw [if_neg (by omega)]; exact e
theorem Know.plus_new {K : Know} {B : Nat} (f : Nat → Option Value) : ∀ b o u, K.plus B f b o = some u → b < B → K b o = some u := fun b o u h hlt => by
  unfold Know.plus at h
  rwa [if_neg (by omega)] at h
theorem Know.plus_ok {K : Know} {w : World} (h : K.ok w) (arr : Array Value) (e : TypeId) : (K.plus w.heap.size fun o => arr[o]?).ok (w.alloc (.cells arr e)) := fun b o v hv => by
  unfold Know.plus at hv
  split at hv
  · rename_i hb
    subst hb
    simp only [World.cell?, at_alloc]
    simpa using hv
  · exact Know.below h ((Below.refl _ _).alloc (Nat.le_refl _) _) b o v hv
def oneCells (xs : Cells) : Bool := xs.all fun x => x.all (·.oneCell')
theorem flatten_get : ∀ {xs : Cells} {k : Nat}, (∀ x ∈ xs, x.length = k) → ∀ (i : Nat) x, xs[i]? = some x → ∀ j u, x[j]? = some u → xs.flatten[i * k + j]? = some u
  | [], _, _, i, x, h => by simp at h
  | y :: ys, k, hk, 0, x, h => fun j u hu => by
    simp only [List.getElem?_cons_zero, Option.some.injEq] at h
    subst h
    rw [List.flatten_cons, Nat.zero_mul, Nat.zero_add, List.getElem?_append_left (List.getElem?_eq_some_iff.1 hu).1]
    exact hu
  | y :: ys, k, hk, i + 1, x, h => fun j u hu => by
    have hy : y.length = k := hk y List.mem_cons_self
    rw [List.flatten_cons, List.getElem?_append_right (by rw [hy, Nat.succ_mul]; omega), hy, show (i + 1) * k + j - k = i * k + j by rw [Nat.succ_mul]; omega]
    exact flatten_get (fun x hx => hk x (List.mem_cons_of_mem _ hx)) i x (by simpa using h) j u hu
theorem flatten_len : ∀ {xs : Cells} {k : Nat}, (∀ x ∈ xs, x.length = k) → xs.flatten.length = xs.length * k
  | [], _, _ => by simp
  | y :: ys, k, hk => by
    rw [List.flatten_cons, List.length_append, hk y List.mem_cons_self, flatten_len (fun x hx => hk x (List.mem_cons_of_mem _ hx)), List.length_cons, Nat.succ_mul, Nat.add_comm]
theorem Rd.of_know {K : Know} {k b : Nat} {xs : Cells} (h : ∀ o u, xs.flatten[o]? = some u → K b o = some u) (hk : ∀ x ∈ xs, x.length = k) (h1 : oneCells xs = true) (hl : xs.length ≤ 9223372036854775807) : Rd K k (some ⟨b, 0, none⟩) xs := by
  refine ⟨hl, fun i x hx => ⟨hk x (List.mem_of_getElem? hx), fun u hu => ?_, b, 0, rfl, fun j u hu => h _ u ?_⟩⟩
  · exact List.all_eq_true.1 (List.all_eq_true.1 h1 x (List.mem_of_getElem? hx)) u hu
  · rw [Nat.zero_add]; exact flatten_get hk i x hx j u hu
def litCells (P : Program) (e : TypeId) (len : Nat) (parts : List (Nat × Value)) : Option (Array Value) :=
  match P.info? e with
  | some ie => match ie.zero with
    | some z => if len * ie.size > 2 ^ 24 ∨ len * ie.size = 0 then none else Instr.fill (fun i => some (i * ie.size, ie.size)) ((Array.range (len * ie.size)).map (z.cells[· % z.cells.size]!)) parts
    | none => none
  | none => none
theorem evs_eq {parts : Array (Nat × Operand)} {K : Know} {n : Nm} {a : Act} {w : World} (hs : Sim N K0 w0 S' K n a w) (hop : ∀ p ∈ parts, S'.opv p.2 = S.opv p.2) (hv : parts.all (fun p => (S.opv p.2).isVal) = true) :
    (parts.map fun (i, x) => (i, a.eval x)) = parts.map fun p => (p.1, S.ev p.2) := by
  apply Array.map_congr_left
  intro p hp
  obtain ⟨i, x⟩ := p
  have h1 := hs.opv x
  rw [hop _ hp] at h1
  have h2 : (S.opv x).isVal = true := (Array.all_eq_true_iff_forall_mem.1 hv) _ hp
  rw [opv_ev h2] at h1
  show (i, a.eval x) = (i, S.ev x)
  rw [show a.eval x = S.ev x from h1]
theorem OpH.lit {t e : TypeId} {len k : Nat} {parts : Array (Nat × Operand)} {xs : Cells} (hu : P.underlying t = some (.slice e)) (hv : parts.all (fun p => (S.opv p.2).isVal) = true)
    (hx : (parts.toList.map fun p => (S.ev p.2).cells.toList) = xs) (hc : litCells P e len (parts.map fun p => (p.1, S.ev p.2)).toList = some xs.flatten.toArray) (hl : xs.length = len) (hk : xs.all (fun x => x.length == k) = true) (h1 : oneCells xs = true) :
    OpH P N K0 w0 ⟨d, .buildSlice t len parts, ty, pos, aft, g⟩ S (.full k xs) := by
  clear hx
  subst hl
  intro S' K n a w hs hB hop
  have e0 := evs_eq (S := S) (parts := parts) hs (fun p hp => hop p.2 (by simp only [Op.operands]; simp; exact ⟨p.1, by simpa using hp⟩)) hv
  unfold litCells at hc
  split at hc
  · rename_i ie hie
    split at hc
    · rename_i z hz
      split at hc
      · cases hc
      · rename_i hn
        have hn1 : ¬ xs.length * ie.size > 2 ^ 24 := fun h => hn (.inl h)
        have hn2 : ¬ xs.length * ie.size = 0 := fun h => hn (.inr h)
        have hrun := run_buildSlice w t e xs.length _ xs.flatten.toArray ie z hu hie hz hn1 hn2 hc
        unfold Oper.wp
        simp only [execOp]
        rw [e0, Sem.run_bind, hrun]
        have hk' : ∀ x ∈ xs, x.length = k := fun x hx => by simpa using List.all_eq_true.1 hk x hx
        refine ⟨_, K.plus w.heap.size (fun o => xs.flatten.toArray[o]?), rfl, (Below.refl _ _).alloc (Nat.le_refl _) _, Know.plus_le hs.ok _, Know.plus_ok hs.ok _ _, Know.plus_new _, ⟨_, rfl, ?_⟩, fun r e k xs h => by rcases h with h | ⟨_, h, _⟩ <;> cases h⟩
        refine Rd.of_know (fun o u hu => by rw [Know.plus_at]; simpa using hu) hk' h1 ?_
        have : xs.length ≤ xs.length * ie.size := Nat.le_mul_of_pos_right _ (Nat.pos_of_ne_zero (fun h => hn2 (by rw [h, Nat.mul_zero])))
        have h3 : (2 : Nat) ^ 24 = 16777216 := by decide
        omega
    · cases hc
  · cases hc
theorem OpH.lit0 {t e : TypeId} {k : Nat} (hu : P.underlying t = some (.slice e)) (hi : (P.info? e).isSome = true) :
    OpH P N K0 w0 ⟨d, .buildSlice t 0 #[], ty, pos, aft, g⟩ S (.full k []) := by
  intro S' K n a w hs hB hop
  obtain ⟨ie, hie⟩ := Option.isSome_iff_exists.1 hi
  have hrun : (Instr.buildSlice t 0 #[]).run P w = .ok (.slice (some ⟨w.heap.size, 0, none⟩) 0 0) (w.alloc (.cells #[] e)) := by
    simp [Instr.buildSlice, run_underlying hu, sizeOf, typeInfo, hie, newRow, Instr.fill]
    congr 2
    apply Array.eq_empty_of_size_eq_zero
    simp
  unfold Oper.wp
  simp only [execOp, Array.map_empty]
  rw [Sem.run_bind]
  rw [hrun]
  exact ⟨_, K.plus w.heap.size (fun o => (#[] : Array Value)[o]?), rfl, (Below.refl _ _).alloc (Nat.le_refl _) _, Know.plus_le hs.ok _, Know.plus_ok hs.ok _ _, Know.plus_new _, ⟨_, rfl, Rd.nil_⟩, fun r e k xs h => by rcases h with h | ⟨_, h, _⟩ <;> cases h⟩
end
end Go.Proofs.Ytjgjohonbjmakaa
