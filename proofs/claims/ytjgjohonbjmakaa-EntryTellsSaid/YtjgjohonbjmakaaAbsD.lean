/- Operations that give one slot a value. -/
import Derived.Test.YtjgjohonbjmakaaAbsC
import Derived.Test.YtjgjohonbjmakaaApp
import Derived.Deep.MidRow
import Derived.Great.BuildSlice
import Derived.WalkKit
import Derived.WalkSpells
import Derived.WalkLawsBesides
namespace Go.Proofs.Ytjgjohonbjmakaa
set_option linter.unusedSimpArgs false
set_option linter.unusedVariables false
open Go Go.RowKit

section
variable {P : Program} {N : Nat} {K0 : Know} {w0 : World} {S S' : St} {Q : St → Prop} {o : Oper}
variable {d : Option Nat} {ty : TypeId} {pos : String} {aft : Array Edge} {g : Option (Nat × Bool)}

theorem OpH.ret {v : AV} (h : ∀ S' K n a w, Sim N K0 w0 S' K n a w → S'.boxes = S.boxes → (∀ x ∈ o.op.operands.toList, S'.opv x = S.opv x) → ∃ c, (execOp a.eval o).run P w = .ok (.value c) w ∧ Rep K n v c)
    (hr : ∀ r e k xs, (AV.row r e k xs).of v → ∃ x ∈ o.op.operands.toList, (AV.row r e k xs).of (S.opv x)) : OpH P N K0 w0 o S v := by
  intro S' K n a w hs hb hop
  obtain ⟨c, h1, h2⟩ := h S' K n a w hs hb hop
  unfold Oper.wp
  rw [h1]
  exact ⟨c, K, rfl, Below.refl _ _, Know.le_refl K, hs.ok, fun _ _ _ h _ => h, h2, fun r e k xs hh => by
    obtain ⟨x, hx, hh⟩ := hr r e k xs hh
    rw [← hop x hx] at hh
    exact St.opv_has hh⟩
theorem no_row_val {v : Value} {L : List Operand} (r e k xs) (h : (AV.row r e k xs).of (.val v)) : ∃ x ∈ L, (AV.row r e k xs).of (S.opv x) := by
  rcases h with h | ⟨_, h, _⟩ <;> cases h

theorem OpH.move {x : Operand} {v : AV} (hv : S.opv x = v) : OpH P N K0 w0 ⟨d, .move x, ty, pos, aft, g⟩ S v := by
  subst hv
  exact OpH.ret (fun S' K n a w hs _ hop => ⟨a.eval x, rfl, by rw [← hop x (by simp [Op.operands])]; exact hs.opv x⟩) fun r e k xs h => ⟨x, by simp [Op.operands], h⟩
theorem OpH.assign {x : Operand} {v : AV} (hv : S.opv x = v) : OpH P N K0 w0 ⟨d, .assign x, ty, pos, aft, g⟩ S v := by
  subst hv
  exact OpH.ret (fun S' K n a w hs _ hop => ⟨a.eval x, rfl, by rw [← hop x (by simp [Op.operands])]; exact hs.opv x⟩) fun r e k xs h => ⟨x, by simp [Op.operands], h⟩

/-- The values of operands that are known whole. -/
def St.ev (S : St) (x : Operand) : Value := match S.opv x with | .val v => v | _ => undef
def AV.isVal : AV → Bool | .val _ => true | _ => false
theorem opv_ev {x : Operand} (h : (S.opv x).isVal = true) : S.opv x = .val (S.ev x) := by
  unfold St.ev
  generalize S.opv x = A at *
  cases A <;> first | rfl | cases h
theorem OpH.pval {v : Value} (hs : ∀ cs b, o.op ≠ .select cs b) (hv : o.op.operands.all (fun x => (S.opv x).isVal) = true) (hrun : ∀ w, (execOp S.ev o).run P w = .ok (.value v) w) : OpH P N K0 w0 o S (.val v) := by
  refine OpH.ret (fun S' K n a w h _ hop => ⟨v, ?_, rfl⟩) no_row_val
  rw [execOp_congr (ρ' := S.ev) o hs (fun x hx => ?_)]
  · exact hrun w
  · have h1 := hop x (by simpa using hx)
    have h2 : (S.opv x).isVal = true := (Array.all_eq_true_iff_forall_mem.1 hv) x hx
    have h3 := h.opv x
    rw [h1, opv_ev h2] at h3
    exact h3
theorem OpH.bin {op : BinOp} {xt yt : TypeId} {x y : Operand} {v1 v2 v : Value} (h1 : S.opv x = .val v1) (h2 : S.opv y = .val v2)
    (hb : ∀ w, (do eqGuard op xt x y v1 v2; binOp op xt v1 v2 : Sem Value).run P w = .ok v w) : OpH P N K0 w0 ⟨d, .binOp op xt x y yt, ty, pos, aft, g⟩ S (.val v) := by
  refine OpH.ret (fun S' K n a w hs _ hop => ⟨v, ?_, rfl⟩) no_row_val
  have e1 := hs.opv x
  have e2 := hs.opv y
  rw [hop x (by simp [Op.operands]), h1] at e1
  rw [hop y (by simp [Op.operands]), h2] at e2
  have := hb w
  simp only [execOp]
  rw [show a.eval x = v1 from e1, show a.eval y = v2 from e2, Sem.run_bind, this]
  rfl
theorem OpH.un {op : UnOp} {xt : TypeId} {x : Operand} {v1 v : Value} (h1 : S.opv x = .val v1)
    (hb : ∀ w, (Op.unary op v1).run P w = .ok v w) : OpH P N K0 w0 ⟨d, .unOp op xt x, ty, pos, aft, g⟩ S (.val v) := by
  refine OpH.ret (fun S' K n a w hs _ hop => ⟨v, ?_, rfl⟩) no_row_val
  have e1 := hs.opv x
  rw [hop x (by simp [Op.operands]), h1] at e1
  simp only [execOp]
  rw [show a.eval x = v1 from e1, Sem.run_bind, hb w]
  rfl
theorem OpH.conv {src dst : TypeId} {x : Operand} {v1 v : Value} (h1 : S.opv x = .val v1)
    (hb : ∀ w, (convert src dst v1).run P w = .ok v w) : OpH P N K0 w0 ⟨d, .convert src dst x, ty, pos, aft, g⟩ S (.val v) := by
  refine OpH.ret (fun S' K n a w hs _ hop => ⟨v, ?_, rfl⟩) no_row_val
  have e1 := hs.opv x
  rw [hop x (by simp [Op.operands]), h1] at e1
  simp only [execOp]
  rw [show a.eval x = v1 from e1, Sem.run_bind, hb w]
  rfl
theorem OpH.field {xt : TypeId} {x : Operand} {f : Nat} {v1 v : Value} (h1 : S.opv x = .val v1)
    (hb : ∀ w, (Instr.field xt v1 f).run P w = .ok v w) : OpH P N K0 w0 ⟨d, .field xt x f, ty, pos, aft, g⟩ S (.val v) := by
  refine OpH.ret (fun S' K n a w hs _ hop => ⟨v, ?_, rfl⟩) no_row_val
  have e1 := hs.opv x
  rw [hop x (by simp [Op.operands]), h1] at e1
  simp only [execOp]
  rw [show a.eval x = v1 from e1, Sem.run_bind, hb w]
  rfl
theorem OpH.index {xt : TypeId} {x y : Operand} {v1 v2 v : Value} (h1 : S.opv x = .val v1) (h2 : S.opv y = .val v2)
    (hb : ∀ w, (Instr.index xt v1 v2).run P w = .ok v w) : OpH P N K0 w0 ⟨d, .index xt x y, ty, pos, aft, g⟩ S (.val v) := by
  refine OpH.ret (fun S' K n a w hs _ hop => ⟨v, ?_, rfl⟩) no_row_val
  have e1 := hs.opv x
  have e2 := hs.opv y
  rw [hop x (by simp [Op.operands]), h1] at e1
  rw [hop y (by simp [Op.operands]), h2] at e2
  simp only [execOp]
  rw [show a.eval x = v1 from e1, show a.eval y = v2 from e2, Sem.run_bind, hb w]
  rfl
theorem OpH.pick {c x y : Operand} {b : Bool} {v : AV} (h0 : S.opv c = .val (.bool b)) (hv : (if b then S.opv x else S.opv y) = v) : OpH P N K0 w0 ⟨d, .pick c x y, ty, pos, aft, g⟩ S v := by
  subst hv
  refine OpH.ret (fun S' K n a w hs _ hop => ⟨if b then a.eval x else a.eval y, ?_, ?_⟩) fun r e k xs h => ?_
  · have e1 := hs.opv c
    rw [hop c (by simp [Op.operands]), h0] at e1
    simp only [execOp]
    rw [show a.eval c = .bool b from e1]
    cases b <;> rfl
  · have e1 := hs.opv x
    have e2 := hs.opv y
    rw [hop x (by simp [Op.operands])] at e1
    rw [hop y (by simp [Op.operands])] at e2
    cases b
    · exact e2
    · exact e1
  · cases b
    · exact ⟨y, by simp [Op.operands], h⟩
    · exact ⟨x, by simp [Op.operands], h⟩
theorem OpH.pickV {c x y : Operand} {b : Bool} {v1 v2 : Value} (h0 : S.opv c = .val (.bool b)) (h1 : S.opv x = .val v1) (h2 : S.opv y = .val v2) : OpH P N K0 w0 ⟨d, .pick c x y, ty, pos, aft, g⟩ S (.val (if b then v1 else v2)) :=
  OpH.pick h0 (by rw [h1, h2]; cases b <;> rfl)
theorem OpH.extract {x : Operand} {i : Nat} {vs : List AV} {v : AV} (h0 : S.opv x = .tup vs) (hi : vs[i]? = some v) (hne : ∀ us, v ≠ .tup us) : OpH P N K0 w0 ⟨d, .extract x i, ty, pos, aft, g⟩ S v := by
  refine OpH.ret (fun S' K n a w hs _ hop => ?_) fun r e k xs h => ⟨x, by simp [Op.operands], ?_⟩
  · have e1 := hs.opv x
    rw [hop x (by simp [Op.operands]), h0] at e1
    obtain ⟨cs, e2, h1, h2⟩ := e1
    have hlt : i < cs.size := by rw [h1]; exact (List.getElem?_eq_some_iff.1 hi).1
    have h3 := h2 i v hi
    simp only [Array.getD_eq_getD_getElem?, Array.getElem?_eq_getElem hlt, Option.getD_some] at h3
    refine ⟨cs[i], ?_, Rep.of1 h3⟩
    simp only [execOp]
    rw [e2]
    simp [Instr.extract, Array.getElem?_eq_getElem hlt]
  · rw [h0]
    rcases h with h | ⟨_, h, _⟩
    · exact .inr ⟨vs, rfl, by rw [← h]; exact List.mem_of_getElem? hi⟩
    · exact absurd h (hne _)
theorem OpH.build {t : TypeId} {parts : Array (Nat × Operand)} {cells : Array Value} (hv : parts.all (fun p => (S.opv p.2).isVal) = true) (hb : P.built t (parts.map fun p => (p.1, S.ev p.2)).toList = some cells) :
    OpH P N K0 w0 ⟨d, .build t parts, ty, pos, aft, g⟩ S (.val (.agg cells)) := by
  refine OpH.ret (fun S' K n a w hs _ hop => ⟨.agg cells, ?_, rfl⟩) no_row_val
  have e : (parts.map fun (i, x) => (i, a.eval x)) = parts.map fun p => (p.1, S.ev p.2) := by
    apply Array.map_congr_left
    intro p hp
    obtain ⟨i, x⟩ := p
    have h1 := hs.opv x
    rw [hop x (by simp only [Op.operands]; simp; exact ⟨i, hp⟩)] at h1
    have h2 : (S.opv x).isVal = true := (Array.all_eq_true_iff_forall_mem.1 hv) _ hp
    rw [opv_ev h2] at h1
    show (i, a.eval x) = (i, S.ev x)
    rw [show a.eval x = S.ev x from h1]
  simp only [execOp]
  rw [e, Sem.run_bind, run_build w t _ cells hb]
  rfl

theorem take_some {α : Type} {l : List α} {n i : Nat} {v : α} (h : (l.take n)[i]? = some v) : l[i]? = some v := by
  rw [List.getElem?_take] at h
  split at h
  · exact h
  · cases h
/-! ### Addresses and loads -/
def fieldOff (P : Program) (s : TypeId) (f : Nat) : Option Nat :=
  match P.underlying s with
  | some (.struct fs) => match fs[f]? with
    | some fd => match P.info? fd.type with
      | some i => if i.size = 0 then none else some fd.offset
      | none => none
    | none => none
  | _ => none
theorem run_fieldOff {s : TypeId} {f off : Nat} (h : fieldOff P s f = some off) (b o : Nat) (w : World) : (Instr.fieldAt s (.pointer (some ⟨b, o, none⟩)) f).run P w = .ok (.pointer (some ⟨b, o + off, none⟩)) w := by
  unfold fieldOff at h
  split at h
  · rename_i fs hu
    split at h
    · rename_i fd hf
      split at h
      · rename_i i hi
        split at h
        · cases h
        · rename_i hne
          injection h with h
          subst h
          simp [Instr.fieldAt, run_underlying hu, hf, Instr.sureAddr, fieldPlace, sizeOf, typeInfo, hi, hne, Addr.add_mid]
      · cases h
    · cases h
  · cases h
theorem OpH.fieldC {s : TypeId} {x : Operand} {f off : Nat} {vs : List Value} {v : AV} (h1 : S.opv x = .cptr vs) (hf : fieldOff P s f = some off) (hv : .cptr (vs.drop off) = v) : OpH P N K0 w0 ⟨d, .fieldAddr s x f, ty, pos, aft, g⟩ S v := by
  subst hv
  refine OpH.ret (fun S' K n a w hs _ hop => ?_) (fun r e k xs h => by rcases h with h | ⟨_, h, _⟩ <;> cases h)
  have e1 := hs.opv x
  rw [hop x (by simp [Op.operands]), h1] at e1
  obtain ⟨b, o, e2, h2⟩ := e1
  refine ⟨.pointer (some ⟨b, o + off, none⟩), ?_, ⟨b, o + off, rfl, fun j u hj => ?_⟩⟩
  · simp only [execOp]
    rw [e2, Sem.run_bind, run_fieldOff hf]
    rfl
  · rw [List.getElem?_drop] at hj
    rw [Nat.add_assoc]
    exact h2 _ u hj
theorem OpH.fieldB {s : TypeId} {x : Operand} {f off b o : Nat} {v : AV} (h1 : S.opv x = .ptr b o) (hf : fieldOff P s f = some off) (hv : .ptr b (o + off) = v) : OpH P N K0 w0 ⟨d, .fieldAddr s x f, ty, pos, aft, g⟩ S v := by
  subst hv
  refine OpH.ret (fun S' K n a w hs _ hop => ?_) (fun r e k xs h => by rcases h with h | ⟨_, h, _⟩ <;> cases h)
  have e1 := hs.opv x
  rw [hop x (by simp [Op.operands]), h1] at e1
  obtain ⟨b', hb, e2⟩ := e1
  refine ⟨.pointer (some ⟨b', o + off, none⟩), ?_, ⟨b', hb, rfl⟩⟩
  simp only [execOp]
  rw [e2, Sem.run_bind, run_fieldOff hf]
  rfl
/-- A slice as it is read. -/
def Slice (K : Know) (k : Nat) (xs : Cells) (c : Value) : Prop := ∃ A cap, c = .slice A xs.length cap ∧ xs.length ≤ cap ∧ (A = none → cap = 0) ∧ Rd K k A xs
inductive AV.Sl : AV → Nat → Cells → Prop
  | sl (k xs) : AV.Sl (.sl k xs) k xs
  | full (k xs) : AV.Sl (.full k xs) k xs
  | row (r e k xs) : AV.Sl (.row r e k xs) k xs
theorem AV.Sl.slice {K : Know} {n : Nm} {A : AV} {k : Nat} {xs : Cells} {c : Value} (h : A.Sl k xs) (hr : Rep K n A c) : Slice K k xs c := by
  cases h with
  | sl => exact hr
  | full => obtain ⟨A, e, h⟩ := hr; exact ⟨A, _, e, Nat.le_refl _, (fun h' => by subst h'; rw [h.none_nil]; rfl), h⟩
  | row => exact hr.2
def elemSize (P : Program) (t : TypeId) : Option Nat :=
  match P.underlying t with
  | some (.slice e) => (P.info? e).map (·.size)
  | _ => none
theorem elemSize_spec {t : TypeId} {k : Nat} (h : elemSize P t = some k) : ∃ e i, P.underlying t = some (.slice e) ∧ P.info? e = some i ∧ i.size = k := by
  unfold elemSize at h
  split at h
  · rename_i e hu
    obtain ⟨i, hi, hk⟩ := Option.map_eq_some_iff.1 h
    exact ⟨e, i, hu, hi, hk⟩
  · cases h
theorem OpH.indexS {t : TypeId} {x y : Operand} {A : AV} {k : Nat} {xs : Cells} {kk : IntKind} {j : Nat} {i : Int} {vs : List Value} {v : AV} (h1 : S.opv x = A) (hA : A.Sl k xs) (h2 : S.opv y = .val (.int kk i)) (hi : i = (j : Int)) (hk : elemSize P t = some k) (hj : xs[j]? = some vs) (hv : .cptr vs = v) :
    OpH P N K0 w0 ⟨d, .indexAddr t x y, ty, pos, aft, g⟩ S v := by
  subst hv hi
  refine OpH.ret (fun S' K n a w hs _ hop => ?_) (fun r e k xs h => by rcases h with h | ⟨_, h, _⟩ <;> cases h)
  have e1 := hs.opv x
  have e2 := hs.opv y
  rw [hop x (by simp [Op.operands]), h1] at e1
  rw [hop y (by simp [Op.operands]), h2] at e2
  obtain ⟨A, cap, e3, _, _, hr⟩ := hA.slice e1
  obtain ⟨_, _, b, o, e4, h3⟩ := hr.2 j vs hj
  subst e4
  obtain ⟨e, ie, hu, hie, hks⟩ := elemSize_spec hk
  have hlt : j < xs.length := (List.getElem?_eq_some_iff.1 hj).1
  refine ⟨.pointer (some ⟨b, o + j * k, none⟩), ?_, ⟨b, o + j * k, rfl, fun i u hu => h3 i u hu⟩⟩
  simp only [execOp]
  rw [e3, show a.eval y = .int kk (j : Int) from e2]
  simp [Instr.indexAt, run_underlying hu, asIntOf, sizeOf, typeInfo, hie, hks, hlt, Addr.add_mid]
def rowSize (P : Program) (t : TypeId) : Option Nat :=
  match P.underlying t with
  | some (.struct _) | some (.array _ _) => (P.info? t).map (·.size)
  | _ => none
def oneSize (P : Program) (t : TypeId) : Bool :=
  match P.underlying t with
  | some (.struct _) | some (.array _ _) | none => false
  | _ => true
theorem run_load_many {t : TypeId} {cs : List Value} (h : rowSize P t = some cs.length) {w : World} {b o : Nat} (hc : w.rangeAt b o cs) : (Instr.loadAt t (.pointer (some ⟨b, o, none⟩))).run P w = .ok (.agg cs.toArray) w := by
  unfold rowSize at h
  split at h
  · rename_i fs hu; exact run_loadAt_mid w b o t cs _ hc hu rfl h
  · rename_i n e hu; exact run_loadAt_mid w b o t cs _ hc hu rfl h
  · cases h
theorem run_load_one {t : TypeId} (h : oneSize P t = true) {w : World} {b o : Nat} {v : Value} (hc : w.cell? ⟨b, o, none⟩ = some v) : (Instr.loadAt t (.pointer (some ⟨b, o, none⟩))).run P w = .ok v w := by
  unfold oneSize at h
  have hagg : (isAgg t).run P w = .ok false w := by
    unfold isAgg
    split at h
    · cases h
    · cases h
    · cases h
    · rename_i d hd
      cases hu : P.underlying t with
      | none => exact absurd hu hd
      | some d => rw [Sem.run_bind, run_underlying hu]; cases d <;> simp_all
  simp [Instr.loadAt, Instr.sureAddr, loadVar, Sem.run_bind, hagg, run_load, hc]
theorem OpH.loadC {t : TypeId} {x : Operand} {vs cs : List Value} {v : AV} (h1 : S.opv x = .cptr vs) (hk : rowSize P t = some cs.length) (hcs : vs.take cs.length = cs) (hv : .val (.agg cs.toArray) = v) : OpH P N K0 w0 ⟨d, .load t x, ty, pos, aft, g⟩ S v := by
  subst hv
  refine OpH.ret (fun S' K n a w hs _ hop => ?_) no_row_val
  have e1 := hs.opv x
  rw [hop x (by simp [Op.operands]), h1] at e1
  obtain ⟨b, o, e2, h2⟩ := e1
  refine ⟨.agg cs.toArray, ?_, rfl⟩
  simp only [execOp]
  rw [e2, Sem.run_bind, run_load_many hk (fun j v hv => hs.ok _ _ _ (h2 j v (by
    rw [← hcs] at hv
    exact take_some hv)))]
  rfl
theorem OpH.loadC1 {t : TypeId} {x : Operand} {u : Value} {vs : List Value} {v : AV} (h1 : S.opv x = .cptr (u :: vs)) (hk : oneSize P t = true) (hv : .val u = v) : OpH P N K0 w0 ⟨d, .load t x, ty, pos, aft, g⟩ S v := by
  subst hv
  refine OpH.ret (fun S' K n a w hs _ hop => ?_) no_row_val
  have e1 := hs.opv x
  rw [hop x (by simp [Op.operands]), h1] at e1
  obtain ⟨b, o, e2, h2⟩ := e1
  refine ⟨u, ?_, rfl⟩
  simp only [execOp]
  rw [e2, Sem.run_bind, run_load_one hk (v := u) (by have := hs.ok _ _ _ (h2 0 u rfl); simpa using this)]
  rfl
def getB : List (Nat × List AV) → Nat → Option (List AV)
  | [], _ => none
  | (s, A) :: l, t => cond (Nat.beq s t) (some A) (getB l t)
theorem getB_mem : ∀ {l : List (Nat × List AV)} {t : Nat} {cs : List AV}, getB l t = some cs → (t, cs) ∈ l
  | [], _, _, h => by cases h
  | (s, A) :: l, t, cs, h => by
    simp only [getB] at h
    cases hb : Nat.beq s t with
    | true => rw [hb] at h; injection h with h; subst h; rw [Nat.eq_of_beq_eq_true hb]; exact List.mem_cons_self
    | false => rw [hb] at h; exact List.mem_cons_of_mem _ (getB_mem h)
/-- Cells of a box that are values. -/
def valCells : List AV → Option (List Value)
  | [] => some []
  | .val v :: l => (valCells l).map (v :: ·)
  | _ :: _ => none
theorem valCells_get : ∀ {l : List AV} {vs : List Value}, valCells l = some vs → l.length = vs.length ∧ ∀ (i : Nat) v, vs[i]? = some v → l[i]? = some (.val v)
  | [], vs, h => by injection h with h; subst h; simp
  | .val v :: l, vs, h => by
    simp only [valCells, Option.map_eq_some_iff] at h
    obtain ⟨us, h1, rfl⟩ := h
    obtain ⟨h2, h3⟩ := valCells_get h1
    refine ⟨by simp [h2], fun i u hi => ?_⟩
    cases i with
    | zero => simpa using hi
    | succ i => simpa using h3 i u (by simpa using hi)
  | .dead :: _, _, h => by cases h
  | .sl _ _ :: _, _, h => by cases h
  | .full _ _ :: _, _, h => by cases h
  | .cptr _ :: _, _, h => by cases h
  | .clo _ _ :: _, _, h => by cases h
  | .row _ _ _ _ :: _, _, h => by cases h
  | .ptr _ _ :: _, _, h => by cases h
  | .cloB _ _ :: _, _, h => by cases h
  | .pr _ :: _, _, h => by cases h
  | .tup _ :: _, _, h => by cases h
theorem OpH.loadB {t : TypeId} {x : Operand} {b o : Nat} {cs : List AV} {vs : List Value} {v : AV} (h1 : S.opv x = .ptr b o) (hb : getB S.boxes b = some cs) (hk : rowSize P t = some vs.length) (hcs : valCells ((cs.drop o).take vs.length) = some vs) (hv : .val (.agg vs.toArray) = v) :
    OpH P N K0 w0 ⟨d, .load t x, ty, pos, aft, g⟩ S v := by
  subst hv
  refine OpH.ret (fun S' K n a w hs hB hop => ?_) no_row_val
  have e1 := hs.opv x
  rw [hop x (by simp [Op.operands]), h1] at e1
  obtain ⟨b', hβ, e2⟩ := e1
  obtain ⟨b2, arr, ty2, hβ2, _, hh, hsz, hc, _⟩ := hs.box b cs (by rw [hB]; exact getB_mem hb)
  rw [hβ] at hβ2
  injection hβ2 with hβ2
  subst hβ2
  refine ⟨.agg vs.toArray, ?_, rfl⟩
  simp only [execOp]
  rw [e2, Sem.run_bind, run_load_many hk (fun j v hv => ?_)]
  · rfl
  · obtain ⟨h3, h4⟩ := valCells_get hcs
    have h5 := h4 j v hv
    have h6 := take_some h5
    rw [List.getElem?_drop] at h6
    have h7 := hc _ _ h6
    have hlt : o + j < arr.size := by rw [hsz]; exact (List.getElem?_eq_some_iff.1 h6).1
    simp only [World.cell?, hh]
    simp only [Array.getD_eq_getD_getElem?, Array.getElem?_eq_getElem hlt, Option.getD_some] at h7
    simp only [Option.isSome_none, Bool.false_eq_true, if_false, Array.getElem?_eq_getElem hlt]
    exact congrArg some h7
theorem OpH.loadB1 {t : TypeId} {x : Operand} {b o : Nat} {cs : List AV} {v : AV} (h1 : S.opv x = .ptr b o) (hb : getB S.boxes b = some cs) (hk : oneSize P t = true) (hcs : cs[o]? = some v) :
    OpH P N K0 w0 ⟨d, .load t x, ty, pos, aft, g⟩ S v := by
  intro S' K n a w hs hB hop
  have e1 := hs.opv x
  rw [hop x (by simp [Op.operands]), h1] at e1
  obtain ⟨b', hβ, e2⟩ := e1
  have hm : (b, cs) ∈ S'.boxes := by rw [hB]; exact getB_mem hb
  obtain ⟨b2, arr, ty2, hβ2, _, hh, hsz, hc, _⟩ := hs.box b cs hm
  rw [hβ] at hβ2
  injection hβ2 with hβ2
  subst hβ2
  have h7 := hc _ _ hcs
  have hlt : o < arr.size := by rw [hsz]; exact (List.getElem?_eq_some_iff.1 hcs).1
  simp only [Array.getD_eq_getD_getElem?, Array.getElem?_eq_getElem hlt, Option.getD_some] at h7
  unfold Oper.wp
  simp only [execOp]
  rw [e2, Sem.run_bind, run_load_one hk (v := arr[o]) (by simp only [World.cell?, hh]; simp [Array.getElem?_eq_getElem hlt])]
  refine ⟨arr[o], K, rfl, Below.refl _ _, Know.le_refl K, hs.ok, fun _ _ _ h _ => h, Rep.of1 h7, fun r e k xs hh => ?_⟩
  rcases hh with hh | ⟨us, hh, _⟩
  · exact .inr ⟨b, cs, hm, by rw [← hh]; exact List.mem_of_getElem? hcs⟩
  · subst hh; exact h7.elim
end
end Go.Proofs.Ytjgjohonbjmakaa
