/- Calls; boxes; rows that grow. -/
import Derived.Test.YtjgjohonbjmakaaAbsE
namespace Go.Proofs.Ytjgjohonbjmakaa
set_option linter.unusedSimpArgs false
set_option linter.unusedVariables false
open Go Go.RowKit Go.Shelf

/-- What a call gives back: rows in it are owned from now on. -/
def Res (K : Know) (w w' : World) (res : AV) (c : Value) : Prop :=
  ∃ ρ : Nat → Value, Rep K ⟨fun _ => none, ρ⟩ res c ∧
    (∀ r e k xs, (AV.row r e k xs).of res → w'.ownsRow w.heap.size e k (ρ r) xs.length xs.flatten ∧ ∀ g, (ρ r).ownBlock = some g → ∀ o u, K g o = some u → o < xs.length * k) ∧
    ∀ r e k xs r' e' k' xs' g, (AV.row r e k xs).of res → (AV.row r' e' k' xs').of res → (ρ r).ownBlock = some g → (ρ r').ownBlock = some g → r = r'
/-- A function's contract. -/
def Good (P : Program) (f : FuncId) (args : List AV) (res : AV) : Prop :=
  ∀ K w (cargs : List Value), K.ok w → cargs.length = args.length → (∀ (i : Nat) A c, args[i]? = some A → cargs[i]? = some c → Rep1 K Nm.nil A c) →
    Calls P f cargs.toArray w fun e w' => ∃ c K', e = .returned c ∧ Below w.heap.size w w' ∧ K.le K' ∧ K'.ok w' ∧ (∀ b o u, K' b o = some u → b < w.heap.size → K b o = some u) ∧ Res K' w w' res c

/-- Names of rows are not spoken of. -/
def AV.plain1 : AV → Bool
  | .row _ _ _ _ | .ptr _ _ | .cloB _ _ | .tup _ => false
  | _ => true
def AV.plain : AV → Bool
  | .tup vs => vs.all AV.plain1
  | A => A.plain1
theorem Rep1.plain {K : Know} {n n' : Nm} {A : AV} {c : Value} (hp : A.plain1 = true) (h : Rep1 K n A c) : Rep1 K n' A c := by
  cases A <;> first | exact h | cases hp
theorem Rep.plain {K : Know} {n n' : Nm} {A : AV} {c : Value} (hp : A.plain = true) (h : Rep K n A c) : Rep K n' A c := by
  cases A with
  | tup vs =>
    obtain ⟨cs, e, h1, h2⟩ := h
    exact ⟨cs, e, h1, fun i v hv => (h2 i v hv).plain (List.all_eq_true.1 hp v (List.mem_of_getElem? hv))⟩
  | row => cases hp
  | ptr => cases hp
  | cloB => cases hp
  | dead => exact h
  | val v => exact h
  | sl k xs => exact h
  | full k xs => exact h
  | cptr vs => exact h
  | clo f cs => exact h
  | pr p => exact h
theorem AV.plain_row {A : AV} (hp : A.plain = true) (r e k xs) : ¬ (AV.row r e k xs).of A := by
  rintro (h | ⟨vs, h, hm⟩)
  · subst h; cases hp
  · subst h; have := List.all_eq_true.1 hp _ hm; cases this

/-- What is handed on. -/
inductive ArgOf : AV → AV → Prop
  | same {A} (h : A.plain1 = true) : ArgOf A A
  | sl {A k xs} (h : A.Sl k xs) : ArgOf A (.sl k xs)
  | nil {k} : ArgOf (.val (.slice none 0 0)) (.sl k [])
  | dead {A} : ArgOf A .dead
theorem ArgOf.rep {K : Know} {n : Nm} {A A' : AV} {c : Value} (h : ArgOf A A') (hr : Rep K n A c) : Rep1 K Nm.nil A' c := by
  cases h with
  | same hp =>
    cases A with
    | tup vs => cases hp
    | row => cases hp
    | ptr => cases hp
    | cloB => cases hp
    | dead => exact hr
    | val v => exact hr
    | sl k xs => exact hr
    | full k xs => exact hr
    | cptr vs => exact hr
    | clo f cs => exact hr
    | pr p => exact hr
  | sl hA => exact hA.slice hr
  | nil => exact ⟨none, 0, hr, Nat.le_refl _, fun _ => rfl, Rd.nil_⟩
  | dead => trivial
/-- Operands as arguments. -/
def Args (S : St) : List Operand → List AV → Prop
  | [], [] => True
  | x :: xs, A :: As => ArgOf (S.opv x) A ∧ Args S xs As
  | _, _ => False
theorem Args.get {S : St} : ∀ {xs : List Operand} {As : List AV}, Args S xs As → xs.length = As.length ∧ ∀ (i : Nat) A x, As[i]? = some A → xs[i]? = some x → ArgOf (S.opv x) A
  | [], [], _ => ⟨rfl, fun i A x h => by simp at h⟩
  | [], _ :: _, h => h.elim
  | _ :: _, [], h => h.elim
  | x :: xs, A :: As, h => by
    obtain ⟨h1, h2⟩ := Args.get h.2
    refine ⟨by simp [h1], fun i B y hB hy => ?_⟩
    cases i with
    | zero => simp at hB hy; subst hB hy; exact h.1
    | succ i => exact h2 i B y (by simpa using hB) (by simpa using hy)

section
variable {P : Program} {N : Nat} {K0 : Know} {w0 : World} {S S' : St} {Q : St → Prop} {o : Oper}
variable {d : Option Nat} {ty : TypeId} {pos : String} {aft : Array Edge} {g : Option (Nat × Bool)}

theorem call_run {f : FuncId} {fn : Func} {c : Code} {args : Array Operand} {ats : Array TypeId} (hf : P.funcs[f]? = some fn) (hname : (fn.name == "runtime.NumGoroutine") = false) (hb : fn.body = some c) (a : Act) (w : World) :
    (execOp a.eval ⟨d, .call { callee := .value (.func f), args := args, argTypes := ats }, ty, pos, aft, g⟩).run P w = .ok (.enter f (args.toList.map a.eval).toArray) w := by
  have e1 : execOp a.eval ⟨d, .call { callee := .value (.func f), args := args, argTypes := ats }, ty, pos, aft, g⟩ = callFunc f (args.map a.eval) := by
    have ef : a.eval (.func f) = .func (.func f) #[] #[] := rfl
    unfold execOp
    simp [resolve, Deferred.ofValue, invoke, ef]
  have e2 : args.map a.eval = (args.toList.map a.eval).toArray := by apply Array.ext'; simp
  rw [e1, enters_of hf hname hb, e2]
theorem upon_enter_calls {o : Oper} {a : Act} {w : World} {f : FuncId} {args : Array Value} {Kt : Act → World → Prop} (h : (execOp a.eval o).run P w = .ok (.enter f args) w) {R : Ending → World → Prop} (hc : Calls P f args w R) (hR : ∀ e w', R e w' → ∃ c, e = .returned c ∧ Kt (a.put o.dst c) w') : o.wp P a w Kt (fun _ _ _ => False) := by
  unfold Oper.wp
  rw [h]
  show Calls P f args w _
  refine hc.mono ?_
  intro e w' hr
  obtain ⟨c, rfl, hk⟩ := hR e w' hr
  exact hk
/-- A call whose result speaks of no rows. -/
theorem OpH.call {f : FuncId} {fn : Func} {c : Code} {args : Array Operand} {ats : Array TypeId} {As : List AV} {res : AV} (hf : P.funcs[f]? = some fn) (hname : (fn.name == "runtime.NumGoroutine") = false) (hb : fn.body = some c)
    (hargs : Args S args.toList As) (hg : Good P f As res) (hp : res.plain = true) : OpH P N K0 w0 ⟨d, .call { callee := .value (.func f), args := args, argTypes := ats }, ty, pos, aft, g⟩ S res := by
  intro S' K n a w hs hB hop
  obtain ⟨hl, ha⟩ := hargs.get
  refine upon_enter_calls (call_run hf hname hb a w) (hg K w (args.toList.map a.eval) hs.ok (by simp [hl]) fun i A c hA hc => ?_) ?_
  · rw [List.getElem?_map, Option.map_eq_some_iff] at hc
    obtain ⟨x, hx, rfl⟩ := hc
    have h1 := hs.opv x
    rw [hop x (by simp only [Op.operands, Call.operands]; simp; right; simpa using List.mem_of_getElem? hx)] at h1
    exact (ha i A x hA hx).rep h1
  · rintro e w' ⟨c, K', rfl, h1, h2, h3, h4, ρ, h5, _⟩
    exact ⟨c, rfl, c, K', rfl, h1, h2, h3, h4, h5.plain hp, fun r e k xs hr => absurd hr (AV.plain_row hp r e k xs)⟩
/-- The name does not occur. -/
def AV.free1 (d : Nat) : AV → Bool
  | .row r _ _ _ => !(Nat.beq r d)
  | .ptr b _ => !(Nat.beq b d)
  | .cloB _ ds => ds.all fun p => !(Nat.beq p.1 d)
  | _ => true
def AV.free (d : Nat) : AV → Bool
  | .tup vs => vs.all (AV.free1 d)
  | A => A.free1 d
def St.free (S : St) (d : Nat) : Bool := S.tmps.all (fun p => p.2.free d) && S.boxes.all (fun p => p.2.all (AV.free1 d))
theorem getT_mem : ∀ (l : List (Nat × AV)) (t : Nat), getT l t = .dead ∨ ∃ s, (s, getT l t) ∈ l
  | [], _ => .inl rfl
  | (s, A) :: l, t => by
    simp only [getT]
    cases hb : Nat.beq s t with
    | true => exact .inr ⟨s, List.mem_cons_self⟩
    | false => rcases getT_mem l t with h | ⟨s', h⟩
               · exact .inl h
               · exact .inr ⟨s', List.mem_cons_of_mem _ h⟩
theorem St.free_get {d : Nat} (h : S.free d = true) (t : Nat) : (S.get t).free d = true := by
  simp only [St.free, Bool.and_eq_true] at h
  rcases getT_mem S.tmps t with e | ⟨s, hm⟩
  · unfold St.get; rw [e]; rfl
  · exact List.all_eq_true.1 h.1 _ hm
theorem St.free_has {d r e k : Nat} {xs : Cells} (h : S.free d = true) (hh : S.has (.row r e k xs)) : r ≠ d := by
  rintro rfl
  rcases hh with ⟨t, h1 | ⟨vs, h1, hm⟩⟩ | ⟨b, cs, hb, hm⟩
  · have := St.free_get h t; rw [h1] at this; simp [AV.free, AV.free1] at this
  · have := St.free_get h t; rw [h1] at this
    have := List.all_eq_true.1 this _ hm
    simp [AV.free1] at this
  · simp only [St.free, Bool.and_eq_true] at h
    have := List.all_eq_true.1 (List.all_eq_true.1 h.2 _ hb) _ hm
    simp [AV.free1] at this
def Nm.setρ (n : Nm) (d : Nat) (v : Value) : Nm := ⟨n.β, fun r => if r = d then v else n.ρ r⟩
theorem Rep1.setρ {K : Know} {n : Nm} {A : AV} {c : Value} {d : Nat} {v : Value} (hf : A.free1 d = true) (h : Rep1 K n A c) : Rep1 K (n.setρ d v) A c := by
  cases A with
  | row r e k xs =>
    have : r ≠ d := by rintro rfl; simp [AV.free1] at hf
    obtain ⟨h1, h2⟩ := h
    exact ⟨by simp only [Nm.setρ, if_neg this]; exact h1, h2⟩
  | _ => exact h
theorem Rep.setρ {K : Know} {n : Nm} {A : AV} {c : Value} {d : Nat} {v : Value} (hf : A.free d = true) (h : Rep K n A c) : Rep K (n.setρ d v) A c := by
  cases A with
  | tup vs =>
    obtain ⟨cs, e, h1, h2⟩ := h
    exact ⟨cs, e, h1, fun i v hv => (h2 i v hv).setρ (List.all_eq_true.1 hf v (List.mem_of_getElem? hv))⟩
  | row r e k xs => exact Rep1.setρ (A := .row r e k xs) hf h
  | ptr => exact h
  | cloB => exact h
  | dead => exact h
  | val v => exact h
  | sl k xs => exact h
  | full k xs => exact h
  | cptr vs => exact h
  | clo f cs => exact h
  | pr p => exact h
/-- A name of a row is given anew. -/
theorem Sim.setρ {K : Know} {n : Nm} {a : Act} {w : World} (h : Sim N K0 w0 S K n a w) {d : Nat} (hf : S.free d = true) (v : Value) : Sim N K0 w0 S K (n.setρ d v) a w where
  size := h.size
  defers := h.defers
  below := h.below
  k0 := h.k0
  knew := h.knew
  ok := h.ok
  tmp := fun t => (h.tmp t).setρ (St.free_get hf t)
  box := fun b cs hb => by
    obtain ⟨b', arr, ty, e1, e2, e3, e4, e5, e6⟩ := h.box b cs hb
    refine ⟨b', arr, ty, e1, e2, e3, e4, fun i c hi => (e5 i c hi).setρ ?_, e6⟩
    simp only [St.free, Bool.and_eq_true] at hf
    exact List.all_eq_true.1 (List.all_eq_true.1 hf.2 _ hb) _ (List.mem_of_getElem? hi)
  boxInj := h.boxInj
  boxOne := h.boxOne
  row := fun r e k xs hr => by
    have hne := St.free_has hf hr
    simp only [Nm.setρ, if_neg hne]
    exact h.row r e k xs hr
  rowInj := fun r e k xs r' e' k' xs' g h1 h2 h3 h4 => by
    simp only [Nm.setρ, if_neg (St.free_has hf h1)] at h3
    simp only [Nm.setρ, if_neg (St.free_has hf h2)] at h4
    exact h.rowInj r e k xs r' e' k' xs' g h1 h2 h3 h4
/-- A slot takes a new row of the call's own. -/
theorem Sim.putRow {K : Know} {n : Nm} {a : Act} {w : World} (h : Sim N K0 w0 S K n a w) {d : Nat} (hd : d < N) (hf : S.free d = true) {e k : Nat} {xs : Cells} {c : Value} (hown : w.ownsRow w0.heap.size e k c xs.length xs.flatten)
    (hlim : ∀ g, c.ownBlock = some g → (∀ o u, K g o = some u → o < xs.length * k) ∧ (∀ b cs, (b, cs) ∈ S.boxes → n.β b ≠ some g) ∧ ∀ r e' k' xs', S.has (.row r e' k' xs') → (n.ρ r).ownBlock ≠ some g) (hsl : Slice K k xs c) :
    Sim N K0 w0 (S.put d (.row d e k xs)) K (n.setρ d c) (a.put (some d) c) w := by
  have h1 := h.setρ hf c
  have hsz : d < a.tmps.size := Nat.lt_of_lt_of_le hd h.size
  have hh : ∀ r e' k' xs', (S.put d (.row d e k xs)).has (.row r e' k' xs') → (r = d ∧ e' = e ∧ k' = k ∧ xs' = xs) ∨ (r ≠ d ∧ S.has (.row r e' k' xs')) := by
    intro r e' k' xs' hr
    rcases hr with ⟨t, ht⟩ | hb
    · rw [St.get_put] at ht
      split at ht
      · rcases ht with ht | ⟨_, ht, _⟩
        · injection ht with e1 e2 e3 e4; exact .inl ⟨e1.symm, e2.symm, e3.symm, e4.symm⟩
        · cases ht
      · have : S.has (.row r e' k' xs') := .inl ⟨t, ht⟩
        exact .inr ⟨St.free_has hf this, this⟩
    · have : S.has (.row r e' k' xs') := .inr hb
      exact .inr ⟨St.free_has hf this, this⟩
  have hρ : (n.setρ d c).ρ d = c := by simp [Nm.setρ]
  exact {
    size := by simp [Act.put]; exact h.size
    defers := h.defers
    below := h.below
    k0 := h.k0
    knew := h.knew
    ok := h.ok
    tmp := fun t => by
      rw [St.get_put]
      by_cases e1 : d = t
      · subst e1
        rw [if_pos rfl]
        simp only [Act.put, Array.getD_eq_getD_getElem?, Array.getElem?_setIfInBounds, hsz, if_true, Option.getD_some]
        exact ⟨hρ.symm, hsl⟩
      · rw [if_neg e1]
        simp only [Act.put, Array.getD_eq_getD_getElem?, Array.getElem?_setIfInBounds, e1, if_false]
        have := h1.tmp t
        rwa [Array.getD_eq_getD_getElem?] at this
    box := h1.box
    boxInj := h.boxInj
    boxOne := h.boxOne
    row := fun r e' k' xs' hr => by
      rcases hh r e' k' xs' hr with ⟨rfl, rfl, rfl, rfl⟩ | ⟨hne, hr'⟩
      · rw [hρ]; exact ⟨hown, fun g hg => ⟨(hlim g hg).1, (hlim g hg).2.1⟩⟩
      · exact h1.row r e' k' xs' hr'
    rowInj := fun r e1 k1 xs1 r' e2 k2 xs2 g q1 q2 q3 q4 => by
      rcases hh r e1 k1 xs1 q1 with ⟨rfl, _, _, _⟩ | ⟨hne, hr'⟩ <;> rcases hh r' e2 k2 xs2 q2 with ⟨rfl, _, _, _⟩ | ⟨hne', hr''⟩
      · rfl
      · rw [hρ] at q3
        simp only [Nm.setρ, if_neg hne'] at q4
        exact absurd q4 ((hlim g q3).2.2 _ _ _ _ hr'')
      · rw [hρ] at q4
        simp only [Nm.setρ, if_neg hne] at q3
        exact absurd q3 ((hlim g q4).2.2 _ _ _ _ hr')
      · exact h1.rowInj r e1 k1 xs1 r' e2 k2 xs2 g hr' hr'' q3 q4 }
theorem own_block_lt {w : World} {base e k n : Nat} {v : Value} {cs : List Value} (h : w.ownsRow base e k v n cs) {g : Nat} (hg : v.ownBlock = some g) : base ≤ g ∧ g < w.heap.size := h.lt g hg
/-- A call whose result is a row of the call's own. -/
theorem OpT.callRow {f : FuncId} {fn : Func} {c : Code} {args : Array Operand} {ats : Array TypeId} {As : List AV} {d r e k : Nat} {xs : Cells} (hf : P.funcs[f]? = some fn) (hname : (fn.name == "runtime.NumGoroutine") = false) (hb : fn.body = some c)
    (hargs : Args S args.toList As) (hg : Good P f As (.row r e k xs)) (hd : d < N) (hfr : S.free d = true) (hq : Q (S.put d (.row d e k xs))) : OpT P N K0 w0 ⟨some d, .call { callee := .value (.func f), args := args, argTypes := ats }, ty, pos, aft, g⟩ S Q := by
  intro K n a w hs
  obtain ⟨hl, ha⟩ := hargs.get
  refine upon_enter_calls (call_run hf hname hb a w) (hg K w (args.toList.map a.eval) hs.ok (by simp [hl]) fun i A c hA hc => ?_) ?_
  · rw [List.getElem?_map, Option.map_eq_some_iff] at hc
    obtain ⟨x, hx, rfl⟩ := hc
    exact (ha i A x hA hx).rep (hs.opv x)
  · rintro e' w' ⟨c, K', rfl, h1, h2, h3, h4, ρ, ⟨h5, h6⟩, h7, _⟩
    obtain ⟨h8, h9⟩ := h7 r e k xs (.inl rfl)
    subst h5
    have hs' := hs.grow h1 h2 h3 h4
    have hbase : ∀ g, (ρ r).ownBlock = some g → w.heap.size ≤ g := fun g hg => (own_block_lt h8 hg).1
    refine ⟨ρ r, rfl, K', _, _, hq, hs'.putRow hd hfr ⟨h8.1, ?_⟩ (fun g hg => ⟨h9 g hg, fun b cs hbx he => ?_, fun r' e' k' xs' hr' he => ?_⟩) h6⟩
    · rcases h8.2 with h8 | ⟨g, cap, cur, q1, q2, q3⟩
      · exact .inl h8
      · exact .inr ⟨g, cap, cur, q1, Nat.le_trans hs.base q2, q3⟩
    · obtain ⟨b', arr, ty', q1, _, q3, _⟩ := hs.box b cs hbx
      rw [he] at q1
      injection q1 with q1
      subst q1
      have hlt := (Array.getElem?_eq_some_iff.1 q3).1
      have := hbase _ hg
      omega
    · have := (own_block_lt (hs.row r' e' k' xs' hr').1 he).2
      have := hbase _ hg
      omega
end
end Go.Proofs.Ytjgjohonbjmakaa
