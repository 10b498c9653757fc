/- Abstract walks: calls, boxes, appends, loops, drawn regions. -/
import Derived.Test.YtkfmammkbmhfaaaXAbs1
import Derived.Maps.AppendAt
import Derived.RangeFuncLeaves
import Derived.RangeFuncNested
namespace Go.Proofs.Ytkfmammkbmhfaaa
set_option linter.unusedSimpArgs false
set_option linter.unusedVariables false
open Go Go.RowKit Go.Shelf

def Res (K : Know) (w w' : World) (res : AV) (c : Value) : Prop :=
  ∃ ρ : Nat → Value, Rep K ⟨fun _ => none, ρ⟩ res c ∧
    (∀ r e k xs, (AV.row r e k xs).of res → w'.ownsRow w.heap.size e k (ρ r) xs.length xs.flatten ∧ ∀ g, (ρ r).ownBlock = some g → ∀ o u, K g o = some u → o < xs.length * k) ∧
    ∀ r e k xs r' e' k' xs' g, (AV.row r e k xs).of res → (AV.row r' e' k' xs').of res → (ρ r).ownBlock = some g → (ρ r').ownBlock = some g → r = r'
def Good (P : Program) (f : FuncId) (args : List AV) (res : AV) : Prop :=
  ∀ K w (cargs : List Value), K.ok w → cargs.length = args.length → (∀ (i : Nat) A c, args[i]? = some A → cargs[i]? = some c → Rep1 K Nm.nil A c) →
    Calls P f cargs.toArray w fun e w' => ∃ c K', e = .returned c ∧ Below w.heap.size w w' ∧ K.le K' ∧ K'.ok w' ∧ (∀ b o u, K' b o = some u → b < w.heap.size → K b o = some u) ∧ Res K' w w' res c

def AV.plain1 : AV → Bool
  | .row _ _ _ _ | .ptr _ _ | .cloB _ _ | .tup _ | .arow _ | .aptr _ _ _ _ | .asub _ _ _ _ => false
  | _ => true
def AV.plain : AV → Bool
  | .tup vs => vs.all AV.plain1
  | A => A.plain1
theorem Rep1.plain {K : Know} {n n' : Nm} {A : AV} {c : Value} (hp : A.plain1 = true) (h : Rep1 K n A c) : Rep1 K n' A c := by
  cases A <;> first | exact h | cases hp
theorem Rep.plain {K : Know} {n n' : Nm} {A : AV} {c : Value} (hp : A.plain = true) (h : Rep K n A c) : Rep K n' A c := by
  cases A with
  | tup vs =>
    obtain ⟨cs, e, h1, h2⟩ := h
    exact ⟨cs, e, h1, fun i v hv => (h2 i v hv).plain (List.all_eq_true.1 hp v (List.mem_of_getElem? hv))⟩
  | row => cases hp
  | ptr => cases hp
  | cloB => cases hp
  | arow => cases hp
  | aptr => cases hp
  | asub => cases hp
  | dead => exact h
  | val v => exact h
  | sl k xs => exact h
  | full k xs => exact h
  | cptr vs => exact h
  | clo f cs => exact h
  | pr p => exact h
theorem AV.plain_row {A : AV} (hp : A.plain = true) (r e k xs) : ¬ (AV.row r e k xs).of A := by
  rintro (h | ⟨vs, h, hm⟩)
  · subst h; cases hp
  · subst h; have := List.all_eq_true.1 hp _ hm; cases this

inductive ArgOf : AV → AV → Prop
  | same {A} (h : A.plain1 = true) : ArgOf A A
  | sl {A k xs} (h : A.Sl k xs) : ArgOf A (.sl k xs)
  | nil {k} : ArgOf (.val (.slice none 0 0)) (.sl k [])
  | dead {A} : ArgOf A .dead
theorem ArgOf.rep {K : Know} {n : Nm} {A A' : AV} {c : Value} (h : ArgOf A A') (hr : Rep K n A c) : Rep1 K Nm.nil A' c := by
  cases h with
  | same hp =>
    cases A with
    | tup vs => cases hp
    | row => cases hp
    | ptr => cases hp
    | cloB => cases hp
    | arow => cases hp
    | aptr => cases hp
    | asub => cases hp
    | dead => exact hr
    | val v => exact hr
    | sl k xs => exact hr
    | full k xs => exact hr
    | cptr vs => exact hr
    | clo f cs => exact hr
    | pr p => exact hr
  | sl hA => exact hA.slice hr
  | nil => exact ⟨none, 0, hr, Nat.le_refl _, fun _ => rfl, Rd.nil_⟩
  | dead => trivial
def Args (S : St) : List Operand → List AV → Prop
  | [], [] => True
  | x :: xs, A :: As => ArgOf (S.opv x) A ∧ Args S xs As
  | _, _ => False
theorem Args.get {S : St} : ∀ {xs : List Operand} {As : List AV}, Args S xs As → xs.length = As.length ∧ ∀ (i : Nat) A x, As[i]? = some A → xs[i]? = some x → ArgOf (S.opv x) A
  | [], [], _ => ⟨rfl, fun i A x h => by simp at h⟩
  | [], _ :: _, h => h.elim
  | _ :: _, [], h => h.elim
  | x :: xs, A :: As, h => by
    obtain ⟨h1, h2⟩ := Args.get h.2
    refine ⟨by simp [h1], fun i B y hB hy => ?_⟩
    cases i with
    | zero => simp at hB hy; subst hB hy; exact h.1
    | succ i => exact h2 i B y (by simpa using hB) (by simpa using hy)

section
variable {P : Program} {N : Nat} {K0 : Know} {w0 : Bas} {S S' : St} {Q : St → Prop} {o : Oper}
variable {d : Option Nat} {ty : TypeId} {pos : String} {aft : Array Edge} {g : Option (Nat × Bool)}

theorem call_run {f : FuncId} {fn : Func} {c : Code} {args : Array Operand} {ats : Array TypeId} (hf : P.funcs[f]? = some fn) (hname : (fn.name == "runtime.NumGoroutine") = false) (hb : fn.body = some c) (a : Act) (w : World) :
    (execOp a.eval ⟨d, .call { callee := .value (.func f), args := args, argTypes := ats }, ty, pos, aft, g⟩).run P w = .ok (.enter f (args.toList.map a.eval).toArray) w := by
  have e1 : execOp a.eval ⟨d, .call { callee := .value (.func f), args := args, argTypes := ats }, ty, pos, aft, g⟩ = callFunc f (args.map a.eval) := by
    have ef : a.eval (.func f) = .func (.func f) #[] #[] := rfl
    unfold execOp
    simp [resolve, Deferred.ofValue, invoke, ef]
  have e2 : args.map a.eval = (args.toList.map a.eval).toArray := by apply Array.ext'; simp
  rw [e1, enters_of hf hname hb, e2]
theorem upon_enter_calls {o : Oper} {a : Act} {w : World} {f : FuncId} {args : Array Value} {Kt : Act → World → Prop} (h : (execOp a.eval o).run P w = .ok (.enter f args) w) {R : Ending → World → Prop} (hc : Calls P f args w R) (hR : ∀ e w', R e w' → ∃ c, e = .returned c ∧ Kt (a.put o.dst c) w') : o.wp P a w Kt (fun _ _ _ => False) := by
  unfold Oper.wp
  rw [h]
  show Calls P f args w _
  refine hc.mono ?_
  intro e w' hr
  obtain ⟨c, rfl, hk⟩ := hR e w' hr
  exact hk
theorem OpH.call {f : FuncId} {fn : Func} {c : Code} {args : Array Operand} {ats : Array TypeId} {As : List AV} {res : AV} (hf : P.funcs[f]? = some fn) (hname : (fn.name == "runtime.NumGoroutine") = false) (hb : fn.body = some c)
    (hargs : Args S args.toList As) (hg : Good P f As res) (hp : res.plain = true) : OpH P N K0 w0 ⟨d, .call { callee := .value (.func f), args := args, argTypes := ats }, ty, pos, aft, g⟩ S res := by
  intro S' K n a w hs hB hop
  obtain ⟨hl, ha⟩ := hargs.get
  refine upon_enter_calls (call_run hf hname hb a w) (hg K w (args.toList.map a.eval) hs.ok (by simp [hl]) fun i A c hA hc => ?_) ?_
  · rw [List.getElem?_map, Option.map_eq_some_iff] at hc
    obtain ⟨x, hx, rfl⟩ := hc
    have h1 := hs.opv x
    rw [hop x (by simp only [Op.operands, Call.operands]; simp; right; simpa using List.mem_of_getElem? hx)] at h1
    exact (ha i A x hA hx).rep h1
  · rintro e w' ⟨c, K', rfl, h1, h2, h3, h4, ρ, h5, _⟩
    exact ⟨c, rfl, c, K', rfl, h1, h2, h3, h4, h5.plain hp, fun r e k xs hr => absurd hr (AV.plain_row hp r e k xs)⟩
def AV.free1 (d : Nat) : AV → Bool
  | .row r _ _ _ => !(Nat.beq r d)
  | .ptr b _ => !(Nat.beq b d)
  | .cloB _ ds => ds.all fun p => !(Nat.beq p.1 d)
  | .arow r => !(Nat.beq r d)
  | .aptr r _ _ _ => !(Nat.beq r d)
  | .asub r _ _ _ => !(Nat.beq r d)
  | _ => true
def AV.free (d : Nat) : AV → Bool
  | .tup vs => vs.all (AV.free1 d)
  | A => A.free1 d
def St.free (S : St) (d : Nat) : Bool := S.tmps.all (fun p => p.2.free d) && S.boxes.all (fun p => p.2.all (AV.free1 d)) && S.arrs.all (fun p => !(Nat.beq p.1 d))
theorem St.free_tmps {S : St} {d : Nat} (h : S.free d = true) : S.tmps.all (fun p => p.2.free d) = true := by simp only [St.free, Bool.and_eq_true] at h; exact h.1.1
theorem St.free_boxes {S : St} {d : Nat} (h : S.free d = true) : S.boxes.all (fun p => p.2.all (AV.free1 d)) = true := by simp only [St.free, Bool.and_eq_true] at h; exact h.1.2
theorem St.free_arr {S : St} {d : Nat} (h : S.free d = true) {d' : Nat} {A : Arr} (hm : (d', A) ∈ S.arrs) : d' ≠ d := by
  simp only [St.free, Bool.and_eq_true] at h
  have := List.all_eq_true.1 h.2 _ hm
  rintro rfl
  simp at this
theorem getT_mem : ∀ (l : List (Nat × AV)) (t : Nat), getT l t = .dead ∨ ∃ s, (s, getT l t) ∈ l
  | [], _ => .inl rfl
  | (s, A) :: l, t => by
    simp only [getT]
    cases hb : Nat.beq s t with
    | true => exact .inr ⟨s, List.mem_cons_self⟩
    | false => rcases getT_mem l t with h | ⟨s', h⟩
               · exact .inl h
               · exact .inr ⟨s', List.mem_cons_of_mem _ h⟩
theorem St.free_get {d : Nat} (h : S.free d = true) (t : Nat) : (S.get t).free d = true := by
  rcases getT_mem S.tmps t with e | ⟨s, hm⟩
  · unfold St.get; rw [e]; rfl
  · exact List.all_eq_true.1 (St.free_tmps h) _ hm
theorem St.free_has {d r e k : Nat} {xs : Cells} (h : S.free d = true) (hh : S.has (.row r e k xs)) : r ≠ d := by
  rintro rfl
  rcases hh with ⟨t, h1 | ⟨vs, h1, hm⟩⟩ | ⟨b, cs, hb, hm⟩
  · have := St.free_get h t; rw [h1] at this; simp [AV.free, AV.free1] at this
  · have := St.free_get h t; rw [h1] at this
    have := List.all_eq_true.1 this _ hm
    simp [AV.free1] at this
  · have := List.all_eq_true.1 (List.all_eq_true.1 (St.free_boxes h) _ hb) _ hm
    simp [AV.free1] at this
def Nm.setρ (n : Nm) (d : Nat) (v : Value) : Nm := ⟨n.β, fun r => if r = d then v else n.ρ r⟩
theorem Rep1.setρ {K : Know} {n : Nm} {A : AV} {c : Value} {d : Nat} {v : Value} (hf : A.free1 d = true) (h : Rep1 K n A c) : Rep1 K (n.setρ d v) A c := by
  cases A with
  | row r e k xs =>
    have : r ≠ d := by rintro rfl; simp [AV.free1] at hf
    obtain ⟨h1, h2⟩ := h
    exact ⟨by simp only [Nm.setρ, if_neg this]; exact h1, h2⟩
  | arow r =>
    have : r ≠ d := by rintro rfl; simp [AV.free1] at hf
    show c = (n.setρ d v).ρ r
    simp only [Nm.setρ, if_neg this]; exact h
  | aptr r k j o =>
    have : r ≠ d := by rintro rfl; simp [AV.free1] at hf
    obtain ⟨g, h1, h2⟩ := h
    exact ⟨g, by simp only [Nm.setρ, if_neg this]; exact h1, h2⟩
  | asub r k lo m =>
    have : r ≠ d := by rintro rfl; simp [AV.free1] at hf
    obtain ⟨A, l, cap, h1, h2⟩ := h
    exact ⟨A, l, cap, by simp only [Nm.setρ, if_neg this]; exact h1, h2⟩
  | _ => exact h
theorem Rep.setρ {K : Know} {n : Nm} {A : AV} {c : Value} {d : Nat} {v : Value} (hf : A.free d = true) (h : Rep K n A c) : Rep K (n.setρ d v) A c := by
  cases A with
  | tup vs =>
    obtain ⟨cs, e, h1, h2⟩ := h
    exact ⟨cs, e, h1, fun i v hv => (h2 i v hv).setρ (List.all_eq_true.1 hf v (List.mem_of_getElem? hv))⟩
  | row r e k xs => exact Rep1.setρ (A := .row r e k xs) hf h
  | arow r => exact Rep1.setρ (K := K) (A := .arow r) hf h
  | aptr r k j o => exact Rep1.setρ (K := K) (A := .aptr r k j o) hf h
  | asub r k lo m => exact Rep1.setρ (K := K) (A := .asub r k lo m) hf h
  | ptr => exact h
  | cloB => exact h
  | dead => exact h
  | val v => exact h
  | sl k xs => exact h
  | full k xs => exact h
  | cptr vs => exact h
  | clo f cs => exact h
  | pr p => exact h
theorem Sim.setρ {K : Know} {n : Nm} {a : Act} {w : World} (h : Sim N K0 w0 S K n a w) {d : Nat} (hf : S.free d = true) (v : Value) : Sim N K0 w0 S K (n.setρ d v) a w where
  size := h.size
  defers := h.defers
  below := h.below
  k0 := h.k0
  knew := h.knew
  ok := h.ok
  tmp := fun t => (h.tmp t).setρ (St.free_get hf t)
  box := fun b cs hb => by
    obtain ⟨b', arr, ty, e1, e2, e3, e4, e5, e6⟩ := h.box b cs hb
    refine ⟨b', arr, ty, e1, e2, e3, e4, fun i c hi => (e5 i c hi).setρ ?_, e6⟩
    exact List.all_eq_true.1 (List.all_eq_true.1 (St.free_boxes hf) _ hb) _ (List.mem_of_getElem? hi)
  boxInj := h.boxInj
  boxOne := h.boxOne
  row := fun r e k xs hr => by
    have hne := St.free_has hf hr
    simp only [Nm.setρ, if_neg hne]
    exact h.row r e k xs hr
  rowInj := fun r e k xs r' e' k' xs' g h1 h2 h3 h4 => by
    simp only [Nm.setρ, if_neg (St.free_has hf h1)] at h3
    simp only [Nm.setρ, if_neg (St.free_has hf h2)] at h4
    exact h.rowInj r e k xs r' e' k' xs' g h1 h2 h3 h4
  arr := fun d' A hd => by
    obtain ⟨h1, h2, h3⟩ := h.arr d' A hd
    simp only [Nm.setρ, if_neg (St.free_arr hf hd)]
    refine ⟨h1, h2, fun g hg => ⟨(h3 g hg).1, (h3 g hg).2.1, (h3 g hg).2.2.1, fun r e k xs hr => ?_⟩⟩
    simp only [if_neg (St.free_has hf hr)]
    exact (h3 g hg).2.2.2 r e k xs hr
  arrInj := fun d1 A1 d2 A2 g q1 q2 q3 q4 => by
    simp only [Nm.setρ, if_neg (St.free_arr hf q1)] at q3
    simp only [Nm.setρ, if_neg (St.free_arr hf q2)] at q4
    exact h.arrInj d1 A1 d2 A2 g q1 q2 q3 q4
  arrOne := h.arrOne
  fix := h.fix
theorem Sim.putRow {K : Know} {n : Nm} {a : Act} {w : World} (h : Sim N K0 w0 S K n a w) {d : Nat} (hd : d < N) (hf : S.free d = true) {e k : Nat} {xs : Cells} {c : Value} (hown : w.ownsRow w0.w.heap.size e k c xs.length xs.flatten)
    (hlim : ∀ g, c.ownBlock = some g → (∀ o u, K g o = some u → o < xs.length * k) ∧ (∀ b cs, (b, cs) ∈ S.boxes → n.β b ≠ some g) ∧ (∀ r e' k' xs', S.has (.row r e' k' xs') → (n.ρ r).ownBlock ≠ some g) ∧ ∀ d' A, (d', A) ∈ S.arrs → (n.ρ d').ownBlock ≠ some g) (hsl : Slice K k xs c) :
    Sim N K0 w0 (S.put d (.row d e k xs)) K (n.setρ d c) (a.put (some d) c) w := by
  have h1 := h.setρ hf c
  have hsz : d < a.tmps.size := Nat.lt_of_lt_of_le hd h.size
  have hh : ∀ r e' k' xs', (S.put d (.row d e k xs)).has (.row r e' k' xs') → (r = d ∧ e' = e ∧ k' = k ∧ xs' = xs) ∨ (r ≠ d ∧ S.has (.row r e' k' xs')) := by
    intro r e' k' xs' hr
    rcases hr with ⟨t, ht⟩ | hb
    · rw [St.get_put] at ht
      split at ht
      · rcases ht with ht | ⟨_, ht, _⟩
        · injection ht with e1 e2 e3 e4; exact .inl ⟨e1.symm, e2.symm, e3.symm, e4.symm⟩
        · cases ht
      · have : S.has (.row r e' k' xs') := .inl ⟨t, ht⟩
        exact .inr ⟨St.free_has hf this, this⟩
    · have : S.has (.row r e' k' xs') := .inr hb
      exact .inr ⟨St.free_has hf this, this⟩
  have hρ : (n.setρ d c).ρ d = c := by simp [Nm.setρ]
  exact {
    size := by simp [Act.put]; exact h.size
    defers := fun ht => (h.defers ht).put
    below := h.below
    k0 := h.k0
    knew := h.knew
    ok := h.ok
    tmp := fun t => by
      rw [St.get_put]
      by_cases e1 : d = t
      · subst e1
        rw [if_pos rfl]
        simp only [Act.put, Array.getD_eq_getD_getElem?, Array.getElem?_setIfInBounds, hsz, if_true, Option.getD_some]
        exact ⟨hρ.symm, hsl⟩
      · rw [if_neg e1]
        simp only [Act.put, Array.getD_eq_getD_getElem?, Array.getElem?_setIfInBounds, e1, if_false]
        have := h1.tmp t
        rwa [Array.getD_eq_getD_getElem?] at this
    box := h1.box
    boxInj := h.boxInj
    boxOne := h.boxOne
    row := fun r e' k' xs' hr => by
      rcases hh r e' k' xs' hr with ⟨rfl, rfl, rfl, rfl⟩ | ⟨hne, hr'⟩
      · rw [hρ]; exact ⟨hown, fun g hg => ⟨(hlim g hg).1, (hlim g hg).2.1⟩⟩
      · exact h1.row r e' k' xs' hr'
    rowInj := fun r e1 k1 xs1 r' e2 k2 xs2 g q1 q2 q3 q4 => by
      rcases hh r e1 k1 xs1 q1 with ⟨rfl, _, _, _⟩ | ⟨hne, hr'⟩ <;> rcases hh r' e2 k2 xs2 q2 with ⟨rfl, _, _, _⟩ | ⟨hne', hr''⟩
      · rfl
      · rw [hρ] at q3
        simp only [Nm.setρ, if_neg hne'] at q4
        exact absurd q4 ((hlim g q3).2.2.1 _ _ _ _ hr'')
      · rw [hρ] at q4
        simp only [Nm.setρ, if_neg hne] at q3
        exact absurd q3 ((hlim g q4).2.2.1 _ _ _ _ hr')
      · exact h1.rowInj r e1 k1 xs1 r' e2 k2 xs2 g hr' hr'' q3 q4
    arr := fun d' A hd => by
      obtain ⟨q1, q2, q3⟩ := h1.arr d' A hd
      refine ⟨q1, q2, fun g hg => ⟨(q3 g hg).1, (q3 g hg).2.1, (q3 g hg).2.2.1, fun r e' k' xs' hr he => ?_⟩⟩
      rcases hh r e' k' xs' hr with ⟨rfl, _, _, _⟩ | ⟨hne, hr'⟩
      · rw [hρ] at he
        simp only [Nm.setρ, if_neg (St.free_arr hf hd)] at hg
        exact (hlim g he).2.2.2 d' A hd hg
      · exact (q3 g hg).2.2.2 r e' k' xs' hr' he
    arrInj := h1.arrInj
    arrOne := h1.arrOne
    fix := h.fix }
theorem own_block_lt {w : World} {base e k n : Nat} {v : Value} {cs : List Value} (h : w.ownsRow base e k v n cs) {g : Nat} (hg : v.ownBlock = some g) : base ≤ g ∧ g < w.heap.size := h.lt g hg
theorem OpT.callRow {f : FuncId} {fn : Func} {c : Code} {args : Array Operand} {ats : Array TypeId} {As : List AV} {d r e k : Nat} {xs : Cells} (hf : P.funcs[f]? = some fn) (hname : (fn.name == "runtime.NumGoroutine") = false) (hb : fn.body = some c)
    (hargs : Args S args.toList As) (hg : Good P f As (.row r e k xs)) (hd : d < N) (hfr : S.free d = true) (hq : Q (S.put d (.row d e k xs))) : OpT P N K0 w0 ⟨some d, .call { callee := .value (.func f), args := args, argTypes := ats }, ty, pos, aft, g⟩ S Q := by
  intro K n a w hs
  obtain ⟨hl, ha⟩ := hargs.get
  refine upon_enter_calls (call_run hf hname hb a w) (hg K w (args.toList.map a.eval) hs.ok (by simp [hl]) fun i A c hA hc => ?_) ?_
  · rw [List.getElem?_map, Option.map_eq_some_iff] at hc
    obtain ⟨x, hx, rfl⟩ := hc
    exact (ha i A x hA hx).rep (hs.opv x)
  · rintro e' w' ⟨c, K', rfl, h1, h2, h3, h4, ρ, ⟨h5, h6⟩, h7, _⟩
    obtain ⟨h8, h9⟩ := h7 r e k xs (.inl rfl)
    subst h5
    have hs' := hs.grow h1 h2 h3 h4
    have hbase : ∀ g, (ρ r).ownBlock = some g → w.heap.size ≤ g := fun g hg => (own_block_lt h8 hg).1
    refine ⟨ρ r, rfl, K', _, _, hq, hs'.putRow hd hfr ⟨h8.1, ?_⟩ (fun g hg => ⟨h9 g hg, fun b cs hbx he => ?_, fun r' e' k' xs' hr' he => ?_, fun d' A hd' he => ?_⟩) h6⟩
    · rcases h8.2 with h8 | ⟨g, cap, cur, q1, q2, q3⟩
      · exact .inl h8
      · exact .inr ⟨g, cap, cur, q1, Nat.le_trans hs.base q2, q3⟩
    · obtain ⟨b', arr, ty', q1, _, q3, _⟩ := hs.box b cs hbx
      rw [he] at q1
      injection q1 with q1
      subst q1
      have hlt := (Array.getElem?_eq_some_iff.1 q3).1
      have := hbase _ hg
      omega
    · have := (own_block_lt (hs.row r' e' k' xs' hr').1 he).2
      have := hbase _ hg
      omega
    · have := (own_block_lt (hs.arr d' A hd').1 he).2
      have := hbase _ hg
      omega
end
end Go.Proofs.Ytkfmammkbmhfaaa
namespace Go.Proofs.Ytkfmammkbmhfaaa
set_option linter.unusedSimpArgs false
set_option linter.unusedVariables false
open Go Go.RowKit Go.Shelf

def Nm.setβ (n : Nm) (d : Nat) (b : Nat) : Nm := ⟨fun r => if r = d then some b else n.β r, n.ρ⟩
theorem Rep1.setβ {K : Know} {n : Nm} {A : AV} {c : Value} {d b : Nat} (hf : A.free1 d = true) (h : Rep1 K n A c) : Rep1 K (n.setβ d b) A c := by
  cases A with
  | ptr d' o =>
    have : d' ≠ d := by rintro rfl; simp [AV.free1] at hf
    obtain ⟨b', h1, h2⟩ := h
    exact ⟨b', by simp only [Nm.setβ, if_neg this]; exact h1, h2⟩
  | cloB f ds =>
    obtain ⟨ps, e, h1, h2⟩ := h
    refine ⟨ps, e, h1, fun i p d' off hp hd => ?_⟩
    obtain ⟨b', h3, h4⟩ := h2 i p d' off hp hd
    have : d' ≠ d := by
      rintro rfl
      have := List.all_eq_true.1 hf _ (List.mem_of_getElem? hd)
      simp at this
    exact ⟨b', by simp only [Nm.setβ, if_neg this]; exact h3, h4⟩
  | _ => exact h
theorem Rep.setβ {K : Know} {n : Nm} {A : AV} {c : Value} {d b : Nat} (hf : A.free d = true) (h : Rep K n A c) : Rep K (n.setβ d b) A c := by
  cases A with
  | tup vs =>
    obtain ⟨cs, e, h1, h2⟩ := h
    exact ⟨cs, e, h1, fun i v hv => (h2 i v hv).setβ (List.all_eq_true.1 hf v (List.mem_of_getElem? hv))⟩
  | row r e k xs => exact h
  | ptr d' o => exact Rep1.setβ (K := K) (A := .ptr d' o) hf h
  | cloB f ds => exact Rep1.setβ (K := K) (A := .cloB f ds) hf h
  | arow r => exact h
  | aptr r k j o => exact h
  | asub r k lo m => exact h
  | dead => exact h
  | val v => exact h
  | sl k xs => exact h
  | full k xs => exact h
  | cptr vs => exact h
  | clo f cs => exact h
  | pr p => exact h

section
variable {P : Program} {N : Nat} {K0 : Know} {w0 : Bas} {S S' : St} {Q : St → Prop} {o : Oper}
variable {d : Option Nat} {ty : TypeId} {pos : String} {aft : Array Edge} {g : Option (Nat × Bool)}

theorem St.free_box {d : Nat} (h : S.free d = true) {b : Nat} {cs : List AV} (hb : (b, cs) ∈ S.boxes) : cs.all (AV.free1 d) = true := by
  exact List.all_eq_true.1 (St.free_boxes h) _ hb
theorem Sim.newBox {K : Know} {n : Nm} {a : Act} {w : World} (h : Sim N K0 w0 S K n a w) {d : Nat} (hd : d < N) (hf : S.free d = true) (hnb : S.boxes.all (fun p => !(Nat.beq p.1 d)) = true) {arr : Array Value} {ty : TypeId} {cs : List AV} (hl : arr.size = cs.length)
    (hc : ∀ (i : Nat) c, cs[i]? = some c → Rep1 K n c (arr.getD i undef)) (hcf : cs.all (AV.free1 d) = true) (hrow : ∀ r e k xs, AV.row r e k xs ∈ cs → S.has (.row r e k xs)) :
    Sim N K0 w0 ⟨(d, .ptr d 0) :: S.tmps, (d, cs) :: S.boxes, S.arrs⟩ K (n.setβ d w.heap.size) (a.put (some d) (.pointer (some ⟨w.heap.size, 0, none⟩))) (w.alloc (.cells arr ty)) := by
  have hg := h.grow (K' := K) (w' := w.alloc (.cells arr ty)) ((Below.refl _ _).alloc (Nat.le_refl _) _) (Know.le_refl K) (Know.below h.ok ((Below.refl _ _).alloc (Nat.le_refl _) _)) (fun _ _ _ h _ => h)
  have hsz : d < a.tmps.size := Nat.lt_of_lt_of_le hd h.size
  have hnb' : ∀ b cs, (b, cs) ∈ S.boxes → b ≠ d := fun b cs hb => by
    rintro rfl
    have := List.all_eq_true.1 hnb _ hb
    simp at this
  have hβ : (n.setβ d w.heap.size).β d = some w.heap.size := by simp [Nm.setβ]
  have hβ' : ∀ b cs, (b, cs) ∈ S.boxes → (n.setβ d w.heap.size).β b = n.β b := fun b cs hb => by simp only [Nm.setβ, if_neg (hnb' b cs hb)]
  have hlt : ∀ b cs, (b, cs) ∈ S.boxes → n.β b ≠ some w.heap.size := fun b cs hb he => by
    obtain ⟨b', arr', ty', q1, _, q3, _⟩ := h.box b cs hb
    rw [he] at q1
    injection q1 with q1
    subst q1
    exact absurd (Array.getElem?_eq_some_iff.1 q3).1 (Nat.lt_irrefl _)
  have hh : ∀ r e k xs, (⟨(d, .ptr d 0) :: S.tmps, (d, cs) :: S.boxes, S.arrs⟩ : St).has (.row r e k xs) → S.has (.row r e k xs) := by
    intro r e k xs hr
    rcases hr with ⟨t, ht⟩ | ⟨b, cs', hb, hm⟩
    · have ht' : (AV.row r e k xs).of ((S.put d (.ptr d 0)).get t) := ht
      rw [St.get_put] at ht'
      split at ht'
      · rcases ht' with ht' | ⟨_, ht', _⟩ <;> cases ht'
      · exact .inl ⟨t, ht'⟩
    · rcases List.mem_cons.1 hb with hb | hb
      · injection hb with e1 e2; subst e2; exact hrow r e k xs hm
      · exact .inr ⟨b, cs', hb, hm⟩
  exact {
    size := by simp [Act.put]; exact h.size
    defers := fun ht => (hg.defers ht).put
    below := hg.below
    k0 := h.k0
    knew := h.knew
    ok := hg.ok
    tmp := fun t => by
      show Rep K _ ((S.put d (.ptr d 0)).get t) _
      rw [St.get_put]
      by_cases e : d = t
      · subst e
        rw [if_pos rfl]
        simp only [Act.put, Array.getD_eq_getD_getElem?, Array.getElem?_setIfInBounds, hsz, if_true, Option.getD_some]
        exact ⟨_, hβ, rfl⟩
      · rw [if_neg e]
        simp only [Act.put, Array.getD_eq_getD_getElem?, Array.getElem?_setIfInBounds, e, if_false]
        have := (h.tmp t).setβ (b := w.heap.size) (St.free_get hf t)
        rwa [Array.getD_eq_getD_getElem?] at this
    box := fun b cs' hb => by
      rcases List.mem_cons.1 hb with hb | hb
      · injection hb with e1 e2
        subst e1 e2
        refine ⟨w.heap.size, arr, ty, hβ, .inl h.base, at_alloc w _, hl, fun i c hi => (hc i c hi).setβ (List.all_eq_true.1 hcf _ (List.mem_of_getElem? hi)), fun o => ?_⟩
        cases hk : K w.heap.size o with
        | none => rfl
        | some v => exact absurd (Know.lt h.ok hk) (Nat.lt_irrefl _)
      · obtain ⟨b', arr', ty', q1, q2, q3, q4, q5, q6⟩ := hg.box b cs' hb
        exact ⟨b', arr', ty', by rw [hβ' b cs' hb]; exact q1, q2, q3, q4, fun i c hi => (q5 i c hi).setβ (List.all_eq_true.1 (St.free_box hf hb) _ (List.mem_of_getElem? hi)), q6⟩
    boxInj := fun b1 c1 b2 c2 b p1 p2 q3 q4 => by
      rcases List.mem_cons.1 p1 with q1 | q1 <;> rcases List.mem_cons.1 p2 with q2 | q2
      · injection q1 with e1 _; injection q2 with e2 _; rw [e1, e2]
      · injection q1 with e1 _
        rw [e1, hβ] at q3; rw [hβ' _ _ q2, ← q3] at q4; exact absurd q4 (hlt _ _ q2)
      · injection q2 with e2 _
        rw [e2, hβ] at q4; rw [hβ' _ _ q1, ← q4] at q3; exact absurd q3 (hlt _ _ q1)
      · rw [hβ' _ _ q1] at q3; rw [hβ' _ _ q2] at q4; exact h.boxInj b1 c1 b2 c2 b q1 q2 q3 q4
    boxOne := fun b c1 c2 p1 p2 => by
      rcases List.mem_cons.1 p1 with q1 | q1 <;> rcases List.mem_cons.1 p2 with q2 | q2
      · injection q1 with _ e1; injection q2 with _ e2; rw [e1, e2]
      · injection q1 with e1 _; exact absurd e1 (hnb' _ _ q2)
      · injection q2 with e2 _; exact absurd e2 (hnb' _ _ q1)
      · exact h.boxOne b c1 c2 q1 q2
    row := fun r e k xs hr => by
      obtain ⟨q1, q2⟩ := hg.row r e k xs (hh r e k xs hr)
      refine ⟨q1, fun g hg' => ⟨(q2 g hg').1, fun b cs' hb => ?_⟩⟩
      rcases List.mem_cons.1 hb with hb | hb
      · injection hb with e1 _; subst e1
        rw [hβ]
        intro he
        injection he with he
        have := (own_block_lt (h.row r e k xs (hh r e k xs hr)).1 hg').2
        omega
      · rw [hβ' _ _ hb]; exact (q2 g hg').2 b cs' hb
    rowInj := fun r e k xs r' e' k' xs' g q1 q2 => h.rowInj r e k xs r' e' k' xs' g (hh _ _ _ _ q1) (hh _ _ _ _ q2)
    arr := fun d' A hd' => by
      obtain ⟨q1, q2, q3⟩ := hg.arr d' A hd'
      refine ⟨q1, q2, fun g hg' => ⟨(q3 g hg').1, (q3 g hg').2.1, fun b cs' hb => ?_, fun r e k xs hr => (q3 g hg').2.2.2 r e k xs (hh r e k xs hr)⟩⟩
      rcases List.mem_cons.1 hb with hb | hb
      · injection hb with e1 _; subst e1
        rw [hβ]
        intro he
        injection he with he
        have := (own_block_lt (h.arr d' A hd').1 hg').2
        omega
      · rw [hβ' _ _ hb]; exact (q3 g hg').2.2.1 b cs' hb
    arrInj := h.arrInj
    arrOne := h.arrOne
    fix := fun d' b hb => by
      obtain ⟨q1, q2⟩ := h.fix d' b hb
      refine ⟨?_, q2⟩
      simp only [Nm.setβ, if_neg (show ¬ d' = d by omega)]
      exact q1 }
theorem vals_rep {K : Know} {n : Nm} (vs : Array Value) (i : Nat) (c : AV) (h : (vs.toList.map AV.val)[i]? = some c) : Rep1 K n c (vs.getD i undef) := by
  rw [List.getElem?_map, Option.map_eq_some_iff] at h
  obtain ⟨v, hv, rfl⟩ := h
  have hv' : vs[i]? = some v := by simpa using hv
  show vs.getD i undef = v
  simp [Array.getD_eq_getD_getElem?, hv']
theorem vals_free {d : Nat} (vs : List Value) : (vs.map AV.val).all (AV.free1 d) = true := by
  simp [AV.free1]
theorem vals_row (vs : List Value) {r e k : Nat} {xs : Cells} (h : AV.row r e k xs ∈ vs.map AV.val) : False := by
  obtain ⟨v, _, h⟩ := List.mem_map.1 h; cases h
theorem OpT.box {e : TypeId} {x : Operand} {d : Nat} {v : Value} {cs : List AV} (h1 : S.opv x = .val v) (hcs : v.cells.toList.map AV.val = cs) (hd : d < N) (hf : S.free d = true) (hnb : S.boxes.all (fun p => !(Nat.beq p.1 d)) = true) (hq : Q ⟨(d, .ptr d 0) :: S.tmps, (d, cs) :: S.boxes, S.arrs⟩) :
    OpT P N K0 w0 ⟨some d, .box e x, ty, pos, aft, g⟩ S Q := by
  subst hcs
  intro K n a w hs
  have e1 := hs.opv x
  rw [h1] at e1
  unfold Oper.wp
  simp only [execOp]
  rw [show a.eval x = v from e1]
  exact ⟨K, _, _, hq, hs.newBox hd hf hnb (by simp) (vals_rep v.cells) (vals_free _) (fun r e k xs h => (vals_row _ h).elim)⟩
theorem OpT.alloc {e : TypeId} {d : Nat} {z : Value} {cs : List AV} (hz : ((P.info? e).bind (·.zero)) = some z) (hcs : z.cells.toList.map AV.val = cs) (hd : d < N) (hf : S.free d = true) (hnb : S.boxes.all (fun p => !(Nat.beq p.1 d)) = true) (hq : Q ⟨(d, .ptr d 0) :: S.tmps, (d, cs) :: S.boxes, S.arrs⟩) :
    OpT P N K0 w0 ⟨some d, .alloc e, ty, pos, aft, g⟩ S Q := by
  subst hcs
  intro K n a w hs
  cases hi : P.info? e with
  | none => simp [hi] at hz
  | some i =>
    have hz' : i.zero = some z := by simpa [hi] using hz
    have hrun : (Instr.alloc e true (.tuple #[])).run P w = .ok (.pointer (some ⟨w.heap.size, 0, none⟩)) (w.alloc (.cells z.cells e)) := by
      simp [Instr.alloc, zeroValue, typeInfo, hi, hz', newVar, newRow]
    unfold Oper.wp
    simp only [execOp]
    rw [Sem.run_bind, hrun]
    exact ⟨K, _, _, hq, hs.newBox hd hf hnb (by simp) (vals_rep z.cells) (vals_free _) (fun r e k xs h => (vals_row _ h).elim)⟩

/-! ### Stores into boxes -/
def setA : Array Value → Nat → List Value → Array Value
  | arr, _, [] => arr
  | arr, o, v :: r => setA (arr.setIfInBounds o v) (o + 1) r
theorem setA_size : ∀ (vs : List Value) (arr : Array Value) (o : Nat), (setA arr o vs).size = arr.size
  | [], _, _ => rfl
  | v :: r, arr, o => by rw [setA, setA_size r]; simp
theorem setA_get : ∀ (vs : List Value) (arr : Array Value) (o i : Nat), o + vs.length ≤ arr.size → (setA arr o vs)[i]? = if o ≤ i ∧ i < o + vs.length then vs[i - o]? else arr[i]?
  | [], arr, o, i, _ => by simp [setA]; intro h1 h2; omega
  | v :: r, arr, o, i, h => by
    simp only [List.length_cons] at h
    rw [setA, setA_get r _ (o + 1) i (by simp; omega)]
    by_cases h1 : o + 1 ≤ i ∧ i < o + 1 + r.length
    · rw [if_pos h1, if_pos (by simp; omega), show i - o = (i - (o + 1)) + 1 by omega]
      simp
    · rw [if_neg h1, Array.getElem?_setIfInBounds]
      by_cases h2 : o = i
      · subst h2
        rw [if_pos rfl, if_pos (by omega), if_pos (by simp)]
        simp
      · rw [if_neg h2, if_neg (by simp; omega)]
theorem setCells_block {b : Nat} {ty : TypeId} {fr : Nat × Nat} : ∀ (vs : List Value) (o : Nat) (w : World) (arr : Array Value), w.heap[b]? = some (.cells arr ty fr) → (w.setCells b o vs).heap[b]? = some (.cells (setA arr o vs) ty fr)
  | [], _, _, _, h => h
  | v :: r, o, w, arr, h => by
    rw [World.setCells, setA]
    refine setCells_block r (o + 1) _ _ ?_
    simp only [World.setCell, Array.getElem?_modify, if_true, h, Option.map_some]
    simp
theorem setCells_other {b : Nat} : ∀ (vs : List Value) (o : Nat) (w : World) (k : Nat), k ≠ b → (w.setCells b o vs).heap[k]? = w.heap[k]?
  | [], _, _, _, _ => rfl
  | v :: r, o, w, k, h => by
    rw [World.setCells, setCells_other r _ _ k h]
    exact Below.heap_setCell w ⟨b, o, none⟩ v k h
theorem setCells_rest {b : Nat} : ∀ (vs : List Value) (o : Nat) (w : World), (w.setCells b o vs).heap.size = w.heap.size ∧ (w.setCells b o vs).os = w.os ∧ (w.setCells b o vs).tape = w.tape ∧ (w.setCells b o vs).output = w.output
  | [], _, _ => ⟨rfl, rfl, rfl, rfl⟩
  | v :: r, o, w => by
    obtain ⟨h1, h2, h3, h4⟩ := setCells_rest (b := b) r (o + 1) (w.setCell ⟨b, o, none⟩ v)
    rw [World.setCells]
    exact ⟨h1.trans (by simp), h2, h3, h4⟩
def setBx (l : List (Nat × List AV)) (t : Nat) (cs : List AV) : List (Nat × List AV) := l.map fun p => cond (Nat.beq p.1 t) (p.1, cs) p
theorem setBx_mem {l : List (Nat × List AV)} {t : Nat} {cs : List AV} {b : Nat} {cs' : List AV} (h : (b, cs') ∈ setBx l t cs) : ∃ c, (b, c) ∈ l ∧ ((b = t ∧ cs' = cs) ∨ (b ≠ t ∧ c = cs')) := by
  obtain ⟨⟨s, A⟩, hm, h⟩ := List.mem_map.1 h
  cases hb : Nat.beq s t with
  | true =>
    rw [hb] at h
    injection h with e1 e2
    subst e1 e2
    exact ⟨A, hm, .inl ⟨Nat.eq_of_beq_eq_true hb, rfl⟩⟩
  | false =>
    rw [hb] at h
    injection h with e1 e2
    subst e1 e2
    exact ⟨A, hm, .inr ⟨fun e => by rw [e] at hb; simp at hb, rfl⟩⟩
theorem Sim.store {K : Know} {n : Nm} {a : Act} {w : World} (h : Sim N K0 w0 S K n a w) {d o : Nat} {cs cs' : List AV} {vs : List Value} {b : Nat} (hβ : n.β d = some b) (hm : (d, cs) ∈ S.boxes) (ho : o + vs.length ≤ cs.length) (hl : cs'.length = cs.length)
    (hin : ∀ (i : Nat) c v, cs'[o + i]? = some c → vs[i]? = some v → Rep1 K n c v) (hout : ∀ (i : Nat) c, cs'[i]? = some c → (i < o ∨ o + vs.length ≤ i) → cs[i]? = some c) (hrow : ∀ r e k xs, AV.row r e k xs ∈ cs' → S.has (.row r e k xs)) :
    Sim N K0 w0 ⟨S.tmps, setBx S.boxes d cs', S.arrs⟩ K n a (w.setCells b o vs) := by
  obtain ⟨b', arr, ty, q1, q2, q3, q4, q5, q6⟩ := h.box d cs hm
  rw [hβ] at q1
  injection q1 with q1
  subst q1
  obtain ⟨r1, r2, r3, r4⟩ := setCells_rest (b := b) vs o w
  have hblk : ∀ k, k ≠ b → (w.setCells b o vs).heap[k]? = w.heap[k]? := fun k hk => setCells_other vs o w k hk
  have hh : ∀ r e k xs, (⟨S.tmps, setBx S.boxes d cs', S.arrs⟩ : St).has (.row r e k xs) → S.has (.row r e k xs) := by
    intro r e k xs hr
    rcases hr with ht | ⟨b2, c2, hb, hm2⟩
    · exact .inl ht
    · obtain ⟨c, hc, ⟨rfl, rfl⟩ | ⟨_, rfl⟩⟩ := setBx_mem hb
      · exact hrow r e k xs hm2
      · exact .inr ⟨b2, c, hc, hm2⟩
  exact {
    size := h.size
    defers := fun ht => (h.defers ht).keep rfl fun D hD => (hblk D (fun e => by subst e; rw [q3] at hD; cases hD)).trans hD
    below := h.below.step r2 r3 r4 (by rw [r1]; exact Nat.le_refl _) fun k hk hno => hblk k (fun e => by subst e; rcases q2 with q2 | q2 <;> first | omega | exact hno q2)
    k0 := h.k0
    knew := h.knew
    ok := fun b2 o2 v hv => by
      have hne : b2 ≠ b := fun e => by rw [e, q6 o2] at hv; cases hv
      have := h.ok b2 o2 v hv
      simp only [World.cell?, hblk b2 hne] at this ⊢
      exact this
    tmp := h.tmp
    box := fun d2 c2 hb => by
      obtain ⟨c, hc, ⟨rfl, rfl⟩ | ⟨hne, rfl⟩⟩ := setBx_mem hb
      · refine ⟨b, setA arr o vs, ty, hβ, q2, setCells_block vs o w arr q3, by rw [setA_size, hl, q4], fun i c hi => ?_, q6⟩
        have hget := setA_get vs arr o i (by rw [q4]; exact ho)
        rw [Array.getD_eq_getD_getElem?, hget]
        by_cases hin' : o ≤ i ∧ i < o + vs.length
        · rw [if_pos hin']
          have hlt : i - o < vs.length := by omega
          rw [List.getElem?_eq_getElem hlt]
          exact hin (i - o) c _ (by rw [show o + (i - o) = i by omega]; exact hi) (List.getElem?_eq_getElem hlt)
        · rw [if_neg hin']
          have := q5 i c (hout i c hi (by omega))
          rwa [Array.getD_eq_getD_getElem?] at this
      · obtain ⟨b3, arr3, ty3, p1, p2, p3, p4, p5, p6⟩ := h.box d2 c hc
        refine ⟨b3, arr3, ty3, p1, p2, ?_, p4, p5, p6⟩
        rw [hblk b3 (fun e => hne (h.boxInj d2 c d cs b hc hm (by rw [p1, e]) hβ))]
        exact p3
    boxInj := fun d1 c1 d2 c2 b2 p1 p2 => by
      obtain ⟨e1, h1, _⟩ := setBx_mem p1
      obtain ⟨e2, h2, _⟩ := setBx_mem p2
      exact h.boxInj d1 e1 d2 e2 b2 h1 h2
    boxOne := fun d1 c1 c2 p1 p2 => by
      obtain ⟨e1, h1, ⟨rfl, rfl⟩ | ⟨n1, rfl⟩⟩ := setBx_mem p1 <;> obtain ⟨e2, h2, ⟨k1, k2⟩ | ⟨n2, rfl⟩⟩ := setBx_mem p2
      · exact k2.symm
      · exact absurd rfl n2
      · exact absurd k1 n1
      · exact h.boxOne d1 e1 e2 h1 h2
    row := fun r e k xs hr => by
      obtain ⟨p1, p2⟩ := h.row r e k xs (hh r e k xs hr)
      have hne : ∀ g, (n.ρ r).ownBlock = some g → g ≠ b := fun g hg e => (p2 g hg).2 d cs hm (by rw [hβ, e])
      refine ⟨⟨p1.1, ?_⟩, fun g hg => ⟨(p2 g hg).1, fun d2 c2 hb => ?_⟩⟩
      · rcases p1.2 with p1 | ⟨g, cap, cur, u1, u2, u3, u4⟩
        · exact .inl p1
        · exact .inr ⟨g, cap, cur, u1, u2, by rw [hblk g (hne g (by rw [u1]; rfl))]; exact u3, u4⟩
      · obtain ⟨c, hc, _⟩ := setBx_mem hb
        exact (p2 g hg).2 d2 c hc
    rowInj := fun r e k xs r' e' k' xs' g p1 p2 => h.rowInj r e k xs r' e' k' xs' g (hh _ _ _ _ p1) (hh _ _ _ _ p2)
    arr := fun d' A hd' => by
      obtain ⟨p1, p2, p3⟩ := h.arr d' A hd'
      have hne : ∀ g, (n.ρ d').ownBlock = some g → g ≠ b := fun g hg e => (p3 g hg).2.2.1 d cs hm (by rw [hβ, e])
      refine ⟨⟨p1.1, ?_⟩, p2, fun g hg => ⟨(p3 g hg).1, (p3 g hg).2.1, fun d2 c2 hb => ?_, fun r e k xs hr => (p3 g hg).2.2.2 r e k xs (hh r e k xs hr)⟩⟩
      · rcases p1.2 with p1 | ⟨g, cap, cur, u1, u2, u3, u4⟩
        · exact .inl p1
        · exact .inr ⟨g, cap, cur, u1, u2, by rw [hblk g (hne g (by rw [u1]; rfl))]; exact u3, u4⟩
      · obtain ⟨c, hc, _⟩ := setBx_mem hb
        exact (p3 g hg).2.2.1 d2 c hc
    arrInj := h.arrInj
    arrOne := h.arrOne
    fix := h.fix }
theorem run_storeV {t : TypeId} {v : Value} (hk : (P.info? t).map (·.size) = some v.cells.size) (h1 : v.cells.all (·.oneCell') = true) {w : World} {b o : Nat} {arr : Array Value} {ty : TypeId} (hh : w.heap[b]? = some (.cells arr ty)) (ho : o + v.cells.size ≤ arr.size) :
    (Instr.storeAt t (.pointer (some ⟨b, o, none⟩)) v).run P w = .ok () (w.setCells b o v.cells.toList) := by
  have hcell : ∀ j, j < v.cells.toList.length → (w.cell? ⟨b, o + 0 + j, none⟩).isSome = true := fun j hj => by
    simp only [World.cell?, hh]
    have : o + j < arr.size := by simp at hj; omega
    simp [this]
  have hfz : ∀ j, j < v.cells.toList.length → w.frozen? ⟨b, o + 0 + j, none⟩ = false := fun j hj => by
    simp [World.frozen?, hh]
  have := run_storeCells_cells (P := P) b o v.cells.toList 0 w hcell hfz (fun u hu => (Array.all_eq_true_iff_forall_mem.1 h1) u (by simpa using hu))
  cases hq : P.info? t with
  | none => simp [hq] at hk
  | some i =>
    have hs : v.cells.size = i.size := by simp [hq] at hk; omega
    simp only [Nat.add_zero] at this
    simp [Instr.storeAt, Instr.sureAddr, storeVar, sizeOf, typeInfo, hq, hs, this]
theorem OpT.store {t : TypeId} {x y : Operand} {b o : Nat} {v : Value} {cs cs' : List AV} (h1 : S.opv x = .ptr b o) (h2 : S.opv y = .val v) (hb : getB S.boxes b = some cs) (hk : (P.info? t).map (·.size) = some v.cells.size) (ho1 : v.cells.all (·.oneCell') = true) (ho : o + v.cells.size ≤ cs.length)
    (hcs : cs.take o ++ v.cells.toList.map AV.val ++ cs.drop (o + v.cells.size) = cs') {bs : List (Nat × List AV)} (hbs : setBx S.boxes b cs' = bs) (hq : Q ⟨S.tmps, bs, S.arrs⟩) : OpT P N K0 w0 ⟨none, .store t x y, ty, pos, aft, g⟩ S Q := by
  subst hbs
  intro K n a w hs
  have e1 := hs.opv x
  have e2 := hs.opv y
  rw [h1] at e1
  rw [h2] at e2
  obtain ⟨b', hβ, e1⟩ := e1
  have hm := getB_mem hb
  obtain ⟨b2, arr, ty2, q1, q2, q3, q4, q5, q6⟩ := hs.box b cs hm
  rw [hβ] at q1
  injection q1 with q1
  subst q1
  unfold Oper.wp
  simp only [execOp]
  rw [e1, show a.eval y = v from e2, Sem.run_bind, run_storeV hk ho1 q3 (by rw [q4]; exact ho)]
  have hlen : cs'.length = cs.length := by rw [← hcs]; simp; omega
  have hput : a.put none undef = a := rfl
  refine ⟨K, n, _, hq, hs.store hβ hm (by simpa using ho) hlen (fun i c u hi hu => ?_) (fun i c hi hio => ?_) (fun r e k xs h => ?_)⟩
  · rw [← hcs, List.append_assoc, List.getElem?_append_right (by simp; omega)] at hi
    have hlo : (cs.take o).length = o := by simp; omega
    rw [hlo, show o + i - o = i by omega, List.getElem?_append_left (by simp; have := (List.getElem?_eq_some_iff.1 hu).1; simpa using this), List.getElem?_map, hu] at hi
    simp at hi
    subst hi
    exact rfl
  · rw [← hcs, List.append_assoc] at hi
    have hlo : (cs.take o).length = o := by simp; omega
    rcases hio with hio | hio
    · rw [List.getElem?_append_left (by rw [hlo]; exact hio)] at hi
      exact take_some hi
    · simp at hio
      rw [List.getElem?_append_right (by rw [hlo]; omega), hlo, List.getElem?_append_right (by simp; omega), List.getElem?_drop] at hi
      simp at hi
      rwa [show o + v.cells.size + (i - o - v.cells.size) = i by omega] at hi
  · rw [← hcs] at h
    rcases List.mem_append.1 h with h | h
    · rcases List.mem_append.1 h with h | h
      · exact .inr ⟨b, cs, hm, List.mem_of_mem_take h⟩
      · exact (vals_row _ h).elim
    · exact .inr ⟨b, cs, hm, List.mem_of_mem_drop h⟩
end
end Go.Proofs.Ytkfmammkbmhfaaa
namespace Go.Proofs.Ytkfmammkbmhfaaa
set_option linter.unusedSimpArgs false
set_option linter.unusedVariables false
open Go Go.RowKit Go.Shelf

theorem flatten_at : ∀ {xs : Cells} {k : Nat}, (∀ x ∈ xs, x.length = k) → ∀ (j : Nat) u, xs.flatten[j]? = some u → ∃ i x r, xs[i]? = some x ∧ x[r]? = some u ∧ j = i * k + r
  | [], _, _, j, u, h => by simp at h
  | y :: ys, k, hk, j, u, h => by
    have hy : y.length = k := hk y List.mem_cons_self
    rw [List.flatten_cons] at h
    by_cases hj : j < k
    · rw [List.getElem?_append_left (by rw [hy]; exact hj)] at h
      exact ⟨0, y, j, rfl, h, by omega⟩
    · rw [List.getElem?_append_right (by rw [hy]; omega), hy] at h
      obtain ⟨i, x, r, h1, h2, h3⟩ := flatten_at (fun x hx => hk x (List.mem_cons_of_mem _ hx)) (j - k) u h
      exact ⟨i + 1, x, r, by simpa using h1, h2, by rw [Nat.succ_mul]; omega⟩
theorem Rd.flat {K : Know} {k : Nat} {ad : Addr} {xs : Cells} (h : Rd K k (some ad) xs) : ∀ (j : Nat) u, xs.flatten[j]? = some u → ∃ b off, ad = ⟨b, off, none⟩ ∧ K b (off + j) = some u := by
  intro j u hu
  obtain ⟨i, x, r, h1, h2, h3⟩ := flatten_at (fun x hx => by obtain ⟨i, hi, e⟩ := List.getElem_of_mem hx; exact (h.2 i x (by rw [List.getElem?_eq_getElem hi, e])).1) j u hu
  obtain ⟨_, _, b, off, e, h4⟩ := h.2 i x h1
  injection e with e
  exact ⟨b, off, e, by rw [h3, ← Nat.add_assoc]; exact h4 r u h2⟩
theorem Rd.lens {K : Know} {k : Nat} {A : Option Addr} {xs : Cells} (h : Rd K k A xs) : ∀ x ∈ xs, x.length = k := fun x hx => by
  obtain ⟨i, hi, e⟩ := List.getElem_of_mem hx; exact (h.2 i x (by rw [List.getElem?_eq_getElem hi, e])).1
theorem Rd.ones {K : Know} {k : Nat} {A : Option Addr} {xs : Cells} (h : Rd K k A xs) : oneCells xs = true := by
  refine List.all_eq_true.2 fun x hx => List.all_eq_true.2 fun u hu => ?_
  obtain ⟨i, hi, e⟩ := List.getElem_of_mem hx
  exact (h.2 i x (by rw [List.getElem?_eq_getElem hi, e])).2.1 u hu
theorem oneCells_append {xs ys : Cells} (h1 : oneCells xs = true) (h2 : oneCells ys = true) : oneCells (xs ++ ys) = true := by
  unfold oneCells at *; rw [List.all_append, h1, h2]; rfl
def St.unrow (S : St) (r : Nat) : St := ⟨S.tmps.map fun p => (p.1, p.2.map1 (AV.unrow1 r)), S.boxes.map fun p => (p.1, p.2.map (AV.unrow1 r)), S.arrs⟩
theorem unrow1_wk (r : Nat) (A : AV) : A.wk1 (A.unrow1 r) := by
  cases A with
  | row r' e k xs =>
    simp only [AV.unrow1]
    cases r' == r
    · exact .inl rfl
    · exact .inr (.inr (.inl ⟨r', e, k, xs, rfl, rfl⟩))
  | _ => exact .inl rfl
theorem unrow_wk (r : Nat) (A : AV) : A.wk (A.map1 (AV.unrow1 r)) := by
  cases A with
  | tup vs => exact .inr ⟨vs, vs.map (AV.unrow1 r), rfl, rfl, by simp, fun i v v' h1 h2 => by
      rw [List.getElem?_map, h1] at h2
      simp at h2
      subst h2
      exact unrow1_wk r v⟩
  | dead => exact .inl (unrow1_wk r _)
  | val v => exact .inl (unrow1_wk r _)
  | sl k xs => exact .inl (unrow1_wk r _)
  | full k xs => exact .inl (unrow1_wk r _)
  | cptr vs => exact .inl (unrow1_wk r _)
  | clo f cs => exact .inl (unrow1_wk r _)
  | row r' e k xs => exact .inl (unrow1_wk r _)
  | ptr d o => exact .inl (unrow1_wk r _)
  | cloB f ds => exact .inl (unrow1_wk r _)
  | pr p => exact .inl (unrow1_wk r _)
  | arow d => exact .inl (unrow1_wk r _)
  | aptr d k j o => exact .inl (unrow1_wk r _)
  | asub d k lo m => exact .inl (unrow1_wk r _)
theorem getT_map (f : AV → AV) (hf : f .dead = .dead) : ∀ (l : List (Nat × AV)) (t : Nat), getT (l.map fun p => (p.1, f p.2)) t = f (getT l t)
  | [], _ => hf.symm
  | (s, A) :: l, t => by
    simp only [List.map_cons, getT]
    cases Nat.beq s t
    · exact getT_map f hf l t
    · rfl
theorem St.unrow_wk (S : St) (r : Nat) : S.wk (S.unrow r) := by
  refine ⟨⟨fun t => ?_, fun d A h => h⟩, fun d cs' h => ?_⟩
  · show AV.wk (getT S.tmps t) (getT (S.tmps.map _) t)
    rw [getT_map (AV.map1 (AV.unrow1 r)) rfl]
    exact Proofs.Ytkfmammkbmhfaaa.unrow_wk r _
  · obtain ⟨⟨d', cs⟩, hm, e⟩ := List.mem_map.1 h
    injection e with e1 e2
    subst e1 e2
    refine ⟨cs, hm, by simp, fun i c c' h1 h2 => ?_⟩
    rw [List.getElem?_map, h1] at h2
    simp at h2
    subst h2
    exact unrow1_wk r c
theorem unrow1_ne {r : Nat} {A : AV} {r' e k : Nat} {xs : Cells} (h : A.unrow1 r = .row r' e k xs) : r' ≠ r := by
  cases A with
  | row r2 e2 k2 xs2 =>
    simp only [AV.unrow1] at h
    cases hb : r2 == r
    · rw [hb] at h
      injection h with h1
      subst h1
      simpa using hb
    · rw [hb] at h; cases h
  | _ => cases h
theorem St.unrow_has {S : St} {r r' e k : Nat} {xs : Cells} (h : (S.unrow r).has (.row r' e k xs)) : r' ≠ r := by
  rcases h with ⟨t, ht⟩ | ⟨d, cs', hd, hm⟩
  · have e1 : (S.unrow r).get t = (S.get t).map1 (AV.unrow1 r) := getT_map (AV.map1 (AV.unrow1 r)) rfl S.tmps t
    rw [e1] at ht
    generalize S.get t = A at ht
    cases A with
    | tup vs =>
      rcases ht with ht | ⟨us, ht, hm⟩
      · cases ht
      · simp only [AV.map1] at ht
        injection ht with ht
        subst ht
        obtain ⟨B, _, hB⟩ := List.mem_map.1 hm
        exact unrow1_ne hB
    | dead => rcases ht with ht | ⟨us, ht, hm⟩ <;> cases ht
    | val v => rcases ht with ht | ⟨us, ht, hm⟩ <;> cases ht
    | sl k xs => rcases ht with ht | ⟨us, ht, hm⟩ <;> cases ht
    | full k xs => rcases ht with ht | ⟨us, ht, hm⟩ <;> cases ht
    | cptr vs => rcases ht with ht | ⟨us, ht, hm⟩ <;> cases ht
    | clo f cs => rcases ht with ht | ⟨us, ht, hm⟩ <;> cases ht
    | ptr d o => rcases ht with ht | ⟨us, ht, hm⟩ <;> cases ht
    | cloB f ds => rcases ht with ht | ⟨us, ht, hm⟩ <;> cases ht
    | pr p => rcases ht with ht | ⟨us, ht, hm⟩ <;> cases ht
    | arow d => rcases ht with ht | ⟨us, ht, hm⟩ <;> cases ht
    | aptr d k j o => rcases ht with ht | ⟨us, ht, hm⟩ <;> cases ht
    | asub d k lo m => rcases ht with ht | ⟨us, ht, hm⟩ <;> cases ht
    | row r2 e2 k2 xs2 =>
      rcases ht with ht | ⟨us, ht, hm⟩
      · exact unrow1_ne (A := .row r2 e2 k2 xs2) ht
      · simp only [AV.map1, AV.unrow1] at ht
        cases hb : r2 == r <;> rw [hb] at ht <;> cases ht
  · obtain ⟨⟨d', cs⟩, _, e⟩ := List.mem_map.1 hd
    injection e with e1 e2
    subst e1 e2
    obtain ⟨B, _, hB⟩ := List.mem_map.1 hm
    exact unrow1_ne hB
section
variable {P : Program} {N : Nat} {K0 : Know} {w0 : Bas} {S S' : St} {Q : St → Prop} {o : Oper}
variable {d : Option Nat} {ty : TypeId} {pos : String} {aft : Array Edge} {g : Option (Nat × Bool)}

theorem run_app (w : World) (base : Nat) (t ty e : TypeId) (i : TypeInfo) (z : Value) (ht : P.underlying t = some (.slice e)) (hi : P.info? e = some i) (hz : i.zero = some z) (hzs : z.cells.size = i.size) (hsz : 0 < i.size)
    (v : Value) (n : Nat) (xs : List Value) (hown : w.ownsRow base e i.size v n xs) (a : Addr) (m c : Nat) (news : List Value) (hl : news.length = m * i.size) (hnews : ∀ j u, news[j]? = some u → w.cell? (a.add j) = some u) (h1 : ∀ u ∈ news, u.oneCell' = true)
    (h63 : n + m ≤ maxLen) (hbytes : (n + m) * i.bytes ≤ 140737488355328) (hbase : base ≤ w.heap.size) :
    ∃ v' w', (Builtin.append_ #[t, t] ty #[v, .slice (some a) m c]).run P w = .ok v' w' ∧ w'.ownsRow base e i.size v' (n + m) (xs ++ news) ∧ w.grownBy w' v.ownBlock ∧ (v'.ownBlock = v.ownBlock ∨ (v'.ownBlock = some w.heap.size ∧ Below w.heap.size w w')) := by
  obtain ⟨v', w', hr, h2, h3, h4, h5⟩ := run_append_own_at (P := P) w base t ty e i z i.size i.bytes ht hi hz rfl rfl hzs hsz v n xs hown a m c news hl hnews h1 h63 hbytes hbase
  refine ⟨v', w', hr, h2, h3, ?_⟩
  rcases h5 with h5 | h5
  · exact .inl h5
  · refine .inr ⟨h5, ?_⟩
    have hb : ∀ o : Obj, Below w.heap.size w (w.drew.alloc o) := fun o => ((Below.refl w.heap.size w).drew).alloc (Nat.le_refl _) o
    rcases hown.2 with ⟨rfl, rfl⟩ | ⟨g, cap, cur, rfl, hbg, hg, hnc, hcm, hcs, htake⟩
    · by_cases hm : m = 0
      · have := h4.2 ⟨rfl, hm⟩
        subst this
        cases h5
      · have hr' := run_append_nil (P := P) w t ty e i z ht hi hz a m c news hl hnews (by omega) (by unfold maxLen at h63; omega) (by have hb := hbytes; simp only [Nat.zero_add] at hb; omega)
        rw [hr] at hr'
        injection hr' with _ e2
        rw [e2]
        exact hb _
    · by_cases hroom : n + m ≤ cap
      · have hr' := run_append_room (P := P) w t ty e i ht hi g n cap cur hg a m c news hl hnews h1 hroom (by rw [hl, hcs, ← Nat.add_mul]; exact Nat.mul_le_mul_right _ hroom)
        rw [hr] at hr'
        injection hr' with e1 _
        rw [e1] at h5
        simp only [Value.ownBlock, Option.some.injEq] at h5
        exact absurd (Array.getElem?_eq_some_iff.1 hg).1 (by omega)
      · have holds : ∀ j u, xs[j]? = some u → w.cell? ((⟨g, 0, none⟩ : Addr).add j) = some u := hown.cells (g := g) rfl
        have hr' := run_append_grow (P := P) w t ty e i z ht hi hz ⟨g, 0, none⟩ n cap xs hown.1 holds a m c news hl hnews (by omega) (by unfold maxLen at h63; omega) (growslice_fits (by omega) hbytes)
        rw [hr] at hr'
        injection hr' with _ e2
        rw [e2]
        exact hb _
theorem own_slice {w : World} {base e k : Nat} {v : Value} {xs : Cells} {K : Know} (h : w.ownsRow base e k v xs.length xs.flatten) (hK : ∀ g, v.ownBlock = some g → ∀ (o : Nat) u, xs.flatten[o]? = some u → K g o = some u) (hlen : ∀ x ∈ xs, x.length = k) (hone : oneCells xs = true) : Slice K k xs v := by
  rcases h.2 with ⟨rfl, h0⟩ | ⟨g, cap, cur, rfl, _, _, h1, h2, _⟩
  · have : xs = [] := List.eq_nil_of_length_eq_zero h0
    subst this
    exact ⟨none, 0, rfl, Nat.le_refl _, fun _ => rfl, Rd.nil_⟩
  · exact ⟨_, cap, rfl, h1, fun h => (by cases h), Rd.of_know (hK g rfl) hlen hone (by unfold maxLen at h2; omega)⟩
theorem Sim.app {K : Know} {n : Nm} {a : Act} {w w1 : World} (h : Sim N K0 w0 S K n a w) {v v1 : Value} {e k : Nat} {xs zs : Cells} (hown : w.ownsRow w0.w.heap.size e k v xs.length xs.flatten) (hlim : ∀ g, v.ownBlock = some g → (∀ o u, K g o = some u → o < xs.length * k) ∧ (∀ b cs, (b, cs) ∈ S.boxes → n.β b ≠ some g) ∧ (∀ r e' k' xs', S.has (.row r e' k' xs') → (n.ρ r).ownBlock ≠ some g) ∧ ∀ d' A, (d', A) ∈ S.arrs → (n.ρ d').ownBlock ≠ some g)
    (hown1 : w1.ownsRow w0.w.heap.size e k v1 (xs ++ zs).length (xs ++ zs).flatten) (hg : w.grownBy w1 v.ownBlock) (hat : v1.ownBlock = v.ownBlock ∨ (v1.ownBlock = some w.heap.size ∧ Below w.heap.size w w1)) (hlen : ∀ x ∈ xs ++ zs, x.length = k) (hone : oneCells (xs ++ zs) = true)
    {d : Nat} (hd : d < N) (hf : S.free d = true) : ∃ K' n', Sim N K0 w0 (S.put d (.row d e k (xs ++ zs))) K' n' (a.put (some d) v1) w1 := by
  let K' : Know := fun b o => if v1.ownBlock = some b then (xs ++ zs).flatten[o]? else K b o
  have hfl : xs.flatten.length = xs.length * k := hown.1
  have hpre : ∀ b o u, v.ownBlock = some b → K b o = some u → xs.flatten[o]? = some u := fun b o u hb hu => by
    have ho := (hlim b hb).1 o u hu
    have hu2 : xs.flatten[o]? = some xs.flatten[o] := List.getElem?_eq_getElem (by rw [hfl]; exact ho)
    have h1 := hown.cells hb o _ hu2
    rw [Addr.add_mid, Nat.zero_add, h.ok b o u hu] at h1
    rw [hu2, ← h1]
  have hle : Know.le K K' := fun b o u hu => by
    simp only [K']
    split
    · rename_i hb
      rcases hat with hat | ⟨hat, _⟩
      · rw [hat] at hb
        have h1 := hpre b o u hb hu
        rw [List.flatten_append, List.getElem?_append_left (List.getElem?_eq_some_iff.1 h1).1]
        exact h1
      · rw [hat] at hb
        injection hb with hb
        subst hb
        exact absurd (Know.lt h.ok hu) (Nat.lt_irrefl _)
    · exact hu
  have hblk : ∀ b, b < w.heap.size → v1.ownBlock ≠ some b → w1.heap[b]? = w.heap[b]? := fun b hb h1 => by
    rcases hat with hat | ⟨_, hat⟩
    · exact hg.block b hb (fun e => h1 (by rw [hat, ← e]))
    · exact hat.block b hb
  have hok : K'.ok w1 := fun b o u hu => by
    simp only [K'] at hu
    split at hu
    · rename_i hb
      have := hown1.cells hb o u hu
      rwa [Addr.add_mid, Nat.zero_add] at this
    · rename_i hb
      have h1 := h.ok b o u hu
      have hlt := Know.lt h.ok hu
      simp only [World.cell?, hblk b hlt hb] at h1 ⊢
      exact h1
  have hnew : ∀ g, v1.ownBlock = some g → w0.w.heap.size ≤ g := fun g hg' => (own_block_lt hown1 hg').1
  have hbelow : Below w0.w.heap.size w w1 := ⟨hg.os, hg.tape, hg.output, hg.size, fun b hb => hblk b (Nat.lt_of_lt_of_le hb h.base) (fun e => by have := hnew b e; omega)⟩
  have hbox1 : ∀ b cs b', (b, cs) ∈ S.boxes → n.β b = some b' → v1.ownBlock ≠ some b' := fun b cs b' hb hβ he => by
    rcases hat with hat | ⟨hat, _⟩
    · rw [hat] at he; exact (hlim b' he).2.1 b cs hb hβ
    · rw [hat] at he
      injection he with he
      subst he
      obtain ⟨b2, arr, ty, q1, _, q3, _⟩ := h.box b cs hb
      rw [hβ] at q1; injection q1 with q1; subst q1
      exact absurd (Array.getElem?_eq_some_iff.1 q3).1 (Nat.lt_irrefl _)
  have hrow1 : ∀ r e' k' xs' g, S.has (.row r e' k' xs') → (n.ρ r).ownBlock = some g → v1.ownBlock ≠ some g := fun r e' k' xs' g hr hρ he => by
    rcases hat with hat | ⟨hat, _⟩
    · rw [hat] at he; exact (hlim g he).2.2.1 r e' k' xs' hr hρ
    · rw [hat] at he
      injection he with he
      subst he
      exact absurd (own_block_lt (h.row r e' k' xs' hr).1 hρ).2 (Nat.lt_irrefl _)
  have harr1 : ∀ d' A g, (d', A) ∈ S.arrs → (n.ρ d').ownBlock = some g → v1.ownBlock ≠ some g := fun d' A g hr hρ he => by
    rcases hat with hat | ⟨hat, _⟩
    · rw [hat] at he; exact (hlim g he).2.2.2 d' A hr hρ
    · rw [hat] at he
      injection he with he
      subst he
      exact absurd (own_block_lt (h.arr d' A hr).1 hρ).2 (Nat.lt_irrefl _)
  have hs' : Sim N K0 w0 S K' n a w1 := {
    size := h.size
    defers := fun ht => (h.defers ht).keep rfl fun D hD => (hblk D (Array.getElem?_eq_some_iff.1 hD).1 (fun e => by
      rcases hat with hat | ⟨hat, _⟩
      · rcases hown.2 with ⟨q, _⟩ | ⟨g, cap, cur, u1, _, u3, _⟩
        · rw [hat, q] at e; cases e
        · rw [hat, u1] at e; injection e with e; subst e; rw [u3] at hD; cases hD
      · rw [hat] at e; injection e with e; subst e; exact absurd (Array.getElem?_eq_some_iff.1 hD).1 (Nat.lt_irrefl _))).trans hD
    below := h.below.step hbelow.os hbelow.tape hbelow.output hbelow.size fun b hb _ => hbelow.block b hb
    k0 := Know.le_trans h.k0 hle
    knew := fun b o u hu hlt => by
      simp only [K'] at hu
      split at hu
      · rename_i hb; have := hnew b hb; omega
      · exact h.knew b o u hu hlt
    ok := hok
    tmp := fun t => (h.tmp t).mono hle
    box := fun b cs hb => by
      obtain ⟨b', arr, ty, q1, q2, q3, q4, q5, q6⟩ := h.box b cs hb
      have hne := hbox1 b cs b' hb q1
      refine ⟨b', arr, ty, q1, q2, (hblk b' (Array.getElem?_eq_some_iff.1 q3).1 hne).trans q3, q4, fun i c hi => (q5 i c hi).mono hle, fun o => ?_⟩
      simp only [K', if_neg hne]
      exact q6 o
    boxInj := h.boxInj
    boxOne := h.boxOne
    row := fun r e' k' xs' hr => by
      obtain ⟨q1, q2⟩ := h.row r e' k' xs' hr
      refine ⟨⟨q1.1, ?_⟩, fun g hg' => ⟨fun o u hu => ?_, (q2 g hg').2⟩⟩
      · rcases q1.2 with q | ⟨g, cap, cur, u1, u2, u3, u4⟩
        · exact .inl q
        · have hgo : (n.ρ r).ownBlock = some g := by rw [u1]; rfl
          exact .inr ⟨g, cap, cur, u1, u2, (hblk g (Array.getElem?_eq_some_iff.1 u3).1 (hrow1 r e' k' xs' g hr hgo)).trans u3, u4⟩
      · simp only [K', if_neg (hrow1 r e' k' xs' g hr hg')] at hu
        exact (q2 g hg').1 o u hu
    rowInj := h.rowInj
    arr := fun d' A hd' => by
      obtain ⟨q1, q2, q3⟩ := h.arr d' A hd'
      refine ⟨⟨q1.1, ?_⟩, q2, fun g hg' => ⟨(q3 g hg').1, fun o => ?_, (q3 g hg').2.2⟩⟩
      · rcases q1.2 with q | ⟨g, cap, cur, u1, u2, u3, u4⟩
        · exact .inl q
        · have hgo : (n.ρ d').ownBlock = some g := by rw [u1]; rfl
          exact .inr ⟨g, cap, cur, u1, u2, (hblk g (Array.getElem?_eq_some_iff.1 u3).1 (harr1 d' A g hd' hgo)).trans u3, u4⟩
      · simp only [K', if_neg (harr1 d' A g hd' hg')]
        exact (q3 g hg').2.1 o
    arrInj := h.arrInj
    arrOne := h.arrOne
    fix := h.fix }
  refine ⟨K', _, hs'.putRow hd hf hown1 (fun g hg' => ⟨fun o u hu => ?_, fun b cs hb hβ => hbox1 b cs g hb hβ hg', fun r e' k' xs' hr hρ => hrow1 r e' k' xs' g hr hρ hg', fun d' A hr hρ => harr1 d' A g hr hρ hg'⟩) (own_slice hown1 (fun g hg' o u hu => ?_) hlen hone)⟩
  · simp only [K', if_pos hg'] at hu
    have := (List.getElem?_eq_some_iff.1 hu).1
    rwa [hown1.1] at this
  · simp only [K', if_pos hg']; exact hu
inductive AV.Src : AV → Nat → Cells → Prop
  | s {A k xs} (h : A.Sl k xs) : AV.Src A k xs
  | nil {k} : AV.Src (.val (.slice none 0 0)) k []
theorem AV.Src.slice {K : Know} {n : Nm} {A : AV} {k : Nat} {xs : Cells} {c : Value} (h : A.Src k xs) (hr : Rep K n A c) : Slice K k xs c := by
  cases h with
  | s h => exact h.slice hr
  | nil => exact ⟨none, 0, hr, Nat.le_refl _, fun _ => rfl, Rd.nil_⟩
def growInfo (P : Program) (t e k bytes : Nat) : Bool :=
  match P.underlying t with
  | some (.slice e') => e' == e && (match P.info? e with
    | some i => i.size == k && i.bytes == bytes && decide (0 < k) && decide (0 < bytes) && (match i.zero with | some z => z.cells.size == k | none => false)
    | none => false)
  | _ => false
theorem growInfo_spec {t e k bytes : Nat} (h : growInfo P t e k bytes = true) : ∃ i z, P.underlying t = some (.slice e) ∧ P.info? e = some i ∧ i.zero = some z ∧ i.size = k ∧ i.bytes = bytes ∧ z.cells.size = k ∧ 0 < k ∧ 0 < bytes := by
  unfold growInfo at h
  split at h
  · rename_i e' hu
    simp only [Bool.and_eq_true, beq_iff_eq] at h
    obtain ⟨rfl, h⟩ := h
    split at h
    · rename_i i hi
      simp only [Bool.and_eq_true, beq_iff_eq, decide_eq_true_eq] at h
      obtain ⟨⟨⟨⟨h1, h2⟩, h3⟩, h4⟩, h5⟩ := h
      split at h5
      · rename_i z hz
        exact ⟨i, z, hu, hi, hz, h1, h2, by simpa using h5, h3, h4⟩
      · cases h5
    · cases h
  · cases h
theorem app_core {K : Know} {n : Nm} {a : Act} {w : World} (hs : Sim N K0 w0 S K n a w) {t e k bytes d : Nat} {s x : Operand} {v : Value} {xs zs : Cells} {B : AV} (hi : growInfo P t e k bytes = true) (hsv : a.eval s = v) (hown : w.ownsRow w0.w.heap.size e k v xs.length xs.flatten)
    (hlim : ∀ g, v.ownBlock = some g → (∀ o u, K g o = some u → o < xs.length * k) ∧ (∀ b cs, (b, cs) ∈ S.boxes → n.β b ≠ some g) ∧ (∀ r e' k' xs', S.has (.row r e' k' xs') → (n.ρ r).ownBlock ≠ some g) ∧ ∀ d' A, (d', A) ∈ S.arrs → (n.ρ d').ownBlock ≠ some g) (hsl : Slice K k xs v)
    (hx : Slice K k zs (a.eval x)) (hsmall : (xs.length + zs.length) * bytes ≤ 140737488355328) (hd : d < N) (hf : S.free d = true) (hq : Q (S.put d (.row d e k (xs ++ zs)))) :
    (⟨some d, .call { callee := .builtin .append, args := #[s, x], argTypes := #[t, t] }, ty, pos, aft, g⟩ : Oper).wp P a w (fun a' w' => ∃ K' n' S', Q S' ∧ Sim N K0 w0 S' K' n' a' w') (fun _ _ _ => False) := by
  obtain ⟨i, z, hu, hie, hz, hk, hb, hzs, hk0, hb0⟩ := growInfo_spec hi
  subst hk hb
  obtain ⟨A, cap, e3, h3, h4, hr⟩ := hx
  have hlen : ∀ y ∈ xs ++ zs, y.length = i.size := fun y hy => by
    obtain ⟨_, _, _, _, _, hrx⟩ := hsl
    rcases List.mem_append.1 hy with hy | hy
    · exact hrx.lens y hy
    · exact hr.lens y hy
  have hone : oneCells (xs ++ zs) = true := by
    obtain ⟨_, _, _, _, _, hrx⟩ := hsl
    exact oneCells_append hrx.ones hr.ones
  have hn : xs.length + zs.length ≤ 140737488355328 := Nat.le_trans (Nat.le_mul_of_pos_right _ hb0) hsmall
  cases A with
  | none =>
    have hz0 : zs = [] := hr.none_nil
    subst hz0
    rw [h4 rfl] at e3
    have hrun := run_append_owned_none (P := P) w w0.w.heap.size t ty e i i.size hu hie v xs.length xs.flatten hown
    unfold Oper.wp
    simp only [List.length_nil] at e3
    have hr2 : (execOp a.eval ⟨some d, .call { callee := .builtin .append, args := #[s, x], argTypes := #[t, t] }, ty, pos, aft, g⟩).run P w = .ok (.value v) w := by
      simp [execOp, resolve, invoke, builtin, hsv, e3, hrun, Result.andThen]
    rw [hr2]
    obtain ⟨K', n', hs'⟩ := hs.app (v1 := v) (w1 := w) (zs := []) hown hlim (by simpa using hown) ⟨rfl, rfl, rfl, Nat.le_refl _, fun _ _ _ => rfl⟩ (.inl rfl) hlen hone hd hf
    exact ⟨K', n', _, hq, hs'⟩
  | some ad =>
    have hfl : zs.flatten.length = zs.length * i.size := flatten_len hr.lens
    obtain ⟨v1, w1, hrun, h5, h6, h7⟩ := run_app (P := P) w w0.w.heap.size t ty e i z hu hie hz hzs hk0 v xs.length xs.flatten hown ad zs.length cap zs.flatten hfl
      (fun j u hj => by obtain ⟨b, off, e9, h9⟩ := hr.flat j u hj; rw [e9, Addr.add_mid]; exact hs.ok _ _ _ h9)
      (fun u hu => by obtain ⟨y, hy, hu⟩ := List.mem_flatten.1 hu; exact List.all_eq_true.1 (List.all_eq_true.1 hr.ones y hy) u hu)
      (by unfold maxLen; omega) hsmall hs.base
    unfold Oper.wp
    have hr2 : (execOp a.eval ⟨some d, .call { callee := .builtin .append, args := #[s, x], argTypes := #[t, t] }, ty, pos, aft, g⟩).run P w = .ok (.value v1) w1 := by
      simp [execOp, resolve, invoke, builtin, hsv, e3, hrun, Result.andThen]
    rw [hr2]
    obtain ⟨K', n', hs'⟩ := hs.app (zs := zs) hown hlim (by rw [List.length_append, List.flatten_append]; exact h5) h6 h7 hlen hone hd hf
    exact ⟨K', n', _, hq, hs'⟩
theorem OpT.appNil {t e k bytes d : Nat} {s x : Operand} {zs : Cells} {B : AV} (h1 : S.opv s = .val (.slice none 0 0)) (h2 : S.opv x = B) (hB : B.Src k zs) (hi : growInfo P t e k bytes = true) (hsmall : zs.length * bytes ≤ 140737488355328) (hd : d < N) (hf : S.free d = true)
    (hq : Q (S.put d (.row d e k zs))) : OpT P N K0 w0 ⟨some d, .call { callee := .builtin .append, args := #[s, x], argTypes := #[t, t] }, ty, pos, aft, g⟩ S Q := by
  intro K n a w hs
  have e1 := hs.opv s
  have e2 := hs.opv x
  rw [h1] at e1
  rw [h2] at e2
  exact app_core hs (xs := []) (zs := zs) (B := B) hi e1 (World.ownsRow_nil w w0.w.heap.size e k) (fun g hg => by cases hg) ⟨none, 0, rfl, Nat.le_refl _, fun _ => rfl, Rd.nil_⟩ (hB.slice e2) (by simpa using hsmall) hd hf (by simpa using hq)
theorem OpT.app {t e k bytes d r : Nat} {s x : Operand} {xs zs : Cells} {B : AV} (h1 : S.opv s = .row r e k xs) (h2 : S.opv x = B) (hB : B.Src k zs) (hi : growInfo P t e k bytes = true) (hsmall : (xs.length + zs.length) * bytes ≤ 140737488355328) (hd : d < N) (hf : S.free d = true)
    {T : St} (hT : S.unrow r = T) (hfT : T.free d = true) (hq : Q (T.put d (.row d e k (xs ++ zs)))) : OpT P N K0 w0 ⟨some d, .call { callee := .builtin .append, args := #[s, x], argTypes := #[t, t] }, ty, pos, aft, g⟩ S Q := by
  subst hT
  intro K n a w hs
  have e1 := hs.opv s
  have e2 := hs.opv x
  rw [h1] at e1
  rw [h2] at e2
  obtain ⟨e1, hsl⟩ := e1
  have hhas : S.has (.row r e k xs) := St.opv_has (x := s) (by rw [h1]; exact .inl rfl)
  obtain ⟨q1, q2⟩ := hs.row r e k xs hhas
  have hs2 : Sim N K0 w0 (S.unrow r) K n a w := hs.weak (St.unrow_wk S r) (fun b c1 c2 p1 p2 => by
    obtain ⟨⟨d1, cs1⟩, m1, f1⟩ := List.mem_map.1 p1
    obtain ⟨⟨d2, cs2⟩, m2, f2⟩ := List.mem_map.1 p2
    injection f1 with f1 f1'
    injection f2 with f2 f2'
    subst f1 f1' f2'
    simp only at f2
    subst f2
    rw [hs.boxOne _ _ _ m1 m2])
  refine app_core hs2 (xs := xs) (zs := zs) (B := B) hi rfl (by rw [show a.eval s = n.ρ r from e1]; exact q1) (fun g hg => ?_) (by rw [show a.eval s = n.ρ r from e1] at *; exact hsl) (hB.slice e2) hsmall hd hfT hq
  rw [show a.eval s = n.ρ r from e1] at hg
  refine ⟨(q2 g hg).1, fun b cs hb => ?_, fun r' e' k' xs' hr' hρ => ?_, fun d' A hd' hρ => (hs.arr d' A hd').2.2 g hρ |>.2.2.2 r e k xs hhas hg⟩
  · obtain ⟨⟨d1, cs1⟩, m1, f1⟩ := List.mem_map.1 hb
    injection f1 with f1 _
    subst f1
    exact (q2 g hg).2 d1 cs1 m1
  · have hne := St.unrow_has hr'
    exact hne (hs.rowInj r' e' k' xs' r e k xs g ((St.unrow_wk S r).has hr') hhas hρ hg)
end
end Go.Proofs.Ytkfmammkbmhfaaa
namespace Go.Proofs.Ytkfmammkbmhfaaa
set_option linter.unusedSimpArgs false
set_option linter.unusedVariables false
open Go Go.RowKit Go.Shelf

def args0 : Nat → List AV → List (Nat × AV)
  | _, [] => []
  | i, A :: l => (i, A) :: args0 (i + 1) l
theorem args0_get : ∀ (As : List AV) (i t : Nat), getT (args0 i As) t = if i ≤ t ∧ t < i + As.length then (As[t - i]?).getD .dead else .dead
  | [], i, t => by simp [args0, getT]
  | A :: l, i, t => by
    simp only [args0, getT]
    cases hb : Nat.beq i t with
    | true =>
      have e := Nat.eq_of_beq_eq_true hb
      subst e
      rw [if_pos (by simp)]
      simp
    | false =>
      have hne : i ≠ t := fun e => by rw [e] at hb; simp at hb
      simp only [cond_false]
      rw [args0_get l (i + 1) t]
      by_cases h : i + 1 ≤ t ∧ t < i + 1 + l.length
      · rw [if_pos h, if_pos (by simp; omega), show t - i = (t - (i + 1)) + 1 by omega]
        simp
      · rw [if_neg h, if_neg (by simp; omega)]
inductive RetV (P : Program) (S : St) : ResultVar → AV → Prop
  | tmp (t : Nat) {A : AV} (h : S.get t = A) (hn : ∀ vs, A ≠ .tup vs) : RetV P S (.tmp t) A
  | many (p : Nat) {t b o : Nat} {cs : List AV} {vs : List Value} {A : AV} (h : S.get p = .ptr b o) (hb : getB S.boxes b = some cs) (hk : rowSize P t = some vs.length) (hcs : valCells ((cs.drop o).take vs.length) = some vs) (hA : .val (.agg vs.toArray) = A) : RetV P S (.cell p t) A
  | one (p : Nat) {t b o : Nat} {cs : List AV} {A : AV} (h : S.get p = .ptr b o) (hb : getB S.boxes b = some cs) (hk : oneSize P t = true) (hcs : cs[o]? = some A) (hn : ∀ vs, A ≠ .tup vs) : RetV P S (.cell p t) A
def retOne (tmps : Array Value) : ResultVar → Sem Value
  | .tmp t => pure (tmps.getD t undef)
  | .cell a t => do loadVar t (← asAddr (tmps.getD a undef))
theorem RetV.run {P : Program} {N : Nat} {K0 : Know} {w0 : Bas} {S : St} {K : Know} {n : Nm} {a : Act} {w : World} (hs : Sim N K0 w0 S K n a w) {r : ResultVar} {A : AV} (h : RetV P S r A) :
    ∃ c, (retOne a.tmps r).run P w = .ok c w ∧ Rep1 K n A c ∧ ((∃ r e k xs, A = .row r e k xs) → S.has A) := by
  cases h with
  | tmp t h hn =>
    have h1 := hs.tmp t
    rw [h] at h1
    refine ⟨_, rfl, ?_, fun ⟨r, e, k, xs, hA⟩ => by subst hA; exact .inl ⟨t, .inl h⟩⟩
    cases A with
    | tup vs => exact absurd rfl (hn vs)
    | _ => exact h1
  | @many p t b o cs vs A h hb hk hcs hA =>
    subst hA
    have e1 := hs.tmp p
    rw [h] at e1
    obtain ⟨b', hβ, e2⟩ := e1
    obtain ⟨b2, arr, ty2, hβ2, _, hh, hsz, hc, _⟩ := hs.box _ _ (getB_mem hb)
    rw [hβ] at hβ2
    injection hβ2 with hβ2
    subst hβ2
    refine ⟨.agg vs.toArray, ?_, rfl, fun ⟨r, e, k, xs, hA⟩ => by cases hA⟩
    have := run_load_many (P := P) hk (w := w) (b := b') (o := o) (fun j v hv => by
      obtain ⟨h3, h4⟩ := valCells_get hcs
      have h5 := h4 j v hv
      have h6 := take_some h5
      rw [List.getElem?_drop] at h6
      have h7 := hc _ _ h6
      have hlt : o + j < arr.size := by rw [hsz]; exact (List.getElem?_eq_some_iff.1 h6).1
      simp only [World.cell?, hh]
      simp only [Array.getD_eq_getD_getElem?, Array.getElem?_eq_getElem hlt, Option.getD_some] at h7
      simp only [Option.isSome_none, Bool.false_eq_true, if_false, Array.getElem?_eq_getElem hlt]
      exact congrArg some h7)
    simp only [retOne, e2, asAddr]
    simpa [Instr.loadAt, Instr.sureAddr] using this
  | @one p t b o cs A h hb hk hcs hn =>
    have e1 := hs.tmp p
    rw [h] at e1
    obtain ⟨b', hβ, e2⟩ := e1
    have hm := getB_mem hb
    obtain ⟨b2, arr, ty2, hβ2, _, hh, hsz, hc, _⟩ := hs.box _ _ hm
    rw [hβ] at hβ2
    injection hβ2 with hβ2
    subst hβ2
    have h7 := hc _ _ hcs
    have hlt := (List.getElem?_eq_some_iff.1 hcs).1
    rw [← hsz] at hlt
    simp only [Array.getD_eq_getD_getElem?, Array.getElem?_eq_getElem hlt, Option.getD_some] at h7
    refine ⟨_, ?_, h7, fun _ => .inr ⟨_, _, hm, List.mem_of_getElem? hcs⟩⟩
    have := run_load_one (P := P) hk (w := w) (b := b') (o := o) (v := arr[o]) (by simp only [World.cell?, hh]; simp [Array.getElem?_eq_getElem hlt])
    simp only [retOne, e2, asAddr]
    simpa [Instr.loadAt, Instr.sureAddr] using this
inductive Rets (P : Program) (S : St) : List ResultVar → List AV → Prop
  | nil : Rets P S [] []
  | cons {r A rs As} (h : RetV P S r A) (t : Rets P S rs As) : Rets P S (r :: rs) (A :: As)
def retsV (As : List AV) : AV := match As with | [A] => A | As => .tup As
def AV.noBox1 : AV → Bool
  | .ptr _ _ | .cloB _ _ | .tup _ | .arow _ | .aptr _ _ _ _ | .asub _ _ _ _ => false
  | _ => true
def retA (P : Program) (fn : Func) (res : AV) : Exit → St → Prop := fun e S => (e = .normal ∨ e = .ret) ∧ ∃ As, Rets P S fn.results.toList As ∧ retsV As = res ∧ As.all AV.noBox1 = true
theorem Rep1.noBox {K : Know} {n : Nm} {A : AV} {c : Value} (hp : A.noBox1 = true) (h : Rep1 K n A c) : Rep1 K ⟨fun _ => none, n.ρ⟩ A c := by
  cases A <;> first | exact h | cases hp

section
variable {P : Program} {N : Nat} {K0 : Know} {w0 : Bas} {S : St} {K : Know} {n : Nm} {a : Act} {w : World}
theorem rets_run (hs : Sim N K0 w0 S K n a w) : ∀ {rs : List ResultVar} {As : List AV}, Rets P S rs As → ∃ cs : List Value,
    (rs.mapM (retOne a.tmps)).run P w = .ok cs w ∧ cs.length = As.length ∧
    (∀ (i : Nat) A c, As[i]? = some A → cs[i]? = some c → Rep1 K n A c) ∧ ∀ r e k xs, AV.row r e k xs ∈ As → S.has (.row r e k xs)
  | _, _, .nil => ⟨[], by rw [List.mapM_nil]; rfl, rfl, fun i A c h => by simp at h, fun r e k xs h => by simp at h⟩
  | _, _, .cons (r := r) (A := A) (rs := rs) (As := As) h t => by
    obtain ⟨c, h1, h2, h3⟩ := h.run hs
    obtain ⟨cs, h4, h5, h6, h7⟩ := rets_run hs t
    refine ⟨c :: cs, ?_, by simp [h5], fun i B d hB hd => ?_, fun r' e k xs hm => ?_⟩
    · rw [List.mapM_cons, Sem.run_bind, h1]
      simp only [Result.andThen_ok]
      rw [Sem.run_bind, h4]
      rfl
    · cases i with
      | zero => simp at hB hd; subst hB hd; exact h2
      | succ i => exact h6 i B d (by simpa using hB) (by simpa using hd)
    · rcases List.mem_cons.1 hm with e1 | e1
      · have := h3 ⟨r', e, k, xs, e1.symm⟩
        rwa [← e1] at this
      · exact h7 r' e k xs e1
theorem ret_run (hs : Sim N K0 w0 S K n a w) {fn : Func} {As : List AV} (h : Rets P S fn.results.toList As) (hnb : As.all AV.noBox1 = true) : ∃ c, (results fn a.tmps).run P w = .ok c w ∧ Rep K ⟨fun _ => none, n.ρ⟩ (retsV As) c ∧ ∀ r e k xs, (AV.row r e k xs).of (retsV As) → S.has (.row r e k xs) := by
  obtain ⟨cs, h1, h2, h3, h4⟩ := rets_run hs h
  have hrun : (results fn a.tmps).run P w = .ok (if h : cs.toArray.size = 1 then cs.toArray[0] else .tuple cs.toArray) w := by
    have e : results fn a.tmps = (do let vs ← fn.results.mapM (retOne a.tmps); pure (if h : vs.size = 1 then vs[0] else .tuple vs)) := rfl
    rw [e, Sem.run_bind, Array.mapM_eq_mapM_toList]
    simp only [map_eq_pure_bind, Sem.run_bind]
    rw [h1]
    rfl
  match As, cs, h2, h3, h4, hnb, hrun with
  | [A], [c], _, h3, h4, hnb, hrun =>
    refine ⟨c, by rw [hrun]; rfl, ?_, fun r e k xs hr => ?_⟩
    · have := (h3 0 A c rfl rfl).noBox (by simpa using hnb)
      exact Rep.of1 this
    · rcases hr with hr | ⟨vs, hr, _⟩
      · exact h4 r e k xs (by simp [retsV] at hr; simp [hr])
      · simp [retsV] at hr; subst hr; simp [AV.noBox1] at hnb
  | [], [], _, h3, h4, hnb, hrun =>
    exact ⟨.tuple #[], by rw [hrun]; rfl, ⟨#[], rfl, rfl, fun i v h => by simp at h⟩, fun r e k xs hr => by
      rcases hr with hr | ⟨vs, hr, hm⟩
      · cases hr
      · injection hr with hr; subst hr; simp at hm⟩
  | A :: B :: As, c :: c' :: cs, h2, h3, h4, hnb, hrun =>
    refine ⟨.tuple (c :: c' :: cs).toArray, by rw [hrun]; rfl, ⟨_, rfl, by simpa using h2, fun i v hv => ?_⟩, fun r e k xs hr => ?_⟩
    · have hi : i < (c :: c' :: cs).length := by rw [h2]; exact (List.getElem?_eq_some_iff.1 hv).1
      have := (h3 i v _ hv (List.getElem?_eq_getElem hi)).noBox (List.all_eq_true.1 hnb v (List.mem_of_getElem? hv))
      simpa [Array.getD_eq_getD_getElem?, List.getElem?_eq_getElem hi] using this
    · rcases hr with hr | ⟨vs, hr, hm⟩
      · cases hr
      · injection hr with hr; subst hr; exact h4 r e k xs hm
end
theorem calls_marks {P : Program} {f : FuncId} {fn : Func} {c : Code} {args : Array Value} {w : World} {R : Ending → World → Prop} (hf : P.funcs[f]? = some fn) (hb : fn.body = some c)
    (h : c.wp P (bodyPostM Fence.wide 0 P fn R) { tmps := args ++ Array.replicate (fn.ntmps - args.size) undef, defers := [] } w) : Calls P f args w R :=
  callsIn_wide.1 (callsIn_of_wp_marks hf hb trivial (wpIn_wide.2 h))
theorem heap_putObj (w : World) (D : Nat) (o : Obj) {b : Nat} (hne : b ≠ D) : (w.putObj D o).heap[b]? = w.heap[b]? := World.putObj_heap_other hne
theorem Sim.taken {N : Nat} {K0 : Know} {w0 : Bas} {S : St} {K : Know} {n : Nm} {a : Act} {w : World} (h : Sim N K0 w0 S K n a w) {D : Nat} {o o' : Obj} (hD : w0.w.heap.size ≤ D) (ho : w.heap[D]? = some o) (hc : o.isCells = false) {ds : List Deferred} (hm : Marks w0 { a with defers := ds } (w.putObj D o')) : Sim N K0 w0 S K n { a with defers := ds } (w.putObj D o') where
  size := h.size
  defers := fun _ => hm
  below := h.below.step rfl rfl rfl (by simp [World.putObj]) fun b hb _ => heap_putObj w D o' (by omega)
  k0 := h.k0
  knew := h.knew
  ok := fun b v u hu => by
    have h1 := h.ok b v u hu
    have hne : b ≠ D := by
      rintro rfl
      simp only [World.cell?, ho] at h1
      cases o <;> simp_all [Obj.isCells]
    simp only [World.cell?, heap_putObj w D o' hne] at h1 ⊢
    exact h1
  tmp := h.tmp
  box := fun d cs hd => by
    obtain ⟨b, arr, ty, q1, q2, q3, q4⟩ := h.box d cs hd
    have hne : b ≠ D := by rintro rfl; rw [q3] at ho; injection ho with ho; subst ho; cases hc
    exact ⟨b, arr, ty, q1, q2, by rw [heap_putObj w D o' hne]; exact q3, q4⟩
  boxInj := h.boxInj
  boxOne := h.boxOne
  row := fun r e k xs hr => by
    obtain ⟨q1, q2⟩ := h.row r e k xs hr
    refine ⟨⟨q1.1, ?_⟩, q2⟩
    rcases q1.2 with q | ⟨g, cap, cur, u1, u2, u3, u4⟩
    · exact .inl q
    · have hne : g ≠ D := by rintro rfl; rw [u3] at ho; injection ho with ho; subst ho; cases hc
      exact .inr ⟨g, cap, cur, u1, u2, by rw [heap_putObj w D o' hne]; exact u3, u4⟩
  rowInj := h.rowInj
  arr := fun d A hd => by
    obtain ⟨q1, q2, q3⟩ := h.arr d A hd
    refine ⟨⟨q1.1, ?_⟩, q2, q3⟩
    rcases q1.2 with q | ⟨g, cap, cur, u1, u2, u3, u4⟩
    · exact .inl q
    · have hne : g ≠ D := by rintro rfl; rw [u3] at ho; injection ho with ho; subst ho; cases hc
      exact .inr ⟨g, cap, cur, u1, u2, by rw [heap_putObj w D o' hne]; exact u3, u4⟩
  arrInj := h.arrInj
  arrOne := h.arrOne
  fix := h.fix
theorem leaves_marks {P : Program} {fn : Func} {R : Ending → World → Prop} {N : Nat} {K0 : Know} {w0 : Bas} {S : St} {K : Know} {n : Nm} {a : Act} {w : World} (ht : w0.top = true) (hs : Sim N K0 w0 S K n a w)
    (h : ∀ w2, Sim N K0 w0 S K n { a with defers := [] } w2 → ∃ v, (results fn a.tmps).run P w2 = .ok v w2 ∧ R (.returned v) w2) : LeavesInM Fence.wide 0 P fn a.tmps R a.defers .returning w := by
  obtain ⟨Ds, h1, h2, h3⟩ := hs.defers ht
  have key : ∀ (Ds : List Nat) (w : World), Sim N K0 w0 S K n { a with defers := Ds.map mark } w → Ds.Nodup → (∀ D ∈ Ds, w0.w.heap.size ≤ D ∧ w.heap[D]? = some (Obj.deferred (some []))) → LeavesInM Fence.wide 0 P fn a.tmps R (Ds.map mark) .returning w := by
    intro Ds
    induction Ds with
    | nil => exact fun w hs _ _ => h w hs
    | cons D Ds ih =>
      intro w hs hnd hall
      obtain ⟨hD1, hD2⟩ := hall D List.mem_cons_self
      have hnd' := List.nodup_cons.1 hnd
      have hall' : ∀ D' ∈ Ds, w0.w.heap.size ≤ D' ∧ (w.putObj D (.deferred none)).heap[D']? = some (Obj.deferred (some [])) := fun D' hD' => by
        obtain ⟨q1, q2⟩ := hall D' (List.mem_cons_of_mem _ hD')
        exact ⟨q1, by rw [heap_putObj w D _ (fun e => hnd'.1 (by rw [← e]; exact hD'))]; exact q2⟩
      refine ⟨by simp, .inl ⟨D, _, rfl, run_takeDeferred hD2, ?_⟩⟩
      exact ih _ (hs.taken (ds := Ds.map mark) hD1 hD2 rfl ⟨Ds, rfl, hnd'.2, hall'⟩) hnd'.2 hall'
  rw [h1]
  refine key Ds w ?_ h2 h3
  have e : ({ a with defers := Ds.map mark } : Act) = a := by rw [← h1]
  rw [e]; exact hs
theorem Good.of_body {P : Program} {f : FuncId} {fn : Func} {c : Code} {As : List AV} {res : AV} (hf : P.funcs[f]? = some fn) (hb : fn.body = some c) (hp : As.all AV.plain1 = true) {T : List (Nat × AV)} (hT : args0 0 As = T)
    (h : ∀ K0 (w0 : Bas), w0.bare → CT P fn.ntmps K0 w0 c ⟨T, [], []⟩ (retA P fn res)) : Good P f As res := by
  subst hT
  intro K w cargs hok hlen hrep
  refine calls_marks hf hb (wp_mono (h K ⟨w, fun _ => False, fun _ => none, true⟩ ⟨fun _ h => h, fun _ => rfl⟩ K Nm.nil _ w ?_) ?_)
  · have hno : ∀ r e k xs, ¬ (⟨args0 0 As, [], []⟩ : St).has (.row r e k xs) := by
      intro r e k xs hr
      rcases hr with ⟨t, ht⟩ | ⟨_, _, hm, _⟩
      · simp only [St.get, args0_get] at ht
        split at ht
        · rename_i hlt
          have hlt' : t - 0 < As.length := by omega
          rw [List.getElem?_eq_getElem hlt'] at ht
          have := List.all_eq_true.1 hp _ (List.getElem_mem hlt')
          simp only [Option.getD_some] at ht
          rcases ht with ht | ⟨_, ht, _⟩ <;> (rw [ht] at this; cases this)
        · rcases ht with ht | ⟨_, ht, _⟩ <;> cases ht
      · simp at hm
    exact {
      size := by simp; omega
      defers := fun _ => Marks.nil rfl
      below := ⟨rfl, rfl, rfl, Nat.le_refl _, fun _ _ _ => rfl⟩
      k0 := Know.le_refl K
      knew := fun _ _ _ h _ => h
      ok := hok
      tmp := fun t => by
        simp only [St.get, args0_get]
        split
        · rename_i hlt
          have hlt' : t - 0 < As.length := by omega
          have hlt2 : t < cargs.length := by omega
          rw [List.getElem?_eq_getElem hlt']
          simp only [Option.getD_some]
          refine Rep.of1 ?_
          have := hrep (t - 0) _ _ (List.getElem?_eq_getElem hlt') (List.getElem?_eq_getElem (by omega))
          simp only [Nat.sub_zero] at this ⊢
          rw [Array.getD_eq_getD_getElem?, Array.getElem?_append_left (by simpa using hlt2)]
          simpa [List.getElem?_eq_getElem hlt2] using this
        · trivial
      box := fun d cs h => by simp at h
      boxInj := fun d cs d' cs' b h => by simp at h
      boxOne := fun d cs cs' h => by simp at h
      row := fun r e k xs h => absurd h (hno r e k xs)
      rowInj := fun r e k xs r' e' k' xs' g h => absurd h (hno r e k xs)
      arr := fun d A h => by simp at h
      arrInj := fun d A d' A' g h => by simp at h
      arrOne := fun d A A' h => by simp at h
      fix := fun d b h => by cases h }
  · rintro e a' w' ⟨K', n', S', ⟨he, Bs, hR, rfl, hnb⟩, hs⟩
    have hpost : LeavesInM Fence.wide 0 P fn a'.tmps (fun e w' => ∃ c K'', e = .returned c ∧ Below w.heap.size w w' ∧ K.le K'' ∧ K''.ok w' ∧ (∀ b o u, K'' b o = some u → b < w.heap.size → K b o = some u) ∧ Res K'' w w' (retsV Bs) c) a'.defers .returning w' := leaves_marks rfl hs fun w2 hs => by
      obtain ⟨c, h1, h2, h3⟩ := ret_run hs hR hnb
      exact ⟨c, h1, c, K', rfl, ⟨hs.below.os, hs.below.tape, hs.below.output, hs.below.size, fun b hb => hs.below.block b hb (fun h => h)⟩, hs.k0, hs.ok, hs.knew, n'.ρ, h2, fun r e k xs hr => by
        obtain ⟨q1, q2⟩ := hs.row r e k xs (h3 r e k xs hr)
        exact ⟨q1, fun g hg => (q2 g hg).1⟩, fun r e k xs r' e' k' xs' g p1 p2 => hs.rowInj r e k xs r' e' k' xs' g (h3 _ _ _ _ p1) (h3 _ _ _ _ p2)⟩
    rcases he with rfl | rfl
    · exact hpost
    · exact hpost
end Go.Proofs.Ytkfmammkbmhfaaa
namespace Go.Proofs.Ytkfmammkbmhfaaa
set_option linter.unusedSimpArgs false
set_option linter.unusedVariables false
open Go Go.RowKit Go.Shelf

def dstAt (ops : Array Oper) (j : Nat) : Option Nat := (ops[j]?).bind (·.dst)
def discB (ops : Array Oper) (n : Nat) : Bool :=
  (List.range n).all fun i => match ops[i]? with
    | none => false
    | some oi => (oi.after.all fun e => !Region.binds .any e || decide (e.on < i)) &&
      ((List.range n).all fun j => (match dstAt ops j with
        | none => true
        | some dj => (i == j || dstAt ops i != some dj) && (!(oi.looksAt ops).contains dj || (if j < i then Region.waitsFor .any ops i j else i == j || Region.waitsFor .any ops j i))))
theorem discB_spec {ops : Array Oper} {n : Nat} (h : discB ops n = true) {i : Nat} (hi : i < n) : ∃ oi, ops[i]? = some oi ∧ (∀ e ∈ oi.after, Region.binds .any e = true → e.on < i) ∧
    ∀ j dj, j < n → dstAt ops j = some dj → (i = j ∨ dstAt ops i ≠ some dj) ∧ (dj ∈ oi.looksAt ops → (j < i → Region.waitsFor .any ops i j = true) ∧ (i < j → Region.waitsFor .any ops j i = true)) := by
  have h1 := List.all_eq_true.1 h i (List.mem_range.2 hi)
  split at h1
  · cases h1
  · rename_i oi hoi
    simp only [Bool.and_eq_true] at h1
    refine ⟨oi, hoi, fun e he hb => ?_, fun j dj hj hd => ?_⟩
    · have := (Array.all_eq_true_iff_forall_mem.1 h1.1) e he
      simp [hb] at this
      exact this
    · have h2 := List.all_eq_true.1 h1.2 j (List.mem_range.2 hj)
      simp only [hd, Bool.and_eq_true, Bool.or_eq_true, beq_iff_eq, bne_iff_ne, ne_eq, Bool.not_eq_true'] at h2
      refine ⟨h2.1, fun hm => ⟨fun hlt => ?_, fun hlt => ?_⟩⟩
      · rcases h2.2 with h3 | h3
        · simp at h3; exact absurd hm h3
        · rw [if_pos hlt] at h3; exact h3
      · rcases h2.2 with h3 | h3
        · simp at h3; exact absurd hm h3
        · rw [if_neg (by omega)] at h3
          simp only [Bool.or_eq_true, beq_iff_eq] at h3
          rcases h3 with h3 | h3
          · omega
          · exact h3
def cntU (listed : Array Bool) : Nat → Nat
  | 0 => 0
  | n + 1 => cntU listed n + cond (listed.getD n true) 0 1
theorem cntU_set {listed : Array Bool} {i : Nat} (hi : listed.getD i true = false) : ∀ n, cntU (listed.setIfInBounds i true) n = if i < n then cntU listed n - 1 else cntU listed n := by
  have hil : i < listed.size := by
    rcases Nat.lt_or_ge i listed.size with h | h
    · exact h
    · simp [Array.getElem?_eq_none h] at hi
  intro n
  induction n with
  | zero => simp [cntU]
  | succ n ih =>
    have hge : ∀ m, i < m → 1 ≤ cntU listed m := by
      intro m hm
      induction m with
      | zero => omega
      | succ m ihm =>
        simp only [cntU]
        by_cases e : i = m
        · subst e; rw [hi]; simp
        · have := ihm (by omega); omega
    simp only [cntU]
    rw [ih]
    by_cases e : i = n
    · subst e
      rw [if_neg (Nat.lt_irrefl _), if_pos (Nat.lt_succ_self _), hi]
      have : (listed.setIfInBounds i true).getD i true = true := by simp [hil]
      rw [this]; simp
    · rw [getD_set_ne true e]
      by_cases h : i < n
      · rw [if_pos h, if_pos (by omega)]
        have := hge n h
        omega
      · rw [if_neg h, if_neg (by omega)]
theorem cntU_zero {listed : Array Bool} : ∀ n, cntU listed n = 0 → ∀ i, i < n → listed.getD i true = true
  | 0, _, i, hi => by omega
  | n + 1, h, i, hi => by
    simp only [cntU] at h
    by_cases e : i = n
    · subst e
      cases hl : listed.getD i true with
      | true => rfl
      | false => rw [hl] at h; simp at h
    · exact cntU_zero n (by omega) i (by omega)
theorem cntU_pos {listed : Array Bool} : ∀ n, cntU listed n ≠ 0 → ∃ i, i < n ∧ listed.getD i true = false ∧ ∀ j, j < i → listed.getD j true = true
  | 0, h => absurd rfl h
  | n + 1, h => by
    by_cases e : cntU listed n = 0
    · simp only [cntU, e] at h
      refine ⟨n, Nat.lt_succ_self _, ?_, cntU_zero n e⟩
      cases hl : listed.getD n true with
      | false => rfl
      | true => rw [hl] at h; simp at h
    · obtain ⟨i, h1, h2⟩ := cntU_pos n e
      exact ⟨i, by omega, h2⟩

section
variable {P : Program} {N : Nat} {K0 : Know} {w0 : Bas} {S : St} {ops : Array Oper}
def HOk (P : Program) (N : Nat) (K0 : Know) (w0 : Bas) (ops : Array Oper) (o : Oper) (S : St) (v : AV) : Prop := (GuardIs ops o S true ∧ OpH P N K0 w0 o S v) ∨ (GuardIs ops o S false ∧ v = .val undef)
def HT (P : Program) (N : Nat) (K0 : Know) (w0 : Bas) (ops : Array Oper) : List Oper → St → (St → Prop) → Prop
  | [], S, Q => Q S
  | o :: l, S, Q => ∃ v, HOk P N K0 w0 ops o S v ∧ HT P N K0 w0 ops l (S.putO o.dst v) Q
def foldS : St → List Oper → List AV → St
  | S, o :: l, v :: vs => foldS (S.putO o.dst v) l vs
  | S, _, _ => S
theorem HT.elim : ∀ {l : List Oper} {S : St} {Q : St → Prop}, HT P N K0 w0 ops l S Q → ∃ vs : List AV, vs.length = l.length ∧ (∀ (i : Nat) o v, l[i]? = some o → vs[i]? = some v → HOk P N K0 w0 ops o (foldS S (l.take i) (vs.take i)) v) ∧ Q (foldS S l vs)
  | [], S, Q, h => ⟨[], rfl, fun i o v h => by simp at h, h⟩
  | o :: l, S, Q, ⟨v, h1, h2⟩ => by
    obtain ⟨vs, h3, h4, h5⟩ := HT.elim h2
    refine ⟨v :: vs, by simp [h3], fun i o' v' ho hv => ?_, h5⟩
    cases i with
    | zero => simp at ho hv; subst ho hv; exact h1
    | succ i => exact h4 i o' v' (by simpa using ho) (by simpa using hv)
theorem foldS_boxes : ∀ (l : List Oper) (vs : List AV) (S : St), (foldS S l vs).mem = S.mem
  | [], _, _ => rfl
  | _ :: _, [], _ => rfl
  | o :: l, v :: vs, S => by
    rw [foldS, foldS_boxes l vs]
    cases o.dst <;> rfl
theorem putO_get_ne {d : Option Nat} {v : AV} {t : Nat} (h : d ≠ some t) : (S.putO d v).get t = S.get t := by
  cases d with
  | none => rfl
  | some d => simp only [St.putO]; rw [St.get_put, if_neg (fun e => h (by rw [e]))]
theorem putO_get_eq {v : AV} {t : Nat} : (S.putO (some t) v).get t = v := by simp only [St.putO]; rw [St.get_put, if_pos rfl]
theorem foldS_get_no : ∀ (l : List Oper) (vs : List AV) (S : St) (t : Nat), (∀ (j : Nat) o, l[j]? = some o → o.dst ≠ some t) → (foldS S l vs).get t = S.get t
  | [], _, _, _, _ => rfl
  | _ :: _, [], _, _, _ => rfl
  | o :: l, v :: vs, S, t, h => by
    rw [foldS, foldS_get_no l vs _ t (fun j o' ho => h (j + 1) o' (by simpa using ho)), putO_get_ne (h 0 o rfl)]
theorem foldS_get : ∀ (l : List Oper) (vs : List AV) (S : St) (t j : Nat) (o : Oper) (v : AV), l[j]? = some o → vs[j]? = some v → o.dst = some t → (∀ (j' : Nat) o', j < j' → l[j']? = some o' → o'.dst ≠ some t) → (foldS S l vs).get t = v
  | [], _, _, _, _, _, _, h, _, _, _ => by simp at h
  | _ :: _, [], _, _, _, _, _, _, h, _, _ => by simp at h
  | o :: l, v :: vs, S, t, 0, o', v', h1, h2, h3, h4 => by
    simp at h1 h2
    subst h1 h2
    rw [foldS, foldS_get_no l vs _ t (fun j o' ho => h4 (j + 1) o' (by omega) (by simpa using ho)), h3, putO_get_eq]
  | o :: l, v :: vs, S, t, j + 1, o', v', h1, h2, h3, h4 => by
    rw [foldS]
    exact foldS_get l vs _ t j o' v' (by simpa using h1) (by simpa using h2) h3 (fun j' o'' hj ho => h4 (j' + 1) o'' (by omega) (by simpa using ho))
def canon (m n : Nat) : Array Bool := (Array.range m).map fun j => decide (j < n)
structure HInv (ops : Array Oper) (n : Nat) (S : St) (vs : List AV) (listed : Array Bool) (T : St) : Prop where
  mem : T.mem = S.mem
  got : ∀ j t v, j < n → listed.getD j true = true → dstAt ops j = some t → vs[j]? = some v → T.get t = v
  no : ∀ t, (∀ j, j < n → listed.getD j true = true → dstAt ops j ≠ some t) → T.get t = S.get t
def dstsB (ops : Array Oper) (N : Nat) : Bool := ops.all fun o => match o.dst with | some d => decide (d < N) | none => true
theorem dstsB_spec (h : dstsB ops N = true) {i : Nat} {o : Oper} (ho : ops[i]? = some o) : ∀ t, o.dst = some t → t < N := fun t ht => by
  have := (Array.all_eq_true_iff_forall_mem.1 h) o (Array.mem_of_getElem? ho)
  rw [ht] at this
  simpa using this
theorem dstsB_at (h : dstsB ops N = true) {j d : Nat} (hd : dstAt ops j = some d) : d < N := by
  unfold dstAt at hd
  cases ho : ops[j]? with
  | none => rw [ho] at hd; cases hd
  | some o => rw [ho] at hd; exact dstsB_spec h ho d hd
theorem any_head {n g : Nat} {vs : List AV} {Q' : Exit → Act → World → Prop} (hdN : dstsB ops N = true) (hD : discB ops n = true) (hs : Region.sinkB .any ops n = true) (hc : Region.chainB .any ops n = true) (hn : n < ops.size) (hvl : vs.length = n)
    (hok : ∀ i o v, i < n → ops[i]? = some o → vs[i]? = some v → HOk P N K0 w0 ops o (foldS S (ops.toList.take i) (vs.take i)) v)
    (hT : ∀ T K nm a w, HInv ops n S vs (canon ops.size n) T → Sim N K0 w0 T K nm a w → wpAny P .any ops Q' g (canon ops.size n) a w) :
    ∀ (f : Nat) (listed : Array Bool) (T : St) (K : Know) (nm : Nm) (a : Act) (w : World), cntU listed n = f → HeadInv .any ops n listed → HInv ops n S vs listed T → Sim N K0 w0 T K nm a w → wpAny P .any ops Q' (f + g) listed a w := by
  intro f
  induction f with
  | zero =>
    intro listed T K nm a w hf inv hi hsim
    have hall := cntU_zero n hf
    have e : listed = canon ops.size n := by
      apply Array.ext
      · simp [canon, inv.size]
      · intro j h1 h2
        by_cases hj : j < n
        · have := hall j hj
          simp [canon, hj]
          simpa [h1] using this
        · have := inv.tail j (by omega) (by rw [← inv.size]; exact h1)
          simp [canon, hj]
          simpa [h1] using this
    subst e
    rw [Nat.zero_add]
    exact hT T K nm a w hi hsim
  | succ f ih =>
    intro listed T K nm a w hf inv hi hsim
    obtain ⟨i0, hi0, hun0, hmin⟩ := cntU_pos n (by omega : cntU listed n ≠ 0)
    rw [show f + 1 + g = (f + g) + 1 by omega]
    have hready0 : i0 ∈ Region.ready .any ops listed := by
      obtain ⟨oi, hoi, hback, _⟩ := discB_spec hD hi0
      refine mem_ready.2 ⟨hun0, oi, hoi, fun e he hb => ?_⟩
      have h1 := hmin e.on (hback e he hb)
      have hlt : e.on < listed.size := by rw [inv.size]; have := hback e he hb; omega
      simpa [hlt] using h1
    refine ⟨fun h0 => (by rw [h0] at hready0; cases hready0), fun i hr => ?_⟩
    have hin : i < n := by
      rcases Nat.lt_or_ge i n with h | h
      · exact h
      · exact absurd hr (tail_waits hs hc hn inv _ i0 rfl hi0 hun0 i h)
    obtain ⟨hun, oi', hoi', hall⟩ := mem_ready.1 hr
    obtain ⟨oi, hoi, hback, hdisc⟩ := discB_spec hD hin
    obtain rfl : oi' = oi := Option.some.inj (hoi'.symm.trans hoi)
    have hvi : i < vs.length := by rw [hvl]; exact hin
    have hv : vs[i]? = some vs[i] := List.getElem?_eq_getElem hvi
    have hstep := hok i _ _ hin hoi hv
    have hlisted : ∀ j, listed.getD j false = true → listed.getD j true = true := fun j hj => by
      cases h : listed.getD j true with
      | true => rfl
      | false => rw [getD_both h] at hj; cases hj
    -- the operands are as in the order of the text
    have hget : ∀ t, t ∈ oi'.looksAt ops → T.get t = (foldS S (ops.toList.take i) (vs.take i)).get t := by
      intro t ht
      have htk : ∀ (j : Nat) o, (ops.toList.take i)[j]? = some o → j < i ∧ ops[j]? = some o := fun j o ho => by
        rw [List.getElem?_take] at ho
        split at ho
        · rename_i hj; exact ⟨hj, by simpa using ho⟩
        · cases ho
      by_cases hex : ∃ j, j < n ∧ dstAt ops j = some t
      · obtain ⟨j, hj, hd⟩ := hex
        have huniq : ∀ k, k < n → dstAt ops k = some t → k = j := fun k hk hdk => by
          obtain ⟨_, _, _, hdk'⟩ := discB_spec hD hk
          rcases (hdk' j t hj hd).1 with h | h
          · exact h
          · exact absurd hdk h
        obtain ⟨_, hw⟩ := hdisc j t hj hd
        obtain ⟨hw1, hw2⟩ := hw ht
        rcases Nat.lt_or_ge j i with hji | hji
        · obtain ⟨o', ho', e, he, hb, hon⟩ := Region.waitsFor_spec (hw1 hji)
          obtain rfl : o' = oi' := Option.some.inj (ho'.symm.trans hoi)
          have hlj := hall e he hb
          rw [hon] at hlj
          have hvj : j < vs.length := by omega
          rw [hi.got j t vs[j] hj (hlisted j hlj) hd (List.getElem?_eq_getElem hvj)]
          cases hoj : ops[j]? with
          | none => simp [dstAt, hoj] at hd
          | some oj =>
            symm
            refine foldS_get _ _ S t j oj vs[j] (by rw [List.getElem?_take, if_pos hji]; simpa using hoj) (by rw [List.getElem?_take, if_pos hji]; exact List.getElem?_eq_getElem hvj) (by simpa [dstAt, hoj] using hd) (fun j' o' hjj ho' => ?_)
            obtain ⟨h1, h2⟩ := htk j' o' ho'
            intro hdd
            have := huniq j' (by omega) (by simp [dstAt, h2, hdd])
            omega
        · have hnl : listed.getD j true ≠ true := by
            rcases Nat.lt_or_ge i j with hij | hij
            · intro hl
              obtain ⟨oj, hoj, e, he, hb, hon⟩ := Region.waitsFor_spec (hw2 hij)
              have hjs : j < listed.size := by rw [inv.size]; omega
              have := inv.closed j oj hoj (by simpa [hjs] using hl) e he hb
              rw [hon, getD_both hun] at this
              cases this
            · have : j = i := by omega
              subst this
              rw [hun]; simp
          rw [hi.no t (fun k hk hl hdk => by have := huniq k hk hdk; subst this; exact hnl hl)]
          symm
          refine foldS_get_no _ _ S t (fun k o ho hdk => ?_)
          obtain ⟨h1, h2⟩ := htk k o ho
          have := huniq k (by omega) (by simp [dstAt, h2, hdk])
          omega
      · rw [hi.no t (fun k hk _ hdk => hex ⟨k, hk, hdk⟩)]
        symm
        refine foldS_get_no _ _ S t (fun k o ho hdk => ?_)
        obtain ⟨h1, h2⟩ := htk k o ho
        exact hex ⟨k, by omega, by simp [dstAt, h2, hdk]⟩
    have hnext : ∀ (K' : Know) (nm' : Nm) (a' : Act) (w' : World), Sim N K0 w0 (T.putO oi'.dst vs[i]) K' nm' a' w' → wpAny P .any ops Q' (f + g) (listed.setIfInBounds i true) a' w' := by
      intro K' nm' a' w' hs'
      have hset : ∀ j, j ≠ i → (listed.setIfInBounds i true).getD j true = listed.getD j true := fun j hj => getD_set_ne true (Ne.symm hj)
      refine ih _ _ K' nm' a' w' (by rw [cntU_set hun, if_pos hin]; omega) (inv.set hr hin) ⟨?_, fun j t v hj hl hd hvv => ?_, fun t hno => ?_⟩ hs'
      · rw [← hi.mem]; cases oi'.dst <;> rfl
      · by_cases e : j = i
        · subst e
          have hdi : oi'.dst = some t := by simpa [dstAt, hoi] using hd
          rw [hdi, putO_get_eq]
          rw [hv] at hvv
          exact Option.some.inj hvv
        · have hne : oi'.dst ≠ some t := fun h => by
            have := (hdisc j t hj hd).1
            rcases this with h1 | h1
            · exact e h1.symm
            · exact h1 (by simp [dstAt, hoi, h])
          rw [putO_get_ne hne]
          exact hi.got j t v hj (by rw [← hset j e]; exact hl) hd hvv
      · have hilt : i < listed.size := by rw [inv.size]; omega
        have hne : oi'.dst ≠ some t := fun h => hno i hin (by simp [hilt]) (by simp [dstAt, hoi, h])
        rw [putO_get_ne hne]
        refine hi.no t (fun j hj hl => hno j hj ?_)
        by_cases e : j = i
        · subst e; simp [hilt]
        · rw [hset j e]; exact hl
    have hdO := dstsB_spec (N := N) hdN hoi
    have hgd : ∀ b, GuardIs ops oi' (foldS S (ops.toList.take i) (vs.take i)) b → GuardIs ops oi' T b := fun b hb => by
      unfold GuardIs at *
      cases hg : oi'.guard with
      | none => rw [hg] at hb; exact hb
      | some p =>
        obtain ⟨g', want⟩ := p
        rw [hg] at hb
        obtain ⟨dg, h1, h2⟩ := hb
        refine ⟨dg, h1, ?_⟩
        rw [hget dg (by unfold Oper.looksAt; rw [hg]; simp [h1])]
        exact h2
    unfold wpOp
    simp only [hoi]
    have hgN : ∀ g' want dg, oi'.guard = some (g', want) → ((ops[g']?).bind (·.dst)) = some dg → dg < N := fun g' want dg _ hd => dstsB_at hdN hd
    rcases hstep with ⟨hg, hop⟩ | ⟨hg, hvu⟩
    · rw [wanted_of hsim (hgd true hg) hgN]
      simp only [if_true]
      refine .inl (upon_false (Oper.wp_mono ?_ (hop T K nm a w hsim (hi.mem.trans (foldS_boxes _ _ S).symm) (fun x hx => ?_))))
      · rintro a' w' ⟨c, K', rfl, h1, h2, h3, h4, h5, h6⟩
        exact hnext K' nm _ w' ((hsim.grow h1 h2 h3 h4).putO hdO h5 h6)
      · cases x with
        | tmp t => exact hget t (List.mem_append_left _ (List.mem_filterMap.2 ⟨.tmp t, by simpa using hx, rfl⟩))
        | const v => rfl
        | global g => rfl
        | func f => rfl
    · rw [wanted_of hsim (hgd false hg) hgN]
      simp only [Bool.false_eq_true, if_false]
      refine hnext K nm _ w (hsim.putO hdO ?_ ?_)
      · rw [hvu]; exact rfl
      · rw [hvu]; exact has_val
theorem upon_mono {o : Oper} {a : Act} {next next' : Act → World → Prop} {Q Q' : Exit → Act → World → Prop} {r : Result Next} (hn : ∀ a w, next a w → next' a w) (hq : ∀ e a w, Q e a w → Q' e a w) (h : o.upon P a next Q r) : o.upon P a next' Q' r := by
  cases r with
  | ok n w' =>
    cases n <;> simp only [Oper.upon] at h ⊢
    case enter f args =>
      refine Calls.mono h fun e w'' he => ?_
      cases e with
      | returned v => exact hn _ _ he
      | panicked c => exact hq _ _ _ he
      | outgrown => obtain ⟨a2, w2, hf⟩ := he; exact ⟨a2, w2, hq _ _ _ hf⟩
    case row row args => exact Rows.mono h fun v w'' he => hn _ _ he
    all_goals exact hn _ _ h
  | halt x w' => cases x <;> simp only [Oper.upon] at h ⊢ <;> exact hq _ _ _ h
theorem wpList_mono_ {Q Q' : Exit → Act → World → Prop} (hq : ∀ e a w, Q e a w → Q' e a w) : ∀ (l : List Oper) (a : Act) (w : World), wpList P ops Q l a w → wpList P ops Q' l a w
  | [], a, w, h => hq _ _ _ h
  | o :: l, a, w, h => by
    simp only [wpList] at h ⊢
    split
    · rename_i hw
      rw [if_pos hw] at h
      rcases h with h | ⟨h1, a2, w2, h2⟩
      · exact .inl (upon_mono (fun a w => wpList_mono_ hq l a w) hq h)
      · exact .inr ⟨h1, a2, w2, hq _ _ _ h2⟩
    · rename_i hw
      rw [if_neg hw] at h
      exact wpList_mono_ hq l _ _ h
def headB (ops : Array Oper) (N n : Nat) : Bool :=
  dstsB ops N && discB ops n && Region.sinkB .any ops n && Region.chainB .any ops n && decide (n < ops.size) && Region.seqB .any ops (ops.size - n) n (canon ops.size n)
theorem cntU_false (m : Nat) : ∀ n, n ≤ m → cntU (Array.replicate m false) n = n
  | 0, _ => rfl
  | n + 1, h => by
    simp only [cntU]
    rw [cntU_false m n (by omega)]
    have : (Array.replicate m false).getD n true = false := getD_in (by simp; omega) (getD_replicate_false _ _)
    rw [this]; rfl
theorem Sim.drew {K : Know} {n : Nm} {a : Act} {w : World} (h : Sim N K0 w0 S K n a w) : Sim N K0 w0 S K n a { w with drawn := w.drawn + 1 } :=
  h.grow (K' := K) ⟨rfl, rfl, rfl, Nat.le_refl _, fun _ _ => rfl⟩ (Know.le_refl K) h.ok (fun _ _ _ h _ => h)
theorem draw_any {Q : St → Prop} {l : List Oper} (n : Nat) (hB : headB l.toArray N n = true)
    (h : HT P N K0 w0 l.toArray (l.take n) S fun S' => LT P N K0 w0 l.toArray (l.drop n) S' Q) {K : Know} {nm : Nm} {a : Act} {w : World} (hsim : Sim N K0 w0 S K nm a w) :
    wpAny P .any l.toArray (fun e a' w' => e = .normal ∧ ∃ K' n' S', Q S' ∧ Sim N K0 w0 S' K' n' a' w') l.toArray.size (Array.replicate l.toArray.size false) a { w with drawn := w.drawn + 1 } := by
  simp only [headB, Bool.and_eq_true, decide_eq_true_eq] at hB
  obtain ⟨⟨⟨⟨⟨hdN, hD⟩, hs⟩, hc⟩, hn⟩, hseq⟩ := hB
  have hn' : n < l.length := by simpa using hn
  obtain ⟨vs, h1, h2, h3⟩ := h.elim
  have htl : (l.take n).length = n := by simp; omega
  rw [htl] at h1
  have inv0 : HeadInv .any l.toArray n (Array.replicate l.toArray.size false) :=
    ⟨by simp, fun j oj _ hl => (by rw [getD_replicate_false] at hl; cases hl), fun t _ ht => getD_in (by simpa using ht) (getD_replicate_false _ _)⟩
  have H := any_head (P := P) (S := S) (g := l.toArray.size - n) (vs := vs) (Q' := fun e a' w' => e = .normal ∧ ∃ K' n' S', Q S' ∧ Sim N K0 w0 S' K' n' a' w') hdN hD hs hc hn h1
    (fun i o v hi ho hv => by
      have := h2 i o v (by rw [List.getElem?_take, if_pos hi]; simpa using ho) hv
      rwa [List.take_take, Nat.min_eq_left (Nat.le_of_lt hi)] at this)
    (fun T K nm a w hi hsim => by
      have hw : T.wk (foldS S (l.take n) vs) := by
        refine ⟨⟨fun t => .inl (.inl ?_), fun d A hd => ?_⟩, fun d cs' hd => ⟨cs', ?_, rfl, fun i c c' q1 q2 => ?_⟩⟩
        · have hcan : ∀ j, j < n → (canon l.toArray.size n).getD j true = true := fun j hj => by
            have hjl : j < l.length := by omega
            simp [canon, hj, hjl]
          by_cases hex : ∃ j, j < n ∧ dstAt l.toArray j = some t
          · obtain ⟨j, hj, hd⟩ := hex
            have hvj : j < vs.length := by omega
            rw [hi.got j t vs[j] hj (hcan j hj) hd (List.getElem?_eq_getElem hvj)]
            cases hoj : l.toArray[j]? with
            | none => simp [dstAt, hoj] at hd
            | some oj =>
              refine foldS_get _ _ S t j oj vs[j] (by rw [List.getElem?_take, if_pos hj]; simpa using hoj) (List.getElem?_eq_getElem hvj) (by simpa [dstAt, hoj] using hd) (fun j' o' hjj ho' => ?_)
              rw [List.getElem?_take] at ho'
              split at ho'
              · rename_i hj'
                intro hdd
                have ho2 : l.toArray[j']? = some o' := by simpa using ho'
                obtain ⟨_, _, _, hdk'⟩ := discB_spec hD hj'
                rcases (hdk' j t hj hd).1 with h | h
                · omega
                · exact h (by simp [dstAt, ho2, hdd])
              · cases ho'
          · rw [hi.no t (fun k hk _ hdk => hex ⟨k, hk, hdk⟩)]
            refine foldS_get_no _ _ S t (fun k o ho hdk => ?_)
            rw [List.getElem?_take] at ho
            split at ho
            · rename_i hk
              have ho2 : l.toArray[k]? = some o := by simpa using ho
              exact hex ⟨k, hk, by simp [dstAt, ho2, hdk]⟩
            · cases ho
        · rw [St.mem_arrs (foldS_boxes _ _ S)] at hd; rw [St.mem_arrs hi.mem]; exact hd
        · rw [St.mem_boxes (foldS_boxes _ _ S)] at hd; rw [St.mem_boxes hi.mem]; exact hd
        · rw [q1] at q2; injection q2 with q2; exact .inl q2.symm
      have hsim' := hsim.weak hw (fun d c c' q1 q2 => by rw [St.mem_boxes (foldS_boxes _ _ S), ← St.mem_boxes hi.mem] at q1 q2; exact hsim.boxOne d c c' q1 q2)
      have hdl : (l.drop n).length = l.toArray.size - n := by simp
      have := wpAny_of_seq (md := .any) (ops := l.toArray) (P := P) (l.drop n) n (canon l.toArray.size n) a w (Q' := fun e a' w' => e = .normal ∧ ∃ K' n' S', Q S' ∧ Sim N K0 w0 S' K' n' a' w') (fun j => by simp [List.getElem?_drop]) (by rw [hdl]; exact hseq)
        (wpList_mono_ (fun e a' w' hh => by
          exact hh) _ _ _ (h3 K nm a w hsim'))
      rwa [hdl] at this)
    n (Array.replicate l.toArray.size false) S K nm a _ (cntU_false _ n (by omega)) inv0 ⟨rfl, fun j t v hj hl => (by rw [getD_in (by simp; omega) (getD_replicate_false _ _)] at hl; cases hl), fun t _ => rfl⟩ hsim.drew
  rwa [show n + (l.toArray.size - n) = l.toArray.size by omega] at H
theorem CT.draw {QE : Exit → St → Prop} {id : Nat} {l : List Oper} (n : Nat) (hm : P.follows .mixedOrders = true) (hB : headB l.toArray N n = true)
    (h : HT P N K0 w0 l.toArray (l.take n) S fun S' => LT P N K0 w0 l.toArray (l.drop n) S' fun S'' => QE .normal S'') : CT P N K0 w0 (.region id l.toArray true) S QE := by
  intro K nm a w hsim
  refine wp_mono (wp_region_any hm (draw_any n hB h hsim)) ?_
  rintro e a' w' ⟨rfl, K', n', S', h1, h2⟩
  exact ⟨K', n', S', h1, h2⟩
end
end Go.Proofs.Ytkfmammkbmhfaaa
