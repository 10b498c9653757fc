/- What a list of operations does to an abstract state. -/
import Derived.Test.YtjgjohonbjmakaaAbsB
namespace Go.Proofs.Ytjgjohonbjmakaa
set_option linter.unusedSimpArgs false
set_option linter.unusedVariables false
open Go Go.RowKit

def St.opv (S : St) : Operand → AV
  | .tmp t => S.get t
  | .const v => .val v
  | .global g => .val (.pointer (some ⟨g, 0, none⟩))
  | .func f => .val (.func (.func f) #[] #[])
theorem Sim.opv {N : Nat} {K0 : Know} {w0 : World} {S : St} {K : Know} {n : Nm} {a : Act} {w : World} (h : Sim N K0 w0 S K n a w) (x : Operand) : Rep K n (S.opv x) (a.eval x) := by
  cases x with
  | tmp t => exact h.tmp t
  | const v => exact rfl
  | global g => exact rfl
  | func f => exact rfl
theorem St.opv_has {S : St} {x : Operand} {r e k : Nat} {xs : Cells} (h : (AV.row r e k xs).of (S.opv x)) : S.has (.row r e k xs) := by
  cases x with
  | tmp t => exact .inl ⟨t, h⟩
  | _ => rcases h with h | ⟨_, h, _⟩ <;> cases h

/-- One operation. -/
def OpT (P : Program) (N : Nat) (K0 : Know) (w0 : World) (o : Oper) (S : St) (Q : St → Prop) : Prop :=
  ∀ K n a w, Sim N K0 w0 S K n a w → o.wp P a w (fun a' w' => ∃ K' n' S', Q S' ∧ Sim N K0 w0 S' K' n' a' w') (fun _ _ _ => False)
/-- .. that gives a slot a value, and at most grows the world; of the state its operands alone are asked. -/
def OpH (P : Program) (N : Nat) (K0 : Know) (w0 : World) (o : Oper) (S : St) (v : AV) : Prop :=
  ∀ S' K n a w, Sim N K0 w0 S' K n a w → S'.boxes = S.boxes → (∀ x ∈ o.op.operands.toList, S'.opv x = S.opv x) →
    o.wp P a w (fun a' w' => ∃ c K', a' = a.put o.dst c ∧ Below w.heap.size w w' ∧ K.le K' ∧ K'.ok w' ∧ (∀ b o u, K' b o = some u → b < w.heap.size → K b o = some u) ∧ Rep K' n v c ∧ ∀ r e k xs, (AV.row r e k xs).of v → S'.has (.row r e k xs)) (fun _ _ _ => False)
def St.putO (S : St) : Option Nat → AV → St
  | some d, A => S.put d A
  | none, _ => S
theorem Sim.putO {N : Nat} {K0 : Know} {w0 : World} {S : St} {K : Know} {n : Nm} {a : Act} {w : World} (h : Sim N K0 w0 S K n a w) {d : Option Nat} (hd : ∀ t, d = some t → t < N) {A : AV} {c : Value} (hv : Rep K n A c) (hA : ∀ r e k xs, (AV.row r e k xs).of A → S.has (.row r e k xs)) : Sim N K0 w0 (S.putO d A) K n (a.put d c) w := by
  cases d with
  | none => exact h
  | some d => exact h.put (hd d rfl) hv hA
theorem has_val {v : Value} {S : St} (r e k xs) (h : (AV.row r e k xs).of (.val v)) : S.has (.row r e k xs) := by
  rcases h with h | ⟨_, h, _⟩ <;> cases h

section
variable {P : Program} {N : Nat} {K0 : Know} {w0 : World} {S S' : St} {Q : St → Prop} {ops : Array Oper} {l : List Oper} {o : Oper}

theorem OpH.toT {v : AV} (h : OpH P N K0 w0 o S v) (hd : ∀ t, o.dst = some t → t < N) (hq : Q (S.putO o.dst v)) : OpT P N K0 w0 o S Q := by
  intro K n a w hs
  refine Oper.wp_mono ?_ (h S K n a w hs rfl (fun _ _ => rfl))
  rintro a' w' ⟨c, K', rfl, hb, hK, hok, hn, hv, hA⟩
  exact ⟨K', n, _, hq, (hs.grow hb hK hok hn).putO hd hv hA⟩

/-- A list of operations, in its order. -/
def LT (P : Program) (N : Nat) (K0 : Know) (w0 : World) (ops : Array Oper) (l : List Oper) (S : St) (Q : St → Prop) : Prop :=
  ∀ K n a w, Sim N K0 w0 S K n a w → wpList P ops (fun e a' w' => e = .normal ∧ ∃ K' n' S', Q S' ∧ Sim N K0 w0 S' K' n' a' w') l a w
theorem LT.nil (h : Q S) : LT P N K0 w0 ops [] S Q := fun K n a w hs => ⟨rfl, K, n, S, h, hs⟩
theorem LT.wk (h : LT P N K0 w0 ops l S' Q) (hw : S.wk S') (h1 : ∀ d cs cs', (d, cs) ∈ S'.boxes → (d, cs') ∈ S'.boxes → cs = cs') : LT P N K0 w0 ops l S Q := fun K n a w hs => h K n a w (hs.weak hw h1)
theorem LT.step (hw : ∀ K n a w, Sim N K0 w0 S K n a w → Region.wanted o (yielded ops a.tmps) = true) (h : OpT P N K0 w0 o S fun S' => LT P N K0 w0 ops l S' Q) : LT P N K0 w0 ops (o :: l) S Q := by
  intro K n a w hs
  simp only [wpList, hw K n a w hs, if_true]
  refine .inl (upon_false (Oper.wp_mono ?_ (h K n a w hs)))
  rintro a' w' ⟨K', n', S', hl, hs'⟩
  exact hl K' n' a' w' hs'
theorem LT.cons (hg : o.guard = none) (h : OpT P N K0 w0 o S fun S' => LT P N K0 w0 ops l S' Q) : LT P N K0 w0 ops (o :: l) S Q :=
  LT.step (fun _ _ _ _ _ => by unfold Region.wanted; rw [hg]) h
/-- What a guard says. -/
def GuardIs (ops : Array Oper) (o : Oper) (S : St) (b : Bool) : Prop :=
  match o.guard with
  | none => b = true
  | some (g, want) => ∃ dg, ((ops[g]?).bind (·.dst)) = some dg ∧ ((∃ c, S.get dg = .val (.bool c) ∧ b = (c == want)) ∨ (S.get dg = .val undef ∧ b = false))
theorem yielded_of {K : Know} {n : Nm} {a : Act} {w : World} (hs : Sim N K0 w0 S K n a w) {g dg : Nat} (h : ((ops[g]?).bind (·.dst)) = some dg) (hd : dg < N) {v : Value} (hv : S.get dg = .val v) :
    ((ops[g]?).bind (·.dst)).bind (a.tmps[·]?) = some v := by
  rw [h]
  have h1 := hs.tmp dg
  rw [hv] at h1
  have hlt : dg < a.tmps.size := Nat.lt_of_lt_of_le hd hs.size
  simp only [Option.bind_some]
  rw [Array.getElem?_eq_getElem hlt]
  simp only [Array.getD_eq_getD_getElem?, Array.getElem?_eq_getElem hlt, Option.getD_some] at h1
  exact congrArg some h1
theorem wanted_of {K : Know} {n : Nm} {a : Act} {w : World} (hs : Sim N K0 w0 S K n a w) {b : Bool} (h : GuardIs ops o S b) (hN : ∀ g want dg, o.guard = some (g, want) → ((ops[g]?).bind (·.dst)) = some dg → dg < N) : Region.wanted o (yielded ops a.tmps) = b := by
  unfold GuardIs at h
  unfold Region.wanted
  cases hg : o.guard with
  | none => rw [hg] at h; exact h.symm
  | some p =>
    obtain ⟨g, want⟩ := p
    rw [hg] at h
    obtain ⟨dg, h1, h2⟩ := h
    have hd := hN g want dg hg h1
    simp only
    rcases h2 with ⟨c, h2, rfl⟩ | ⟨h2, rfl⟩
    · have := yielded_of hs h1 hd h2
      unfold yielded
      rw [this]
      cases c <;> cases want <;> rfl
    · have := yielded_of hs h1 hd h2
      unfold yielded
      rw [this]
      rfl
theorem LT.guard {g : Nat} {want : Bool} {dg : Nat} {c : Bool} (hg : o.guard = some (g, want)) (h1 : ((ops[g]?).bind (·.dst)) = some dg) (hd : dg < N) (h2 : S.get dg = .val (.bool c)) (hc : (c == want) = true)
    (h : OpT P N K0 w0 o S fun S' => LT P N K0 w0 ops l S' Q) : LT P N K0 w0 ops (o :: l) S Q :=
  LT.step (fun K n a w hs => by
    refine wanted_of hs (b := true) ?_ ?_
    · unfold GuardIs; rw [hg]; exact ⟨dg, h1, .inl ⟨c, h2, hc.symm⟩⟩
    · intro g' want' dg' hg' h1'; rw [hg] at hg'; injection hg' with hg'; injection hg' with e1 e2; subst e1; rw [h1] at h1'; injection h1' with h1'; subst h1'; exact hd) h
theorem LT.skip_ {b : Bool} (hw : ∀ K n a w, Sim N K0 w0 S K n a w → Region.wanted o (yielded ops a.tmps) = false) (hd : ∀ t, o.dst = some t → t < N) (h : LT P N K0 w0 ops l (S.putO o.dst (.val undef)) Q) : LT P N K0 w0 ops (o :: l) S Q := by
  intro K n a w hs
  simp only [wpList, hw K n a w hs, Bool.false_eq_true, if_false]
  exact h K n _ w (hs.putO hd (A := .val undef) rfl has_val)
theorem LT.skipB {g : Nat} {want : Bool} {dg : Nat} {c : Bool} (hg : o.guard = some (g, want)) (h1 : ((ops[g]?).bind (·.dst)) = some dg) (hd : dg < N) (h2 : S.get dg = .val (.bool c)) (hc : (c == want) = false)
    (hdo : ∀ t, o.dst = some t → t < N) (h : LT P N K0 w0 ops l (S.putO o.dst (.val undef)) Q) : LT P N K0 w0 ops (o :: l) S Q :=
  LT.skip_ (b := true) (fun K n a w hs => by
    refine wanted_of hs (b := false) ?_ ?_
    · unfold GuardIs; rw [hg]; exact ⟨dg, h1, .inl ⟨c, h2, hc.symm⟩⟩
    · intro g' want' dg' hg' h1'; rw [hg] at hg'; injection hg' with hg'; injection hg' with e1 e2; subst e1; rw [h1] at h1'; injection h1' with h1'; subst h1'; exact hd) hdo h
theorem LT.skipU {g : Nat} {want : Bool} {dg : Nat} (hg : o.guard = some (g, want)) (h1 : ((ops[g]?).bind (·.dst)) = some dg) (hd : dg < N) (h2 : S.get dg = .val undef)
    (hdo : ∀ t, o.dst = some t → t < N) (h : LT P N K0 w0 ops l (S.putO o.dst (.val undef)) Q) : LT P N K0 w0 ops (o :: l) S Q :=
  LT.skip_ (b := true) (fun K n a w hs => by
    refine wanted_of hs (b := false) ?_ ?_
    · unfold GuardIs; rw [hg]; exact ⟨dg, h1, .inr ⟨h2, rfl⟩⟩
    · intro g' want' dg' hg' h1'; rw [hg] at hg'; injection hg' with hg'; injection hg' with e1 e2; subst e1; rw [h1] at h1'; injection h1' with h1'; subst h1'; exact hd) hdo h

/-- Code. -/
def CT (P : Program) (N : Nat) (K0 : Know) (w0 : World) (c : Code) (S : St) (Q : Exit → St → Prop) : Prop :=
  ∀ K n a w, Sim N K0 w0 S K n a w → c.wp P (fun e a' w' => ∃ K' n' S', Q e S' ∧ Sim N K0 w0 S' K' n' a' w') a w
section
variable {QE : Exit → St → Prop} {c c1 c2 : Code}
theorem CT.mono {QE' : Exit → St → Prop} (h : CT P N K0 w0 c S QE) (hq : ∀ e S, QE e S → QE' e S) : CT P N K0 w0 c S QE' :=
  fun K n a w hs => wp_mono (h K n a w hs) fun _ _ _ ⟨K', n', S', h1, h2⟩ => ⟨K', n', S', hq _ _ h1, h2⟩
theorem CT.wk (h : CT P N K0 w0 c S' QE) (hw : S.wk S') (h1 : ∀ d cs cs', (d, cs) ∈ S'.boxes → (d, cs') ∈ S'.boxes → cs = cs') : CT P N K0 w0 c S QE := fun K n a w hs => h K n a w (hs.weak hw h1)
def thenA (next : St → Prop) (QE : Exit → St → Prop) : Exit → St → Prop
  | .normal, S => next S
  | e, S => QE e S
theorem CT.seq (h : CT P N K0 w0 c1 S (thenA (fun S' => CT P N K0 w0 c2 S' QE) QE)) : CT P N K0 w0 (c1.seq c2) S QE := by
  intro K n a w hs
  refine wp_seq (wp_mono (h K n a w hs) ?_)
  rintro e a' w' ⟨K', n', S', h1, h2⟩
  cases e with
  | normal => exact h1 K' n' a' w' h2
  | exit id => exact ⟨K', n', S', h1, h2⟩
  | goto id => exact ⟨K', n', S', h1, h2⟩
  | ret => exact ⟨K', n', S', h1, h2⟩
  | panic ch => exact ⟨K', n', S', h1, h2⟩
  | outgrown => exact ⟨K', n', S', h1, h2⟩
theorem CT.skip (h : QE .normal S) : CT P N K0 w0 .skip S QE := fun K n a w hs => wp_skip ⟨K, n, S, h, hs⟩
theorem CT.exit {id : Nat} (h : QE (.exit id) S) : CT P N K0 w0 (.exit id) S QE := fun K n a w hs => wp_exit ⟨K, n, S, h, hs⟩
theorem CT.goto {id : Nat} (h : QE (.goto id) S) : CT P N K0 w0 (.goto id) S QE := fun K n a w hs => wp_goto ⟨K, n, S, h, hs⟩
theorem CT.label {id : Nat} (h : QE .normal S) : CT P N K0 w0 (.label id) S QE := fun K n a w hs => wp_label ⟨K, n, S, h, hs⟩
theorem CT.ret (h : QE .ret S) : CT P N K0 w0 .ret S QE := fun K n a w hs => wp_ret ⟨K, n, S, h, hs⟩
theorem CT.cond {x : Operand} {t : Bool} (hc : S.opv x = .val (.bool t)) (ht : t = true → CT P N K0 w0 c1 S QE) (hf : t = false → CT P N K0 w0 c2 S QE) : CT P N K0 w0 (.cond x c1 c2) S QE := by
  intro K n a w hs
  have h1 := hs.opv x
  rw [hc] at h1
  exact wp_cond_split h1 (fun e => ht e K n a w hs) (fun e => hf e K n a w hs)
def blockA (id : Nat) (QE : Exit → St → Prop) : Exit → St → Prop
  | .exit id', S => cond (Nat.beq id' id) (QE .normal S) (QE (.exit id') S)
  | e, S => QE e S
theorem CT.block {id : Nat} (h : CT P N K0 w0 c S (blockA id QE)) : CT P N K0 w0 (.block id c) S QE := by
  intro K n a w hs
  refine wp_block (wp_mono (h K n a w hs) ?_)
  rintro e a' w' ⟨K', n', S', h1, h2⟩
  cases e with
  | exit id' =>
    by_cases e : id' = id
    · subst e
      have : (Nat.beq id' id') = true := Nat.beq_refl id'
      simp only [blockA, this, cond_true] at h1
      simp only [Exit.inBlock, if_true]
      exact ⟨K', n', S', h1, h2⟩
    · have : Nat.beq id' id = false := by
        cases e' : Nat.beq id' id with
        | false => rfl
        | true => exact absurd (Nat.eq_of_beq_eq_true e') e
      simp only [blockA, this, cond_false] at h1
      simp only [Exit.inBlock, e, if_false]
      exact ⟨K', n', S', h1, h2⟩
  | normal => exact ⟨K', n', S', h1, h2⟩
  | goto id => exact ⟨K', n', S', h1, h2⟩
  | ret => exact ⟨K', n', S', h1, h2⟩
  | panic ch => exact ⟨K', n', S', h1, h2⟩
  | outgrown => exact ⟨K', n', S', h1, h2⟩
theorem least (p : Nat → Prop) : ∀ n, p n → ∃ m, p m ∧ ∀ k, p k → m ≤ k := by
  intro n
  induction n using Nat.strongRecOn with
  | _ n ih =>
    intro hn
    by_cases h : ∃ k, k < n ∧ p k
    · obtain ⟨k, hk, hp⟩ := h; exact ih k hk hp
    · exact ⟨n, hn, fun k hk => Nat.le_of_not_lt fun hlt => h ⟨k, hlt, hk⟩⟩
/-- A loop: what holds at each head, with a measure. -/
theorem CT.loop (I : Nat → St → Prop) {m : Nat} (h0 : I m S) (h : ∀ m S, I m S → CT P N K0 w0 c S (thenA (fun S' => ∃ m', m' < m ∧ I m' S') QE)) : CT P N K0 w0 (.loop c) S QE := by
  intro K n a w hs
  have key : ∀ m S K n a w, I m S → Sim N K0 w0 S K n a w → (Code.loop c).wp P (fun e a' w' => ∃ K' n' S', QE e S' ∧ Sim N K0 w0 S' K' n' a' w') a w := by
    intro m S K n a w hI hs
    classical
    let J : Nat → Act → World → Prop := fun m a w => ∃ S K n, I m S ∧ Sim N K0 w0 S K n a w
    let μ : Act → World → Nat := fun a w => if h : ∃ m, J m a w ∧ ∀ k, J k a w → m ≤ k then Classical.choose h else 0
    have hμ : ∀ m a w, J m a w → μ a w ≤ m := fun m a w hj => by
      have hex : ∃ m, J m a w ∧ ∀ k, J k a w → m ≤ k := least (fun m => J m a w) m hj
      simp only [μ, dif_pos hex]
      exact (Classical.choose_spec hex).2 m hj
    have hμJ : ∀ m a w, J m a w → J (μ a w) a w := fun m a w hj => by
      have hex : ∃ m, J m a w ∧ ∀ k, J k a w → m ≤ k := least (fun m => J m a w) m hj
      simp only [μ, dif_pos hex]
      exact (Classical.choose_spec hex).1
    refine wp_loop (fun a w => ∃ m, J m a w) μ ⟨m, S, K, n, hI, hs⟩ ?_
    rintro a w ⟨m, hj⟩
    obtain ⟨S1, K1, n1, hI1, hs1⟩ := hμJ m a w hj
    refine wp_mono (h _ S1 hI1 K1 n1 a w hs1) ?_
    rintro e a' w' ⟨K', n', S', h1, h2⟩
    cases e with
    | normal =>
      obtain ⟨m', hlt, hI'⟩ := h1
      have hj' : J m' a' w' := ⟨S', K', n', hI', h2⟩
      exact ⟨⟨m', hj'⟩, Nat.lt_of_le_of_lt (hμ m' a' w' hj') hlt⟩
    | exit id => exact ⟨K', n', S', h1, h2⟩
    | goto id => exact ⟨K', n', S', h1, h2⟩
    | ret => exact ⟨K', n', S', h1, h2⟩
    | panic ch => exact ⟨K', n', S', h1, h2⟩
    | outgrown => exact ⟨K', n', S', h1, h2⟩
  exact key m S K n a w h0 hs
theorem CT.region {id : Nat} {l : List Oper} (h : LT P N K0 w0 l.toArray l S (fun S' => QE .normal S')) : CT P N K0 w0 (.region id l.toArray false) S QE := by
  intro K n a w hs
  refine wp_mono (wp_region_lit (h K n a w hs)) ?_
  rintro e a' w' ⟨rfl, K', n', S', h1, h2⟩
  exact ⟨K', n', S', h1, h2⟩
end
end
end Go.Proofs.Ytjgjohonbjmakaa
