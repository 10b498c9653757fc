/- Loops: the state at the head is said slot by slot, rows by the slot's own name. -/
import Derived.Test.YtjgjohonbjmakaaAbsK
namespace Go.Proofs.Ytjgjohonbjmakaa
set_option linter.unusedSimpArgs false
set_option linter.unusedVariables false
open Go Go.RowKit Go.Shelf

def AV.noRow : AV → Bool
  | .row _ _ _ _ | .tup _ => false
  | _ => true
/-- What a slot is, or less. -/
inductive Less (B : AV) : AV → Prop
  | keep {A} (h : B = A) (hn : A.noRow = true) : Less B A
  | val {v v'} (h : B = .val v) (e : v = v') : Less B (.val v')
  | dead : Less B .dead
  | sl {A k xs xs'} (h : B = A) (hA : A.Sl k xs) (e : xs = xs') : Less B (.sl k xs')
  | slNil {k xs'} (h : B = .val (.slice none 0 0)) (e : [] = xs') : Less B (.sl k xs')
theorem Less.noRow {B A : AV} (h : Less B A) : A.noRow = true := by cases h <;> first | assumption | rfl
theorem Less.rep {K : Know} {n n' : Nm} {B A : AV} {c : Value} (h : Less B A) (hβ : n'.β = n.β) (hr : Rep K n B c) : Rep K n' A c := by
  obtain ⟨β, ρ⟩ := n
  obtain ⟨β', ρ'⟩ := n'
  simp only at hβ
  subst hβ
  cases h with
  | keep h hn =>
    subst h
    cases B <;> first | exact hr | cases hn
  | val h e => subst h e; exact hr
  | dead => trivial
  | sl h hA e => subst h e; exact hA.slice hr
  | slNil h e => subst h e; exact ⟨none, 0, hr, Nat.le_refl _, fun _ => rfl, Rd.nil_⟩
inductive Relab (S : St) : List Nat → List (Nat × AV) → Prop
  | nil {us} : Relab S us []
  | other {us t A l} (h : Less (S.get t) A) (hl : Relab S us l) : Relab S us ((t, A) :: l)
  | row {us t r e k xs xs' l} (h : S.get t = .row r e k xs) (hx : xs = xs') (hr : us.contains r = false) (hl : Relab S (r :: us) l) : Relab S us ((t, .row t e k xs') :: l)
  | rowNil {us t e k xs' l} (h : S.get t = .val (.slice none 0 0)) (hx : [] = xs') (hl : Relab S us l) : Relab S us ((t, .row t e k xs') :: l)
theorem noRow_ne {A : AV} (h : A.noRow = true) {r e k : Nat} {xs : Cells} : A ≠ .row r e k xs := fun e => by subst e; cases h
section
variable {P : Program} {N : Nat} {K0 : Know} {w0 : World} {S S' : St} {K : Know} {n : Nm} {a : Act} {w : World}
theorem Relab.rep (hs : Sim N K0 w0 S K n a w) : ∀ {us : List Nat} {l : List (Nat × AV)}, Relab S us l → ∀ t A, (t, A) ∈ l → Rep K ⟨n.β, fun t => a.tmps.getD t undef⟩ A (a.tmps.getD t undef)
  | _, _, .nil, t, A, h => by simp at h
  | _, _, .other h hl, t, A, hm => by
    rcases List.mem_cons.1 hm with e | hm
    · injection e with e1 e2
      subst e1 e2
      exact h.rep (n := n) rfl (hs.tmp t)
    · exact Relab.rep hs hl t A hm
  | _, _, .row h hx hr hl, t, A, hm => by
    rcases List.mem_cons.1 hm with e1 | hm
    · injection e1 with e1 e2
      subst e1 e2 hx
      have := hs.tmp t
      rw [h] at this
      exact ⟨rfl, this.2⟩
    · exact Relab.rep hs hl t A hm
  | _, _, .rowNil h hx hl, t, A, hm => by
    rcases List.mem_cons.1 hm with e1 | hm
    · injection e1 with e1 e2
      subst e1 e2 hx
      have := hs.tmp t
      rw [h] at this
      exact ⟨rfl, none, 0, this, Nat.le_refl _, fun _ => rfl, Rd.nil_⟩
    · exact Relab.rep hs hl t A hm
/-- What stands behind a row's new name. -/
theorem Relab.rows : ∀ {us : List Nat} {l : List (Nat × AV)}, Relab S us l → ∀ t r e k xs, (t, AV.row r e k xs) ∈ l → r = t ∧ ((∃ r', ¬ r' ∈ us ∧ S.get t = .row r' e k xs) ∨ (S.get t = .val (.slice none 0 0) ∧ xs = []))
  | _, _, .nil, t, r, e, k, xs, h => by simp at h
  | _, _, .other h hl, t, r, e, k, xs, hm => by
    rcases List.mem_cons.1 hm with e1 | hm
    · injection e1 with e1 e2; exact absurd e2.symm (noRow_ne h.noRow)
    · exact Relab.rows hl t r e k xs hm
  | _, _, .row h hx hr hl, t, r, e, k, xs, hm => by
    rcases List.mem_cons.1 hm with e1 | hm
    · injection e1 with e1 e2
      injection e2 with e2 e3 e4 e5
      subst e1 e2 e3 e4 e5 hx
      exact ⟨rfl, .inl ⟨_, by simpa using hr, h⟩⟩
    · obtain ⟨h1, h2⟩ := Relab.rows hl t r e k xs hm
      exact ⟨h1, h2.imp (fun ⟨r', h3, h4⟩ => ⟨r', fun hm => h3 (List.mem_cons_of_mem _ hm), h4⟩) id⟩
  | _, _, .rowNil h hx hl, t, r, e, k, xs, hm => by
    rcases List.mem_cons.1 hm with e1 | hm
    · injection e1 with e1 e2
      injection e2 with e2 e3 e4 e5
      subst e1 e2 e3 e4 e5 hx
      exact ⟨rfl, .inr ⟨h, rfl⟩⟩
    · exact Relab.rows hl t r e k xs hm
theorem Relab.inj : ∀ {us : List Nat} {l : List (Nat × AV)}, Relab S us l → ∀ t t' r e k xs e' k' xs', (t, AV.row t e k xs) ∈ l → (t', AV.row t' e' k' xs') ∈ l → S.get t = .row r e k xs → S.get t' = .row r e' k' xs' → t = t'
  | _, _, .nil, t, t', r, e, k, xs, e', k', xs', h, _, _, _ => by simp at h
  | _, _, .other h hl, t, t', r, e, k, xs, e', k', xs', m1, m2, g1, g2 => by
    rcases List.mem_cons.1 m1 with q1 | m1
    · injection q1 with _ q1; exact absurd q1.symm (noRow_ne h.noRow)
    · rcases List.mem_cons.1 m2 with q2 | m2
      · injection q2 with _ q2; exact absurd q2.symm (noRow_ne h.noRow)
      · exact Relab.inj hl t t' r e k xs e' k' xs' m1 m2 g1 g2
  | us0, _, .row (t := t0) (r := r0) (l := l0) h hx hr hl, t, t', r, e, k, xs, e', k', xs', m1, m2, g1, g2 => by
    have key : ∀ u e2 k2 xs2, (u, AV.row u e2 k2 xs2) ∈ l0 → S.get u = .row r0 e2 k2 xs2 → False := fun u e2 k2 xs2 hm hg => by
      obtain ⟨_, h1 | ⟨h1, _⟩⟩ := Relab.rows hl u u e2 k2 xs2 hm
      · obtain ⟨r', h2, h3⟩ := h1
        rw [hg] at h3
        injection h3 with h3
        exact h2 (by rw [← h3]; exact List.mem_cons_self)
      · rw [hg] at h1; cases h1
    rcases List.mem_cons.1 m1 with q1 | p1 <;> rcases List.mem_cons.1 m2 with q2 | p2
    · injection q1 with q1; injection q2 with q2; exact q1.trans q2.symm
    · injection q1 with q1 _
      rw [q1, h] at g1
      injection g1 with g1
      rw [← g1] at g2
      exact (key _ _ _ _ p2 g2).elim
    · injection q2 with q2 _
      rw [q2, h] at g2
      injection g2 with g2
      rw [← g2] at g1
      exact (key _ _ _ _ p1 g1).elim
    · exact Relab.inj hl t t' r e k xs e' k' xs' p1 p2 g1 g2
  | _, _, .rowNil h hx hl, t, t', r, e, k, xs, e', k', xs', m1, m2, g1, g2 => by
    rcases List.mem_cons.1 m1 with q1 | m1
    · injection q1 with q1 _; subst q1; rw [h] at g1; cases g1
    · rcases List.mem_cons.1 m2 with q2 | m2
      · injection q2 with q2 _; subst q2; rw [h] at g2; cases g2
      · exact Relab.inj hl t t' r e k xs e' k' xs' m1 m2 g1 g2
/-- Boxes that are kept. -/
inductive KeepB (S : St) : List (Nat × List AV) → Prop
  | nil : KeepB S []
  | cons {d cs cs' l} (h : getB S.boxes d = some cs) (hl : cs.length = cs'.length) (hc : ∀ (i : Nat) c c', cs[i]? = some c → cs'[i]? = some c' → Less c c') (hn : l.all (fun p => !(Nat.beq p.1 d)) = true) (t : KeepB S l) : KeepB S ((d, cs') :: l)
theorem KeepB.spec : ∀ {l : List (Nat × List AV)}, KeepB S l → (∀ d cs', (d, cs') ∈ l → ∃ cs, (d, cs) ∈ S.boxes ∧ cs.length = cs'.length ∧ ∀ (i : Nat) c c', cs[i]? = some c → cs'[i]? = some c' → Less c c') ∧ ∀ d c c', (d, c) ∈ l → (d, c') ∈ l → c = c'
  | _, .nil => ⟨fun d cs h => by simp at h, fun d c c' h => by simp at h⟩
  | _, @KeepB.cons _ d0 cs0 cs0' l0 h hl hc hn t => by
    obtain ⟨h1, h2⟩ := KeepB.spec t
    have hne : ∀ d' (c' : List AV), (d', c') ∈ l0 → d' ≠ d0 := fun d' c' hm e => by
      have := List.all_eq_true.1 hn _ hm
      rw [e] at this
      simp at this
    refine ⟨fun d cs' hm => ?_, fun d c c' m1 m2 => ?_⟩
    · rcases List.mem_cons.1 hm with e | hm
      · injection e with e1 e2; subst e1 e2; exact ⟨_, getB_mem h, hl, hc⟩
      · exact h1 d cs' hm
    · rcases List.mem_cons.1 m1 with e1 | p1 <;> rcases List.mem_cons.1 m2 with e2 | p2
      · injection e1 with _ e1; injection e2 with _ e2; exact e1.trans e2.symm
      · injection e1 with e1 _; exact absurd e1 (hne _ _ p2)
      · injection e2 with e2 _; exact absurd e2 (hne _ _ p1)
      · exact h2 d c c' p1 p2
theorem getT_in : ∀ (l : List (Nat × AV)) (t : Nat), getT l t = .dead ∨ (t, getT l t) ∈ l
  | [], _ => .inl rfl
  | (s, A) :: l, t => by
    simp only [getT]
    cases hb : Nat.beq s t with
    | true => have := Nat.eq_of_beq_eq_true hb; subst this; exact .inr List.mem_cons_self
    | false => rcases getT_in l t with h | h
               · exact .inl h
               · exact .inr (List.mem_cons_of_mem _ h)
theorem St.of_get {l : List (Nat × AV)} {bs : List (Nat × List AV)} {t r e k : Nat} {xs : Cells} (hn : ∀ t vs, (t, AV.tup vs) ∉ l) (h : (AV.row r e k xs).of (getT l t)) : (t, AV.row r e k xs) ∈ l := by
  rcases getT_in l t with h1 | h1
  · rw [h1] at h; rcases h with h | ⟨_, h, _⟩ <;> cases h
  · rcases h with h | ⟨vs, h, _⟩
    · rw [h] at h1; exact h1
    · rw [h] at h1; exact absurd h1 (hn _ _)
theorem Relab.noTup : ∀ {us : List Nat} {l : List (Nat × AV)}, Relab S us l → ∀ t vs, (t, AV.tup vs) ∉ l
  | _, _, .nil, t, vs, h => by simp at h
  | _, _, .other h hl, t, vs, hm => by
    rcases List.mem_cons.1 hm with e | hm
    · injection e with _ e; have := h.noRow; rw [← e] at this; cases this
    · exact Relab.noTup hl t vs hm
  | _, _, .row h hx hr hl, t, vs, hm => by
    rcases List.mem_cons.1 hm with e | hm
    · injection e with _ e; cases e
    · exact Relab.noTup hl t vs hm
  | _, _, .rowNil h hx hl, t, vs, hm => by
    rcases List.mem_cons.1 hm with e | hm
    · injection e with _ e; cases e
    · exact Relab.noTup hl t vs hm
theorem Sim.relab (h : Sim N K0 w0 S K n a w) {l : List (Nat × AV)} {us : List Nat} {bs : List (Nat × List AV)} (hl : Relab S us l) (hb : KeepB S bs) : Sim N K0 w0 ⟨l, bs⟩ K ⟨n.β, fun t => a.tmps.getD t undef⟩ a w := by
  obtain ⟨hb1, hb2⟩ := hb.spec
  have hhas : ∀ r e k xs, (⟨l, bs⟩ : St).has (.row r e k xs) → (r, AV.row r e k xs) ∈ l := by
    intro r e k xs hr
    rcases hr with ⟨t, ht⟩ | ⟨d, cs', hd, hm⟩
    · have := St.of_get (bs := bs) hl.noTup ht
      obtain ⟨h1, _⟩ := Relab.rows hl t r e k xs this
      rw [← h1] at this
      exact this
    · obtain ⟨cs, _, hlen, hc⟩ := hb1 d cs' hd
      obtain ⟨i, hi, e1⟩ := List.getElem_of_mem hm
      have := hc i _ _ (List.getElem?_eq_getElem (by omega)) (List.getElem?_eq_getElem hi)
      rw [e1] at this
      have := this.noRow
      cases this
  have hown : ∀ t e k xs, (t, AV.row t e k xs) ∈ l → w.ownsRow w0.heap.size e k (a.tmps.getD t undef) xs.length xs.flatten ∧ ∀ g, (a.tmps.getD t undef).ownBlock = some g → ∃ r, S.get t = .row r e k xs ∧ (n.ρ r).ownBlock = some g ∧ a.tmps.getD t undef = n.ρ r := by
    intro t e k xs hm
    obtain ⟨_, ⟨r', hr', hg⟩ | ⟨hg, rfl⟩⟩ := Relab.rows hl t t e k xs hm
    · have h1 := h.tmp t
      rw [hg] at h1
      have h2 := h.row r' e k xs (.inl ⟨t, .inl hg⟩)
      rw [h1.1]
      exact ⟨h2.1, fun g hg' => ⟨r', hg, hg', rfl⟩⟩
    · have h1 := h.tmp t
      rw [hg] at h1
      rw [show a.tmps.getD t undef = .slice none 0 0 from h1]
      exact ⟨World.ownsRow_nil w _ e k, fun g hg' => by cases hg'⟩
  exact {
    size := h.size
    defers := h.defers
    below := h.below
    k0 := h.k0
    knew := h.knew
    ok := h.ok
    tmp := fun t => by
      rcases getT_in l t with h1 | h1
      · show Rep K _ (getT l t) _
        rw [h1]; trivial
      · exact Relab.rep h hl t _ h1
    box := fun d cs' hd => by
      obtain ⟨cs, h1, hlen, hc⟩ := hb1 d cs' hd
      obtain ⟨b, arr, ty, q1, q2, q3, q4, q5, q6⟩ := h.box d cs h1
      refine ⟨b, arr, ty, q1, q2, q3, q4.trans hlen, fun i c hi => ?_, q6⟩
      have hi' : i < cs.length := by rw [hlen]; exact (List.getElem?_eq_some_iff.1 hi).1
      have h2 := hc i _ c (List.getElem?_eq_getElem hi') hi
      have h3 := h2.rep (n := n) (n' := ⟨n.β, fun t => a.tmps.getD t undef⟩) rfl (Rep.of1 (q5 i _ (List.getElem?_eq_getElem hi')))
      have h4 := h2.noRow
      cases c <;> first | exact h3 | cases h4
    boxInj := fun d c d' c' b m1 m2 => by
      obtain ⟨c1, q1, _⟩ := hb1 d c m1
      obtain ⟨c2, q2, _⟩ := hb1 d' c' m2
      exact h.boxInj d c1 d' c2 b q1 q2
    boxOne := hb2
    row := fun r e k xs hr => by
      obtain ⟨q1, q2⟩ := hown r e k xs (hhas r e k xs hr)
      refine ⟨q1, fun g hg => ?_⟩
      obtain ⟨r', p1, p2, p3⟩ := q2 g hg
      obtain ⟨u1, u2⟩ := h.row r' e k xs (.inl ⟨r, .inl p1⟩)
      refine ⟨(u2 g p2).1, fun d cs' hd => ?_⟩
      obtain ⟨cs, h1, _⟩ := hb1 d cs' hd
      exact (u2 g p2).2 d cs h1
    rowInj := fun r e k xs r' e' k' xs' g h1 h2 g1 g2 => by
      have m1 := hhas r e k xs h1
      have m2 := hhas r' e' k' xs' h2
      obtain ⟨_, q1⟩ := hown r e k xs m1
      obtain ⟨_, q2⟩ := hown r' e' k' xs' m2
      obtain ⟨s, p1, p2, _⟩ := q1 g g1
      obtain ⟨s', p1', p2', _⟩ := q2 g g2
      have := h.rowInj s e k xs s' e' k' xs' g (.inl ⟨r, .inl p1⟩) (.inl ⟨r', .inl p1'⟩) p2 p2'
      subst this
      exact Relab.inj hl r r' s e k xs e' k' xs' m1 m2 p1 p1' }
/-- To another state that says less. -/
def Sub (S S' : St) : Prop := Relab S [] S'.tmps ∧ KeepB S S'.boxes
theorem CT.sub {c : Code} {QE : Exit → St → Prop} (hw : Sub S S') (h : CT P N K0 w0 c S' QE) : CT P N K0 w0 c S QE := fun K n a w hs => by
  obtain ⟨h1, h2⟩ := hw
  exact h K _ a w (hs.relab h1 h2)
theorem LT.sub {l : List Oper} {ops : Array Oper} {Q : St → Prop} (hw : Sub S S') (h : LT P N K0 w0 ops l S' Q) : LT P N K0 w0 ops l S Q := fun K n a w hs => by
  obtain ⟨h1, h2⟩ := hw
  exact h K _ a w (hs.relab h1 h2)
/-- A loop whose head is a state of x, for some x. -/
theorem CT.loopX {α : Type} (T : α → St) (G : α → Prop) (μ : α → Nat) {c : Code} {QE : Exit → St → Prop} (x0 : α) (h0 : Sub S (T x0)) (hG : G x0)
    (h : ∀ x, G x → CT P N K0 w0 c (T x) (thenA (fun S' => ∃ x', G x' ∧ μ x' < μ x ∧ Sub S' (T x')) QE)) : CT P N K0 w0 (.loop c) S QE := by
  refine CT.sub h0 (CT.loop (fun m S' => ∃ x, G x ∧ μ x = m ∧ S' = T x) (m := μ x0) ⟨x0, hG, rfl, rfl⟩ ?_)
  rintro m S' ⟨x, hx, rfl, rfl⟩
  intro K n a w hs
  refine wp_mono (h x hx K n a w hs) ?_
  rintro e a' w' ⟨K', n', S', h1, h2⟩
  cases e with
  | normal =>
    obtain ⟨x', hx', hlt, q1, q2⟩ := h1
    exact ⟨K', _, T x', ⟨_, hlt, x', hx', rfl, rfl⟩, h2.relab q1 q2⟩
  | exit id => exact ⟨K', n', S', h1, h2⟩
  | goto id => exact ⟨K', n', S', h1, h2⟩
  | ret => exact ⟨K', n', S', h1, h2⟩
  | panic ch => exact ⟨K', n', S', h1, h2⟩
  | outgrown => exact ⟨K', n', S', h1, h2⟩
/-- A test is parted. -/
theorem LT.part {ops : Array Oper} {l : List Oper} {Q : St → Prop} {t : Nat} {c : Bool} (h : S.get t = .val (.bool c)) (ht : c = true → LT P N K0 w0 ops l (S.put t (.val (.bool true))) Q) (hf : c = false → LT P N K0 w0 ops l (S.put t (.val (.bool false))) Q) : LT P N K0 w0 ops l S Q := by
  intro K n a w hs
  have e : ∀ b, c = b → Sim N K0 w0 (S.put t (.val (.bool b))) K n a w := fun b hb => hs.weak ⟨fun u => by
    rw [St.get_put]
    split
    · rename_i h1; subst h1; rw [h, hb]; exact .inl (.inl rfl)
    · exact .inl (.inl rfl), fun d cs' hd => ⟨cs', hd, rfl, fun i c c' h1 h2 => by rw [h1] at h2; injection h2 with h2; exact .inl h2.symm⟩⟩ hs.boxOne
  cases c with
  | true => exact ht rfl K n a w (e true rfl)
  | false => exact hf rfl K n a w (e false rfl)
theorem HT.weak {ops : Array Oper} : ∀ {l : List Oper} {S S' : St} {Q : St → Prop}, (∀ t, S'.get t = S.get t) → S'.boxes = S.boxes → (∀ T T' : St, (∀ t, T'.get t = T.get t) → T'.boxes = T.boxes → Q T' → Q T) → HT P N K0 w0 ops l S' Q → HT P N K0 w0 ops l S Q
  | [], S, S', Q, hg, hb, hQ, h => hQ S S' hg hb h
  | o :: l, S, S', Q, hg, hb, hQ, ⟨v, h1, h2⟩ => by
    have hop : ∀ x, S'.opv x = S.opv x := fun x => by cases x <;> first | exact hg _ | rfl
    refine ⟨v, ?_, HT.weak (fun t => ?_) ?_ hQ h2⟩
    · rcases h1 with ⟨hgd, ho⟩ | ⟨hgd, hv⟩
      · refine .inl ⟨?_, fun S2 K n a w hs hb2 hop2 => ho S2 K n a w hs (hb2.trans hb.symm) (fun x hx => (hop2 x hx).trans (hop x).symm)⟩
        unfold GuardIs at *
        cases hgo : o.guard with
        | none => rfl
        | some p => rw [hgo] at hgd; obtain ⟨dg, q1, q2⟩ := hgd; exact ⟨dg, q1, by rw [← hg dg]; exact q2⟩
      · refine .inr ⟨?_, hv⟩
        unfold GuardIs at *
        cases hgo : o.guard with
        | none => rw [hgo] at hgd; exact hgd
        | some p => rw [hgo] at hgd; obtain ⟨dg, q1, q2⟩ := hgd; exact ⟨dg, q1, by rw [← hg dg]; exact q2⟩
    · cases o.dst with
      | none => exact hg t
      | some d =>
        simp only [St.putO, St.get_put]
        split
        · rfl
        · exact hg t
    · cases o.dst <;> exact hb
theorem HT.part {ops : Array Oper} {l l' : List Oper} {Q : St → Prop} {t : Nat} {c : Bool} (h : S.get t = .val (.bool c)) (ht : c = true → HT P N K0 w0 ops l (S.put t (.val (.bool true))) fun S' => LT P N K0 w0 ops l' S' Q) (hf : c = false → HT P N K0 w0 ops l (S.put t (.val (.bool false))) fun S' => LT P N K0 w0 ops l' S' Q) :
    HT P N K0 w0 ops l S fun S' => LT P N K0 w0 ops l' S' Q := by
  have hQ : ∀ T T' : St, (∀ t, T'.get t = T.get t) → T'.boxes = T.boxes → LT P N K0 w0 ops l' T' Q → LT P N K0 w0 ops l' T Q := fun T T' hg hb hl K n a w hs =>
    hl K n a w (hs.weak ⟨fun t => .inl (.inl (hg t)), fun d cs' hd => ⟨cs', by rw [← hb]; exact hd, rfl, fun i c c' h1 h2 => by rw [h1] at h2; injection h2 with h2; exact .inl h2.symm⟩⟩ (fun d c1 c2 m1 m2 => by rw [hb] at m1 m2; exact hs.boxOne d c1 c2 m1 m2))
  have hg : ∀ b, c = b → ∀ u, (S.put t (.val (.bool b))).get u = S.get u := fun b hb u => by
    rw [St.get_put]
    split
    · rename_i h1; subst h1; rw [h, hb]
    · rfl
  cases c with
  | true => exact HT.weak (hg true rfl) rfl hQ (ht rfl)
  | false => exact HT.weak (hg false rfl) rfl hQ (hf rfl)
end
end Go.Proofs.Ytjgjohonbjmakaa
