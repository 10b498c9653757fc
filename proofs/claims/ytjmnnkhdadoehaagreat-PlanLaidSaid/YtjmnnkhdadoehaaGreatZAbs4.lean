/- Abstract walks: rows that are written in place. -/
import Derived.Test.YtjmnnkhdadoehaaGreatZAbs3
import Derived.Laws.OwnMore
import Derived.Laws.CopyRow
namespace Go.Proofs.YtjmnnkhdadoehaaGreat
set_option linter.unusedSimpArgs false
set_option linter.unusedVariables false
open Go Go.RowKit Go.Shelf

theorem own_val {w : World} {base e k : Nat} {v : Value} {n : Nat} {cs : List Value} (h : w.ownsRow base e k v n cs) : ∃ A cap, v = .slice A n cap ∧ n ≤ cap ∧ (A = none → cap = 0 ∧ n = 0) ∧ n ≤ 9223372036854775807 ∧ ∀ a, A = some a → ∃ g, a = ⟨g, 0, none⟩ ∧ v.ownBlock = some g := by
  rcases h.2 with ⟨rfl, rfl⟩ | ⟨g, cap, cur, rfl, _, _, h1, h2, _⟩
  · exact ⟨none, 0, rfl, Nat.le_refl _, fun _ => ⟨rfl, rfl⟩, by omega, fun a h => by cases h⟩
  · exact ⟨_, cap, rfl, h1, fun h => (by cases h), by unfold maxLen at h2; omega, fun a h => ⟨g, by injection h with h; exact h.symm, rfl⟩⟩
theorem own_base0 {w : World} {base e k : Nat} {v : Value} {n : Nat} {cs : List Value} (h : w.ownsRow base e k v n cs) : w.ownsRow 0 e k v n cs := by
  refine ⟨h.1, ?_⟩
  rcases h.2 with h | ⟨g, cap, cur, q1, q2, q3⟩
  · exact .inl h
  · exact .inr ⟨g, cap, cur, q1, Nat.zero_le _, q3⟩
theorem own_up {w : World} {base e k : Nat} {v : Value} {n : Nat} {cs : List Value} (h : w.ownsRow 0 e k v n cs) (hb : ∀ g, v.ownBlock = some g → base ≤ g) : w.ownsRow base e k v n cs := by
  refine ⟨h.1, ?_⟩
  rcases h.2 with h | ⟨g, cap, cur, q1, q2, q3⟩
  · exact .inl h
  · exact .inr ⟨g, cap, cur, q1, hb g (by rw [q1]; rfl), q3⟩
theorem Arr.ok_len {A : Arr} (h : A.ok) : ∀ x ∈ A.xs, x.length = A.k := fun x hx => (h x hx).1
theorem Arr.ok_one {A : Arr} (h : A.ok) : oneCells A.xs = true := List.all_eq_true.2 fun x hx => List.all_eq_true.2 (h x hx).2
theorem Arr.ok_of {e k : Nat} {xs : Cells} (h1 : ∀ x ∈ xs, x.length = k) (h2 : oneCells xs = true) : Arr.ok ⟨e, k, xs⟩ := fun x hx => ⟨h1 x hx, fun u hu => List.all_eq_true.1 (List.all_eq_true.1 h2 x hx) u hu⟩

section
variable {P : Program} {N : Nat} {K0 : Know} {w0 : Bas} {S S' : St} {K K' : Know} {n : Nm} {a : Act} {w w' : World} {Q : St → Prop}
variable {dO : Option Nat} {ty : TypeId} {pos : String} {aft : Array Edge} {g : Option (Nat × Bool)} {t : TypeId} {x y : Operand}

theorem Sim.putArr (h : Sim N K0 w0 S K n a w) {s d : Nat} (hd : s < N) (hf : S.free d = true) {e k : Nat} {xs : Cells} {c : Value} (hown : w.ownsRow 0 e k c xs.length xs.flatten) (hok : Arr.ok ⟨e, k, xs⟩)
    (hlim : ∀ g, c.ownBlock = some g → w0.isOwn g ∧ (∀ o, K g o = none) ∧ (∀ b cs, (b, cs) ∈ S.boxes → n.β b ≠ some g) ∧ (∀ r e' k' xs', S.has (.row r e' k' xs') → (n.ρ r).ownBlock ≠ some g) ∧ ∀ d' A, (d', A) ∈ S.arrs → (n.ρ d').ownBlock ≠ some g) :
    Sim N K0 w0 ⟨(s, .arow d) :: S.tmps, S.boxes, (d, ⟨e, k, xs⟩) :: S.arrs⟩ K (n.setρ d c) (a.put (some s) c) w := by
  have h1 := h.setρ hf c
  have hsz : s < a.tmps.size := Nat.lt_of_lt_of_le hd h.size
  have hρ : (n.setρ d c).ρ d = c := by simp [Nm.setρ]
  have hρ' : ∀ d' A, (d', A) ∈ S.arrs → (n.setρ d c).ρ d' = n.ρ d' := fun d' A hm => by simp only [Nm.setρ, if_neg (St.free_arr hf hm)]
  have hh : ∀ r e' k' xs', (⟨(s, .arow d) :: S.tmps, S.boxes, (d, ⟨e, k, xs⟩) :: S.arrs⟩ : St).has (.row r e' k' xs') → S.has (.row r e' k' xs') := by
    intro r e' k' xs' hr
    rcases hr with ⟨t, ht⟩ | hb
    · have ht' : (AV.row r e' k' xs').of ((S.put s (.arow d)).get t) := ht
      rw [St.get_put] at ht'
      split at ht'
      · rcases ht' with ht' | ⟨_, ht', _⟩ <;> cases ht'
      · exact .inl ⟨t, ht'⟩
    · exact .inr hb
  exact {
    size := by simp [Act.put]; exact h.size
    defers := fun ht => (h.defers ht).put
    below := h.below
    k0 := h.k0
    knew := h.knew
    ok := h.ok
    tmp := fun t => by
      show Rep K _ ((S.put s (.arow d)).get t) _
      rw [St.get_put]
      by_cases e1 : s = t
      · subst e1
        rw [if_pos rfl]
        simp only [Act.put, Array.getD_eq_getD_getElem?, Array.getElem?_setIfInBounds, hsz, if_true, Option.getD_some]
        exact hρ.symm
      · rw [if_neg e1]
        simp only [Act.put, Array.getD_eq_getD_getElem?, Array.getElem?_setIfInBounds, e1, if_false]
        have := h1.tmp t
        rwa [Array.getD_eq_getD_getElem?] at this
    box := h1.box
    boxInj := h.boxInj
    boxOne := h.boxOne
    row := fun r e' k' xs' hr => h1.row r e' k' xs' (hh r e' k' xs' hr)
    rowInj := fun r e1 k1 xs1 r' e2 k2 xs2 g q1 q2 => h1.rowInj r e1 k1 xs1 r' e2 k2 xs2 g (hh _ _ _ _ q1) (hh _ _ _ _ q2)
    arr := fun d' A hm => by
      rcases List.mem_cons.1 hm with e1 | hm
      · injection e1 with e1 e2
        subst e1 e2
        rw [hρ]
        refine ⟨hown, hok, fun g hg => ⟨(hlim g hg).1, (hlim g hg).2.1, (hlim g hg).2.2.1, fun r e' k' xs' hr => ?_⟩⟩
        have hr' := hh r e' k' xs' hr
        simp only [Nm.setρ, if_neg (St.free_has hf hr')]
        exact (hlim g hg).2.2.2.1 r e' k' xs' hr'
      · obtain ⟨q1, q2, q3⟩ := h1.arr d' A hm
        exact ⟨q1, q2, fun g hg => ⟨(q3 g hg).1, (q3 g hg).2.1, (q3 g hg).2.2.1, fun r e' k' xs' hr => (q3 g hg).2.2.2 r e' k' xs' (hh r e' k' xs' hr)⟩⟩
    arrInj := fun d1 A1 d2 A2 g p1 p2 q1 q2 => by
      rcases List.mem_cons.1 p1 with e1 | p1 <;> rcases List.mem_cons.1 p2 with e2 | p2
      · injection e1 with e1; injection e2 with e2; exact e1.trans e2.symm
      · injection e1 with e1 _
        rw [e1, hρ] at q1
        rw [hρ' _ _ p2] at q2
        exact absurd q2 ((hlim g q1).2.2.2.2 _ _ p2)
      · injection e2 with e2 _
        rw [e2, hρ] at q2
        rw [hρ' _ _ p1] at q1
        exact absurd q1 ((hlim g q2).2.2.2.2 _ _ p1)
      · rw [hρ' _ _ p1] at q1; rw [hρ' _ _ p2] at q2; exact h.arrInj d1 A1 d2 A2 g p1 p2 q1 q2
    arrOne := fun d1 A1 A2 p1 p2 => by
      rcases List.mem_cons.1 p1 with e1 | p1 <;> rcases List.mem_cons.1 p2 with e2 | p2
      · injection e1 with _ e1; injection e2 with _ e2; exact e1.trans e2.symm
      · injection e1 with e1 _; exact absurd e1 (St.free_arr hf p2)
      · injection e2 with e2 _; exact absurd e2 (St.free_arr hf p1)
      · exact h.arrOne d1 A1 A2 p1 p2
    fix := h.fix }
theorem own_cells {base e k : Nat} {v : Value} {m : Nat} {cs : List Value} (h : w.ownsRow base e k v m cs) : ∀ g, v.ownBlock = some g → ∃ c t f, w.heap[g]? = some (.cells c t f) := fun g hg => by
  rcases h.2 with ⟨q, _⟩ | ⟨g', cap, cur, u1, _, u3, _⟩
  · rw [q] at hg; cases hg
  · rw [u1] at hg; injection hg with hg; subst hg; exact ⟨_, _, _, u3⟩
def AV.unarr1 (d : Nat) : AV → AV
  | .arow d' => cond (Nat.beq d' d) .dead (.arow d')
  | .aptr d' k j o => cond (Nat.beq d' d) .dead (.aptr d' k j o)
  | .asub d' k lo m => cond (Nat.beq d' d) .dead (.asub d' k lo m)
  | A => A
def St.unarr (S : St) (d : Nat) : St := ⟨S.tmps.map fun p => (p.1, p.2.map1 (AV.unarr1 d)), S.boxes.map fun p => (p.1, p.2.map (AV.unarr1 d)), S.arrs.filter fun p => !(Nat.beq p.1 d)⟩
theorem unarr1_wk (d : Nat) (A : AV) : A.wk1 (A.unarr1 d) := by
  cases A with
  | arow d' =>
    simp only [AV.unarr1]
    cases Nat.beq d' d
    · exact .inl rfl
    · exact .inr (.inl rfl)
  | aptr d' k j o =>
    simp only [AV.unarr1]
    cases Nat.beq d' d
    · exact .inl rfl
    · exact .inr (.inl rfl)
  | asub d' k lo m =>
    simp only [AV.unarr1]
    cases Nat.beq d' d
    · exact .inl rfl
    · exact .inr (.inl rfl)
  | _ => exact .inl rfl
theorem unarr_wk (d : Nat) (A : AV) : A.wk (A.map1 (AV.unarr1 d)) := by
  cases A with
  | tup vs => exact .inr ⟨vs, vs.map (AV.unarr1 d), rfl, rfl, by simp, fun i v v' h1 h2 => by
      rw [List.getElem?_map, h1] at h2
      simp at h2
      subst h2
      exact unarr1_wk d v⟩
  | dead => exact .inl (unarr1_wk d _)
  | val v => exact .inl (unarr1_wk d _)
  | sl k xs => exact .inl (unarr1_wk d _)
  | full k xs => exact .inl (unarr1_wk d _)
  | cptr vs => exact .inl (unarr1_wk d _)
  | clo f cs => exact .inl (unarr1_wk d _)
  | row r' e k xs => exact .inl (unarr1_wk d _)
  | ptr d' o => exact .inl (unarr1_wk d (.ptr d' o))
  | cloB f ds => exact .inl (unarr1_wk d _)
  | pr p => exact .inl (unarr1_wk d _)
  | arow d' => exact .inl (unarr1_wk d (.arow d'))
  | aptr d' k j o => exact .inl (unarr1_wk d (.aptr d' k j o))
  | asub d' k lo m => exact .inl (unarr1_wk d (.asub d' k lo m))
theorem St.unarr_wk (S : St) (d : Nat) : S.wk (S.unarr d) := by
  refine ⟨⟨fun t => ?_, fun d' A h => (List.mem_filter.1 h).1⟩, fun d' cs' h => ?_⟩
  · show AV.wk (getT S.tmps t) (getT (S.tmps.map _) t)
    rw [getT_map (AV.map1 (AV.unarr1 d)) rfl]
    exact Proofs.YtjmnnkhdadoehaaGreat.unarr_wk d _
  · obtain ⟨⟨d2, cs⟩, hm, e⟩ := List.mem_map.1 h
    injection e with e1 e2
    subst e1 e2
    refine ⟨cs, hm, by simp, fun i c c' h1 h2 => ?_⟩
    rw [List.getElem?_map, h1] at h2
    simp at h2
    subst h2
    exact unarr1_wk d c
theorem Sim.unarr (hs : Sim N K0 w0 S K n a w) (d : Nat) : Sim N K0 w0 (S.unarr d) K n a w := hs.weak (St.unarr_wk S d) (fun b c1 c2 p1 p2 => by
    obtain ⟨⟨d1, cs1⟩, m1, f1⟩ := List.mem_map.1 p1
    obtain ⟨⟨d2, cs2⟩, m2, f2⟩ := List.mem_map.1 p2
    injection f1 with f1 f1'
    injection f2 with f2 f2'
    subst f1 f1' f2'
    simp only at f2
    subst f2
    rw [hs.boxOne _ _ _ m1 m2])
theorem Sim.apart (hs : Sim N K0 w0 S K n a w) {d : Nat} {A : Arr} (hm : (d, A) ∈ S.arrs) {g : Nat} (hg : (n.ρ d).ownBlock = some g) :
    w0.isOwn g ∧ (∀ o, K g o = none) ∧ (∀ b cs, (b, cs) ∈ (S.unarr d).boxes → n.β b ≠ some g) ∧ (∀ r e' k' xs', (S.unarr d).has (.row r e' k' xs') → (n.ρ r).ownBlock ≠ some g) ∧ ∀ d' A, (d', A) ∈ (S.unarr d).arrs → (n.ρ d').ownBlock ≠ some g := by
  obtain ⟨_, _, q3⟩ := hs.arr d A hm
  obtain ⟨h1, h2, h3, h4⟩ := q3 g hg
  refine ⟨h1, h2, fun b cs hb => ?_, fun r e' k' xs' hr => h4 r e' k' xs' ((St.unarr_wk S d).has hr), fun d' A' hd' he => ?_⟩
  · obtain ⟨cs0, h5, _⟩ := (St.unarr_wk S d).2 b cs hb
    exact h3 b cs0 h5
  · obtain ⟨h5, h6⟩ := List.mem_filter.1 hd'
    have := hs.arrInj d' A' d A g h5 hm he hg
    subst this
    simp at h6

/-! ### What is read of such rows -/
theorem OpH.lenA {d m : Nat} {A : Arr} (h1 : S.opv x = .arow d) (hA : getA S.arrs d = some A) (hk : (elemSize P t).isSome = true) (hm : A.xs.length = m) : OpH P N K0 w0 ⟨dO, .call { callee := .builtin .len, args := #[x], argTypes := #[t] }, ty, pos, aft, g⟩ S (.val (.int .i64 (m : Nat))) := by
  subst hm
  refine OpH.ret (fun S' K n a w hs hB hop => ?_) no_row_val
  have e1 := hs.opv x
  rw [hop x (by simp [Op.operands, Call.operands]), h1] at e1
  obtain ⟨q1, _⟩ := hs.arr d A (by rw [St.mem_arrs hB]; exact getA_mem hA)
  obtain ⟨B, cap, e3, _⟩ := own_val q1
  obtain ⟨k', hk'⟩ := Option.isSome_iff_exists.1 hk
  obtain ⟨e, ie, hu, hie, hks⟩ := elemSize_spec hk'
  have e4 : a.eval x = .slice B A.xs.length cap := (show a.eval x = n.ρ d from e1).trans e3
  refine ⟨_, ?_, rfl⟩
  simp [execOp, resolve, invoke, builtin, e4, Builtin.len_, run_underlying hu, goInt]
theorem no_row_aptr {d k j o : Nat} {L : List Operand} (r e k' xs) (h : (AV.row r e k' xs).of (.aptr d k j o)) : ∃ x ∈ L, (AV.row r e k' xs).of (S.opv x) := by
  rcases h with h | ⟨_, h, _⟩ <;> cases h
theorem OpH.indexA {d k j : Nat} {A : Arr} {kk : IntKind} {i : Int} (h1 : S.opv x = .arow d) (hA : getA S.arrs d = some A) (h2 : S.opv y = .val (.int kk i)) (hi : i = (j : Int)) (hk : elemSize P t = some k) (hj : j < A.xs.length) :
    OpH P N K0 w0 ⟨dO, .indexAddr t x y, ty, pos, aft, g⟩ S (.aptr d k j 0) := by
  subst hi
  refine OpH.ret (fun S' K n a w hs hB hop => ?_) no_row_aptr
  have e1 := hs.opv x
  have e2 := hs.opv y
  rw [hop x (by simp [Op.operands]), h1] at e1
  rw [hop y (by simp [Op.operands]), h2] at e2
  obtain ⟨q1, _⟩ := hs.arr d A (by rw [St.mem_arrs hB]; exact getA_mem hA)
  obtain ⟨B, cap, e3, _, hn, _, hB'⟩ := own_val q1
  have e4 : a.eval x = .slice B A.xs.length cap := (show a.eval x = n.ρ d from e1).trans e3
  obtain ⟨e, ie, hu, hie, hks⟩ := elemSize_spec hk
  cases B with
  | none => have := (hn rfl).2; omega
  | some ad =>
    obtain ⟨gb, rfl, hg⟩ := hB' ad rfl
    refine ⟨.pointer (some ⟨gb, 0 + j * k, none⟩), ?_, ⟨gb, hg, by rw [Nat.zero_add, Nat.add_zero]⟩⟩
    simp only [execOp]
    rw [e4, show a.eval y = .int kk (j : Int) from e2]
    simp [Instr.indexAt, run_underlying hu, asIntOf, sizeOf, typeInfo, hie, hks, hj, Addr.add_mid]
theorem OpH.fieldA {s : TypeId} {f off d k j o : Nat} {v : AV} (h1 : S.opv x = .aptr d k j o) (hf : fieldOff P s f = some off) (hv : .aptr d k j (o + off) = v) : OpH P N K0 w0 ⟨dO, .fieldAddr s x f, ty, pos, aft, g⟩ S v := by
  subst hv
  refine OpH.ret (fun S' K n a w hs _ hop => ?_) no_row_aptr
  have e1 := hs.opv x
  rw [hop x (by simp [Op.operands]), h1] at e1
  obtain ⟨gb, hg, e2⟩ := e1
  refine ⟨.pointer (some ⟨gb, j * k + o + off, none⟩), ?_, ⟨gb, hg, by rw [Nat.add_assoc]⟩⟩
  simp only [execOp]
  rw [e2, Sem.run_bind, run_fieldOff hf]
  rfl
theorem Sim.arr_cell (hs : Sim N K0 w0 S K n a w) {d : Nat} {A : Arr} (hm : (d, A) ∈ S.arrs) {gb j : Nat} (hg : (n.ρ d).ownBlock = some gb) {cs : List Value} (hj : A.xs[j]? = some cs) (i : Nat) (u : Value) (hu : cs[i]? = some u) : w.cell? ⟨gb, j * A.k + i, none⟩ = some u := by
  obtain ⟨q1, q2, _⟩ := hs.arr d A hm
  have h1 := flatten_get (xs := A.xs) (k := A.k) (Arr.ok_len q2) j cs hj i u hu
  have h2 := q1.cells hg _ u h1
  rwa [Addr.add_mid, Nat.zero_add] at h2
theorem OpH.loadA {d k j o : Nat} {A : Arr} {cs vs : List Value} {v : AV} (h1 : S.opv x = .aptr d k j o) (hA : getA S.arrs d = some A) (hk0 : A.k = k) (hj : A.xs[j]? = some cs) (hk : rowSize P t = some vs.length) (hcs : (cs.drop o).take vs.length = vs) (hv : .val (.agg vs.toArray) = v) :
    OpH P N K0 w0 ⟨dO, .load t x, ty, pos, aft, g⟩ S v := by
  subst hv hk0
  refine OpH.ret (fun S' K n a w hs hB hop => ?_) no_row_val
  have e1 := hs.opv x
  rw [hop x (by simp [Op.operands]), h1] at e1
  obtain ⟨gb, hg, e2⟩ := e1
  have hm : (d, A) ∈ S'.arrs := by rw [St.mem_arrs hB]; exact getA_mem hA
  refine ⟨.agg vs.toArray, ?_, rfl⟩
  simp only [execOp]
  rw [e2, Sem.run_bind, run_load_many hk (fun i v hv => by
    rw [← hcs] at hv
    have := take_some hv
    rw [List.getElem?_drop] at this
    rw [Nat.add_assoc]
    exact hs.arr_cell hm hg hj _ v this)]
  rfl
theorem OpH.loadA1 {d k j o : Nat} {A : Arr} {cs : List Value} {u : Value} {v : AV} (h1 : S.opv x = .aptr d k j o) (hA : getA S.arrs d = some A) (hk0 : A.k = k) (hj : A.xs[j]? = some cs) (hk : oneSize P t = true) (hcs : cs[o]? = some u) (hv : .val u = v) :
    OpH P N K0 w0 ⟨dO, .load t x, ty, pos, aft, g⟩ S v := by
  subst hv hk0
  refine OpH.ret (fun S' K n a w hs hB hop => ?_) no_row_val
  have e1 := hs.opv x
  rw [hop x (by simp [Op.operands]), h1] at e1
  obtain ⟨gb, hg, e2⟩ := e1
  have hm : (d, A) ∈ S'.arrs := by rw [St.mem_arrs hB]; exact getA_mem hA
  refine ⟨u, ?_, rfl⟩
  simp only [execOp]
  rw [e2, Sem.run_bind, run_load_one hk (hs.arr_cell hm hg hj _ u hcs)]
  rfl

/-! ### Writing -/
def setAr (l : List (Nat × Arr)) (t : Nat) (A : Arr) : List (Nat × Arr) := l.map fun p => cond (Nat.beq p.1 t) (p.1, A) p
theorem setAr_mem {l : List (Nat × Arr)} {t : Nat} {A : Arr} {b : Nat} {A' : Arr} (h : (b, A') ∈ setAr l t A) : ∃ c, (b, c) ∈ l ∧ ((b = t ∧ A' = A) ∨ (b ≠ t ∧ c = A')) := by
  obtain ⟨⟨s, B⟩, hm, h⟩ := List.mem_map.1 h
  cases hb : Nat.beq s t with
  | true =>
    rw [hb] at h
    injection h with e1 e2
    subst e1 e2
    exact ⟨B, hm, .inl ⟨Nat.eq_of_beq_eq_true hb, rfl⟩⟩
  | false =>
    rw [hb] at h
    injection h with e1 e2
    subst e1 e2
    exact ⟨B, hm, .inr ⟨fun e => by rw [e] at hb; simp at hb, rfl⟩⟩
theorem flatten_set : ∀ {xs : Cells} {k : Nat}, (∀ x ∈ xs, x.length = k) → ∀ (j : Nat) (c c' : List Value), xs[j]? = some c → c'.length = k → (xs.set j c').flatten = xs.flatten.take (j * k) ++ c' ++ xs.flatten.drop (j * k + k)
  | [], _, _, j, c, c', h, _ => by simp at h
  | y :: ys, k, hk, 0, c, c', h, hl => by
    simp only [List.set_cons_zero, List.flatten_cons, Nat.zero_mul, List.take_zero, List.nil_append, Nat.zero_add]
    have hy : y.length = k := hk y List.mem_cons_self
    rw [List.drop_append, List.drop_eq_nil_of_le (by omega), hy]
    simp
  | y :: ys, k, hk, j + 1, c, c', h, hl => by
    have hy : y.length = k := hk y List.mem_cons_self
    have ih := flatten_set (xs := ys) (fun x hx => hk x (List.mem_cons_of_mem _ hx)) j c c' (by simpa using h) hl
    simp only [List.set_cons_succ, List.flatten_cons]
    rw [ih, List.take_append, List.drop_append, List.take_of_length_le (l := y) (by rw [hy, Nat.succ_mul]; omega), (show y.drop ((j + 1) * k + k) = [] from List.drop_eq_nil_of_le (by rw [hy, Nat.succ_mul]; omega)), hy,
      show (j + 1) * k - k = j * k by rw [Nat.succ_mul]; omega, show (j + 1) * k + k - k = j * k + k by rw [Nat.succ_mul]; omega]
    simp [List.append_assoc]
theorem own_stored {e k : Nat} {v : Value} {xs : Cells} (h : w.ownsRow 0 e k v xs.length xs.flatten) (hlen : ∀ x ∈ xs, x.length = k) {gb j o : Nat} (hg : v.ownBlock = some gb) {cs cs' vs : List Value} (hj : xs[j]? = some cs) (ho : o + vs.length ≤ k) (hcs : cs.take o ++ vs ++ cs.drop (o + vs.length) = cs') :
    (w.setCells gb (j * k + o) vs).ownsRow 0 e k v (xs.set j cs').length (xs.set j cs').flatten ∧ w.grownBy (w.setCells gb (j * k + o) vs) (some gb) := by
  have hcl : cs.length = k := hlen cs (List.mem_of_getElem? hj)
  have hcl' : cs'.length = k := by rw [← hcs]; simp; omega
  have hjl : j < xs.length := (List.getElem?_eq_some_iff.1 hj).1
  obtain ⟨r1, r2, r3, r4⟩ := setCells_rest (b := gb) vs (j * k + o) w
  refine ⟨⟨?_, ?_⟩, r2, r3, r4, by rw [r1]; exact Nat.le_refl _, fun b _ hb => setCells_other vs _ w b (fun e => hb (by rw [e]))⟩
  · rw [List.length_set]
    exact flatten_len (k := k) (fun x hx => by
      rcases List.mem_or_eq_of_mem_set hx with hx | rfl
      · exact hlen x hx
      · exact hcl') |>.trans (by rw [List.length_set])
  · rcases h.2 with ⟨rfl, _⟩ | ⟨g', cap, cur, rfl, hb0, hh, h1, h2, h3, h4⟩
    · cases hg
    · injection hg with hg
      subst hg
      have hmul : (j + 1) * k ≤ xs.length * k := Nat.mul_le_mul_right _ hjl
      have hmul2 : xs.length * k ≤ cap * k := Nat.mul_le_mul_right _ h1
      rw [Nat.succ_mul] at hmul
      have hfit : j * k + o + vs.length ≤ cur.size := by omega
      refine .inr ⟨g', cap, setA cur (j * k + o) vs, by rw [List.length_set], Nat.zero_le _, setCells_block vs _ w cur hh, by rw [List.length_set]; exact h1, h2, by rw [setA_size]; exact h3, ?_⟩
      rw [List.length_set, flatten_set hlen j cs cs' hj hcl']
      have hxf : xs.flatten.length = xs.length * k := flatten_len hlen
      apply List.ext_getElem?
      intro i
      by_cases hi : i < xs.length * k
      · rw [List.getElem?_take, if_pos hi, Array.getElem?_toList, setA_get vs cur _ i hfit]
        have hcur : cur[i]? = xs.flatten[i]? := by
          rw [← h4, List.getElem?_take, if_pos hi]
          simp
        have hcsi : ∀ q, q < k → xs.flatten[j * k + q]? = cs[q]? := fun q hq => by
          have hq' : q < cs.length := by omega
          rw [List.getElem?_eq_getElem hq', flatten_get hlen j cs hj q _ (List.getElem?_eq_getElem hq')]
        have hA : (xs.flatten.take (j * k)).length = j * k := by rw [List.length_take, hxf]; omega
        by_cases hlo : i < j * k
        · rw [if_neg (by omega), hcur, List.append_assoc, List.getElem?_append_left (by rw [hA]; exact hlo), List.getElem?_take, if_pos hlo]
        · rw [List.append_assoc, List.getElem?_append_right (by rw [hA]; omega), hA]
          by_cases hin : i < j * k + k
          · rw [List.getElem?_append_left (by rw [hcl']; omega), ← hcs, List.append_assoc]
            have ht : (cs.take o).length = o := by rw [List.length_take]; omega
            by_cases hq1 : i - j * k < o
            · rw [if_neg (by omega), hcur, List.getElem?_append_left (by rw [ht]; exact hq1), List.getElem?_take, if_pos hq1, ← hcsi _ (by omega)]
              congr 1; omega
            · rw [List.getElem?_append_right (by rw [ht]; omega), ht]
              by_cases hq2 : i - j * k < o + vs.length
              · rw [if_pos (by omega), List.getElem?_append_left (by omega)]
                congr 1; omega
              · rw [if_neg (by omega), List.getElem?_append_right (by omega), List.getElem?_drop, hcur, ← (by rw [show o + vs.length + (i - j * k - o - vs.length) = i - j * k by omega] : cs[i - j * k]? = cs[o + vs.length + (i - j * k - o - vs.length)]?), ← hcsi _ (by omega)]
                congr 1; omega
          · rw [if_neg (by omega), hcur, List.getElem?_append_right (by rw [hcl']; omega), hcl', List.getElem?_drop]
            congr 1; omega
      · rw [List.getElem?_eq_none (by rw [List.length_take]; omega)]
        symm
        apply List.getElem?_eq_none
        simp only [List.length_append, List.length_take, List.length_drop, hxf, hcl']
        omega
end
end Go.Proofs.YtjmnnkhdadoehaaGreat

/- Abstract walks: writing into rows in place. -/
namespace Go.Proofs.YtjmnnkhdadoehaaGreat
set_option linter.unusedSimpArgs false
set_option linter.unusedVariables false
open Go Go.RowKit Go.Shelf

section
variable {P : Program} {N : Nat} {K0 : Know} {w0 : Bas} {S S' : St} {K K' : Know} {n : Nm} {a : Act} {w w' : World} {Q : St → Prop}
variable {dO : Option Nat} {ty : TypeId} {pos : String} {aft : Array Edge} {g : Option (Nat × Bool)} {t e : TypeId} {x y : Operand} {tm : List (Nat × AV)} {bs : List (Nat × List AV)} {ar : List (Nat × Arr)} {dn : Nat}

theorem Sim.storeArr (h : Sim N K0 w0 S K n a w) {d : Nat} {A : Arr} (hm : (d, A) ∈ S.arrs) {g0 : Option Nat} (hg0 : ∀ gb, g0 = some gb → (n.ρ d).ownBlock = some gb) (hgr : w.grownBy w' g0) {xs' : Cells} (hown : w'.ownsRow 0 A.e A.k (n.ρ d) xs'.length xs'.flatten) (hok : Arr.ok ⟨A.e, A.k, xs'⟩) :
    Sim N K0 w0 ⟨S.tmps, S.boxes, setAr S.arrs d ⟨A.e, A.k, xs'⟩⟩ K n a w' := by
  have hap : ∀ gb, g0 = some gb → w0.isOwn gb ∧ (∀ o, K gb o = none) ∧ (∀ d' cs, (d', cs) ∈ S.boxes → n.β d' ≠ some gb) ∧ ∀ r e k xs, S.has (.row r e k xs) → (n.ρ r).ownBlock ≠ some gb := fun gb hgb => (h.arr d A hm).2.2 gb (hg0 gb hgb)
  exact {
    size := h.size
    defers := fun ht => (h.defers ht).grown hgr fun gb hgb => own_cells (h.arr d A hm).1 gb (hg0 gb hgb)
    below := h.below.step hgr.os hgr.tape hgr.output hgr.size fun b hb ho => hgr.block b (Nat.lt_of_lt_of_le hb h.below.size) (fun e => by
      rcases (hap b e.symm).1 with q | q
      · omega
      · exact ho q)
    k0 := h.k0
    knew := h.knew
    ok := fun b o u hu => by
      have h1 := h.ok b o u hu
      rw [World.cell?_of_block (hgr.block b (Know.lt h.ok hu) (fun e => by rw [(hap b e.symm).2.1 o] at hu; cases hu))]
      exact h1
    tmp := h.tmp
    box := fun d' cs hd => by
      obtain ⟨b, arr, ty, q1, q2, q3, q4⟩ := h.box d' cs hd
      exact ⟨b, arr, ty, q1, q2, by rw [hgr.block b (Array.getElem?_eq_some_iff.1 q3).1 (fun e => (hap b e.symm).2.2.1 d' cs hd q1)]; exact q3, q4⟩
    boxInj := h.boxInj
    boxOne := h.boxOne
    row := fun r e k xs hr => by
      obtain ⟨q1, q2⟩ := h.row r e k xs hr
      refine ⟨q1.kept hgr ?_, q2⟩
      cases hv : (n.ρ r).ownBlock with
      | none => exact .inl rfl
      | some gb => exact .inr fun e' => (hap gb e'.symm).2.2.2 r e k xs hr hv
    rowInj := h.rowInj
    arr := fun d' A' hd => by
      obtain ⟨c, hc, ⟨rfl, rfl⟩ | ⟨hne, rfl⟩⟩ := setAr_mem hd
      · exact ⟨hown, hok, fun gb hgb => (h.arr d' A hm).2.2 gb hgb⟩
      · obtain ⟨q1, q2, q3⟩ := h.arr d' c hc
        refine ⟨q1.kept hgr ?_, q2, q3⟩
        cases hv : (n.ρ d').ownBlock with
        | none => exact .inl rfl
        | some gb => exact .inr fun e' => hne (h.arrInj d' c d A gb hc hm hv (hg0 gb e'.symm))
    arrInj := fun d1 A1 d2 A2 gb p1 p2 => by
      obtain ⟨c1, h1, _⟩ := setAr_mem p1
      obtain ⟨c2, h2, _⟩ := setAr_mem p2
      exact h.arrInj d1 c1 d2 c2 gb h1 h2
    arrOne := fun d1 A1 A2 p1 p2 => by
      obtain ⟨c1, h1, ⟨rfl, rfl⟩ | ⟨n1, rfl⟩⟩ := setAr_mem p1 <;> obtain ⟨c2, h2, ⟨k1, k2⟩ | ⟨n2, rfl⟩⟩ := setAr_mem p2
      · exact k2.symm
      · exact absurd rfl n2
      · exact absurd k1 n1
      · exact h.arrOne d1 c1 c2 h1 h2
    fix := h.fix }
theorem run_storeO {t : TypeId} {v : Value} (hk : (P.info? t).map (·.size) = some v.cells.size) (h1 : v.cells.all (·.oneCell') = true) {w : World} {b o : Nat} {arr : Array Value} {ty : TypeId} (hh : w.heap[b]? = some (.cells arr ty (0, 0))) (ho : o + v.cells.size ≤ arr.size) :
    (Instr.storeAt t (.pointer (some ⟨b, o, none⟩)) v).run P w = .ok () (w.setCells b o v.cells.toList) := run_storeV hk h1 hh ho
theorem ok_set {e k j : Nat} {xs : Cells} {cs : List Value} (h : Arr.ok ⟨e, k, xs⟩) (hl : cs.length = k) (h1 : ∀ u ∈ cs, u.oneCell' = true) : Arr.ok ⟨e, k, xs.set j cs⟩ := fun x hx => by
  rcases List.mem_or_eq_of_mem_set hx with hx | rfl
  · exact h x hx
  · exact ⟨hl, h1⟩
theorem T.storeA {d k j o : Nat} {A : Arr} {v : Value} {cs cs' : List Value} {xs' : Cells} {ar' : List (Nat × Arr)} (h1 : St.opv ⟨tm, bs, ar⟩ x = .aptr d k j o) (h2 : St.opv ⟨tm, bs, ar⟩ y = .val v) (hA : getA ar d = some A) (hk0 : A.k = k) (hj : A.xs[j]? = some cs)
    (hk : (P.info? t).map (·.size) = some v.cells.size) (ho1 : v.cells.all (·.oneCell') = true) (ho : o + v.cells.size ≤ k) (hcs : cs.take o ++ v.cells.toList ++ cs.drop (o + v.cells.size) = cs') (hxs : A.xs.set j cs' = xs') (har : setAr ar d ⟨A.e, A.k, xs'⟩ = ar') (hq : Q ⟨tm, bs, ar'⟩) :
    OpT P N K0 w0 ⟨none, .store t x y, ty, pos, aft, g⟩ ⟨tm, bs, ar⟩ Q := by
  subst hk0 hxs har
  intro K n a w hs
  have e1 := hs.opv x
  have e2 := hs.opv y
  rw [h1] at e1
  rw [h2] at e2
  obtain ⟨gb, hg, e1⟩ := e1
  have hm : (d, A) ∈ (⟨tm, bs, ar⟩ : St).arrs := getA_mem hA
  obtain ⟨q1, q2, q3⟩ := hs.arr d A hm
  have hcl : cs.length = A.k := Arr.ok_len q2 cs (List.mem_of_getElem? hj)
  have hcl' : cs'.length = A.k := by rw [← hcs]; simp; omega
  obtain ⟨r1, r2⟩ := own_stored (vs := v.cells.toList) (o := o) q1 (Arr.ok_len q2) hg hj (by simpa using ho) (by simpa using hcs)
  obtain ⟨cap, cur, hh, hfit⟩ : ∃ cap cur, w.heap[gb]? = some (.cells cur A.e (0, 0)) ∧ j * A.k + o + v.cells.size ≤ cur.size ∧ cap = cur.size := by
    rcases q1.2 with ⟨q, _⟩ | ⟨g', cap, cur, u1, u2, u3, u4, u5, u6, u7⟩
    · rw [q] at hg; cases hg
    · rw [u1] at hg; injection hg with hg; subst hg
      refine ⟨cur.size, cur, u3, ?_, rfl⟩
      have hjl : j < A.xs.length := (List.getElem?_eq_some_iff.1 hj).1
      have m1 : (j + 1) * A.k ≤ A.xs.length * A.k := Nat.mul_le_mul_right _ hjl
      have m2 : A.xs.length * A.k ≤ cap * A.k := Nat.mul_le_mul_right _ u4
      rw [Nat.succ_mul] at m1
      omega
  unfold Oper.wp
  simp only [execOp]
  rw [e1, show a.eval y = v from e2, Sem.run_bind, run_storeO hk ho1 hh hfit.1]
  refine ⟨K, n, _, hq, hs.storeArr hm (g0 := some gb) (fun _ h => by injection h with h; rw [← h]; exact hg) r2 r1 (ok_set q2 hcl' fun u hu => ?_)⟩
  rw [← hcs] at hu
  have hco := fun u hu => (q2 cs (List.mem_of_getElem? hj)).2 u hu
  rcases List.mem_append.1 hu with hu | hu
  · rcases List.mem_append.1 hu with hu | hu
    · exact hco u (List.mem_of_mem_take hu)
    · exact (Array.all_eq_true_iff_forall_mem.1 ho1) u (by simpa using hu)
  · exact hco u (List.mem_of_mem_drop hu)
theorem Sim.freshArr (hs : Sim N K0 w0 S K n a w) (hb : Below w.heap.size w w') {s d : Nat} (hd : s < N) (hf : S.free d = true) {e k base : Nat} {xs : Cells} {c : Value} (hown : w'.ownsRow base e k c xs.length xs.flatten) (hbase : w.heap.size ≤ base) (hok : Arr.ok ⟨e, k, xs⟩) :
    Sim N K0 w0 ⟨(s, .arow d) :: S.tmps, S.boxes, (d, ⟨e, k, xs⟩) :: S.arrs⟩ K (n.setρ d c) (a.put (some s) c) w' := by
  have hs' := hs.grow (K' := K) hb (Know.le_refl K) (Know.below hs.ok hb) (fun _ _ _ h _ => h)
  refine hs'.putArr hd hf (own_base0 hown) hok fun gb hg => ?_
  have hge : w.heap.size ≤ gb := Nat.le_trans hbase (own_block_lt hown hg).1
  refine ⟨.inl (Nat.le_trans hs.base hge), fun o => ?_, fun b cs hbx he => ?_, fun r' e' k' xs' hr' he => ?_, fun d' A hd' he => ?_⟩
  · cases hk : K gb o with
    | none => rfl
    | some v => have := Know.lt hs.ok hk; omega
  · obtain ⟨b', arr, ty', q1, _, q3, _⟩ := hs.box b cs hbx
    rw [he] at q1
    injection q1 with q1
    subst q1
    have hlt := (Array.getElem?_eq_some_iff.1 q3).1
    omega
  · have := (own_block_lt (hs.row r' e' k' xs' hr').1 he).2
    omega
  · have := (own_block_lt (hs.arr d' A hd').1 he).2
    omega
theorem madeCells_flat (z : Array Value) (hz : 0 < z.size) : ∀ m, (madeCells z (m * z.size)).toList = (List.replicate m z.toList).flatten := by
  intro m
  apply List.ext_getElem?
  intro i
  have hlen : ((List.replicate m z.toList).flatten).length = m * z.size := by rw [flatten_len (k := z.size) (fun x hx => by rw [(List.mem_replicate.1 hx).2]; simp)]; simp
  by_cases hi : i < m * z.size
  · have hq : i / z.size < m := by rw [Nat.div_lt_iff_lt_mul hz]; exact hi
    have hr : i % z.size < z.size := Nat.mod_lt _ hz
    have h1 := flatten_get (xs := List.replicate m z.toList) (k := z.size) (fun x hx => by rw [(List.mem_replicate.1 hx).2]; simp) (i / z.size) z.toList (by rw [List.getElem?_replicate, if_pos hq]) (i % z.size) z[i % z.size] (by simp [hr])
    rw [show i / z.size * z.size + i % z.size = i by rw [Nat.mul_comm]; exact Nat.div_add_mod _ _] at h1
    rw [h1]
    simp [madeCells, hi, hr]
  · rw [List.getElem?_eq_none (by simp [madeCells]; omega), List.getElem?_eq_none (by omega)]
theorem T.makeA {k bytes m : Nat} {zc : List Value} {kl kc : IntKind} {z1 z2 : Int} (hx : St.opv ⟨tm, bs, ar⟩ x = .val (.int kl z1)) (hy : St.opv ⟨tm, bs, ar⟩ y = .val (.int kc z2)) (hz1 : z1 = (m : Int)) (hz2 : z2 = (m : Int)) (hi : growInfo P t e k bytes = true) (hzc : ((P.info? e).bind (·.zero)).map (·.cells.toList) = some zc) (hone : zc.all (·.oneCell') = true) (hsmall : m * bytes ≤ 140737488355328) (hd : dn < N) (hfr : St.free ⟨tm, bs, ar⟩ dn = true)
    (hq : Q ⟨(dn, .arow dn) :: tm, bs, (dn, ⟨e, k, List.replicate m zc⟩) :: ar⟩) : OpT P N K0 w0 ⟨some dn, .makeSlice t x y, ty, pos, aft, g⟩ ⟨tm, bs, ar⟩ Q := by
  subst hz1 hz2
  intro K n a w hs
  have e1 := hs.opv x
  have e2 := hs.opv y
  rw [hx] at e1
  rw [hy] at e2
  obtain ⟨i, z, hu, hie, hz, hk, hb, hzs, hk0, hb0⟩ := growInfo_spec hi
  subst hk hb
  have hzc' : z.cells.toList = zc := by simpa [hie, hz] using hzc
  have hm : m ≤ 140737488355328 := Nat.le_trans (Nat.le_mul_of_pos_right _ hb0) hsmall
  obtain ⟨w', hrun, hown, hgr⟩ := run_make_full (P := P) w w.heap.size t e i z i.size hu hie hz rfl kl kc m (by rw [Nat.mul_comm]; omega) (by unfold maxLen; omega) (Nat.le_refl _)
  unfold Oper.wp
  simp only [execOp]
  rw [show a.eval x = .int kl (m : Int) from e1, show a.eval y = .int kc (m : Int) from e2, Sem.run_bind, hrun]
  have hbel : Below w.heap.size w w' := ⟨hgr.os, hgr.tape, hgr.output, hgr.size, fun b hb' => hgr.block b hb' (by simp)⟩
  have hcs : (madeCells z.cells (m * i.size)).toList = (List.replicate m zc).flatten := by
    rw [← hzs, madeCells_flat z.cells (by omega), hzc']
  refine ⟨K, _, _, hq, hs.freshArr hbel hd hfr (base := w.heap.size) (by rw [List.length_replicate, ← hcs]; exact hown) (Nat.le_refl _) fun u hu => ?_⟩
  rw [(List.mem_replicate.1 hu).2]
  exact ⟨by rw [← hzc']; simpa using hzs, fun v hv => List.all_eq_true.1 hone v hv⟩
/-! ### Steps of the proof alone -/
def AV.froz1 (d e k : Nat) (xs : Cells) : AV → AV
  | .arow d' => cond (Nat.beq d' d) (.row d e k xs) (.arow d')
  | .aptr d' k' j o => cond (Nat.beq d' d) .dead (.aptr d' k' j o)
  | .asub d' k' l m => cond (Nat.beq d' d) .dead (.asub d' k' l m)
  | A => A
def St.froz (S : St) (d e k : Nat) (xs : Cells) : St := ⟨S.tmps.map fun p => (p.1, p.2.map1 (AV.froz1 d e k xs)), S.boxes.map fun p => (p.1, p.2.map (AV.froz1 d e k xs)), S.arrs.filter fun p => !(Nat.beq p.1 d)⟩
theorem froz1_row {d e k : Nat} {xs : Cells} {A : AV} {r e' k' : Nat} {xs' : Cells} (h : A.froz1 d e k xs = .row r e' k' xs') : A = .row r e' k' xs' ∨ (r = d ∧ e' = e ∧ k' = k ∧ xs' = xs) := by
  cases A with
  | arow d' =>
    simp only [AV.froz1] at h
    cases hb : Nat.beq d' d with
    | true => rw [hb] at h; injection h with q1 q2 q3 q4; exact .inr ⟨q1.symm, q2.symm, q3.symm, q4.symm⟩
    | false => rw [hb] at h; cases h
  | aptr d' k1 j o => simp only [AV.froz1] at h; cases hb : Nat.beq d' d <;> rw [hb] at h <;> cases h
  | asub d' k1 l m => simp only [AV.froz1] at h; cases hb : Nat.beq d' d <;> rw [hb] at h <;> cases h
  | _ => exact .inl h
theorem froz_of {d e k : Nat} {xs : Cells} {A : AV} {r e' k' : Nat} {xs' : Cells} (h : (AV.row r e' k' xs').of (A.map1 (AV.froz1 d e k xs))) : (AV.row r e' k' xs').of A ∨ (r = d ∧ e' = e ∧ k' = k ∧ xs' = xs) := by
  have key : A.froz1 d e k xs = .row r e' k' xs' → (AV.row r e' k' xs').of A ∨ (r = d ∧ e' = e ∧ k' = k ∧ xs' = xs) := fun h => (froz1_row h).imp (fun h => .inl h) id
  cases A with
  | tup vs =>
    rcases h with h | ⟨us, h, hm⟩
    · cases h
    · simp only [AV.map1] at h
      injection h with h
      subst h
      obtain ⟨B, hB, e1⟩ := List.mem_map.1 hm
      rcases froz1_row e1 with q | q
      · exact .inl (.inr ⟨vs, rfl, by rw [← q]; exact hB⟩)
      · exact .inr q
  | arow d' =>
    rcases h with h | ⟨us, h, hm⟩
    · exact key h
    · simp only [AV.map1, AV.froz1] at h; cases hb : Nat.beq d' d <;> rw [hb] at h <;> cases h
  | aptr d' k1 j o =>
    rcases h with h | ⟨us, h, hm⟩
    · exact key h
    · simp only [AV.map1, AV.froz1] at h; cases hb : Nat.beq d' d <;> rw [hb] at h <;> cases h
  | asub d' k1 j o =>
    rcases h with h | ⟨us, h, hm⟩
    · exact key h
    · simp only [AV.map1, AV.froz1] at h; cases hb : Nat.beq d' d <;> rw [hb] at h <;> cases h
  | dead => exact .inl h
  | val v => exact .inl h
  | sl k xs => exact .inl h
  | full k xs => exact .inl h
  | cptr vs => exact .inl h
  | clo f cs => exact .inl h
  | row r' e k xs => exact .inl h
  | ptr d o => exact .inl h
  | cloB f ds => exact .inl h
  | pr p => exact .inl h
theorem Sim.froz (h : Sim N K0 w0 S K n a w) (hno : ∀ g, ¬ w0.own g) {d e k : Nat} {xs : Cells} (hm : (d, ⟨e, k, xs⟩) ∈ S.arrs) : ∃ K', Sim N K0 w0 (S.froz d e k xs) K' n a w := by
  obtain ⟨q1, q2, q3⟩ := h.arr d _ hm
  let K' : Know := fun b o => if (n.ρ d).ownBlock = some b then xs.flatten[o]? else K b o
  have hne : ∀ b o u, K b o = some u → (n.ρ d).ownBlock ≠ some b := fun b o u hu hb => by rw [(q3 b hb).2.1 o] at hu; cases hu
  have hle : Know.le K K' := fun b o u hu => by simp only [K', if_neg (hne b o u hu)]; exact hu
  have hbase : ∀ gb, (n.ρ d).ownBlock = some gb → w0.w.heap.size ≤ gb := fun gb hg => by
    rcases (q3 gb hg).1 with q | q
    · exact q
    · exact absurd q (hno gb)
  have hok : K'.ok w := fun b o u hu => by
    simp only [K'] at hu
    split at hu
    · rename_i hb
      have := q1.cells hb o u hu
      rwa [Addr.add_mid, Nat.zero_add] at this
    · exact h.ok b o u hu
  have hslice : Slice K' k xs (n.ρ d) := own_slice q1 (fun gb hg o u hu => by simp only [K', if_pos hg]; exact hu) (Arr.ok_len q2) (Arr.ok_one q2)
  have hrep1 : ∀ A c, Rep1 K n A c → Rep1 K' n (A.froz1 d e k xs) c := fun A c hr => by
    cases A with
    | arow d' =>
      simp only [AV.froz1]
      cases hb : Nat.beq d' d with
      | true => have := Nat.eq_of_beq_eq_true hb; subst this; have hr' : c = n.ρ d' := hr; exact ⟨hr', by rw [hr']; exact hslice⟩
      | false => exact hr
    | aptr d' k1 j o =>
      simp only [AV.froz1]
      cases hb : Nat.beq d' d with
      | true => trivial
      | false => exact hr
    | asub d' k1 l m =>
      simp only [AV.froz1]
      cases hb : Nat.beq d' d with
      | true => trivial
      | false => exact hr
    | dead => exact hr.mono hle
    | val v => exact hr.mono hle
    | sl k xs => exact hr.mono hle
    | full k xs => exact hr.mono hle
    | cptr vs => exact hr.mono hle
    | clo f cs => exact hr.mono hle
    | row r' e k xs => exact hr.mono hle
    | ptr d o => exact hr.mono hle
    | cloB f ds => exact hr.mono hle
    | pr p => exact hr.mono hle
    | tup vs => exact hr.elim
  have hrep : ∀ A c, Rep K n A c → Rep K' n (A.map1 (AV.froz1 d e k xs)) c := fun A c hr => by
    cases A with
    | tup vs =>
      obtain ⟨cs, e1, h1, h2⟩ := hr
      refine ⟨cs, e1, by simpa using h1, fun i v hv => ?_⟩
      rw [List.getElem?_map, Option.map_eq_some_iff] at hv
      obtain ⟨u, hu, rfl⟩ := hv
      exact hrep1 u _ (h2 i u hu)
    | dead => exact Rep.of1 (hrep1 .dead c hr)
    | val v => exact Rep.of1 (hrep1 (.val v) c hr)
    | sl k xs => exact Rep.of1 (hrep1 (.sl k xs) c hr)
    | full k xs => exact Rep.of1 (hrep1 (.full k xs) c hr)
    | cptr vs => exact Rep.of1 (hrep1 (.cptr vs) c hr)
    | clo f cs => exact Rep.of1 (hrep1 (.clo f cs) c hr)
    | row r' e k xs => exact Rep.of1 (hrep1 (.row r' e k xs) c hr)
    | ptr d o => exact Rep.of1 (hrep1 (.ptr d o) c hr)
    | cloB f ds => exact Rep.of1 (hrep1 (.cloB f ds) c hr)
    | pr p => exact Rep.of1 (hrep1 (.pr p) c hr)
    | arow d' => exact Rep.of1 (hrep1 (.arow d') c hr)
    | aptr d' k1 j o => exact Rep.of1 (hrep1 (.aptr d' k1 j o) c hr)
    | asub d' k1 l m => exact Rep.of1 (hrep1 (.asub d' k1 l m) c hr)
  have hbx : ∀ b cs', (b, cs') ∈ (S.froz d e k xs).boxes → ∃ cs, (b, cs) ∈ S.boxes ∧ cs' = cs.map (AV.froz1 d e k xs) := fun b cs' hb => by
    obtain ⟨⟨b0, cs⟩, hm2, e1⟩ := List.mem_map.1 hb
    injection e1 with e1 e2
    subst e1 e2
    exact ⟨cs, hm2, rfl⟩
  have hhas : ∀ r e' k' xs', (S.froz d e k xs).has (.row r e' k' xs') → S.has (.row r e' k' xs') ∨ (r = d ∧ e' = e ∧ k' = k ∧ xs' = xs) := fun r e' k' xs' hr => by
    rcases hr with ⟨t, ht⟩ | ⟨b, cs', hb, hmem⟩
    · have e1 : (S.froz d e k xs).get t = (S.get t).map1 (AV.froz1 d e k xs) := getT_map (AV.map1 (AV.froz1 d e k xs)) rfl S.tmps t
      rw [e1] at ht
      exact (froz_of ht).imp (fun h => .inl ⟨t, h⟩) id
    · obtain ⟨cs, hb', rfl⟩ := hbx b cs' hb
      obtain ⟨B, hB, e1⟩ := List.mem_map.1 hmem
      rcases froz1_row e1 with q | q
      · exact .inl (.inr ⟨b, cs, hb', by rw [← q]; exact hB⟩)
      · exact .inr q
  have hnew : ∀ gb, (n.ρ d).ownBlock = some gb → ∀ o u, K' gb o = some u → o < xs.length * k := fun gb hg o u hu => by
    simp only [K', if_pos hg] at hu
    have := (List.getElem?_eq_some_iff.1 hu).1
    rwa [q1.1] at this
  refine ⟨K', {
    size := h.size
    defers := h.defers
    below := h.below
    k0 := Know.le_trans h.k0 hle
    knew := fun b o u hu hlt => by
      simp only [K'] at hu
      split at hu
      · rename_i hb; have := hbase b hb; omega
      · exact h.knew b o u hu hlt
    ok := hok
    tmp := fun t => by
      have e1 : (S.froz d e k xs).get t = (S.get t).map1 (AV.froz1 d e k xs) := getT_map (AV.map1 (AV.froz1 d e k xs)) rfl S.tmps t
      rw [e1]
      exact hrep _ _ (h.tmp t)
    box := fun b cs' hb => by
      obtain ⟨cs, hb', rfl⟩ := hbx b cs' hb
      obtain ⟨b', arr, ty, p1, p2, p3, p4, p5, p6⟩ := h.box b cs hb'
      refine ⟨b', arr, ty, p1, p2, p3, by simpa using p4, fun i c hi => ?_, fun o => ?_⟩
      · rw [List.getElem?_map, Option.map_eq_some_iff] at hi
        obtain ⟨u, hu, rfl⟩ := hi
        exact hrep1 u _ (p5 i u hu)
      · simp only [K']
        rw [if_neg (fun he => (q3 b' he).2.2.1 b cs hb' p1)]
        exact p6 o
    boxInj := fun d1 c1 d2 c2 b p1 p2 => by
      obtain ⟨c1', u1, _⟩ := hbx d1 c1 p1
      obtain ⟨c2', u2, _⟩ := hbx d2 c2 p2
      exact h.boxInj d1 c1' d2 c2' b u1 u2
    boxOne := fun d1 c1 c2 p1 p2 => by
      obtain ⟨c1', u1, rfl⟩ := hbx d1 c1 p1
      obtain ⟨c2', u2, rfl⟩ := hbx d1 c2 p2
      rw [h.boxOne d1 c1' c2' u1 u2]
    row := fun r e' k' xs' hr => by
      rcases hhas r e' k' xs' hr with hr | ⟨rfl, rfl, rfl, rfl⟩
      · obtain ⟨p1, p2⟩ := h.row r e' k' xs' hr
        refine ⟨p1, fun gb hg => ⟨fun o u hu => ?_, fun b cs' hb => ?_⟩⟩
        · simp only [K'] at hu
          rw [if_neg (fun he => (q3 gb he).2.2.2 r e' k' xs' hr hg)] at hu
          exact (p2 gb hg).1 o u hu
        · obtain ⟨cs, hb', _⟩ := hbx b cs' hb
          exact (p2 gb hg).2 b cs hb'
      · refine ⟨own_up q1 hbase, fun gb hg => ⟨hnew gb hg, fun b cs' hb => ?_⟩⟩
        obtain ⟨cs, hb', _⟩ := hbx b cs' hb
        exact (q3 gb hg).2.2.1 b cs hb'
    rowInj := fun r1 e1 k1 xs1 r2 e2 k2 xs2 gb p1 p2 g1 g2 => by
      rcases hhas _ _ _ _ p1 with u1 | ⟨z1, _, _, _⟩ <;> rcases hhas _ _ _ _ p2 with u2 | ⟨z2, _, _, _⟩
      · exact h.rowInj r1 e1 k1 xs1 r2 e2 k2 xs2 gb u1 u2 g1 g2
      · rw [z2] at g2; exact absurd g1 ((q3 gb g2).2.2.2 _ _ _ _ u1)
      · rw [z1] at g1; exact absurd g2 ((q3 gb g1).2.2.2 _ _ _ _ u2)
      · rw [z1, z2]
    arr := fun d' A hd' => by
      obtain ⟨u1, u2⟩ := List.mem_filter.1 hd'
      have hdd : d' ≠ d := by rintro rfl; simp at u2
      obtain ⟨p1, p2, p3⟩ := h.arr d' A u1
      have hgg : ∀ gb, (n.ρ d').ownBlock = some gb → (n.ρ d).ownBlock ≠ some gb := fun gb hg he => hdd (h.arrInj d' A d _ gb u1 hm hg he)
      refine ⟨p1, p2, fun gb hg => ⟨(p3 gb hg).1, fun o => ?_, fun b cs' hb => ?_, fun r e' k' xs' hr he => ?_⟩⟩
      · simp only [K', if_neg (hgg gb hg)]; exact (p3 gb hg).2.1 o
      · obtain ⟨cs, hb', _⟩ := hbx b cs' hb
        exact (p3 gb hg).2.2.1 b cs hb'
      · rcases hhas r e' k' xs' hr with hr | ⟨rfl, _, _, _⟩
        · exact (p3 gb hg).2.2.2 r e' k' xs' hr he
        · exact hgg gb hg he
    arrInj := fun d1 A1 d2 A2 gb p1 p2 => h.arrInj d1 A1 d2 A2 gb (List.mem_filter.1 p1).1 (List.mem_filter.1 p2).1
    arrOne := fun d1 A1 A2 p1 p2 => h.arrOne d1 A1 A2 (List.mem_filter.1 p1).1 (List.mem_filter.1 p2).1
    fix := h.fix }⟩
theorem CT.froz {QE : Exit → St → Prop} {c : Code} (hno : ∀ g, ¬ w0.own g) (d : Nat) {k : Nat} {xs : Cells} {T : St} (hA : getA ar d = some ⟨e, k, xs⟩) (hT : St.froz ⟨tm, bs, ar⟩ d e k xs = T) (h : CT P N K0 w0 c T QE) : CT P N K0 w0 c ⟨tm, bs, ar⟩ QE := fun K n a w hs => by
  subst hT
  obtain ⟨K', hs'⟩ := hs.froz hno (d := d) (getA_mem hA)
  exact h K' n a w hs'
theorem LT.froz {l : List Oper} {ops : Array Oper} (hno : ∀ g, ¬ w0.own g) (d : Nat) {k : Nat} {xs : Cells} {T : St} (hA : getA ar d = some ⟨e, k, xs⟩) (hT : St.froz ⟨tm, bs, ar⟩ d e k xs = T) (h : LT P N K0 w0 ops l T Q) : LT P N K0 w0 ops l ⟨tm, bs, ar⟩ Q := fun K n a w hs => by
  subst hT
  obtain ⟨K', hs'⟩ := hs.froz hno (d := d) (getA_mem hA)
  exact h K' n a w hs'
end
end Go.Proofs.YtjmnnkhdadoehaaGreat

/- -/

/- -/
