/- A function's body, from its arguments to its result. -/
import Derived.Test.YtjgjohonbjmakaaAbsH
namespace Go.Proofs.Ytjgjohonbjmakaa
set_option linter.unusedSimpArgs false
set_option linter.unusedVariables false
open Go Go.RowKit Go.Shelf

def args0 : Nat → List AV → List (Nat × AV)
  | _, [] => []
  | i, A :: l => (i, A) :: args0 (i + 1) l
theorem args0_get : ∀ (As : List AV) (i t : Nat), getT (args0 i As) t = if i ≤ t ∧ t < i + As.length then (As[t - i]?).getD .dead else .dead
  | [], i, t => by simp [args0, getT]
  | A :: l, i, t => by
    simp only [args0, getT]
    cases hb : Nat.beq i t with
    | true =>
      have e := Nat.eq_of_beq_eq_true hb
      subst e
      rw [if_pos (by simp)]
      simp
    | false =>
      have hne : i ≠ t := fun e => by rw [e] at hb; simp at hb
      simp only [cond_false]
      rw [args0_get l (i + 1) t]
      by_cases h : i + 1 ≤ t ∧ t < i + 1 + l.length
      · rw [if_pos h, if_pos (by simp; omega), show t - i = (t - (i + 1)) + 1 by omega]
        simp
      · rw [if_neg h, if_neg (by simp; omega)]
inductive RetV (P : Program) (S : St) : ResultVar → AV → Prop
  | tmp (t : Nat) {A : AV} (h : S.get t = A) (hn : ∀ vs, A ≠ .tup vs) : RetV P S (.tmp t) A
  | many (p : Nat) {t b o : Nat} {cs : List AV} {vs : List Value} {A : AV} (h : S.get p = .ptr b o) (hb : getB S.boxes b = some cs) (hk : rowSize P t = some vs.length) (hcs : valCells ((cs.drop o).take vs.length) = some vs) (hA : .val (.agg vs.toArray) = A) : RetV P S (.cell p t) A
  | one (p : Nat) {t b o : Nat} {cs : List AV} {A : AV} (h : S.get p = .ptr b o) (hb : getB S.boxes b = some cs) (hk : oneSize P t = true) (hcs : cs[o]? = some A) (hn : ∀ vs, A ≠ .tup vs) : RetV P S (.cell p t) A
def retOne (tmps : Array Value) : ResultVar → Sem Value
  | .tmp t => pure (tmps.getD t undef)
  | .cell a t => do loadVar t (← asAddr (tmps.getD a undef))
theorem RetV.run {P : Program} {N : Nat} {K0 : Know} {w0 : World} {S : St} {K : Know} {n : Nm} {a : Act} {w : World} (hs : Sim N K0 w0 S K n a w) {r : ResultVar} {A : AV} (h : RetV P S r A) :
    ∃ c, (retOne a.tmps r).run P w = .ok c w ∧ Rep1 K n A c ∧ ((∃ r e k xs, A = .row r e k xs) → S.has A) := by
  cases h with
  | tmp t h hn =>
    have h1 := hs.tmp t
    rw [h] at h1
    refine ⟨_, rfl, ?_, fun ⟨r, e, k, xs, hA⟩ => by subst hA; exact .inl ⟨t, .inl h⟩⟩
    cases A with
    | tup vs => exact absurd rfl (hn vs)
    | _ => exact h1
  | @many p t b o cs vs A h hb hk hcs hA =>
    subst hA
    have e1 := hs.tmp p
    rw [h] at e1
    obtain ⟨b', hβ, e2⟩ := e1
    obtain ⟨b2, arr, ty2, hβ2, _, hh, hsz, hc, _⟩ := hs.box _ _ (getB_mem hb)
    rw [hβ] at hβ2
    injection hβ2 with hβ2
    subst hβ2
    refine ⟨.agg vs.toArray, ?_, rfl, fun ⟨r, e, k, xs, hA⟩ => by cases hA⟩
    have := run_load_many (P := P) hk (w := w) (b := b') (o := o) (fun j v hv => by
      obtain ⟨h3, h4⟩ := valCells_get hcs
      have h5 := h4 j v hv
      have h6 := take_some h5
      rw [List.getElem?_drop] at h6
      have h7 := hc _ _ h6
      have hlt : o + j < arr.size := by rw [hsz]; exact (List.getElem?_eq_some_iff.1 h6).1
      simp only [World.cell?, hh]
      simp only [Array.getD_eq_getD_getElem?, Array.getElem?_eq_getElem hlt, Option.getD_some] at h7
      simp only [Option.isSome_none, Bool.false_eq_true, if_false, Array.getElem?_eq_getElem hlt]
      exact congrArg some h7)
    simp only [retOne, e2, asAddr]
    simpa [Instr.loadAt, Instr.sureAddr] using this
  | @one p t b o cs A h hb hk hcs hn =>
    have e1 := hs.tmp p
    rw [h] at e1
    obtain ⟨b', hβ, e2⟩ := e1
    have hm := getB_mem hb
    obtain ⟨b2, arr, ty2, hβ2, _, hh, hsz, hc, _⟩ := hs.box _ _ hm
    rw [hβ] at hβ2
    injection hβ2 with hβ2
    subst hβ2
    have h7 := hc _ _ hcs
    have hlt := (List.getElem?_eq_some_iff.1 hcs).1
    rw [← hsz] at hlt
    simp only [Array.getD_eq_getD_getElem?, Array.getElem?_eq_getElem hlt, Option.getD_some] at h7
    refine ⟨_, ?_, h7, fun _ => .inr ⟨_, _, hm, List.mem_of_getElem? hcs⟩⟩
    have := run_load_one (P := P) hk (w := w) (b := b') (o := o) (v := arr[o]) (by simp only [World.cell?, hh]; simp [Array.getElem?_eq_getElem hlt])
    simp only [retOne, e2, asAddr]
    simpa [Instr.loadAt, Instr.sureAddr] using this
inductive Rets (P : Program) (S : St) : List ResultVar → List AV → Prop
  | nil : Rets P S [] []
  | cons {r A rs As} (h : RetV P S r A) (t : Rets P S rs As) : Rets P S (r :: rs) (A :: As)
def retsV (As : List AV) : AV := match As with | [A] => A | As => .tup As
/-- Nothing is said of boxes. -/
def AV.noBox1 : AV → Bool
  | .ptr _ _ | .cloB _ _ | .tup _ => false
  | _ => true
def retA (P : Program) (fn : Func) (res : AV) : Exit → St → Prop := fun e S => (e = .normal ∨ e = .ret) ∧ ∃ As, Rets P S fn.results.toList As ∧ retsV As = res ∧ As.all AV.noBox1 = true
theorem Rep1.noBox {K : Know} {n : Nm} {A : AV} {c : Value} (hp : A.noBox1 = true) (h : Rep1 K n A c) : Rep1 K ⟨fun _ => none, n.ρ⟩ A c := by
  cases A <;> first | exact h | cases hp

section
variable {P : Program} {N : Nat} {K0 : Know} {w0 : World} {S : St} {K : Know} {n : Nm} {a : Act} {w : World}
theorem rets_run (hs : Sim N K0 w0 S K n a w) : ∀ {rs : List ResultVar} {As : List AV}, Rets P S rs As → ∃ cs : List Value,
    (rs.mapM (retOne a.tmps)).run P w = .ok cs w ∧ cs.length = As.length ∧
    (∀ (i : Nat) A c, As[i]? = some A → cs[i]? = some c → Rep1 K n A c) ∧ ∀ r e k xs, AV.row r e k xs ∈ As → S.has (.row r e k xs)
  | _, _, .nil => ⟨[], by rw [List.mapM_nil]; rfl, rfl, fun i A c h => by simp at h, fun r e k xs h => by simp at h⟩
  | _, _, .cons (r := r) (A := A) (rs := rs) (As := As) h t => by
    obtain ⟨c, h1, h2, h3⟩ := h.run hs
    obtain ⟨cs, h4, h5, h6, h7⟩ := rets_run hs t
    refine ⟨c :: cs, ?_, by simp [h5], fun i B d hB hd => ?_, fun r' e k xs hm => ?_⟩
    · rw [List.mapM_cons, Sem.run_bind, h1]
      simp only [Result.andThen_ok]
      rw [Sem.run_bind, h4]
      rfl
    · cases i with
      | zero => simp at hB hd; subst hB hd; exact h2
      | succ i => exact h6 i B d (by simpa using hB) (by simpa using hd)
    · rcases List.mem_cons.1 hm with e1 | e1
      · have := h3 ⟨r', e, k, xs, e1.symm⟩
        rwa [← e1] at this
      · exact h7 r' e k xs e1
theorem ret_run (hs : Sim N K0 w0 S K n a w) {fn : Func} {As : List AV} (h : Rets P S fn.results.toList As) (hnb : As.all AV.noBox1 = true) : ∃ c, (results fn a.tmps).run P w = .ok c w ∧ Rep K ⟨fun _ => none, n.ρ⟩ (retsV As) c ∧ ∀ r e k xs, (AV.row r e k xs).of (retsV As) → S.has (.row r e k xs) := by
  obtain ⟨cs, h1, h2, h3, h4⟩ := rets_run hs h
  have hrun : (results fn a.tmps).run P w = .ok (if h : cs.toArray.size = 1 then cs.toArray[0] else .tuple cs.toArray) w := by
    have e : results fn a.tmps = (do let vs ← fn.results.mapM (retOne a.tmps); pure (if h : vs.size = 1 then vs[0] else .tuple vs)) := rfl
    rw [e, Sem.run_bind, Array.mapM_eq_mapM_toList]
    simp only [map_eq_pure_bind, Sem.run_bind]
    rw [h1]
    rfl
  match As, cs, h2, h3, h4, hnb, hrun with
  | [A], [c], _, h3, h4, hnb, hrun =>
    refine ⟨c, by rw [hrun]; rfl, ?_, fun r e k xs hr => ?_⟩
    · have := (h3 0 A c rfl rfl).noBox (by simpa using hnb)
      exact Rep.of1 this
    · rcases hr with hr | ⟨vs, hr, _⟩
      · exact h4 r e k xs (by simp [retsV] at hr; simp [hr])
      · simp [retsV] at hr; subst hr; simp [AV.noBox1] at hnb
  | [], [], _, h3, h4, hnb, hrun =>
    exact ⟨.tuple #[], by rw [hrun]; rfl, ⟨#[], rfl, rfl, fun i v h => by simp at h⟩, fun r e k xs hr => by
      rcases hr with hr | ⟨vs, hr, hm⟩
      · cases hr
      · injection hr with hr; subst hr; simp at hm⟩
  | A :: B :: As, c :: c' :: cs, h2, h3, h4, hnb, hrun =>
    refine ⟨.tuple (c :: c' :: cs).toArray, by rw [hrun]; rfl, ⟨_, rfl, by simpa using h2, fun i v hv => ?_⟩, fun r e k xs hr => ?_⟩
    · have hi : i < (c :: c' :: cs).length := by rw [h2]; exact (List.getElem?_eq_some_iff.1 hv).1
      have := (h3 i v _ hv (List.getElem?_eq_getElem hi)).noBox (List.all_eq_true.1 hnb v (List.mem_of_getElem? hv))
      simpa [Array.getD_eq_getD_getElem?, List.getElem?_eq_getElem hi] using this
    · rcases hr with hr | ⟨vs, hr, hm⟩
      · cases hr
      · injection hr with hr; subst hr; exact h4 r e k xs hm
end
theorem Good.of_body {P : Program} {f : FuncId} {fn : Func} {c : Code} {As : List AV} {res : AV} (hf : P.funcs[f]? = some fn) (hb : fn.body = some c) (hp : As.all AV.plain1 = true) {T : List (Nat × AV)} (hT : args0 0 As = T)
    (h : ∀ K0 w0, CT P fn.ntmps K0 w0 c ⟨T, []⟩ (retA P fn res)) : Good P f As res := by
  subst hT
  intro K w cargs hok hlen hrep
  refine calls_of_wp hf hb (wp_mono (h K w K Nm.nil _ w ?_) ?_)
  · have hno : ∀ r e k xs, ¬ (⟨args0 0 As, []⟩ : St).has (.row r e k xs) := by
      intro r e k xs hr
      rcases hr with ⟨t, ht⟩ | ⟨_, _, hm, _⟩
      · simp only [St.get, args0_get] at ht
        split at ht
        · rename_i hlt
          have hlt' : t - 0 < As.length := by omega
          rw [List.getElem?_eq_getElem hlt'] at ht
          have := List.all_eq_true.1 hp _ (List.getElem_mem hlt')
          simp only [Option.getD_some] at ht
          rcases ht with ht | ⟨_, ht, _⟩ <;> (rw [ht] at this; cases this)
        · rcases ht with ht | ⟨_, ht, _⟩ <;> cases ht
      · simp at hm
    exact {
      size := by simp; omega
      defers := rfl
      below := Below.refl _ _
      k0 := Know.le_refl K
      knew := fun _ _ _ h _ => h
      ok := hok
      tmp := fun t => by
        simp only [St.get, args0_get]
        split
        · rename_i hlt
          have hlt' : t - 0 < As.length := by omega
          have hlt2 : t < cargs.length := by omega
          rw [List.getElem?_eq_getElem hlt']
          simp only [Option.getD_some]
          refine Rep.of1 ?_
          have := hrep (t - 0) _ _ (List.getElem?_eq_getElem hlt') (List.getElem?_eq_getElem (by omega))
          simp only [Nat.sub_zero] at this ⊢
          rw [Array.getD_eq_getD_getElem?, Array.getElem?_append_left (by simpa using hlt2)]
          simpa [List.getElem?_eq_getElem hlt2] using this
        · trivial
      box := fun d cs h => by simp at h
      boxInj := fun d cs d' cs' b h => by simp at h
      boxOne := fun d cs cs' h => by simp at h
      row := fun r e k xs h => absurd h (hno r e k xs)
      rowInj := fun r e k xs r' e' k' xs' g h => absurd h (hno r e k xs) }
  · rintro e a' w' ⟨K', n', S', ⟨he, Bs, hR, rfl, hnb⟩, hs⟩
    obtain ⟨c, h1, h2, h3⟩ := ret_run hs hR hnb
    have hpost : a'.defers = [] ∧ ∃ v, (results fn a'.tmps).run P w' = .ok v w' ∧ (∃ c K'', Ending.returned v = .returned c ∧ Below w.heap.size w w' ∧ K.le K'' ∧ K''.ok w' ∧ (∀ b o u, K'' b o = some u → b < w.heap.size → K b o = some u) ∧ Res K'' w w' (retsV Bs) c) :=
      ⟨hs.defers, c, h1, c, K', rfl, hs.below, hs.k0, hs.ok, hs.knew, n'.ρ, h2, fun r e k xs hr => by
        obtain ⟨q1, q2⟩ := hs.row r e k xs (h3 r e k xs hr)
        exact ⟨q1, fun g hg => (q2 g hg).1⟩, fun r e k xs r' e' k' xs' g p1 p2 => hs.rowInj r e k xs r' e' k' xs' g (h3 _ _ _ _ p1) (h3 _ _ _ _ p2)⟩
    rcases he with rfl | rfl
    · exact hpost
    · exact hpost
end Go.Proofs.Ytjgjohonbjmakaa
