/- Abstract walks: such calls, by the caller. -/
import Derived.Test.YtkfmammkbmhfaaaXAbs3
namespace Go.Proofs.Ytkfmammkbmhfaaa
set_option linter.unusedSimpArgs false
set_option linter.unusedVariables false
open Go Go.RowKit Go.Shelf

def hasB (bs : List (Nat × List AV)) (d : Nat) : Bool := bs.any fun p => Nat.beq p.1 d
theorem hasB_mem {bs : List (Nat × List AV)} {d : Nat} {cs : List AV} (h : (d, cs) ∈ bs) : hasB bs d = true := List.any_eq_true.2 ⟨_, h, by simp⟩
theorem hasB_ex {bs : List (Nat × List AV)} {d : Nat} (h : hasB bs d = true) : ∃ cs, (d, cs) ∈ bs := by
  obtain ⟨⟨d', cs⟩, hm, hb⟩ := List.any_eq_true.1 h
  exact ⟨cs, by rw [← Nat.eq_of_beq_eq_true hb]; exact hm⟩
theorem hasA_ex {ar : List (Nat × Arr)} {d : Nat} (h : hasA ar d = true) : ∃ A, (d, A) ∈ ar := by
  obtain ⟨⟨d', A⟩, hm, hb⟩ := List.any_eq_true.1 h
  exact ⟨A, by rw [← Nat.eq_of_beq_eq_true hb]; exact hm⟩
def Nm.over (n n' : Nm) (bs : List (Nat × List AV)) (ar : List (Nat × Arr)) : Nm := ⟨fun d => cond (hasB bs d) (n'.β d) (n.β d), fun d => cond (hasA ar d) (n'.ρ d) (n.ρ d)⟩
def AV.okO (boxed : Bool) (bs : List (Nat × List AV)) (ar : List (Nat × Arr)) : AV → Bool
  | .val _ | .dead => true
  | .ptr d _ => hasB bs d
  | .arow d => hasA ar d
  | .sl _ _ | .full _ _ | .cptr _ | .clo _ _ | .pr _ => !boxed
  | _ => false
def AV.okO' (boxed : Bool) (bs : List (Nat × List AV)) (ar : List (Nat × Arr)) : AV → Bool
  | .tup vs => vs.all (AV.okO boxed bs ar)
  | A => A.okO boxed bs ar
theorem Rep1.over {K' K2 : Know} {n n' : Nm} {bs : List (Nat × List AV)} {ar : List (Nat × Arr)} {boxed : Bool} {A : AV} {c : Value} (hok : A.okO boxed bs ar = true) (hK : boxed = false → K'.le K2) (h : Rep1 K' n' A c) : Rep1 K2 (n.over n' bs ar) A c := by
  cases A with
  | val v => exact h
  | dead => trivial
  | ptr d o =>
    obtain ⟨b, h1, h2⟩ := h
    exact ⟨b, by simp only [Nm.over]; rw [show hasB bs d = true from hok]; exact h1, h2⟩
  | arow d =>
    show c = (n.over n' bs ar).ρ d
    simp only [Nm.over]; rw [show hasA ar d = true from hok]; exact h
  | sl k xs => cases boxed with
    | false => exact Rep1.mono (n := n') (A := .sl k xs) h (hK rfl)
    | true => cases hok
  | full k xs => cases boxed with
    | false => exact Rep1.mono (n := n') (A := .full k xs) h (hK rfl)
    | true => cases hok
  | cptr vs => cases boxed with
    | false => exact Rep1.mono (n := n') (A := .cptr vs) h (hK rfl)
    | true => cases hok
  | clo f caps => cases boxed with
    | false => exact Rep1.mono (n := n') (A := .clo f caps) h (hK rfl)
    | true => cases hok
  | pr p => cases boxed with
    | false => exact Rep1.mono (n := n') (A := .pr p) h (hK rfl)
    | true => cases hok
  | row => cases hok
  | cloB => cases hok
  | aptr => cases hok
  | asub => cases hok
  | tup => cases hok
theorem okO_row {boxed : Bool} {bs : List (Nat × List AV)} {ar : List (Nat × Arr)} {A : AV} (h : A.okO' boxed bs ar = true) {r e k : Nat} {xs : Cells} : ¬ (AV.row r e k xs).of A := by
  rintro (rfl | ⟨vs, rfl, hm⟩)
  · cases h
  · have := List.all_eq_true.1 h _ hm; cases this
theorem Rep.over {K' K2 : Know} {n n' : Nm} {bs : List (Nat × List AV)} {ar : List (Nat × Arr)} {boxed : Bool} {A : AV} {c : Value} (hok : A.okO' boxed bs ar = true) (hK : boxed = false → K'.le K2) (h : Rep K' n' A c) : Rep K2 (n.over n' bs ar) A c := by
  cases A with
  | tup vs =>
    obtain ⟨cs, e, h1, h2⟩ := h
    exact ⟨cs, e, h1, fun i v hv => (h2 i v hv).over (List.all_eq_true.1 hok v (List.mem_of_getElem? hv)) hK⟩
  | val v => exact Rep.of1 (Rep1.over (A := .val v) hok hK h)
  | dead => trivial
  | ptr d o => exact Rep.of1 (Rep1.over (A := .ptr d o) hok hK h)
  | arow d => exact Rep.of1 (Rep1.over (A := .arow d) hok hK h)
  | sl k xs => exact Rep.of1 (Rep1.over (A := .sl k xs) hok hK h)
  | full k xs => exact Rep.of1 (Rep1.over (A := .full k xs) hok hK h)
  | cptr vs => exact Rep.of1 (Rep1.over (A := .cptr vs) hok hK h)
  | clo f caps => exact Rep.of1 (Rep1.over (A := .clo f caps) hok hK h)
  | pr p => exact Rep.of1 (Rep1.over (A := .pr p) hok hK h)
  | row => cases hok
  | cloB => cases hok
  | aptr => cases hok
  | asub => cases hok
theorem Rep1.stay {K K2 : Know} {n n' : Nm} {bs : List (Nat × List AV)} {ar : List (Nat × Arr)} {A : AV} {c : Value} (hK : K.le K2) (hb : ∀ d, hasB bs d = true → n'.β d = n.β d ∨ A.free1 d = true) (ha : ∀ d, hasA ar d = true → A.free1 d = true) (h : Rep1 K n A c) : Rep1 K2 (n.over n' bs ar) A c := by
  have h' := h.mono hK
  have hβ : ∀ d, A.free1 d = false → (n.over n' bs ar).β d = n.β d := fun d hf => by
    simp only [Nm.over]
    cases hq : hasB bs d with
    | false => rfl
    | true => rcases hb d hq with h1 | h1
              · exact h1
              · rw [h1] at hf; cases hf
  have hρ : ∀ d, A.free1 d = false → (n.over n' bs ar).ρ d = n.ρ d := fun d hf => by
    simp only [Nm.over]
    cases hq : hasA ar d with
    | false => rfl
    | true => rw [ha d hq] at hf; cases hf
  cases A with
  | ptr d o =>
    obtain ⟨b, h1, h2⟩ := h'
    exact ⟨b, by rw [hβ d (by simp [AV.free1])]; exact h1, h2⟩
  | cloB f ds =>
    obtain ⟨ps, e, h1, h2⟩ := h'
    refine ⟨ps, e, h1, fun i p d' off hp hd => ?_⟩
    obtain ⟨b', h3, h4⟩ := h2 i p d' off hp hd
    refine ⟨b', ?_, h4⟩
    rw [hβ d' ?_]
    · exact h3
    · cases hf : AV.free1 d' (.cloB f ds) with
      | false => rfl
      | true =>
        have := List.all_eq_true.1 hf _ (List.mem_of_getElem? hd)
        simp at this
  | row r e k xs =>
    obtain ⟨h1, h2⟩ := h'
    exact ⟨by rw [hρ r (by simp [AV.free1])]; exact h1, h2⟩
  | arow d => show c = (n.over n' bs ar).ρ d; rw [hρ d (by simp [AV.free1])]; exact h'
  | aptr d k j o =>
    obtain ⟨g, h1, h2⟩ := h'
    exact ⟨g, by rw [hρ d (by simp [AV.free1])]; exact h1, h2⟩
  | asub d k l m =>
    obtain ⟨A, x, y, h1, h2⟩ := h'
    exact ⟨A, x, y, by rw [hρ d (by simp [AV.free1])]; exact h1, h2⟩
  | dead => trivial
  | val v => exact h'
  | sl k xs => exact h'
  | full k xs => exact h'
  | cptr vs => exact h'
  | clo f cs => exact h'
  | pr p => exact h'
  | tup vs => exact h'.elim
theorem Rep.stay {K K2 : Know} {n n' : Nm} {bs : List (Nat × List AV)} {ar : List (Nat × Arr)} {A : AV} {c : Value} (hK : K.le K2) (hb : ∀ d, hasB bs d = true → n'.β d = n.β d ∨ A.free d = true) (ha : ∀ d, hasA ar d = true → A.free d = true) (h : Rep K n A c) : Rep K2 (n.over n' bs ar) A c := by
  cases A with
  | tup vs =>
    obtain ⟨cs, e, h1, h2⟩ := h
    exact ⟨cs, e, h1, fun i v hv => (h2 i v hv).stay hK (fun d hd => (hb d hd).imp id fun h => List.all_eq_true.1 h v (List.mem_of_getElem? hv)) fun d hd => List.all_eq_true.1 (ha d hd) v (List.mem_of_getElem? hv)⟩
  | dead => trivial
  | val v => exact Rep.of1 (Rep1.stay (A := .val v) hK hb ha h)
  | sl k xs => exact Rep.of1 (Rep1.stay (A := .sl k xs) hK hb ha h)
  | full k xs => exact Rep.of1 (Rep1.stay (A := .full k xs) hK hb ha h)
  | cptr vs => exact Rep.of1 (Rep1.stay (A := .cptr vs) hK hb ha h)
  | clo f cs => exact Rep.of1 (Rep1.stay (A := .clo f cs) hK hb ha h)
  | row r e k xs => exact Rep.of1 (Rep1.stay (A := .row r e k xs) hK hb ha h)
  | ptr d o => exact Rep.of1 (Rep1.stay (A := .ptr d o) hK hb ha h)
  | cloB f ds => exact Rep.of1 (Rep1.stay (A := .cloB f ds) hK hb ha h)
  | pr p => exact Rep.of1 (Rep1.stay (A := .pr p) hK hb ha h)
  | arow d => exact Rep.of1 (Rep1.stay (A := .arow d) hK hb ha h)
  | aptr d k j o => exact Rep.of1 (Rep1.stay (A := .aptr d k j o) hK hb ha h)
  | asub d k l m => exact Rep.of1 (Rep1.stay (A := .asub d k l m) hK hb ha h)

section
variable {P : Program} {N : Nat} {K0 : Know} {w0 : Bas} {S S2 : St} {K K' K2 : Know} {n n' : Nm} {a : Act} {w w' : World} {Q : St → Prop}
variable {bs0 bs1 : List (Nat × List AV)} {ar0 ar1 : List (Nat × Arr)}
theorem Sim.handed (hs : Sim N K0 w0 S K n a w) (hb0 : ∀ d cs, (d, cs) ∈ bs0 → (d, cs) ∈ S.boxes) (ha0 : ∀ d A, (d, A) ∈ ar0 → (d, A) ∈ S.arrs)
    (hs2 : Sim N K0 w0 S2 K n a w) (hwk : S.wk S2) (h2b : ∀ d cs, (d, cs) ∈ S2.boxes → hasB bs0 d = false) (h2a : ∀ d A, (d, A) ∈ S2.arrs → hasA ar0 d = false)
    (hkp : Keeps ⟨w, foot n bs0 ar0, fun _ => none, true⟩ w') (hK : K.le K2) (hok : K2.ok w') (hold : ∀ b o u, K2 b o = some u → b < w.heap.size → K b o = some u) (hnew : ∀ b o, w.heap.size ≤ b → K' b o = none → K2 b o = none)
    (hM : Mem K' n' w' (fun b => w.heap.size ≤ b ∨ foot n bs0 ar0 b) bs1 ar1) (hβ : ∀ d cs cs', (d, cs) ∈ bs0 → (d, cs') ∈ bs1 → n'.β d = n.β d)
    (hfb : ∀ d cs, (d, cs) ∈ bs1 → (hasB bs0 d = true ∨ (S2.free d = true ∧ w0.β d = none)) ∧ ∀ cs', (d, cs') ∉ S2.boxes) (hfa : ∀ d A, (d, A) ∈ ar1 → S2.free d = true)
    {boxed : Bool} (hcells : ∀ d cs, (d, cs) ∈ bs1 → ∀ A ∈ cs, A.okO boxed bs1 ar1 = true) (hKK : boxed = false → K'.le K2)
    {dn : Nat} (hd : dn < N) {res : AV} {c : Value} (hres : Rep K' n' res c) (hresok : res.okO' boxed bs1 ar1 = true) :
    Sim N K0 w0 ⟨(dn, res) :: S2.tmps, bs1 ++ S2.boxes, ar1 ++ S2.arrs⟩ K2 (n.over n' bs1 ar1) (a.put (some dn) c) w' := by
  have hsz : dn < a.tmps.size := Nat.lt_of_lt_of_le hd hs.size
  -- the footprint
  have hfoot : ∀ b, foot n bs0 ar0 b → w0.isOwn b ∧ b < w.heap.size ∧ (∀ o, K b o = none) ∧ (∀ d cs, (d, cs) ∈ S2.boxes → n.β d ≠ some b) ∧ (∀ r e k xs, S2.has (.row r e k xs) → (n.ρ r).ownBlock ≠ some b) ∧ ∀ d A, (d, A) ∈ S2.arrs → (n.ρ d).ownBlock ≠ some b := by
    intro b hb
    rcases hb with ⟨d, cs, hm, hn⟩ | ⟨d, A, hm, hn⟩
    · obtain ⟨b', arr, ty, q1, q2, q3, q4, q5, q6⟩ := hs.box d cs (hb0 d cs hm)
      rw [hn] at q1
      injection q1 with q1
      subst q1
      refine ⟨q2, (Array.getElem?_eq_some_iff.1 q3).1, q6, fun d' cs' hm' he => ?_, fun r e k xs hr he => ?_, fun d' A' hm' he => ?_⟩
      · obtain ⟨cs2, hm2, _⟩ := hwk.2 d' cs' hm'
        have := hs.boxInj d' cs2 d cs b hm2 (hb0 d cs hm) he hn
        subst this
        have := h2b d' cs' hm'
        rw [hasB_mem hm] at this
        cases this
      · exact ((hs.row r e k xs (hwk.has hr)).2 b he).2 d cs (hb0 d cs hm) hn
      · exact ((hs.arr d' A' (hwk.1.2 d' A' hm')).2.2 b he).2.2.1 d cs (hb0 d cs hm) hn
    · obtain ⟨q1, q2, q3⟩ := hs.arr d A (ha0 d A hm)
      refine ⟨(q3 b hn).1, (own_block_lt q1 hn).2, (q3 b hn).2.1, fun d' cs' hm' he => ?_, fun r e k xs hr he => (q3 b hn).2.2.2 r e k xs (hwk.has hr) he, fun d' A' hm' he => ?_⟩
      · obtain ⟨cs2, hm2, _⟩ := hwk.2 d' cs' hm'
        exact (q3 b hn).2.2.1 d' cs2 hm2 he
      · have := hs.arrInj d' A' d A b (hwk.1.2 d' A' hm') (ha0 d A hm) he hn
        subst this
        have := h2a d' A' hm'
        rw [hasA_mem hm] at this
        cases this
  have hblk : ∀ b, b < w.heap.size → ¬ foot n bs0 ar0 b → w'.heap[b]? = w.heap[b]? := hkp.block
  -- blocks of what comes back
  have hown : ∀ b, (w.heap.size ≤ b ∨ foot n bs0 ar0 b) → w0.isOwn b ∧ ((∀ o, K' b o = none) → ∀ o, K2 b o = none) ∧ (∀ d cs, (d, cs) ∈ S2.boxes → n.β d ≠ some b) ∧ (∀ r e k xs, S2.has (.row r e k xs) → (n.ρ r).ownBlock ≠ some b) ∧ ∀ d A, (d, A) ∈ S2.arrs → (n.ρ d).ownBlock ≠ some b := by
    intro b hb
    rcases hb with hb | hb
    · refine ⟨.inl (Nat.le_trans hs.base hb), fun h o => hnew b o hb (h o), fun d cs hm he => ?_, fun r e k xs hr he => ?_, fun d A hm he => ?_⟩
      · obtain ⟨b', arr, ty, q1, _, q3, _⟩ := hs2.box d cs hm
        rw [he] at q1
        injection q1 with q1
        subst q1
        have := (Array.getElem?_eq_some_iff.1 q3).1
        omega
      · have := (own_block_lt (hs2.row r e k xs hr).1 he).2
        omega
      · have := (own_block_lt (hs2.arr d A hm).1 he).2
        omega
    · obtain ⟨q1, q2, q3, q4, q5, q6⟩ := hfoot b hb
      refine ⟨q1, fun _ o => ?_, q4, q5, q6⟩
      cases hk : K2 b o with
      | none => rfl
      | some u => have := hold b o u hk q2; rw [q3 o] at this; cases this
  have hB1 : ∀ d cs, (d, cs) ∈ bs1 → (n.over n' bs1 ar1).β d = n'.β d := fun d cs hm => by simp only [Nm.over, hasB_mem hm, cond_true]
  have hA1 : ∀ d A, (d, A) ∈ ar1 → (n.over n' bs1 ar1).ρ d = n'.ρ d := fun d A hm => by simp only [Nm.over, hasA_mem hm, cond_true]
  have hB2 : ∀ d cs, (d, cs) ∈ S2.boxes → (n.over n' bs1 ar1).β d = n.β d := fun d cs hm => by
    simp only [Nm.over]
    cases hq : hasB bs1 d with
    | false => rfl
    | true => obtain ⟨cs', hm'⟩ := hasB_ex hq; exact absurd hm ((hfb d cs' hm').2 cs)
  have hA2 : ∀ d A, (d, A) ∈ S2.arrs → (n.over n' bs1 ar1).ρ d = n.ρ d := fun d A hm => by
    simp only [Nm.over]
    cases hq : hasA ar1 d with
    | false => rfl
    | true => obtain ⟨A', hm'⟩ := hasA_ex hq; exact absurd rfl (St.free_arr (hfa d A' hm') hm)
  have hR2 : ∀ r e k xs, S2.has (.row r e k xs) → (n.over n' bs1 ar1).ρ r = n.ρ r := fun r e k xs hr => by
    simp only [Nm.over]
    cases hq : hasA ar1 r with
    | false => rfl
    | true => obtain ⟨A', hm'⟩ := hasA_ex hq; exact absurd rfl (St.free_has (hfa r A' hm') hr)
  have hbb : ∀ d, hasB bs1 d = true → n'.β d = n.β d ∨ S2.free d = true := fun d hq => by
    obtain ⟨cs, hm⟩ := hasB_ex hq
    rcases (hfb d cs hm).1 with h | ⟨h, _⟩
    · obtain ⟨cs0, hm0⟩ := hasB_ex h; exact .inl (hβ d cs0 cs hm0 hm)
    · exact .inr h
  have haa : ∀ d, hasA ar1 d = true → S2.free d = true := fun d hq => by obtain ⟨A, hm⟩ := hasA_ex hq; exact hfa d A hm
  have hhas : ∀ r e k xs, (⟨(dn, res) :: S2.tmps, bs1 ++ S2.boxes, ar1 ++ S2.arrs⟩ : St).has (.row r e k xs) → S2.has (.row r e k xs) := by
    intro r e k xs hr
    rcases hr with ⟨t, ht⟩ | ⟨d, cs, hm, hA⟩
    · have ht' : (AV.row r e k xs).of ((S2.put dn res).get t) := ht
      rw [St.get_put] at ht'
      split at ht'
      · exact absurd ht' (okO_row hresok)
      · exact .inl ⟨t, ht'⟩
    · rcases List.mem_append.1 hm with hm | hm
      · have := hcells d cs hm _ hA; cases this
      · exact .inr ⟨d, cs, hm, hA⟩
  exact {
    size := by simp [Act.put]; exact hs.size
    defers := fun ht => (hs.defers ht).keep rfl fun D hD => (hblk D (Array.getElem?_eq_some_iff.1 hD).1 (fun hf => by
      rcases hf with ⟨d, cs, hm, hn⟩ | ⟨d, A, hm, hn⟩
      · obtain ⟨b', _, _, q1, _, q3, _⟩ := hs.box d cs (hb0 d cs hm)
        rw [hn] at q1; injection q1 with q1; subst q1
        rw [q3] at hD; cases hD
      · obtain ⟨c, t, f, q⟩ := own_cells (hs.arr d A (ha0 d A hm)).1 D hn
        rw [q] at hD; cases hD)).trans hD
    below := hs.below.step hkp.os hkp.tape hkp.output hkp.size fun b hb ho => hblk b (Nat.lt_of_lt_of_le hb hs.below.size) (fun hf => by
      rcases (hfoot b hf).1 with q | q
      · omega
      · exact ho q)
    k0 := Know.le_trans hs.k0 hK
    knew := fun b o u hu hlt => hs.knew b o u (hold b o u hu (Nat.lt_of_lt_of_le hlt hs.base)) hlt
    ok := hok
    tmp := fun t => by
      show Rep K2 _ ((S2.put dn res).get t) _
      rw [St.get_put]
      by_cases e1 : dn = t
      · subst e1
        rw [if_pos rfl]
        simp only [Act.put, Array.getD_eq_getD_getElem?, Array.getElem?_setIfInBounds, hsz, if_true, Option.getD_some]
        exact hres.over hresok hKK
      · rw [if_neg e1]
        simp only [Act.put, Array.getD_eq_getD_getElem?, Array.getElem?_setIfInBounds, e1, if_false]
        have := (hs2.tmp t).stay (n' := n') (bs := bs1) (ar := ar1) hK (fun d hq => (hbb d hq).imp id fun h => St.free_get h t) (fun d hq => St.free_get (haa d hq) t)
        rwa [Array.getD_eq_getD_getElem?] at this
    box := fun d cs hm => by
      rcases List.mem_append.1 hm with hm | hm
      · obtain ⟨b, arr, ty, q1, q2, q3, q4, q5, q6⟩ := hM.box d cs hm
        refine ⟨b, arr, ty, by rw [hB1 d cs hm]; exact q1, (hown b q2).1, q3, q4, fun i A hi => (q5 i A hi).over (hcells d cs hm A (List.mem_of_getElem? hi)) hKK, (hown b q2).2.1 q6⟩
      · obtain ⟨b, arr, ty, q1, q2, q3, q4, q5, q6⟩ := hs2.box d cs hm
        have hlt := (Array.getElem?_eq_some_iff.1 q3).1
        refine ⟨b, arr, ty, by rw [hB2 d cs hm]; exact q1, q2, by rw [hblk b hlt (fun hf => (hfoot b hf).2.2.2.1 d cs hm q1)]; exact q3, q4, fun i A hi => ?_, fun o => ?_⟩
        · refine (q5 i A hi).stay hK (fun d' hq => (hbb d' hq).imp id fun h => ?_) fun d' hq => ?_
          · exact List.all_eq_true.1 (St.free_box h hm) _ (List.mem_of_getElem? hi)
          · exact List.all_eq_true.1 (St.free_box (haa d' hq) hm) _ (List.mem_of_getElem? hi)
        · cases hk : K2 b o with
          | none => rfl
          | some u => have := hold b o u hk hlt; rw [q6 o] at this; cases this
    boxInj := fun d1 c1 d2 c2 b p1 p2 q1 q2 => by
      rcases List.mem_append.1 p1 with p1 | p1 <;> rcases List.mem_append.1 p2 with p2 | p2
      · rw [hB1 _ _ p1] at q1; rw [hB1 _ _ p2] at q2; exact hM.boxInj d1 c1 d2 c2 b p1 p2 q1 q2
      · obtain ⟨b', _, _, u1, u2, _⟩ := hM.box d1 c1 p1
        rw [hB1 _ _ p1, u1] at q1; injection q1 with q1; subst q1
        rw [hB2 _ _ p2] at q2
        exact absurd q2 ((hown b' u2).2.2.1 d2 c2 p2)
      · obtain ⟨b', _, _, u1, u2, _⟩ := hM.box d2 c2 p2
        rw [hB1 _ _ p2, u1] at q2; injection q2 with q2; subst q2
        rw [hB2 _ _ p1] at q1
        exact absurd q1 ((hown b' u2).2.2.1 d1 c1 p1)
      · rw [hB2 _ _ p1] at q1; rw [hB2 _ _ p2] at q2; exact hs2.boxInj d1 c1 d2 c2 b p1 p2 q1 q2
    boxOne := fun d1 c1 c2 p1 p2 => by
      rcases List.mem_append.1 p1 with p1 | p1 <;> rcases List.mem_append.1 p2 with p2 | p2
      · exact hM.boxOne d1 c1 c2 p1 p2
      · exact absurd p2 ((hfb d1 c1 p1).2 c2)
      · exact absurd p1 ((hfb d1 c2 p2).2 c1)
      · exact hs2.boxOne d1 c1 c2 p1 p2
    row := fun r e k xs hr => by
      have hr' := hhas r e k xs hr
      rw [hR2 r e k xs hr']
      obtain ⟨q1, q2⟩ := hs2.row r e k xs hr'
      refine ⟨⟨q1.1, ?_⟩, fun g hg => ⟨fun o u hu => (q2 g hg).1 o u (hold g o u hu (own_block_lt q1 hg).2), fun d cs hm => ?_⟩⟩
      · rcases q1.2 with q | ⟨g, cap, cur, u1, u2, u3, u4⟩
        · exact .inl q
        · have hgo : (n.ρ r).ownBlock = some g := by rw [u1]; rfl
          exact .inr ⟨g, cap, cur, u1, u2, by rw [hblk g (Array.getElem?_eq_some_iff.1 u3).1 (fun hf => (hfoot g hf).2.2.2.2.1 r e k xs hr' hgo)]; exact u3, u4⟩
      · rcases List.mem_append.1 hm with hm | hm
        · obtain ⟨b', _, _, u1, u2, _⟩ := hM.box d cs hm
          rw [hB1 _ _ hm, u1]
          intro he
          injection he with he
          subst he
          exact (hown b' u2).2.2.2.1 r e k xs hr' hg
        · rw [hB2 _ _ hm]; exact (q2 g hg).2 d cs hm
    rowInj := fun r1 e1 k1 xs1 r2 e2 k2 xs2 g p1 p2 q1 q2 => by
      have p1' := hhas _ _ _ _ p1
      have p2' := hhas _ _ _ _ p2
      rw [hR2 _ _ _ _ p1'] at q1
      rw [hR2 _ _ _ _ p2'] at q2
      exact hs2.rowInj r1 e1 k1 xs1 r2 e2 k2 xs2 g p1' p2' q1 q2
    arr := fun d A hm => by
      rcases List.mem_append.1 hm with hm | hm
      · obtain ⟨q1, q2, q3⟩ := hM.arr d A hm
        rw [hA1 d A hm]
        refine ⟨q1, q2, fun g hg => ⟨(hown g (q3 g hg).1).1, (hown g (q3 g hg).1).2.1 (q3 g hg).2.1, fun d' cs hm' => ?_, fun r e k xs hr => ?_⟩⟩
        · rcases List.mem_append.1 hm' with hm' | hm'
          · rw [hB1 _ _ hm']; exact (q3 g hg).2.2 d' cs hm'
          · rw [hB2 _ _ hm']; exact (hown g (q3 g hg).1).2.2.1 d' cs hm'
        · rw [hR2 r e k xs (hhas r e k xs hr)]; exact (hown g (q3 g hg).1).2.2.2.1 r e k xs (hhas r e k xs hr)
      · obtain ⟨q1, q2, q3⟩ := hs2.arr d A hm
        rw [hA2 d A hm]
        refine ⟨⟨q1.1, ?_⟩, q2, fun g hg => ⟨(q3 g hg).1, fun o => ?_, fun d' cs hm' => ?_, fun r e k xs hr => ?_⟩⟩
        · rcases q1.2 with q | ⟨g, cap, cur, u1, u2, u3, u4⟩
          · exact .inl q
          · have hgo : (n.ρ d).ownBlock = some g := by rw [u1]; rfl
            exact .inr ⟨g, cap, cur, u1, u2, by rw [hblk g (Array.getElem?_eq_some_iff.1 u3).1 (fun hf => (hfoot g hf).2.2.2.2.2 d A hm hgo)]; exact u3, u4⟩
        · cases hk : K2 g o with
          | none => rfl
          | some u => have := hold g o u hk (own_block_lt q1 hg).2; rw [(q3 g hg).2.1 o] at this; cases this
        · rcases List.mem_append.1 hm' with hm' | hm'
          · obtain ⟨b', _, _, u1, u2, _⟩ := hM.box d' cs hm'
            rw [hB1 _ _ hm', u1]
            intro he
            injection he with he
            subst he
            exact (hown b' u2).2.2.2.2 d A hm hg
          · rw [hB2 _ _ hm']; exact (q3 g hg).2.2.1 d' cs hm'
        · rw [hR2 r e k xs (hhas r e k xs hr)]; exact (q3 g hg).2.2.2 r e k xs (hhas r e k xs hr)
    arrInj := fun d1 A1 d2 A2 g p1 p2 q1 q2 => by
      rcases List.mem_append.1 p1 with p1 | p1 <;> rcases List.mem_append.1 p2 with p2 | p2
      · rw [hA1 _ _ p1] at q1; rw [hA1 _ _ p2] at q2; exact hM.arrInj d1 A1 d2 A2 g p1 p2 q1 q2
      · rw [hA1 _ _ p1] at q1; rw [hA2 _ _ p2] at q2
        exact absurd q2 ((hown g ((hM.arr d1 A1 p1).2.2 g q1).1).2.2.2.2 d2 A2 p2)
      · rw [hA1 _ _ p2] at q2; rw [hA2 _ _ p1] at q1
        exact absurd q1 ((hown g ((hM.arr d2 A2 p2).2.2 g q2).1).2.2.2.2 d1 A1 p1)
      · rw [hA2 _ _ p1] at q1; rw [hA2 _ _ p2] at q2; exact hs2.arrInj d1 A1 d2 A2 g p1 p2 q1 q2
    arrOne := fun d1 A1 A2 p1 p2 => by
      rcases List.mem_append.1 p1 with p1 | p1 <;> rcases List.mem_append.1 p2 with p2 | p2
      · exact hM.arrOne d1 A1 A2 p1 p2
      · exact absurd rfl (St.free_arr (hfa d1 A1 p1) p2)
      · exact absurd rfl (St.free_arr (hfa d1 A2 p2) p1)
      · exact hs2.arrOne d1 A1 A2 p1 p2
    fix := fun d b hb => by
      obtain ⟨q1, q2⟩ := hs.fix d b hb
      refine ⟨?_, q2⟩
      simp only [Nm.over]
      cases hq : hasB bs1 d with
      | false => exact q1
      | true =>
        obtain ⟨cs, hm⟩ := hasB_ex hq
        rcases (hfb d cs hm).1 with h | ⟨_, h⟩
        · obtain ⟨cs0, hm0⟩ := hasB_ex h
          show n'.β d = some b
          rw [hβ d cs0 cs hm0 hm]; exact q1
        · rw [h] at hb; cases hb }
/-! ### The call -/
def AV.argO (S : St) : AV → AV
  | .ptr b o => .ptr b o
  | .arow d => .arow d
  | .cloB f ds => match capsOf S ds with
    | some caps => .clo f caps
    | none => .dead
  | A => A.arg
theorem AV.arg_plain (A : AV) : A.arg.plain1 = true := by cases A <;> rfl
theorem AV.argO_rep (hs : Sim N K0 w0 S K n a w) {S1 : St} (hs1 : Sim N K0 w0 S1 K n a w) {A : AV} {c : Value} (h : Rep K n A c) : Rep1 (K.boxed n S1 w) n (A.argO S1) c := by
  have key : ∀ {A : AV}, Rep K n A c → Rep1 (K.boxed n S1 w) n A.arg c := fun {A} h => (((AV.arg_of A).rep h).plain (AV.arg_plain A)).mono Know.boxed_le
  cases A with
  | ptr b o => exact h
  | arow d => exact h
  | cloB f ds =>
    simp only [AV.argO]
    split
    · rename_i caps hc
      have := (ArgB.clo (S := S1) (f := f) hc).rep hs1 (show Rep K n (.cloB f ds) c from h)
      exact this
    · trivial
  | dead => exact key h
  | val v => exact key (A := .val v) h
  | sl k xs => exact key (A := .sl k xs) h
  | full k xs => exact key (A := .full k xs) h
  | cptr vs => exact key (A := .cptr vs) h
  | clo f cs => exact key (A := .clo f cs) h
  | row r e k xs => exact key (A := .row r e k xs) h
  | pr p => exact key (A := .pr p) h
  | aptr d k j o => exact key (A := .aptr d k j o) h
  | asub d k l m => exact key (A := .asub d k l m) h
  | tup vs => exact key (A := .tup vs) h
def unarrs (S : St) : List (Nat × Arr) → St
  | [] => S
  | p :: l => unarrs (S.unarr p.1) l
def St.without (S : St) (bs0 : List (Nat × List AV)) (ar0 : List (Nat × Arr)) : St := ⟨(unarrs S ar0).tmps, (unarrs S ar0).boxes.filter fun p => !(hasB bs0 p.1), (unarrs S ar0).arrs⟩
theorem wk1_trans {A B C : AV} (h1 : A.wk1 B) (h2 : B.wk1 C) : A.wk1 C := by
  rcases h2 with rfl | rfl | ⟨r, e, k, xs, rfl, rfl⟩ | ⟨k, xs, rfl, rfl⟩
  · exact h1
  · exact .inr (.inl rfl)
  · exact .inr (.inr (.inl ⟨r, e, k, xs, AV.wk1.row h1, rfl⟩))
  · rcases h1 with h1 | h1 | ⟨_, _, _, _, _, h1⟩ | ⟨_, _, _, h1⟩
    · exact .inr (.inr (.inr ⟨k, xs, h1.symm, rfl⟩))
    · cases h1
    · cases h1
    · cases h1
theorem wk_trans {A B C : AV} (h1 : A.wk B) (h2 : B.wk C) : A.wk C := by
  rcases h1 with h1 | ⟨vs, vs', rfl, rfl, hl, hc⟩
  · rcases h2 with h2 | ⟨us, us', rfl, rfl, hl2, hc2⟩
    · exact .inl (wk1_trans h1 h2)
    · rcases h1 with h1 | h1 | ⟨_, _, _, _, _, h1⟩ | ⟨_, _, _, h1⟩
      · exact .inr ⟨us, us', h1.symm, rfl, hl2, hc2⟩
      all_goals cases h1
  · rcases h2 with h2 | ⟨us, us', h, rfl, hl2, hc2⟩
    · rcases h2 with h2 | h2 | ⟨_, _, _, _, h2, _⟩ | ⟨_, _, h2, _⟩
      · exact .inr ⟨vs, vs', rfl, h2, hl, hc⟩
      · exact .inl (.inr (.inl h2))
      · cases h2
      · cases h2
    · injection h with h
      subst h
      refine .inr ⟨vs, us', rfl, rfl, hl.trans hl2, fun i v v' q1 q2 => ?_⟩
      have hi : i < vs'.length := by rw [← hl]; exact (List.getElem?_eq_some_iff.1 q1).1
      exact wk1_trans (hc i v _ q1 (List.getElem?_eq_getElem hi)) (hc2 i _ v' (List.getElem?_eq_getElem hi) q2)
theorem St.wk_trans {S1 S2 S3 : St} (h1 : S1.wk S2) (h2 : S2.wk S3) : S1.wk S3 := by
  refine ⟨⟨fun t => Proofs.Ytkfmammkbmhfaaa.wk_trans (h1.1.1 t) (h2.1.1 t), fun d A hm => h1.1.2 d A (h2.1.2 d A hm)⟩, fun d cs' hm => ?_⟩
  obtain ⟨cs2, m2, l2, c2⟩ := h2.2 d cs' hm
  obtain ⟨cs1, m1, l1, c1⟩ := h1.2 d cs2 m2
  refine ⟨cs1, m1, l1.trans l2, fun i c c' q1 q2 => ?_⟩
  have hi : i < cs2.length := by rw [← l1]; exact (List.getElem?_eq_some_iff.1 q1).1
  exact wk1_trans (c1 i c _ q1 (List.getElem?_eq_getElem hi)) (c2 i _ c' (List.getElem?_eq_getElem hi) q2)
theorem St.wk_refl (S : St) : S.wk S := ⟨⟨fun t => .inl (.inl rfl), fun d A h => h⟩, fun d cs h => ⟨cs, h, rfl, fun i c c' q1 q2 => by rw [q1] at q2; injection q2 with q2; exact .inl q2.symm⟩⟩
theorem unarrs_ok : ∀ (l : List (Nat × Arr)) (S : St), Sim N K0 w0 S K n a w → Sim N K0 w0 (unarrs S l) K n a w ∧ S.wk (unarrs S l) ∧ ∀ d A, (d, A) ∈ (unarrs S l).arrs → hasA l d = false
  | [], S, hs => ⟨hs, St.wk_refl S, fun d A h => rfl⟩
  | p :: l, S, hs => by
    obtain ⟨h1, h2, h3⟩ := unarrs_ok l (S.unarr p.1) (hs.unarr p.1)
    refine ⟨h1, St.wk_trans (St.unarr_wk S p.1) h2, fun d A hm => ?_⟩
    have h4 := h3 d A hm
    have h5 := (List.mem_filter.1 (h2.1.2 d A hm)).2
    simp only [hasA, List.any_cons, Bool.or_eq_false_iff] at h4 ⊢
    refine ⟨?_, h4⟩
    simp only [Bool.not_eq_true'] at h5
    cases hb : Nat.beq p.1 d with
    | false => rfl
    | true => rw [Nat.eq_of_beq_eq_true hb] at h5; simp at h5
theorem without_ok (hs : Sim N K0 w0 S K n a w) (bs0 : List (Nat × List AV)) (ar0 : List (Nat × Arr)) : Sim N K0 w0 (S.without bs0 ar0) K n a w ∧ S.wk (S.without bs0 ar0) ∧ (∀ d cs, (d, cs) ∈ (S.without bs0 ar0).boxes → hasB bs0 d = false) ∧ ∀ d A, (d, A) ∈ (S.without bs0 ar0).arrs → hasA ar0 d = false := by
  obtain ⟨h1, h2, h3⟩ := unarrs_ok ar0 S hs
  have hw : (unarrs S ar0).wk (S.without bs0 ar0) := ⟨⟨fun t => .inl (.inl rfl), fun d A h => h⟩, fun d cs h => ⟨cs, (List.mem_filter.1 h).1, rfl, fun i c c' q1 q2 => by rw [q1] at q2; injection q2 with q2; exact .inl q2.symm⟩⟩
  refine ⟨h1.weak hw (fun d c1 c2 p1 p2 => h1.boxOne d c1 c2 (List.mem_filter.1 p1).1 (List.mem_filter.1 p2).1), St.wk_trans h2 hw, fun d cs hm => ?_, h3⟩
  simpa using (List.mem_filter.1 hm).2
variable {ty : TypeId} {pos : String} {aft : Array Edge} {g : Option (Nat × Bool)} {tm : List (Nat × AV)} {bs : List (Nat × List AV)} {ar : List (Nat × Arr)} {dn : Nat}
theorem T.callO {f : FuncId} {fn : Func} {c : Code} {args : Array Operand} {ats : Array TypeId} {As : List AV} {res : AV} {T : St} (hf : P.funcs[f]? = some fn) (hname : (fn.name == "runtime.NumGoroutine") = false) (hb : fn.body = some c)
    (hg : GoodO P f As bs0 ar0 res bs1 ar1) (hT : St.without ⟨tm, bs, ar⟩ bs0 ar0 = T) (hargs : (args.toList.map fun x => (St.opv ⟨tm, bs, ar⟩ x).argO T) = As)
    (hb0 : bs0.map (fun p => getB bs p.1) = bs0.map (fun p => some p.2)) (ha0 : ar0.map (fun p => getA ar p.1) = ar0.map (fun p => some p.2))
    (hfb : bs1.all (fun p => (hasB bs0 p.1 || T.free p.1) && T.boxes.all fun q => !(Nat.beq q.1 p.1)) = true) (hfa : ar1.all (fun p => T.free p.1) = true)
    (hnw : ∀ p ∈ bs1, hasB bs0 p.1 = false → w0.β p.1 = none)
    (hcells : bs1.all (fun p => p.2.all (AV.okO true bs1 ar1)) = true) (hres : res.okO' true bs1 ar1 = true) (hd : dn < N)
    (hq : Q ⟨(dn, res) :: T.tmps, bs1 ++ T.boxes, ar1 ++ T.arrs⟩) :
    OpT P N K0 w0 ⟨some dn, .call { callee := .value (.func f), args := args, argTypes := ats }, ty, pos, aft, g⟩ ⟨tm, bs, ar⟩ Q := by
  subst hT hargs
  intro K n a w hs
  obtain ⟨hs2, hwk, h2b, h2a⟩ := without_ok hs bs0 ar0
  have mb : ∀ d cs, (d, cs) ∈ bs0 → (d, cs) ∈ bs := fun d cs hm => getB_mem (map_some_mem (g := Prod.snd) hb0 _ hm)
  have ma : ∀ d A, (d, A) ∈ ar0 → (d, A) ∈ ar := fun d A hm => getA_mem (map_some_mem (g := Prod.snd) ha0 _ hm)
  -- what the callee may take as constant
  have hno : ∀ b o u, K.boxed n (St.without ⟨tm, bs, ar⟩ bs0 ar0) w b o = some u → ¬ foot n bs0 ar0 b := by
    intro b o u hu hfo
    have hKn : ∀ o, K b o = none := by
      rcases hfo with ⟨d, cs, hm, hn⟩ | ⟨d, A, hm, hn⟩
      · obtain ⟨b', _, _, q1, _, _, _, _, q6⟩ := hs.box d cs (mb d cs hm)
        rw [hn] at q1; injection q1 with q1; subst q1; exact q6
      · exact ((hs.arr d A (ma d A hm)).2.2 b hn).2.1
    unfold Know.boxed at hu
    rw [hKn o] at hu
    simp only at hu
    split at hu
    · rename_i hex
      obtain ⟨d', cs', hm', he⟩ := hex
      obtain ⟨cs2, hm2, _⟩ := hwk.2 d' cs' hm'
      rcases hfo with ⟨d, cs, hm, hn⟩ | ⟨d, A, hm, hn⟩
      · have := hs.boxInj d' cs2 d cs b hm2 (mb d cs hm) he hn
        subst this
        have := h2b d' cs' hm'
        rw [hasB_mem hm] at this; cases this
      · exact ((hs.arr d A (ma d A hm)).2.2 b hn).2.2.1 d' cs2 hm2 he
    · cases hu
  have hmem : Mem (K.boxed n (St.without ⟨tm, bs, ar⟩ bs0 ar0) w) n w (fun _ => True) bs0 ar0 := {
    box := fun d cs hm => by
      obtain ⟨b, arr, ty, q1, q2, q3, q4, q5, q6⟩ := hs.box d cs (mb d cs hm)
      refine ⟨b, arr, ty, q1, trivial, q3, q4, fun i A hi => (q5 i A hi).mono Know.boxed_le, fun o => ?_⟩
      cases hk : K.boxed n (St.without ⟨tm, bs, ar⟩ bs0 ar0) w b o with
      | none => rfl
      | some u => exact absurd (.inl ⟨d, cs, hm, q1⟩) (hno b o u hk)
    boxInj := fun d cs d' cs' b h1 h2 => hs.boxInj d cs d' cs' b (mb _ _ h1) (mb _ _ h2)
    boxOne := fun d cs cs' h1 h2 => hs.boxOne d cs cs' (mb _ _ h1) (mb _ _ h2)
    arr := fun d A hm => by
      obtain ⟨q1, q2, q3⟩ := hs.arr d A (ma d A hm)
      refine ⟨q1, q2, fun b hb => ⟨trivial, fun o => ?_, fun d' cs hm' => (q3 b hb).2.2.1 d' cs (mb _ _ hm')⟩⟩
      cases hk : K.boxed n (St.without ⟨tm, bs, ar⟩ bs0 ar0) w b o with
      | none => rfl
      | some u => exact absurd (.inr ⟨d, A, hm, hb⟩) (hno b o u hk)
    arrInj := fun d A d' A' g h1 h2 => hs.arrInj d A d' A' g (ma _ _ h1) (ma _ _ h2)
    arrOne := fun d A A' h1 h2 => hs.arrOne d A A' (ma _ _ h1) (ma _ _ h2) }
  refine upon_enter_calls (call_run hf hname hb a w) (hg (K.boxed n (St.without ⟨tm, bs, ar⟩ bs0 ar0) w) n w (args.toList.map a.eval) (Know.boxed_ok hs.ok) (by simp) (fun i A c hA hc => ?_) hmem) ?_
  · rw [List.getElem?_map, Option.map_eq_some_iff] at hA hc
    obtain ⟨x, hx, rfl⟩ := hc
    obtain ⟨x', hx', rfl⟩ := hA
    rw [hx] at hx'
    injection hx' with hx'
    subst hx'
    exact AV.argO_rep hs hs2 (hs.opv x)
  · rintro e' w' ⟨c, K', n', rfl, h1, h2, h3, h4, h5, h6, h7⟩
    let K2 : Know := fun b o => if b < w.heap.size then K b o else K' b o
    have hKle : K.le K2 := fun b o u hu => by simp only [K2, if_pos (Know.lt hs.ok hu)]; exact hu
    refine ⟨c, rfl, K2, _, _, hq, hs.handed mb ma hs2 hwk h2b h2a h1 hKle (fun b o u hu => ?_) (fun b o u hu hlt => by simpa only [K2, if_pos hlt] using hu) (fun b o hge hn => ?_) h6 h7 (fun d cs hm => ?_) (fun d A hm => List.all_eq_true.1 hfa _ hm) (boxed := true) (fun d cs hm A hA => ?_) (fun h => by cases h) hd h5 hres⟩
    · simp only [K2] at hu
      split at hu
      · exact h3 b o u (h2 b o u (Know.boxed_le b o u hu))
      · exact h3 b o u hu
    · simp only [K2, if_neg (Nat.not_lt.2 hge)]; exact hn
    · have := List.all_eq_true.1 hfb _ hm
      simp only [Bool.and_eq_true, Bool.or_eq_true] at this
      refine ⟨?_, fun cs' hm' => ?_⟩
      · cases hq : hasB bs0 d with
        | true => exact .inl rfl
        | false =>
          rcases this.1 with h | h
          · rw [hq] at h; cases h
          · exact .inr ⟨h, hnw _ hm hq⟩
      · have := List.all_eq_true.1 this.2 _ hm'
        simp at this
    · exact List.all_eq_true.1 (List.all_eq_true.1 hcells _ hm) A hA
end
end Go.Proofs.Ytkfmammkbmhfaaa
