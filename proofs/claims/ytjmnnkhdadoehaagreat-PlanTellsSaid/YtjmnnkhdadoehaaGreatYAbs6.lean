/- Abstract walks: calls that are handed boxes and rows which they may write. -/
import Derived.Test.YtjmnnkhdadoehaaGreatYAbs3
namespace Go.Proofs.YtjmnnkhdadoehaaGreat
set_option linter.unusedSimpArgs false
set_option linter.unusedVariables false
open Go Go.RowKit Go.Shelf

structure Mem (K : Know) (n : Nm) (w : World) (own : Nat → Prop) (bs : List (Nat × List AV)) (ar : List (Nat × Arr)) : Prop where
  box : ∀ d cs, (d, cs) ∈ bs → ∃ b arr ty, n.β d = some b ∧ own b ∧ w.heap[b]? = some (.cells arr ty) ∧ arr.size = cs.length ∧ (∀ (i : Nat) c, cs[i]? = some c → Rep1 K n c (arr.getD i undef)) ∧ ∀ o, K b o = none
  boxInj : ∀ d cs d' cs' b, (d, cs) ∈ bs → (d', cs') ∈ bs → n.β d = some b → n.β d' = some b → d = d'
  boxOne : ∀ d cs cs', (d, cs) ∈ bs → (d, cs') ∈ bs → cs = cs'
  arr : ∀ d A, (d, A) ∈ ar → w.ownsRow 0 A.e A.k (n.ρ d) A.xs.length A.xs.flatten ∧ A.ok ∧ ∀ g, (n.ρ d).ownBlock = some g → own g ∧ (∀ o, K g o = none) ∧ ∀ d' cs, (d', cs) ∈ bs → n.β d' ≠ some g
  arrInj : ∀ d A d' A' g, (d, A) ∈ ar → (d', A') ∈ ar → (n.ρ d).ownBlock = some g → (n.ρ d').ownBlock = some g → d = d'
  arrOne : ∀ d A A', (d, A) ∈ ar → (d, A') ∈ ar → A = A'
def foot (n : Nm) (bs : List (Nat × List AV)) (ar : List (Nat × Arr)) (b : Nat) : Prop := (∃ d cs, (d, cs) ∈ bs ∧ n.β d = some b) ∨ ∃ d A, (d, A) ∈ ar ∧ (n.ρ d).ownBlock = some b
def GoodO (P : Program) (f : FuncId) (As : List AV) (bs : List (Nat × List AV)) (ar : List (Nat × Arr)) (res : AV) (bs' : List (Nat × List AV)) (ar' : List (Nat × Arr)) : Prop :=
  ∀ K n w (cargs : List Value), K.ok w → cargs.length = As.length → (∀ (i : Nat) A c, As[i]? = some A → cargs[i]? = some c → Rep1 K n A c) → Mem K n w (fun _ => True) bs ar →
    Calls P f cargs.toArray w fun e w' => ∃ c K' n', e = .returned c ∧ Keeps ⟨w, foot n bs ar, fun _ => none, true⟩ w' ∧ K.le K' ∧ K'.ok w' ∧ (∀ b o u, K' b o = some u → b < w.heap.size → K b o = some u) ∧ Rep K' n' res c ∧
      Mem K' n' w' (fun b => w.heap.size ≤ b ∨ foot n bs ar b) bs' ar' ∧ ∀ d cs cs', (d, cs) ∈ bs → (d, cs') ∈ bs' → n'.β d = n.β d
def AV.isRow : AV → Bool
  | .row _ _ _ _ => true
  | _ => false
theorem map_some_mem {α β : Type} {f : α → Option β} {g : α → β} : ∀ {l : List α}, l.map f = l.map (fun p => some (g p)) → ∀ p ∈ l, f p = some (g p)
  | [], _, p, h => by cases h
  | a :: l, h, p, hm => by
    simp only [List.map_cons, List.cons.injEq] at h
    rcases List.mem_cons.1 hm with rfl | hm
    · exact h.1
    · exact map_some_mem h.2 p hm
section
variable {P : Program} {N : Nat} {K0 : Know} {w0 : Bas} {S S' : St} {K K' : Know} {n : Nm} {a : Act} {w w' : World} {Q : St → Prop}
end
end Go.Proofs.YtjmnnkhdadoehaaGreat

/- Abstract walks: such calls, by the caller. -/
namespace Go.Proofs.YtjmnnkhdadoehaaGreat
set_option linter.unusedSimpArgs false
set_option linter.unusedVariables false
open Go Go.RowKit Go.Shelf

def hasB (bs : List (Nat × List AV)) (d : Nat) : Bool := bs.any fun p => Nat.beq p.1 d
theorem hasB_ex {bs : List (Nat × List AV)} {d : Nat} (h : hasB bs d = true) : ∃ cs, (d, cs) ∈ bs := by
  obtain ⟨⟨d', cs⟩, hm, hb⟩ := List.any_eq_true.1 h
  exact ⟨cs, by rw [← Nat.eq_of_beq_eq_true hb]; exact hm⟩
theorem hasA_ex {ar : List (Nat × Arr)} {d : Nat} (h : hasA ar d = true) : ∃ A, (d, A) ∈ ar := by
  obtain ⟨⟨d', A⟩, hm, hb⟩ := List.any_eq_true.1 h
  exact ⟨A, by rw [← Nat.eq_of_beq_eq_true hb]; exact hm⟩
def Nm.over (n n' : Nm) (bs : List (Nat × List AV)) (ar : List (Nat × Arr)) : Nm := ⟨fun d => cond (hasB bs d) (n'.β d) (n.β d), fun d => cond (hasA ar d) (n'.ρ d) (n.ρ d)⟩
def AV.okO (boxed : Bool) (bs : List (Nat × List AV)) (ar : List (Nat × Arr)) : AV → Bool
  | .val _ | .dead => true
  | .ptr d _ => hasB bs d
  | .arow d => hasA ar d
  | .sl _ _ | .full _ _ | .cptr _ | .clo _ _ | .pr _ => !boxed
  | _ => false
def AV.okO' (boxed : Bool) (bs : List (Nat × List AV)) (ar : List (Nat × Arr)) : AV → Bool
  | .tup vs => vs.all (AV.okO boxed bs ar)
  | A => A.okO boxed bs ar
theorem Rep1.over {K' K2 : Know} {n n' : Nm} {bs : List (Nat × List AV)} {ar : List (Nat × Arr)} {boxed : Bool} {A : AV} {c : Value} (hok : A.okO boxed bs ar = true) (hK : boxed = false → K'.le K2) (h : Rep1 K' n' A c) : Rep1 K2 (n.over n' bs ar) A c := by
  cases A with
  | val v => exact h
  | dead => trivial
  | ptr d o =>
    obtain ⟨b, h1, h2⟩ := h
    exact ⟨b, by simp only [Nm.over]; rw [show hasB bs d = true from hok]; exact h1, h2⟩
  | arow d =>
    show c = (n.over n' bs ar).ρ d
    simp only [Nm.over]; rw [show hasA ar d = true from hok]; exact h
  | sl k xs => cases boxed with
    | false => exact Rep1.mono (n := n') (A := .sl k xs) h (hK rfl)
    | true => cases hok
  | full k xs => cases boxed with
    | false => exact Rep1.mono (n := n') (A := .full k xs) h (hK rfl)
    | true => cases hok
  | cptr vs => cases boxed with
    | false => exact Rep1.mono (n := n') (A := .cptr vs) h (hK rfl)
    | true => cases hok
  | clo f caps => cases boxed with
    | false => exact Rep1.mono (n := n') (A := .clo f caps) h (hK rfl)
    | true => cases hok
  | pr p => cases boxed with
    | false => exact Rep1.mono (n := n') (A := .pr p) h (hK rfl)
    | true => cases hok
  | row => cases hok
  | cloB => cases hok
  | aptr => cases hok
  | asub => cases hok
  | tup => cases hok
theorem Rep.over {K' K2 : Know} {n n' : Nm} {bs : List (Nat × List AV)} {ar : List (Nat × Arr)} {boxed : Bool} {A : AV} {c : Value} (hok : A.okO' boxed bs ar = true) (hK : boxed = false → K'.le K2) (h : Rep K' n' A c) : Rep K2 (n.over n' bs ar) A c := by
  cases A with
  | tup vs =>
    obtain ⟨cs, e, h1, h2⟩ := h
    exact ⟨cs, e, h1, fun i v hv => (h2 i v hv).over (List.all_eq_true.1 hok v (List.mem_of_getElem? hv)) hK⟩
  | val v => exact Rep.of1 (Rep1.over (A := .val v) hok hK h)
  | dead => trivial
  | ptr d o => exact Rep.of1 (Rep1.over (A := .ptr d o) hok hK h)
  | arow d => exact Rep.of1 (Rep1.over (A := .arow d) hok hK h)
  | sl k xs => exact Rep.of1 (Rep1.over (A := .sl k xs) hok hK h)
  | full k xs => exact Rep.of1 (Rep1.over (A := .full k xs) hok hK h)
  | cptr vs => exact Rep.of1 (Rep1.over (A := .cptr vs) hok hK h)
  | clo f caps => exact Rep.of1 (Rep1.over (A := .clo f caps) hok hK h)
  | pr p => exact Rep.of1 (Rep1.over (A := .pr p) hok hK h)
  | row => cases hok
  | cloB => cases hok
  | aptr => cases hok
  | asub => cases hok
section
variable {P : Program} {N : Nat} {K0 : Know} {w0 : Bas} {S S2 : St} {K K' K2 : Know} {n n' : Nm} {a : Act} {w w' : World} {Q : St → Prop}
variable {bs0 bs1 : List (Nat × List AV)} {ar0 ar1 : List (Nat × Arr)}
/-! ### The call -/
variable {ty : TypeId} {pos : String} {aft : Array Edge} {g : Option (Nat × Bool)} {tm : List (Nat × AV)} {bs : List (Nat × List AV)} {ar : List (Nat × Arr)} {dn : Nat}
end
end Go.Proofs.YtjmnnkhdadoehaaGreat
