/- -/
import Derived.Test.YtjmnnkhdadoehaaGreatZAbs4
import Derived.TacticsIn
import Derived.OrdersIn
import Derived.RangeFuncNested
import Derived.ScopeJumps


/- -/

/- -/

/- Abstract walks: calls of closures, slices in boxes. -/
namespace Go.Proofs.YtjmnnkhdadoehaaGreat
set_option linter.unusedSimpArgs false
set_option linter.unusedVariables false
open Go Go.RowKit Go.Shelf

section
variable {P : Program} {N : Nat} {K0 : Know} {w0 : Bas} {S S' : St} {K K' : Know} {n : Nm} {a : Act} {w w' : World} {Q : St → Prop}
variable {d dO : Option Nat} {ty : TypeId} {pos : String} {aft : Array Edge} {g : Option (Nat × Bool)} {t e : TypeId} {x y : Operand} {tm : List (Nat × AV)} {bs : List (Nat × List AV)} {ar : List (Nat × Arr)} {dn : Nat}
/-! ### Calls of closures -/
theorem call_runD {f : FuncId} {fn : Func} {c : Code} {args : Array Operand} {ats : Array TypeId} {lb : Array Value} (hf : P.funcs[f]? = some fn) (hname : (fn.name == "runtime.NumGoroutine") = false) (hb : fn.body = some c) (hx : a.eval x = .func (.func f) #[] lb) (w : World) :
    (execOp a.eval ⟨d, .call { callee := .value x, args := args, argTypes := ats }, ty, pos, aft, g⟩).run P w = .ok (.enter f ((args.toList.map a.eval).toArray ++ lb)) w := by
  have e1 : execOp a.eval ⟨d, .call { callee := .value x, args := args, argTypes := ats }, ty, pos, aft, g⟩ = callFunc f (args.map a.eval ++ lb) := by
    unfold execOp
    simp [resolve, Deferred.ofValue, invoke, hx]
  have e2 : args.map a.eval ++ lb = (args.toList.map a.eval).toArray ++ lb := by congr 1; apply Array.ext'; simp
  rw [e1, enters_of hf hname hb, e2]
/-! ### Slices in boxes -/
inductive AV.One : AV → AV → Prop
  | sl {A k xs} (h : A.Sl k xs) : AV.One A (.sl k xs)
  | arow {r : Nat} : AV.One (.arow r) (.arow r)
theorem AV.One.rep {A B : AV} {c : Value} (h : A.One B) (hr : Rep K n A c) (hw : Sim N K0 w0 S K n a w) (hS : ∀ d, A = .arow d → ∃ X, (d, X) ∈ S.arrs) : Rep1 K n B c ∧ c.cells = #[c] ∧ c.oneCell' = true := by
  cases h with
  | sl h => obtain ⟨A', cap, rfl, h1⟩ := h.slice hr; exact ⟨⟨A', cap, rfl, h1⟩, rfl, rfl⟩
  | arow =>
    rename_i d
    obtain ⟨X, hm⟩ := hS d rfl
    obtain ⟨A', cap, h1, _⟩ := own_val (hw.arr d X hm).1
    have hr' : c = n.ρ d := hr
    rw [h1] at hr'
    subst hr'
    exact ⟨h1.symm, rfl, rfl⟩
end
end Go.Proofs.YtjmnnkhdadoehaaGreat

/- Abstract walks: clear of a part of a row that is written in place. -/
namespace Go.Proofs.YtjmnnkhdadoehaaGreat
set_option linter.unusedSimpArgs false
set_option linter.unusedVariables false
open Go Go.RowKit Go.Shelf
section
variable {P : Program} {N : Nat} {K0 : Know} {w0 : Bas} {S S' : St} {K K' : Know} {n : Nm} {a : Act} {w w' : World} {Q : St → Prop}
variable {dO : Option Nat} {ty : TypeId} {pos : String} {aft : Array Edge} {g : Option (Nat × Bool)} {t e : TypeId} {x y : Operand} {tm : List (Nat × AV)} {bs : List (Nat × List AV)} {ar : List (Nat × Arr)} {dn : Nat}
/-! ### Rows that are lent to a call which reads them -/
open Classical in
noncomputable def Know.lent (K : Know) (n : Nm) (S : St) (w : World) : Know := fun b o => match K.boxed n S w b o with
  | some v => some v
  | none => if ∃ d A, (d, A) ∈ S.arrs ∧ (n.ρ d).ownBlock = some b then w.cell? ⟨b, o, none⟩ else none
theorem Know.lent_le {K : Know} {n : Nm} {w : World} : (K.boxed n S w).le (K.lent n S w) := fun b o v h => by unfold Know.lent; rw [h]
theorem Know.lent_ok {K : Know} {n : Nm} {w : World} (h : K.ok w) : (K.lent n S w).ok w := fun b o v hv => by
  unfold Know.lent at hv
  split at hv
  · rename_i u hu; injection hv with hv; subst hv; exact Know.boxed_ok h b o u hu
  · split at hv
    · exact hv
    · cases hv
theorem lent_row (hs : Sim N K0 w0 S K n a w) {d : Nat} {A : Arr} (hA : getA S.arrs d = some A) : Slice (K.lent n S w) A.k A.xs (n.ρ d) := by
  have hm := getA_mem hA
  obtain ⟨q1, q2, q3⟩ := hs.arr d A hm
  refine own_slice q1 (fun gb hg o u hu => ?_) (Arr.ok_len q2) (Arr.ok_one q2)
  have hc := q1.cells hg o u hu
  rw [Addr.add_mid, Nat.zero_add] at hc
  unfold Know.lent
  split
  · rename_i v hv
    have := Know.boxed_ok hs.ok gb o v hv
    rw [hc] at this
    exact this.symm
  · rw [if_pos ⟨d, A, hm, hg⟩]; exact hc
def AV.argL (S : St) : AV → AV
  | .arow d => match getA S.arrs d with
    | some A => .sl A.k A.xs
    | none => .dead
  | A => A.argB S
theorem AV.argL_rep (hs : Sim N K0 w0 S K n a w) {S1 : St} (hB : S.mem = S1.mem) {A : AV} {c : Value} (hr : Rep K n A c) : Rep1 (K.lent n S w) Nm.nil (A.argL S1) c := by
  have key : ∀ {A : AV}, Rep K n A c → Rep1 (K.lent n S w) Nm.nil (A.argB S1) c := fun {A} hr => Rep1.mono (((AV.argB_of S1 A).at (St.mem_boxes hB)).rep hs hr) Know.lent_le
  cases A with
  | arow d =>
    simp only [AV.argL]
    split
    · rename_i A hA
      rw [← St.mem_arrs hB] at hA
      have h := lent_row hs hA
      rw [show c = n.ρ d from hr]
      exact h
    · trivial
  | _ => exact key hr
theorem T.callArrL (q : Nat) {f : FuncId} {fn : Func} {c : Code} {args : Array Operand} {ats : Array TypeId} {As : List AV} {r k : Nat} {xs : Cells} (hf : P.funcs[f]? = some fn) (hname : (fn.name == "runtime.NumGoroutine") = false) (hb : fn.body = some c)
    (hargs : (args.toList.map fun x => (St.opv ⟨tm, bs, ar⟩ x).argL ⟨tm, bs, ar⟩) = As) (hg : Good P f As (.row r e k xs)) (hd : dn < N) (hfr : St.free ⟨tm, bs, ar⟩ q = true) (hq : Q ⟨(dn, .arow q) :: tm, bs, (q, ⟨e, k, xs⟩) :: ar⟩) :
    OpT P N K0 w0 ⟨some dn, .call { callee := .value (.func f), args := args, argTypes := ats }, ty, pos, aft, g⟩ ⟨tm, bs, ar⟩ Q := by
  subst hargs
  intro K n a w hs
  refine upon_enter_calls (call_run hf hname hb a w) (hg (K.lent n ⟨tm, bs, ar⟩ w) w (args.toList.map a.eval) (Know.lent_ok hs.ok) (by simp) fun i A c hA hc => ?_) ?_
  · rw [List.getElem?_map, Option.map_eq_some_iff] at hc hA
    obtain ⟨x, hx, rfl⟩ := hc
    obtain ⟨x', hx', rfl⟩ := hA
    rw [hx] at hx'; injection hx' with hx'; subst hx'
    exact AV.argL_rep hs rfl (hs.opv x)
  · rintro e' w' ⟨c, K', rfl, h1, h2, h3, h4, ρ, ⟨h5, h6⟩, h7, _⟩
    obtain ⟨h8, h9⟩ := h7 r e k xs (.inl rfl)
    subst h5
    obtain ⟨_, _, _, _, _, hr⟩ := h6
    exact ⟨ρ r, rfl, K, _, _, hq, hs.freshArr h1 hd hfr h8 (Nat.le_refl _) (Arr.ok_of hr.lens hr.ones)⟩
end
end Go.Proofs.YtjmnnkhdadoehaaGreat

/- Abstract walks: drawn regions whose head makes boxes. -/
namespace Go.Proofs.YtjmnnkhdadoehaaGreat
set_option linter.unusedSimpArgs false
set_option linter.unusedVariables false
open Go Go.RowKit Go.Shelf
section
variable {P : Program} {N : Nat} {K0 : Know} {w0 : Bas} {S : St} {ops : Array Oper}
structure HInvA (al : Nat → Option (Nat × List AV)) (ops : Array Oper) (n : Nat) (S : St) (vs : List AV) (listed : Array Bool) (T : St) : Prop where
  arrs : T.arrs = S.arrs
  got : ∀ j t v, j < n → listed.getD j true = true → dstAt ops j = some t → vs[j]? = some v → T.get t = v
  no : ∀ t, (∀ j, j < n → listed.getD j true = true → dstAt ops j ≠ some t) → T.get t = S.get t
  box1 : ∀ p ∈ S.boxes, p ∈ T.boxes
  box2 : ∀ j p, j < n → listed.getD j true = true → al j = some p → p ∈ T.boxes
  box3 : ∀ p ∈ T.boxes, p ∈ S.boxes ∨ ∃ j, j < n ∧ listed.getD j true = true ∧ al j = some p
  fr : ∀ j d cs, j < n → listed.getD j true = false → al j = some (d, cs) → T.free d = true ∧ T.boxes.all (fun p => !(Nat.beq p.1 d)) = true
/-! ### Steps of the head -/
section
variable {l : List Oper} {d : Option Nat} {opn : Op} {ty : TypeId} {pos : String} {aft : Array Edge} {nb : List (Nat × List AV)} {vs : List AV} {al : List (Option (Nat × List AV))} {Q : List AV → List (Option (Nat × List AV)) → St → Prop} {tm : List (Nat × AV)} {bs : List (Nat × List AV)} {ar : List (Nat × Arr)}
end
end
end Go.Proofs.YtjmnnkhdadoehaaGreat

/- Abstract walks: jumps back to a label. -/
namespace Go.Proofs.YtjmnnkhdadoehaaGreat
set_option linter.unusedSimpArgs false
set_option linter.unusedVariables false
open Go Go.RowKit Go.Shelf
section
variable {P : Program} {N : Nat} {K0 : Know} {w0 : Bas} {S : St} {QE : Exit → St → Prop} {α : Type}
open Classical in
end
end Go.Proofs.YtjmnnkhdadoehaaGreat

/- -/

/- -/
