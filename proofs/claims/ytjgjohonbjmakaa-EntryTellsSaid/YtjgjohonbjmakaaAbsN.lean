/- More steps. -/
import Derived.Test.YtjgjohonbjmakaaAbsM
namespace Go.Proofs.Ytjgjohonbjmakaa
set_option linter.unusedSimpArgs false
set_option linter.unusedVariables false
open Go Go.RowKit Go.Shelf

theorem same_t {α : Type} [DecidableEq α] {a b : α} (h : a = b) : same a b = true := by simp [same, h]
theorem same_f {α : Type} [DecidableEq α] {a b : α} (h : ¬ a = b) : same a b = false := by simp [same, h]
theorem nsame_f {α : Type} [DecidableEq α] {a b : α} (h : a = b) : (!same a b) = false := by simp [same, h]
theorem nsame_t {α : Type} [DecidableEq α] {a b : α} (h : ¬ a = b) : (!same a b) = true := by simp [same, h]
theorem same_iff {α : Type} [DecidableEq α] {a b : α} : same a b = true ↔ a = b := by simp [same]
section
variable {P : Program} {N : Nat} {K0 : Know} {w0 : World} {tm : List (Nat × AV)} {bs : List (Nat × List AV)} {QE : Exit → St → Prop} {c2 : Code}
theorem CT.seqR {id : Nat} {l : List Oper} (h : LT P N K0 w0 l.toArray l ⟨tm, bs⟩ (fun S' => CT P N K0 w0 c2 S' QE)) : CT P N K0 w0 ((Code.region id l.toArray false).seq c2) ⟨tm, bs⟩ QE := CT.seq (CT.region h)
theorem CT.seqD {id : Nat} {l : List Oper} (n : Nat) (hm : P.follows .mixedOrders = true) (hB : headB l.toArray N n = true)
    (h : HT P N K0 w0 l.toArray (l.take n) ⟨tm, bs⟩ fun S' => LT P N K0 w0 l.toArray (l.drop n) S' fun S'' => CT P N K0 w0 c2 S'' QE) : CT P N K0 w0 ((Code.region id l.toArray true).seq c2) ⟨tm, bs⟩ QE := CT.seq (CT.draw n hm hB h)
variable {S : St} {d : Option Nat} {ty : TypeId} {pos : String} {aft : Array Edge} {g : Option (Nat × Bool)} {t : TypeId} {x y : Operand}
theorem OpH.lenM {α : Type} {enc : α → List Value} {A : AV} {k : Nat} {xs : List α} (h1 : S.opv x = A) (hA : A.Sl k (xs.map enc)) (hk : (elemSize P t).isSome = true) : OpH P N K0 w0 ⟨d, .call { callee := .builtin .len, args := #[x], argTypes := #[t] }, ty, pos, aft, g⟩ S (.val (.int .i64 xs.length)) := by
  have := OpH.len (P := P) (N := N) (K0 := K0) (w0 := w0) (d := d) (ty := ty) (pos := pos) (aft := aft) (g := g) h1 hA hk
  rwa [List.length_map] at this
theorem OpH.subM {α : Type} {enc : α → List Value} {A : AV} {k : Nat} {xs ys : List α} {lo hi : Option Operand} {l h : Nat} (h1 : S.opv x = A) (hA : A.Sl k (xs.map enc)) (hk : elemSize P t = some k) (hlo : optOp S lo l 0) (hhi : optOp S hi h xs.length)
    (hl : l ≤ h) (hh : h ≤ xs.length) (hy : (xs.take h).drop l = ys) : OpH P N K0 w0 ⟨d, .slice t x lo hi none, ty, pos, aft, g⟩ S (.sl k (ys.map enc)) := by
  subst hy
  refine OpH.slice h1 hA hk hlo (by rw [List.length_map]; exact hhi) hl (by rw [List.length_map]; exact hh) ?_
  rw [List.map_drop, List.map_take]
theorem OpH.subHi {α : Type} {enc : α → List Value} {A : AV} {k h : Nat} {xs : List α} {kk : IntKind} {i : Int} (h1 : S.opv x = A) (hA : A.Sl k (xs.map enc)) (hk : elemSize P t = some k) (h2 : S.opv y = .val (.int kk i)) (hi : i = (h : Int)) (hh : h ≤ xs.length) :
    OpH P N K0 w0 ⟨d, .slice t x none (some y) none, ty, pos, aft, g⟩ S (.sl k ((xs.take h).map enc)) := by
  subst hi
  exact OpH.subM h1 hA hk (.inl ⟨rfl, rfl⟩) (.inr ⟨y, kk, rfl, h2⟩) (Nat.zero_le _) hh rfl
theorem OpH.subLo {α : Type} {enc : α → List Value} {A : AV} {k l : Nat} {xs : List α} {kk : IntKind} {i : Int} (h1 : S.opv x = A) (hA : A.Sl k (xs.map enc)) (hk : elemSize P t = some k) (h2 : S.opv y = .val (.int kk i)) (hi : i = (l : Int)) (hh : l ≤ xs.length) :
    OpH P N K0 w0 ⟨d, .slice t x (some y) none none, ty, pos, aft, g⟩ S (.sl k ((xs.drop l).map enc)) := by
  subst hi
  exact OpH.subM h1 hA hk (.inr ⟨y, kk, rfl, h2⟩) (.inl ⟨rfl, rfl⟩) hh (Nat.le_refl _) (by rw [List.take_length])
theorem OpH.subLH {α : Type} {enc : α → List Value} {A : AV} {k l h : Nat} {xs : List α} {kk k2 : IntKind} {i j : Int} {z : Operand} (h1 : S.opv x = A) (hA : A.Sl k (xs.map enc)) (hk : elemSize P t = some k) (h2 : S.opv y = .val (.int kk i)) (hi : i = (l : Int)) (h3 : S.opv z = .val (.int k2 j)) (hj : j = (h : Int)) (hl : l ≤ h) (hh : h ≤ xs.length) :
    OpH P N K0 w0 ⟨d, .slice t x (some y) (some z) none, ty, pos, aft, g⟩ S (.sl k (((xs.take h).drop l).map enc)) := by
  subst hi hj
  exact OpH.subM h1 hA hk (.inr ⟨y, kk, rfl, h2⟩) (.inr ⟨z, k2, rfl, h3⟩) hl hh rfl
def arrInfo (P : Program) (t : TypeId) : Option (Nat × Nat) :=
  match P.underlying t with
  | some (.array n e) => (P.info? e).map fun i => (n, i.size)
  | _ => none
theorem run_arrAt {n k j b o : Nat} {kk : IntKind} (hk : arrInfo P t = some (n, k)) (hj : j < n) (w : World) : (Instr.indexAt t (.pointer (some ⟨b, o, none⟩)) (.int kk (j : Int))).run P w = .ok (.pointer (some ⟨b, o + j * k, none⟩)) w := by
  unfold arrInfo at hk
  split at hk
  · rename_i n' e hu
    obtain ⟨i, hi, he⟩ := Option.map_eq_some_iff.1 hk
    injection he with e1 e2
    subst e1 e2
    simp [Instr.indexAt, run_underlying hu, asIntOf, Instr.sureAddr, sizeOf, typeInfo, hi, hj, Addr.add_mid]
  · cases hk
theorem OpH.indexAC {n k j : Nat} {kk : IntKind} {i : Int} {vs : List Value} {v : AV} (h1 : S.opv x = .cptr vs) (h2 : S.opv y = .val (.int kk i)) (hi : i = (j : Int)) (hk : arrInfo P t = some (n, k)) (hj : j < n) (hv : .cptr (vs.drop (j * k)) = v) : OpH P N K0 w0 ⟨d, .indexAddr t x y, ty, pos, aft, g⟩ S v := by
  subst hv hi
  refine OpH.ret (fun S' K n a w hs _ hop => ?_) (no_row (by intros; intro h; cases h) (by intros; intro h; cases h))
  have e1 := hs.opv x
  have e2 := hs.opv y
  rw [hop x (by simp [Op.operands]), h1] at e1
  rw [hop y (by simp [Op.operands]), h2] at e2
  obtain ⟨b, o, e3, h3⟩ := e1
  refine ⟨.pointer (some ⟨b, o + j * k, none⟩), ?_, ⟨b, _, rfl, fun q u hq => ?_⟩⟩
  · simp only [execOp]
    rw [e3, show a.eval y = .int kk (j : Int) from e2, Sem.run_bind, run_arrAt hk hj]
    rfl
  · rw [List.getElem?_drop] at hq
    rw [Nat.add_assoc]
    exact h3 _ u hq
theorem OpH.indexAB {n k j b o : Nat} {kk : IntKind} {i : Int} {v : AV} (h1 : S.opv x = .ptr b o) (h2 : S.opv y = .val (.int kk i)) (hi : i = (j : Int)) (hk : arrInfo P t = some (n, k)) (hj : j < n) (hv : .ptr b (o + j * k) = v) : OpH P N K0 w0 ⟨d, .indexAddr t x y, ty, pos, aft, g⟩ S v := by
  subst hv hi
  refine OpH.ret (fun S' K n a w hs _ hop => ?_) (no_row (by intros; intro h; cases h) (by intros; intro h; cases h))
  have e1 := hs.opv x
  have e2 := hs.opv y
  rw [hop x (by simp [Op.operands]), h1] at e1
  rw [hop y (by simp [Op.operands]), h2] at e2
  obtain ⟨b', hb, e3⟩ := e1
  refine ⟨.pointer (some ⟨b', o + j * k, none⟩), ?_, ⟨b', hb, rfl⟩⟩
  simp only [execOp]
  rw [e3, show a.eval y = .int kk (j : Int) from e2, Sem.run_bind, run_arrAt hk hj]
  rfl
theorem OpH.max2 {kk k2 : IntKind} {a b : Int} {ats : Array TypeId} (h1 : S.opv x = .val (.int kk a)) (h2 : S.opv y = .val (.int k2 b)) : OpH P N K0 w0 ⟨d, .call { callee := .builtin .max, args := #[x, y], argTypes := ats }, ty, pos, aft, g⟩ S (.val (.int kk (if a < b then b else a))) := by
  refine OpH.ret (fun S' K n a w hs _ hop => ⟨_, ?_, rfl⟩) no_row_val
  have e1 := hs.opv x
  have e2 := hs.opv y
  rw [hop x (by simp [Op.operands, Call.operands]), h1] at e1
  rw [hop y (by simp [Op.operands, Call.operands]), h2] at e2
  simp [execOp, resolve, invoke, builtin, show a.eval x = _ from e1, show a.eval y = _ from e2, Builtin.max_, Builtin.max2]
theorem OpH.min2 {kk k2 : IntKind} {a b : Int} {ats : Array TypeId} (h1 : S.opv x = .val (.int kk a)) (h2 : S.opv y = .val (.int k2 b)) : OpH P N K0 w0 ⟨d, .call { callee := .builtin .min, args := #[x, y], argTypes := ats }, ty, pos, aft, g⟩ S (.val (.int kk (if b < a then b else a))) := by
  refine OpH.ret (fun S' K n a w hs _ hop => ⟨_, ?_, rfl⟩) no_row_val
  have e1 := hs.opv x
  have e2 := hs.opv y
  rw [hop x (by simp [Op.operands, Call.operands]), h1] at e1
  rw [hop y (by simp [Op.operands, Call.operands]), h2] at e2
  simp [execOp, resolve, invoke, builtin, show a.eval x = _ from e1, show a.eval y = _ from e2, Builtin.min_, Builtin.min2]
/-! ### Closures over boxes -/
theorem OpH.mkfn {f : FuncId} : OpH P N K0 w0 ⟨d, .makeFunc (.func f) #[] #[], ty, pos, aft, g⟩ S (.clo f []) := by
  refine OpH.ret (fun S' K n a w hs _ hop => ⟨.func (.func f) #[] #[], by simp [execOp, Instr.makeFunc], ⟨[], rfl, rfl, fun i p vs h => by simp at h⟩⟩) (no_row (by intros; intro h; cases h) (by intros; intro h; cases h))
theorem OpH.mkclo1 {f : FuncId} {b o : Nat} (h1 : S.opv x = .ptr b o) : OpH P N K0 w0 ⟨d, .makeFunc (.func f) #[] #[x], ty, pos, aft, g⟩ S (.cloB f [(b, o)]) := by
  refine OpH.ret (fun S' K n a w hs _ hop => ?_) (no_row (by intros; intro h; cases h) (by intros; intro h; cases h))
  have e1 := hs.opv x
  rw [hop x (by simp [Op.operands]), h1] at e1
  obtain ⟨b', hb, e3⟩ := e1
  refine ⟨.func (.func f) #[] #[.pointer (some ⟨b', o, none⟩)], by simp [execOp, Instr.makeFunc, e3], ⟨[.pointer (some ⟨b', o, none⟩)], rfl, rfl, fun i p d' o' hp hd => ?_⟩⟩
  cases i with
  | zero => simp at hp hd; obtain ⟨rfl, rfl⟩ := hd; exact ⟨b', hb, hp.symm⟩
  | succ i => simp at hp
theorem OpH.mkclo2 {f : FuncId} {b o b2 o2 : Nat} (h1 : S.opv x = .ptr b o) (h2 : S.opv y = .ptr b2 o2) : OpH P N K0 w0 ⟨d, .makeFunc (.func f) #[] #[x, y], ty, pos, aft, g⟩ S (.cloB f [(b, o), (b2, o2)]) := by
  refine OpH.ret (fun S' K n a w hs _ hop => ?_) (no_row (by intros; intro h; cases h) (by intros; intro h; cases h))
  have e1 := hs.opv x
  have e2 := hs.opv y
  rw [hop x (by simp [Op.operands]), h1] at e1
  rw [hop y (by simp [Op.operands]), h2] at e2
  obtain ⟨b', hb, e3⟩ := e1
  obtain ⟨b2', hb2, e4⟩ := e2
  refine ⟨.func (.func f) #[] #[.pointer (some ⟨b', o, none⟩), .pointer (some ⟨b2', o2, none⟩)], by simp [execOp, Instr.makeFunc, e3, e4], ⟨[.pointer (some ⟨b', o, none⟩), .pointer (some ⟨b2', o2, none⟩)], rfl, rfl, fun i p d' o' hp hd => ?_⟩⟩
  match i with
  | 0 => simp at hp hd; obtain ⟨rfl, rfl⟩ := hd; exact ⟨b', hb, hp.symm⟩
  | 1 => simp at hp hd; obtain ⟨rfl, rfl⟩ := hd; exact ⟨b2', hb2, hp.symm⟩
  | i + 2 => simp at hp
def capsOf (S : St) : List (Nat × Nat) → Option (List (List Value))
  | [] => some []
  | (b, o) :: l => match getB S.boxes b with
    | some cs => match valCells (cs.drop o), capsOf S l with
      | some vs, some r => some (vs :: r)
      | _, _ => none
    | none => none
inductive ArgB (S : St) : AV → AV → Prop
  | a {A A'} (h : ArgOf A A') : ArgB S A A'
  | ptr {A b o cs vs} (hA : A = .ptr b o) (hb : getB S.boxes b = some cs) (hv : valCells (cs.drop o) = some vs) : ArgB S A (.cptr vs)
  | clo {f ds caps} (h : capsOf S ds = some caps) : ArgB S (.cloB f ds) (.clo f caps)
def ArgsB (S : St) : List Operand → List AV → Prop
  | [], [] => True
  | x :: xs, A :: As => ArgB S (S.opv x) A ∧ ArgsB S xs As
  | _, _ => False
theorem ArgsB.get {S : St} : ∀ {xs : List Operand} {As : List AV}, ArgsB S xs As → xs.length = As.length ∧ ∀ (i : Nat) A x, As[i]? = some A → xs[i]? = some x → ArgB S (S.opv x) A
  | [], [], _ => ⟨rfl, fun i A x h => by simp at h⟩
  | [], _ :: _, h => h.elim
  | _ :: _, [], h => h.elim
  | x :: xs, A :: As, h => by
    obtain ⟨h1, h2⟩ := ArgsB.get h.2
    refine ⟨by simp [h1], fun i B y hB hy => ?_⟩
    cases i with
    | zero => simp at hB hy; subst hB hy; exact h.1
    | succ i => exact h2 i B y (by simpa using hB) (by simpa using hy)
open Classical in
/-- What is known, and what the boxes hold just now. -/
noncomputable def Know.boxed (K : Know) (n : Nm) (S : St) (w : World) : Know := fun b o => match K b o with
  | some v => some v
  | none => if ∃ d cs, (d, cs) ∈ S.boxes ∧ n.β d = some b then w.cell? ⟨b, o, none⟩ else none
theorem Know.boxed_le {K : Know} {n : Nm} {w : World} : K.le (K.boxed n S w) := fun b o v h => by unfold Know.boxed; rw [h]
theorem Know.boxed_ok {K : Know} {n : Nm} {w : World} (h : K.ok w) : (K.boxed n S w).ok w := fun b o v hv => by
  unfold Know.boxed at hv
  split at hv
  · rename_i u hu; injection hv with hv; subst hv; exact h b o u hu
  · split at hv
    · exact hv
    · cases hv
theorem box_cp {K : Know} {n : Nm} {a : Act} {w : World} (hs : Sim N K0 w0 S K n a w) {d o b : Nat} {cs : List AV} {vs : List Value} (hβ : n.β d = some b) (hb : getB S.boxes d = some cs) (hv : valCells (cs.drop o) = some vs) : CP (K.boxed n S w) vs (.pointer (some ⟨b, o, none⟩)) := by
  have hm := getB_mem hb
  obtain ⟨b', arr, ty, q1, q2, q3, q4, q5, q6⟩ := hs.box d cs hm
  rw [hβ] at q1
  injection q1 with q1
  subst q1
  obtain ⟨h3, h4⟩ := valCells_get hv
  refine ⟨b, o, rfl, fun j u hu => ?_⟩
  have h6 := h4 j u hu
  rw [List.getElem?_drop] at h6
  have h7 := q5 _ _ h6
  have hlt : o + j < arr.size := by rw [q4]; exact (List.getElem?_eq_some_iff.1 h6).1
  simp only [Array.getD_eq_getD_getElem?, Array.getElem?_eq_getElem hlt, Option.getD_some] at h7
  unfold Know.boxed
  rw [q6]
  simp only
  rw [if_pos ⟨d, cs, hm, hβ⟩]
  simp only [World.cell?, q3]
  simp only [Option.isSome_none, Bool.false_eq_true, if_false, Array.getElem?_eq_getElem hlt]
  exact congrArg some h7
theorem ArgB.rep {K : Know} {n : Nm} {a : Act} {w : World} (hs : Sim N K0 w0 S K n a w) {A A' : AV} {c : Value} (h : ArgB S A A') (hr : Rep K n A c) : Rep1 (K.boxed n S w) Nm.nil A' c := by
  cases h with
  | a h => exact (h.rep hr).mono Know.boxed_le
  | ptr hA hb hv =>
    subst hA
    obtain ⟨b', hβ, rfl⟩ := hr
    exact box_cp hs hβ hb hv
  | clo h =>
    rename_i f ds caps
    obtain ⟨ps, e, h1, h2⟩ := hr
    refine ⟨ps, e, ?_, ?_⟩
    · rw [h1]
      clear h2 h1 e
      induction ds generalizing caps with
      | nil => simp [capsOf] at h; subst h; rfl
      | cons q ds ih =>
        obtain ⟨b, o⟩ := q
        simp only [capsOf] at h
        split at h
        · split at h
          · rename_i r _ hr2
            injection h with h
            subst h
            simp [ih hr2]
          · cases h
        · cases h
    · intro i p vs hp hvs
      have key : ∀ (ds : List (Nat × Nat)) (caps : List (List Value)), capsOf S ds = some caps → ∀ (i : Nat) vs, caps[i]? = some vs → ∃ b o cs, ds[i]? = some (b, o) ∧ getB S.boxes b = some cs ∧ valCells (cs.drop o) = some vs := by
        intro ds
        induction ds with
        | nil => intro caps hc i vs hi; simp [capsOf] at hc; subst hc; simp at hi
        | cons q ds ih =>
          intro caps hc i vs hi
          obtain ⟨b, o⟩ := q
          simp only [capsOf] at hc
          split at hc
          · rename_i cs hcs
            split at hc
            · rename_i v r hv hr2
              injection hc with hc
              subst hc
              cases i with
              | zero => simp at hi; subst hi; exact ⟨b, o, cs, rfl, hcs, hv⟩
              | succ i => obtain ⟨b', o', cs', q1, q2⟩ := ih r hr2 i vs (by simpa using hi); exact ⟨b', o', cs', by simpa using q1, q2⟩
            · cases hc
          · cases hc
      obtain ⟨b, o, cs, q1, q2, q3⟩ := key ds caps h i vs hvs
      obtain ⟨b', hβ, rfl⟩ := h2 i p b o hp q1
      exact box_cp hs hβ q2 q3
theorem capsOf_eq {S S' : St} (hB : S'.boxes = S.boxes) : ∀ ds, capsOf S' ds = capsOf S ds
  | [] => rfl
  | (b, o) :: ds => by simp only [capsOf, hB, capsOf_eq hB ds]
theorem ArgB.at {S S' : St} (hB : S'.boxes = S.boxes) {B A : AV} (h : ArgB S B A) : ArgB S' B A := by
  cases h with
  | a h => exact .a h
  | ptr q1 q2 q3 => exact .ptr q1 (by rw [hB]; exact q2) q3
  | clo h => exact .clo (by rw [capsOf_eq hB]; exact h)
/-- A call that is handed boxes, or what looks into them; plain values come back. -/
theorem OpH.callB {f : FuncId} {fn : Func} {c : Code} {args : Array Operand} {ats : Array TypeId} {As : List AV} {v : Value} (hf : P.funcs[f]? = some fn) (hname : (fn.name == "runtime.NumGoroutine") = false) (hb : fn.body = some c)
    (hargs : ArgsB S args.toList As) (hg : Good P f As (.val v)) : OpH P N K0 w0 ⟨d, .call { callee := .value (.func f), args := args, argTypes := ats }, ty, pos, aft, g⟩ S (.val v) := by
  intro S' K n a w hs hB hop
  obtain ⟨hl, ha⟩ := hargs.get
  refine upon_enter_calls (call_run hf hname hb a w) (hg (K.boxed n S' w) w (args.toList.map a.eval) (Know.boxed_ok hs.ok) (by simp [hl]) fun i A c hA hc => ?_) ?_
  · rw [List.getElem?_map, Option.map_eq_some_iff] at hc
    obtain ⟨x, hx, rfl⟩ := hc
    have h1 := hs.opv x
    rw [hop x (by simp only [Op.operands, Call.operands]; simp; right; simpa using List.mem_of_getElem? hx)] at h1
    have h3 := (ha i A x hA hx).at hB
    exact h3.rep hs h1
  · rintro e w' ⟨c, K', rfl, h1, h2, h3, h4, ρ, h5, _⟩
    exact ⟨c, rfl, c, K, rfl, h1, Know.le_refl K, Know.below hs.ok h1, fun _ _ _ h _ => h, h5, fun r e k xs hr => absurd hr (AV.plain_row rfl r e k xs)⟩
/-! ### Calls, the arguments reckoned -/
def AV.arg : AV → AV
  | .row _ _ k xs => .sl k xs
  | .full k xs => .sl k xs
  | .ptr _ _ | .cloB _ _ | .tup _ => .dead
  | A => A
theorem AV.arg_of (A : AV) : ArgOf A A.arg := by
  cases A with
  | row r e k xs => exact .sl (.row r e k xs)
  | full k xs => exact .sl (.full k xs)
  | ptr => exact .dead
  | cloB => exact .dead
  | tup => exact .dead
  | dead => exact .dead
  | val v => exact .same rfl
  | sl k xs => exact .same rfl
  | cptr vs => exact .same rfl
  | clo f cs => exact .same rfl
  | pr p => exact .same rfl
theorem Args.of_map {S : St} : ∀ (xs : List Operand), Args S xs (xs.map fun x => (S.opv x).arg)
  | [] => trivial
  | x :: xs => ⟨(S.opv x).arg_of, Args.of_map xs⟩
theorem OpH.callF {f : FuncId} {fn : Func} {c : Code} {args : Array Operand} {ats : Array TypeId} {As : List AV} {res : AV} (hf : P.funcs[f]? = some fn) (hname : (fn.name == "runtime.NumGoroutine") = false) (hb : fn.body = some c)
    (hargs : (args.toList.map fun x => (S.opv x).arg) = As) (hg : Good P f As res) (hp : res.plain = true) : OpH P N K0 w0 ⟨d, .call { callee := .value (.func f), args := args, argTypes := ats }, ty, pos, aft, g⟩ S res :=
  OpH.call hf hname hb (by subst hargs; exact Args.of_map _) hg hp
def AV.argB (S : St) : AV → AV
  | .ptr b o => match getB S.boxes b with
    | some cs => match valCells (cs.drop o) with
      | some vs => .cptr vs
      | none => .dead
    | none => .dead
  | .cloB f ds => match capsOf S ds with
    | some caps => .clo f caps
    | none => .dead
  | A => A.arg
theorem AV.argB_of (S : St) (A : AV) : ArgB S A (A.argB S) := by
  cases A with
  | ptr b o =>
    simp only [AV.argB]
    split
    · rename_i cs hcs
      split
      · rename_i vs hv; exact .ptr rfl hcs hv
      · exact .a .dead
    · exact .a .dead
  | cloB f ds =>
    simp only [AV.argB]
    split
    · rename_i caps h; exact .clo h
    · exact .a .dead
  | _ => exact .a (AV.arg_of _)
theorem ArgsB.of_map {S : St} : ∀ (xs : List Operand), ArgsB S xs (xs.map fun x => (S.opv x).argB S)
  | [] => trivial
  | x :: xs => ⟨(S.opv x).argB_of S, ArgsB.of_map xs⟩
theorem OpH.callBF {f : FuncId} {fn : Func} {c : Code} {args : Array Operand} {ats : Array TypeId} {As : List AV} {v : Value} (hf : P.funcs[f]? = some fn) (hname : (fn.name == "runtime.NumGoroutine") = false) (hb : fn.body = some c)
    (hargs : (args.toList.map fun x => (S.opv x).argB S) = As) (hg : Good P f As (.val v)) : OpH P N K0 w0 ⟨d, .call { callee := .value (.func f), args := args, argTypes := ats }, ty, pos, aft, g⟩ S (.val v) :=
  OpH.callB hf hname hb (by subst hargs; exact ArgsB.of_map _) hg
/-! ### Steps that do more than give a slot a value -/
variable {Q : St → Prop} {e dn : Nat}
theorem T.box {v : Value} {cs : List AV} (h1 : St.opv ⟨tm, bs⟩ x = .val v) (hcs : v.cells.toList.map AV.val = cs) (hd : dn < N) (hf : St.free ⟨tm, bs⟩ dn = true) (hnb : bs.all (fun p => !(Nat.beq p.1 dn)) = true) (hq : Q ⟨(dn, .ptr dn 0) :: tm, (dn, cs) :: bs⟩) :
    OpT P N K0 w0 ⟨some dn, .box e x, ty, pos, aft, g⟩ ⟨tm, bs⟩ Q := OpT.box h1 hcs hd hf hnb hq
theorem T.boxS {A : AV} {k : Nat} {xs : Cells} (h1 : St.opv ⟨tm, bs⟩ x = A) (hA : A.Sl k xs) (hd : dn < N) (hf : St.free ⟨tm, bs⟩ dn = true) (hnb : bs.all (fun p => !(Nat.beq p.1 dn)) = true) (hq : Q ⟨(dn, .ptr dn 0) :: tm, (dn, [.sl k xs]) :: bs⟩) :
    OpT P N K0 w0 ⟨some dn, .box e x, ty, pos, aft, g⟩ ⟨tm, bs⟩ Q := OpT.boxS h1 hA hd hf hnb hq
theorem T.alloc {z : Value} {cs : List AV} (hz : ((P.info? e).bind (·.zero)) = some z) (hcs : z.cells.toList.map AV.val = cs) (hd : dn < N) (hf : St.free ⟨tm, bs⟩ dn = true) (hnb : bs.all (fun p => !(Nat.beq p.1 dn)) = true) (hq : Q ⟨(dn, .ptr dn 0) :: tm, (dn, cs) :: bs⟩) :
    OpT P N K0 w0 ⟨some dn, .alloc e, ty, pos, aft, g⟩ ⟨tm, bs⟩ Q := OpT.alloc hz hcs hd hf hnb hq
theorem T.store {b o : Nat} {v : Value} {cs cs' : List AV} (h1 : St.opv ⟨tm, bs⟩ x = .ptr b o) (h2 : St.opv ⟨tm, bs⟩ y = .val v) (hb : getB bs b = some cs) (hk : (P.info? t).map (·.size) = some v.cells.size) (ho1 : v.cells.all (·.oneCell') = true) (ho : o + v.cells.size ≤ cs.length)
    (hcs : cs.take o ++ v.cells.toList.map AV.val ++ cs.drop (o + v.cells.size) = cs') {bs' : List (Nat × List AV)} (hbs : setBx bs b cs' = bs') (hq : Q ⟨tm, bs'⟩) : OpT P N K0 w0 ⟨none, .store t x y, ty, pos, aft, g⟩ ⟨tm, bs⟩ Q := OpT.store h1 h2 hb hk ho1 ho hcs hbs hq
theorem T.appNil {k bytes : Nat} {zs : Cells} {B : AV} (h1 : St.opv ⟨tm, bs⟩ x = .val (.slice none 0 0)) (h2 : St.opv ⟨tm, bs⟩ y = B) (hB : B.Src k zs) (hi : growInfo P t e k bytes = true) (hsmall : zs.length * bytes ≤ 140737488355328) (hd : dn < N) (hf : St.free ⟨tm, bs⟩ dn = true)
    (hq : Q ⟨(dn, .row dn e k zs) :: tm, bs⟩) : OpT P N K0 w0 ⟨some dn, .call { callee := .builtin .append, args := #[x, y], argTypes := #[t, t] }, ty, pos, aft, g⟩ ⟨tm, bs⟩ Q := OpT.appNil h1 h2 hB hi hsmall hd hf hq
theorem T.app {k bytes r : Nat} {xs zs : Cells} {B : AV} (h1 : St.opv ⟨tm, bs⟩ x = .row r e k xs) (h2 : St.opv ⟨tm, bs⟩ y = B) (hB : B.Src k zs) (hi : growInfo P t e k bytes = true) (hsmall : (xs.length + zs.length) * bytes ≤ 140737488355328) (hd : dn < N)
    {T : St} (hT : St.unrow ⟨tm, bs⟩ r = T) (hfT : T.free dn = true) (hq : Q (T.put dn (.row dn e k (xs ++ zs)))) : OpT P N K0 w0 ⟨some dn, .call { callee := .builtin .append, args := #[x, y], argTypes := #[t, t] }, ty, pos, aft, g⟩ ⟨tm, bs⟩ Q := by
  subst hT
  intro K n a w hs
  have e1 := hs.opv x
  have e2 := hs.opv y
  rw [h1] at e1
  rw [h2] at e2
  obtain ⟨e1, hsl⟩ := e1
  have hhas : St.has ⟨tm, bs⟩ (.row r e k xs) := St.opv_has (x := x) (by rw [h1]; exact .inl rfl)
  obtain ⟨q1, q2⟩ := hs.row r e k xs hhas
  have hs2 : Sim N K0 w0 (St.unrow ⟨tm, bs⟩ r) K n a w := hs.weak (St.unrow_wk _ r) (fun b c1 c2 p1 p2 => by
    obtain ⟨⟨d1, cs1⟩, m1, f1⟩ := List.mem_map.1 p1
    obtain ⟨⟨d2, cs2⟩, m2, f2⟩ := List.mem_map.1 p2
    injection f1 with f1 f1'
    injection f2 with f2 f2'
    subst f1 f1' f2'
    simp only at f2
    subst f2
    rw [hs.boxOne _ _ _ m1 m2])
  refine app_core hs2 (xs := xs) (zs := zs) (B := B) hi rfl (by rw [show a.eval x = n.ρ r from e1]; exact q1) (fun g hg => ?_) (by rw [show a.eval x = n.ρ r from e1] at *; exact hsl) (hB.slice e2) hsmall hd hfT hq
  rw [show a.eval x = n.ρ r from e1] at hg
  refine ⟨(q2 g hg).1, fun b cs hb => ?_, fun r' e' k' xs' hr' hρ => ?_⟩
  · obtain ⟨⟨d1, cs1⟩, m1, f1⟩ := List.mem_map.1 hb
    injection f1 with f1 _
    subst f1
    exact (q2 g hg).2 d1 cs1 m1
  · have hne := St.unrow_has hr'
    exact hne (hs.rowInj r' e' k' xs' r e k xs g ((St.unrow_wk _ r).has hr') hhas hρ hg)
theorem T.callRow {f : FuncId} {fn : Func} {c : Code} {args : Array Operand} {ats : Array TypeId} {As : List AV} {r k : Nat} {xs : Cells} (hf : P.funcs[f]? = some fn) (hname : (fn.name == "runtime.NumGoroutine") = false) (hb : fn.body = some c)
    (hargs : (args.toList.map fun x => (St.opv ⟨tm, bs⟩ x).arg) = As) (hg : Good P f As (.row r e k xs)) (hd : dn < N) (hfr : St.free ⟨tm, bs⟩ dn = true) (hq : Q ⟨(dn, .row dn e k xs) :: tm, bs⟩) : OpT P N K0 w0 ⟨some dn, .call { callee := .value (.func f), args := args, argTypes := ats }, ty, pos, aft, g⟩ ⟨tm, bs⟩ Q := OpT.callRow hf hname hb (by subst hargs; exact Args.of_map _) hg hd hfr hq
theorem OpH.callFW {f : FuncId} {fn : Func} {c : Code} {args : Array Operand} {ats : Array TypeId} {As : List AV} {r e k : Nat} {xs : Cells} (hf : P.funcs[f]? = some fn) (hname : (fn.name == "runtime.NumGoroutine") = false) (hb : fn.body = some c)
    (hargs : (args.toList.map fun x => (S.opv x).arg) = As) (hg : Good P f As (.row r e k xs)) : OpH P N K0 w0 ⟨d, .call { callee := .value (.func f), args := args, argTypes := ats }, ty, pos, aft, g⟩ S (.sl k xs) := by
  refine OpH.callF hf hname hb hargs (res := .sl k xs) ?_ rfl
  intro K w cargs hok hlen hrep
  refine (hg K w cargs hok hlen hrep).mono ?_
  rintro e' w' ⟨c, K', rfl, h1, h2, h3, h4, ρ, h5, _⟩
  exact ⟨c, K', rfl, h1, h2, h3, h4, ρ, h5.2, fun r e k xs h => (by rcases h with h | ⟨_, h, _⟩ <;> cases h), fun r e k xs r' e' k' xs' g h => (by rcases h with h | ⟨_, h, _⟩ <;> cases h)⟩
theorem Sub.mk {S : St} {l : List (Nat × AV)} {bs : List (Nat × List AV)} (h1 : Relab S [] l) (h2 : KeepB S bs) : Sub S ⟨l, bs⟩ := ⟨h1, h2⟩
theorem KeepB.same {S : St} {d : Nat} {cs : List AV} {l : List (Nat × List AV)} (h : getB S.boxes d = some cs) (hn : cs.all AV.noRow = true) (hn2 : l.all (fun p => !(Nat.beq p.1 d)) = true) (t : KeepB S l) : KeepB S ((d, cs) :: l) :=
  .cons h rfl (fun i c c' h1 h2 => by rw [h1] at h2; injection h2 with h2; exact .keep h2 (List.all_eq_true.1 hn c' (by rw [← h2]; exact List.mem_of_getElem? h1))) hn2 t
theorem CT.condD {c1 : Code} {q : Prop} [Decidable q] (hc : St.opv ⟨tm, bs⟩ x = .val (.bool (decide q))) (ht : q → CT P N K0 w0 c1 ⟨tm, bs⟩ QE) (hf : ¬ q → CT P N K0 w0 c2 ⟨tm, bs⟩ QE) : CT P N K0 w0 (.cond x c1 c2) ⟨tm, bs⟩ QE :=
  CT.cond hc (fun h => ht (of_decide_eq_true h)) (fun h => hf (of_decide_eq_false h))
theorem CT.condN {c1 : Code} {q : Prop} [Decidable q] (hc : St.opv ⟨tm, bs⟩ x = .val (.bool (!decide q))) (ht : ¬ q → CT P N K0 w0 c1 ⟨tm, bs⟩ QE) (hf : q → CT P N K0 w0 c2 ⟨tm, bs⟩ QE) : CT P N K0 w0 (.cond x c1 c2) ⟨tm, bs⟩ QE :=
  CT.cond hc (fun h => ht (by simpa using h)) (fun h => hf (by simpa using h))
theorem LT.partD {ops : Array Oper} {l : List Oper} {op : Op} {g' : Nat} {want : Bool} {o : Option Nat} {dg : Nat} {q : Prop} [Decidable q] (h1 : dstAt ops g' = some dg) (h2 : getT tm dg = .val (.bool (decide q)))
    (ht : q → LT P N K0 w0 ops (⟨o, op, ty, pos, aft, some (g', want)⟩ :: l) ⟨(dg, .val (.bool true)) :: tm, bs⟩ Q) (hf : ¬ q → LT P N K0 w0 ops (⟨o, op, ty, pos, aft, some (g', want)⟩ :: l) ⟨(dg, .val (.bool false)) :: tm, bs⟩ Q) : LT P N K0 w0 ops (⟨o, op, ty, pos, aft, some (g', want)⟩ :: l) ⟨tm, bs⟩ Q :=
  LT.part (t := dg) h2 (fun h => ht (of_decide_eq_true h)) (fun h => hf (of_decide_eq_false h))
theorem HT.partD {ops : Array Oper} {l l' : List Oper} {op : Op} {g' : Nat} {want : Bool} {o : Option Nat} {dg : Nat} {q : Prop} [Decidable q] (h1 : dstAt ops g' = some dg) (h2 : getT tm dg = .val (.bool (decide q)))
    (ht : q → HT P N K0 w0 ops (⟨o, op, ty, pos, aft, some (g', want)⟩ :: l) ⟨(dg, .val (.bool true)) :: tm, bs⟩ fun S' => LT P N K0 w0 ops l' S' Q) (hf : ¬ q → HT P N K0 w0 ops (⟨o, op, ty, pos, aft, some (g', want)⟩ :: l) ⟨(dg, .val (.bool false)) :: tm, bs⟩ fun S' => LT P N K0 w0 ops l' S' Q) :
    HT P N K0 w0 ops (⟨o, op, ty, pos, aft, some (g', want)⟩ :: l) ⟨tm, bs⟩ fun S' => LT P N K0 w0 ops l' S' Q :=
  HT.part (t := dg) h2 (fun h => ht (of_decide_eq_true h)) (fun h => hf (of_decide_eq_false h))
theorem LT.partN {ops : Array Oper} {l : List Oper} {op : Op} {g' : Nat} {want : Bool} {o : Option Nat} {dg : Nat} {q : Prop} [Decidable q] (h1 : dstAt ops g' = some dg) (h2 : getT tm dg = .val (.bool (!decide q)))
    (ht : ¬ q → LT P N K0 w0 ops (⟨o, op, ty, pos, aft, some (g', want)⟩ :: l) ⟨(dg, .val (.bool true)) :: tm, bs⟩ Q) (hf : q → LT P N K0 w0 ops (⟨o, op, ty, pos, aft, some (g', want)⟩ :: l) ⟨(dg, .val (.bool false)) :: tm, bs⟩ Q) : LT P N K0 w0 ops (⟨o, op, ty, pos, aft, some (g', want)⟩ :: l) ⟨tm, bs⟩ Q :=
  LT.part (t := dg) h2 (fun h => ht (by simpa using h)) (fun h => hf (by simpa using h))
theorem HT.partN {ops : Array Oper} {l l' : List Oper} {op : Op} {g' : Nat} {want : Bool} {o : Option Nat} {dg : Nat} {q : Prop} [Decidable q] (h1 : dstAt ops g' = some dg) (h2 : getT tm dg = .val (.bool (!decide q)))
    (ht : ¬ q → HT P N K0 w0 ops (⟨o, op, ty, pos, aft, some (g', want)⟩ :: l) ⟨(dg, .val (.bool true)) :: tm, bs⟩ fun S' => LT P N K0 w0 ops l' S' Q) (hf : q → HT P N K0 w0 ops (⟨o, op, ty, pos, aft, some (g', want)⟩ :: l) ⟨(dg, .val (.bool false)) :: tm, bs⟩ fun S' => LT P N K0 w0 ops l' S' Q) :
    HT P N K0 w0 ops (⟨o, op, ty, pos, aft, some (g', want)⟩ :: l) ⟨tm, bs⟩ fun S' => LT P N K0 w0 ops l' S' Q :=
  HT.part (t := dg) h2 (fun h => ht (by simpa using h)) (fun h => hf (by simpa using h))
end
end Go.Proofs.Ytjgjohonbjmakaa
