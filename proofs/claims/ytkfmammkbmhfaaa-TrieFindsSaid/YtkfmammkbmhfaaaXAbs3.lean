/- Abstract walks: the steps as they are taken. -/
import Derived.Test.YtkfmammkbmhfaaaXAbs2
import Derived.IntWalk
import Derived.Laws.OwnMore
import Derived.Laws.CopyRow
namespace Go.Proofs.Ytkfmammkbmhfaaa
set_option linter.unusedSimpArgs false
set_option linter.unusedVariables false
open Go Go.RowKit Go.Shelf

section
variable {P : Program} {f : FuncId}
def snap (w : World) : Know := fun b o => w.cell? ⟨b, o, none⟩
theorem snap_ok (w : World) : (snap w).ok w := fun _ _ _ h => h
theorem Reads.rd {α : Type} {enc : α → List Value} {k : Nat} {w : World} {A : Option Addr} {xs : List α} (h : Reads enc k w A xs) (hk : ∀ x, (enc x).length = k) (h1 : ∀ x, ∀ u ∈ enc x, u.oneCell' = true) : Rd (snap w) k A (xs.map enc) := by
  refine ⟨by simpa using h.1, fun i x hx => ?_⟩
  rw [List.getElem?_map, Option.map_eq_some_iff] at hx
  obtain ⟨y, hy, rfl⟩ := hx
  obtain ⟨b, off, e, _, h2⟩ := h.2 i y hy
  exact ⟨hk y, h1 y, b, off, e, h2⟩
theorem Good.vals {args : List Value} {As : List AV} {v : Value} (hA : As = args.map AV.val) (h : ∀ w, Calls P f args.toArray w fun e w' => e = .returned v ∧ Below w.heap.size w w') : Good P f As (.val v) := by
  subst hA
  intro K w cargs hok hlen hrep
  have e : cargs = args := by
    apply List.ext_getElem?
    intro i
    by_cases hi : i < args.length
    · have hi' : i < cargs.length := by rw [hlen]; simpa using hi
      have := hrep i (.val args[i]) cargs[i] (by simp [List.getElem?_eq_getElem hi]) (List.getElem?_eq_getElem hi')
      rw [List.getElem?_eq_getElem hi, List.getElem?_eq_getElem hi']
      exact congrArg some this
    · have hlen' : cargs.length = args.length := by simpa using hlen
      rw [List.getElem?_eq_none (by omega), List.getElem?_eq_none (by omega)]
  subst e
  refine (h w).mono ?_
  rintro e w' ⟨rfl, hb⟩
  exact ⟨v, K, rfl, hb, Know.le_refl K, Know.below hok hb, fun _ _ _ h _ => h, fun _ => undef, rfl, fun r e k xs h => (by rcases h with h | ⟨_, h, _⟩ <;> cases h), fun r e k xs r' e' k' xs' g h => (by rcases h with h | ⟨_, h, _⟩ <;> cases h)⟩
theorem own_res {K : Know} {w w' : World} {e k : Nat} {v : Value} {xs : Cells} (hok : K.ok w) (hb : Below w.heap.size w w') (hown : w'.ownsRow w.heap.size e k v xs.length xs.flatten) (hlen : ∀ x ∈ xs, x.length = k) (hone : oneCells xs = true) (r : Nat) :
    ∃ K', K.le K' ∧ K'.ok w' ∧ (∀ b o u, K' b o = some u → b < w.heap.size → K b o = some u) ∧ Res K' w w' (.row r e k xs) v := by
  let K' : Know := fun b o => if v.ownBlock = some b then xs.flatten[o]? else K b o
  have hge : ∀ g, v.ownBlock = some g → w.heap.size ≤ g := fun g hg => (hown.lt g hg).1
  refine ⟨K', fun b o u hu => ?_, fun b o u hu => ?_, fun b o u hu hlt => ?_, fun _ => v, ⟨rfl, own_slice hown (fun g hg o u hu => ?_) hlen hone⟩, fun r' e' k' xs' h => ?_, fun r1 e1 k1 xs1 r2 e2 k2 xs2 g h1 h2 _ _ => ?_⟩
  · have := Know.lt hok hu
    simp only [K']
    rw [if_neg (fun h => by have := hge b h; omega)]
    exact hu
  · simp only [K'] at hu
    split at hu
    · rename_i h
      have := hown.cells h o u hu
      rwa [Addr.add_mid, Nat.zero_add] at this
    · exact Know.below hok hb b o u hu
  · simp only [K'] at hu
    rwa [if_neg (fun h => by have := hge b h; omega)] at hu
  · simp only [K', if_pos hg]; exact hu
  · rcases h with h | ⟨_, h, _⟩
    · injection h with q1 q2 q3 q4
      subst q1 q2 q3 q4
      refine ⟨hown, fun g hg o u hu => ?_⟩
      simp only [K', if_pos hg] at hu
      have := (List.getElem?_eq_some_iff.1 hu).1
      rwa [hown.1] at this
    · cases h
  · rcases h1 with h1 | ⟨_, h1, _⟩
    · rcases h2 with h2 | ⟨_, h2, _⟩
      · injection h1 with q1; injection h2 with q2; exact q1.symm.trans q2
      · cases h2
    · cases h1
theorem Good.calls {As : List AV} {v : Value} (h : Good P f As (.val v)) (w : World) (cargs : List Value) (hl : cargs.length = As.length) (hr : ∀ (i : Nat) A c, As[i]? = some A → cargs[i]? = some c → Rep1 (snap w) Nm.nil A c) :
    Calls P f cargs.toArray w fun e w' => e = .returned v ∧ Below w.heap.size w w' := by
  refine (h (snap w) w cargs (snap_ok w) hl hr).mono ?_
  rintro e w' ⟨c, K', rfl, hb, _, _, _, ρ, h5, _⟩
  exact ⟨by rw [show c = v from h5], hb⟩
inductive ArgsR (w : World) : List AV → List Value → Prop
  | nil : ArgsR w [] []
  | val {v As cs} (h : ArgsR w As cs) : ArgsR w (.val v :: As) (v :: cs)
  | sl {α : Type} {enc : α → List Value} {k : Nat} {xs : List α} {A c As cs} (h1 : xs.length ≤ c) (h2 : A = none → c = 0) (h3 : Reads enc k w A xs) (h4 : ∀ x, (enc x).length = k) (h5 : ∀ x, ∀ u ∈ enc x, u.oneCell' = true) (h : ArgsR w As cs) : ArgsR w (.sl k (xs.map enc) :: As) (.slice A xs.length c :: cs)
theorem ArgsR.rep {w : World} : ∀ {As : List AV} {cs : List Value}, ArgsR w As cs → cs.length = As.length ∧ ∀ (i : Nat) A c, As[i]? = some A → cs[i]? = some c → Rep1 (snap w) Nm.nil A c
  | _, _, .nil => ⟨rfl, fun i A c h => by simp at h⟩
  | _, _, .val h => by
    obtain ⟨h1, h2⟩ := ArgsR.rep h
    refine ⟨by simp [h1], fun i A c hA hc => ?_⟩
    cases i with
    | zero => simp at hA hc; subst hA hc; exact rfl
    | succ i => exact h2 i A c (by simpa using hA) (by simpa using hc)
  | _, _, .sl q1 q2 q3 q4 q5 h => by
    obtain ⟨h1, h2⟩ := ArgsR.rep h
    refine ⟨by simp [h1], fun i A c hA hc => ?_⟩
    cases i with
    | zero => simp at hA hc; subst hA hc; exact ⟨_, _, by rw [List.length_map], by simpa using q1, q2, q3.rd q4 q5⟩
    | succ i => exact h2 i A c (by simpa using hA) (by simpa using hc)
theorem Good.run {As : List AV} {v : Value} (h : Good P f As (.val v)) {w : World} {cs : List Value} (ha : ArgsR w As cs) : Calls P f cs.toArray w fun e w' => e = .returned v ∧ Below w.heap.size w w' :=
  h.calls w cs ha.rep.1 ha.rep.2
end

/-! ### What single operations give -/
def PB (P : Program) (op : BinOp) (xt : TypeId) (x y : Operand) (v1 v2 v : Value) : Prop := ∀ w, (do eqGuard op xt x y v1 v2; binOp op xt v1 v2 : Sem Value).run P w = .ok v w
section
variable {P : Program} {xt : TypeId} {x y : Operand} {k : IntKind} {a b : Int}
theorem pb_lss : PB P .lss xt x y (.int k a) (.int k b) (.bool (decide (a < b))) := fun w => by simp [eqGuard, binOp, Op.intCmp]
theorem pb_leq : PB P .leq xt x y (.int k a) (.int k b) (.bool (decide (a ≤ b))) := fun w => by simp [eqGuard, binOp, Op.intCmp]
theorem pb_gtr : PB P .gtr xt x y (.int k a) (.int k b) (.bool (decide (b < a))) := fun w => by simp [eqGuard, binOp, Op.intCmp]
theorem pb_geq : PB P .geq xt x y (.int k a) (.int k b) (.bool (decide (b ≤ a))) := fun w => by simp [eqGuard, binOp, Op.intCmp]
theorem pb_eql : PB P .eql xt x y (.int k a) (.int k b) (.bool (decide (a = b))) := fun w => by simp [eqGuard, binOp, Op.intCmp]; exact Bool.eq_iff_iff.2 (by simp)
theorem pb_neq : PB P .neq xt x y (.int k a) (.int k b) (.bool (!decide (a = b))) := fun w => by simp [eqGuard, binOp, Op.intCmp]; exact Bool.eq_iff_iff.2 (by simp)
theorem pb_of {op : BinOp} {v1 v2 : Value} {c d : Bool} (h : PB P op xt x y v1 v2 (.bool c)) (e : c = d) : PB P op xt x y v1 v2 (.bool d) := e ▸ h
theorem pb_lss_t (h : a < b) : PB P .lss xt x y (.int k a) (.int k b) (.bool true) := pb_of pb_lss (by simpa using h)
theorem pb_lss_f (h : ¬ a < b) : PB P .lss xt x y (.int k a) (.int k b) (.bool false) := pb_of pb_lss (by simpa using h)
theorem pb_leq_t (h : a ≤ b) : PB P .leq xt x y (.int k a) (.int k b) (.bool true) := pb_of pb_leq (by simpa using h)
theorem pb_leq_f (h : ¬ a ≤ b) : PB P .leq xt x y (.int k a) (.int k b) (.bool false) := pb_of pb_leq (by simpa using h)
theorem pb_gtr_t (h : b < a) : PB P .gtr xt x y (.int k a) (.int k b) (.bool true) := pb_of pb_gtr (by simpa using h)
theorem pb_gtr_f (h : ¬ b < a) : PB P .gtr xt x y (.int k a) (.int k b) (.bool false) := pb_of pb_gtr (by simpa using h)
theorem pb_geq_t (h : b ≤ a) : PB P .geq xt x y (.int k a) (.int k b) (.bool true) := pb_of pb_geq (by simpa using h)
theorem pb_geq_f (h : ¬ b ≤ a) : PB P .geq xt x y (.int k a) (.int k b) (.bool false) := pb_of pb_geq (by simpa using h)
theorem pb_eql_t (h : a = b) : PB P .eql xt x y (.int k a) (.int k b) (.bool true) := pb_of pb_eql (by simpa using h)
theorem pb_eql_f (h : ¬ a = b) : PB P .eql xt x y (.int k a) (.int k b) (.bool false) := pb_of pb_eql (by simpa using h)
theorem pb_neq_t (h : ¬ a = b) : PB P .neq xt x y (.int k a) (.int k b) (.bool true) := pb_of pb_neq (by simpa using h)
theorem pb_neq_f (h : a = b) : PB P .neq xt x y (.int k a) (.int k b) (.bool false) := pb_of pb_neq (by simpa using h)
theorem pb_addw : PB P .add xt x y (.int k a) (.int k b) (.int k (k.wrap (a + b))) := fun w => by simp [eqGuard, binOp, Op.intArith]
theorem pb_subw : PB P .sub xt x y (.int k a) (.int k b) (.int k (k.wrap (a - b))) := fun w => by simp [eqGuard, binOp, Op.intArith]
theorem pb_add (h : -9223372036854775808 ≤ a + b ∧ a + b ≤ 9223372036854775807) : PB P .add xt x y (.int .i64 a) (.int .i64 b) (.int .i64 (a + b)) := by
  have := @pb_addw P xt x y .i64 a b
  rwa [IntWalk.i64_in _ h] at this
theorem pb_addN {n m l : Nat} (hl : n + m = l) (h : n + m ≤ 9223372036854775807) : PB P .add xt x y (.int .i64 (n : Int)) (.int .i64 (m : Int)) (.int .i64 (l : Int)) := by
  subst hl
  have := @pb_add P xt x y (n : Int) (m : Int) (by omega)
  rw [Int.natCast_add]; exact this
theorem pb_inc {n : Nat} (h : n + 1 ≤ 9223372036854775807) : PB P .add xt x y (.int .i64 (n : Int)) (.int .i64 1) (.int .i64 ((n + 1 : Nat) : Int)) := by
  have := @pb_add P xt x y (n : Int) 1 (by omega)
  rw [Int.natCast_add]; exact this
theorem pb_sub (h : -9223372036854775808 ≤ a - b ∧ a - b ≤ 9223372036854775807) : PB P .sub xt x y (.int .i64 a) (.int .i64 b) (.int .i64 (a - b)) := by
  have := @pb_subw P xt x y .i64 a b
  rwa [IntWalk.i64_in _ h] at this
theorem pb_dec {n l : Nat} (hl : n = l + 1) (h : n ≤ 9223372036854775807) : PB P .sub xt x y (.int .i64 (n : Int)) (.int .i64 1) (.int .i64 (l : Int)) := by
  have := @pb_sub P xt x y (n : Int) 1 (by omega)
  rwa [show (n : Int) - 1 = l by omega] at this
theorem pb_eqlB {c d : Bool} (hu : P.underlying xt = some .bool) : PB P .eql xt x y (.bool c) (.bool d) (.bool (c == d)) := fun w => run_eql_bool w xt c d hu
theorem pb_neqB {c d : Bool} (hu : P.underlying xt = some .bool) : PB P .neq xt x y (.bool c) (.bool d) (.bool (!(c == d))) := fun w => run_neq_bool w xt c d hu
theorem pb_agg {op : BinOp} {u v : Array Value} {r : Value} (hg : P.eqGuardType P.depth xt = false) (h : ∀ w, (binOp op xt (.agg u) (.agg v)).run P w = .ok r w) : PB P op xt x y (.agg u) (.agg v) r := fun w => by
  have e : (eqGuard op xt x y (.agg u) (.agg v)).run P w = .ok () w := by
    cases op <;> simp [eqGuard, hg]
  rw [Sem.run_bind, e]
  exact h w
theorem un_not {c : Bool} (w : World) : (Op.unary .not (.bool c)).run P w = .ok (.bool (!c)) w := by simp [Op.unary]
theorem un_neg {n : Int} (h : -9223372036854775807 ≤ n ∧ n ≤ 9223372036854775807) (w : World) : (Op.unary .neg (.int .i64 n)).run P w = .ok (.int .i64 (-n)) w := by
  simp only [Op.unary, Op.intArith]
  rw [IntWalk.i64_in _ (by omega)]
  simp
end
end Go.Proofs.Ytkfmammkbmhfaaa
namespace Go.Proofs.Ytkfmammkbmhfaaa
set_option linter.unusedSimpArgs false
set_option linter.unusedVariables false
open Go Go.RowKit Go.Shelf

def AV.noRow : AV → Bool
  | .row _ _ _ _ | .tup _ | .arow _ | .aptr _ _ _ _ | .asub _ _ _ _ => false
  | _ => true
def AV.aname : AV → Option Nat
  | .arow d => some d
  | .aptr d _ _ _ => some d
  | .asub d _ _ _ => some d
  | _ => none
def hasA (ar : List (Nat × Arr)) (d : Nat) : Bool := ar.any fun p => Nat.beq p.1 d
inductive Less (ar : List (Nat × Arr)) (B : AV) : AV → Prop
  | aref {A d} (h : B = A) (hA : A.aname = some d) (hm : hasA ar d = true) : Less ar B A
  | keep {A} (h : B = A) (hn : A.noRow = true) : Less ar B A
  | val {v v'} (h : B = .val v) (e : v = v') : Less ar B (.val v')
  | dead : Less ar B .dead
  | sl {A k xs xs'} (h : B = A) (hA : A.Sl k xs) (e : xs = xs') : Less ar B (.sl k xs')
  | slNil {k xs'} (h : B = .val (.slice none 0 0)) (e : [] = xs') : Less ar B (.sl k xs')
theorem Less.no {ar : List (Nat × Arr)} {B A : AV} (h : Less ar B A) : (∀ r e k xs, A ≠ .row r e k xs) ∧ ∀ vs, A ≠ .tup vs := by
  cases h with
  | aref h hA hm => subst h; constructor <;> (intros; intro e; subst e; cases hA)
  | keep h hn => subst h; constructor <;> (intros; intro e; subst e; cases hn)
  | _ => constructor <;> (intros; intro e; cases e)
theorem Less.rep {ar : List (Nat × Arr)} {K : Know} {n n' : Nm} {B A : AV} {c : Value} (h : Less ar B A) (hβ : n'.β = n.β) (hρ : ∀ d, hasA ar d = true → n'.ρ d = n.ρ d) (hr : Rep K n B c) : Rep K n' A c := by
  obtain ⟨β, ρ⟩ := n
  obtain ⟨β', ρ'⟩ := n'
  simp only at hβ
  subst hβ
  cases h with
  | aref h hA hm =>
    rename_i d
    subst h
    cases B with
    | arow d' => injection hA with hA; subst hA; show c = ρ' d'; rw [show ρ' d' = ρ d' from hρ d' hm]; exact hr
    | aptr d' k j o =>
      injection hA with hA; subst hA
      obtain ⟨g, h1, h2⟩ := hr
      exact ⟨g, by rw [hρ d' hm]; exact h1, h2⟩
    | asub d' k lo m =>
      injection hA with hA; subst hA
      obtain ⟨A, l, cap, h1, h2⟩ := hr
      exact ⟨A, l, cap, by rw [hρ d' hm]; exact h1, h2⟩
    | _ => cases hA
  | keep h hn =>
    subst h
    cases B <;> first | exact hr | cases hn
  | val h e => subst h e; exact hr
  | dead => trivial
  | sl h hA e => subst h e; exact hA.slice hr
  | slNil h e => subst h e; exact ⟨none, 0, hr, Nat.le_refl _, fun _ => rfl, Rd.nil_⟩
inductive Relab (ar : List (Nat × Arr)) (S : St) : List Nat → List (Nat × AV) → Prop
  | nil {us} : Relab ar S us []
  | other {us t A l} (h : Less ar (S.get t) A) (hl : Relab ar S us l) : Relab ar S us ((t, A) :: l)
  | row {us t r e k xs xs' l} (h : S.get t = .row r e k xs) (hx : xs = xs') (hr : us.contains r = false) (hn : hasA ar t = false) (hl : Relab ar S (r :: us) l) : Relab ar S us ((t, .row t e k xs') :: l)
  | rowNil {us t e k xs' l} (h : S.get t = .val (.slice none 0 0)) (hx : [] = xs') (hn : hasA ar t = false) (hl : Relab ar S us l) : Relab ar S us ((t, .row t e k xs') :: l)
def Nm.anew (n : Nm) (a : Act) (ar : List (Nat × Arr)) : Nm := ⟨n.β, fun t => cond (hasA ar t) (n.ρ t) (a.tmps.getD t undef)⟩
theorem Nm.anew_a {n : Nm} {a : Act} {ar : List (Nat × Arr)} {d : Nat} (h : hasA ar d = true) : (n.anew a ar).ρ d = n.ρ d := by simp [Nm.anew, h]
theorem Nm.anew_t {n : Nm} {a : Act} {ar : List (Nat × Arr)} {d : Nat} (h : hasA ar d = false) : (n.anew a ar).ρ d = a.tmps.getD d undef := by simp [Nm.anew, h]
section
variable {P : Program} {N : Nat} {K0 : Know} {w0 : Bas} {S S' : St} {K : Know} {n : Nm} {a : Act} {w : World} {ar : List (Nat × Arr)}
theorem Relab.rep (hs : Sim N K0 w0 S K n a w) : ∀ {us : List Nat} {l : List (Nat × AV)}, Relab ar S us l → ∀ t A, (t, A) ∈ l → Rep K (n.anew a ar) A (a.tmps.getD t undef)
  | _, _, .nil, t, A, h => by simp at h
  | _, _, .other h hl, t, A, hm => by
    rcases List.mem_cons.1 hm with e | hm
    · injection e with e1 e2
      subst e1 e2
      exact h.rep (n := n) rfl (fun d hd => Nm.anew_a hd) (hs.tmp t)
    · exact Relab.rep hs hl t A hm
  | _, _, .row h hx hr hn hl, t, A, hm => by
    rcases List.mem_cons.1 hm with e1 | hm
    · injection e1 with e1 e2
      subst e1 e2 hx
      have := hs.tmp t
      rw [h] at this
      exact ⟨(Nm.anew_t hn).symm, this.2⟩
    · exact Relab.rep hs hl t A hm
  | _, _, .rowNil h hx hn hl, t, A, hm => by
    rcases List.mem_cons.1 hm with e1 | hm
    · injection e1 with e1 e2
      subst e1 e2 hx
      have := hs.tmp t
      rw [h] at this
      exact ⟨(Nm.anew_t hn).symm, none, 0, this, Nat.le_refl _, fun _ => rfl, Rd.nil_⟩
    · exact Relab.rep hs hl t A hm
theorem Relab.rows : ∀ {us : List Nat} {l : List (Nat × AV)}, Relab ar S us l → ∀ t r e k xs, (t, AV.row r e k xs) ∈ l → (hasA ar t = false ∧ r = t) ∧ ((∃ r', ¬ r' ∈ us ∧ S.get t = .row r' e k xs) ∨ (S.get t = .val (.slice none 0 0) ∧ xs = []))
  | _, _, .nil, t, r, e, k, xs, h => by simp at h
  | _, _, .other h hl, t, r, e, k, xs, hm => by
    rcases List.mem_cons.1 hm with e1 | hm
    · injection e1 with e1 e2; exact absurd e2.symm (h.no.1 _ _ _ _)
    · exact Relab.rows hl t r e k xs hm
  | _, _, .row h hx hr hn hl, t, r, e, k, xs, hm => by
    rcases List.mem_cons.1 hm with e1 | hm
    · injection e1 with e1 e2
      injection e2 with e2 e3 e4 e5
      subst e1 e2 e3 e4 e5 hx
      exact ⟨⟨hn, rfl⟩, .inl ⟨_, by simpa using hr, h⟩⟩
    · obtain ⟨h1, h2⟩ := Relab.rows hl t r e k xs hm
      exact ⟨h1, h2.imp (fun ⟨r', h3, h4⟩ => ⟨r', fun hm => h3 (List.mem_cons_of_mem _ hm), h4⟩) id⟩
  | _, _, .rowNil h hx hn hl, t, r, e, k, xs, hm => by
    rcases List.mem_cons.1 hm with e1 | hm
    · injection e1 with e1 e2
      injection e2 with e2 e3 e4 e5
      subst e1 e2 e3 e4 e5 hx
      exact ⟨⟨hn, rfl⟩, .inr ⟨h, rfl⟩⟩
    · exact Relab.rows hl t r e k xs hm
theorem Relab.inj : ∀ {us : List Nat} {l : List (Nat × AV)}, Relab ar S us l → ∀ t t' r e k xs e' k' xs', (t, AV.row t e k xs) ∈ l → (t', AV.row t' e' k' xs') ∈ l → S.get t = .row r e k xs → S.get t' = .row r e' k' xs' → t = t'
  | _, _, .nil, t, t', r, e, k, xs, e', k', xs', h, _, _, _ => by simp at h
  | _, _, .other h hl, t, t', r, e, k, xs, e', k', xs', m1, m2, g1, g2 => by
    rcases List.mem_cons.1 m1 with q1 | m1
    · injection q1 with _ q1; exact absurd q1.symm (h.no.1 _ _ _ _)
    · rcases List.mem_cons.1 m2 with q2 | m2
      · injection q2 with _ q2; exact absurd q2.symm (h.no.1 _ _ _ _)
      · exact Relab.inj hl t t' r e k xs e' k' xs' m1 m2 g1 g2
  | us0, _, .row (t := t0) (r := r0) (l := l0) h hx hr hn hl, t, t', r, e, k, xs, e', k', xs', m1, m2, g1, g2 => by
    have key : ∀ u e2 k2 xs2, (u, AV.row u e2 k2 xs2) ∈ l0 → S.get u = .row r0 e2 k2 xs2 → False := fun u e2 k2 xs2 hm hg => by
      obtain ⟨_, h1 | ⟨h1, _⟩⟩ := Relab.rows hl u u e2 k2 xs2 hm
      · obtain ⟨r', h2, h3⟩ := h1
        rw [hg] at h3
        injection h3 with h3
        exact h2 (by rw [← h3]; exact List.mem_cons_self)
      · rw [hg] at h1; cases h1
    rcases List.mem_cons.1 m1 with q1 | p1 <;> rcases List.mem_cons.1 m2 with q2 | p2
    · injection q1 with q1; injection q2 with q2; exact q1.trans q2.symm
    · injection q1 with q1 _
      rw [q1, h] at g1
      injection g1 with g1
      rw [← g1] at g2
      exact (key _ _ _ _ p2 g2).elim
    · injection q2 with q2 _
      rw [q2, h] at g2
      injection g2 with g2
      rw [← g2] at g1
      exact (key _ _ _ _ p1 g1).elim
    · exact Relab.inj hl t t' r e k xs e' k' xs' p1 p2 g1 g2
  | _, _, .rowNil h hx hn hl, t, t', r, e, k, xs, e', k', xs', m1, m2, g1, g2 => by
    rcases List.mem_cons.1 m1 with q1 | m1
    · injection q1 with q1 _; subst q1; rw [h] at g1; cases g1
    · rcases List.mem_cons.1 m2 with q2 | m2
      · injection q2 with q2 _; subst q2; rw [h] at g2; cases g2
      · exact Relab.inj hl t t' r e k xs e' k' xs' m1 m2 g1 g2
inductive KeepB (ar : List (Nat × Arr)) (S : St) : List (Nat × List AV) → Prop
  | nil : KeepB ar S []
  | cons {d cs cs' l} (h : getB S.boxes d = some cs) (hl : cs.length = cs'.length) (hc : ∀ (i : Nat) c c', cs[i]? = some c → cs'[i]? = some c' → Less ar c c') (hn : l.all (fun p => !(Nat.beq p.1 d)) = true) (t : KeepB ar S l) : KeepB ar S ((d, cs') :: l)
theorem KeepB.spec : ∀ {l : List (Nat × List AV)}, KeepB ar S l → (∀ d cs', (d, cs') ∈ l → ∃ cs, (d, cs) ∈ S.boxes ∧ cs.length = cs'.length ∧ ∀ (i : Nat) c c', cs[i]? = some c → cs'[i]? = some c' → Less ar c c') ∧ ∀ d c c', (d, c) ∈ l → (d, c') ∈ l → c = c'
  | _, .nil => ⟨fun d cs h => by simp at h, fun d c c' h => by simp at h⟩
  | _, @KeepB.cons _ _ d0 cs0 cs0' l0 h hl hc hn t => by
    obtain ⟨h1, h2⟩ := KeepB.spec t
    have hne : ∀ d' (c' : List AV), (d', c') ∈ l0 → d' ≠ d0 := fun d' c' hm e => by
      have := List.all_eq_true.1 hn _ hm
      rw [e] at this
      simp at this
    refine ⟨fun d cs' hm => ?_, fun d c c' m1 m2 => ?_⟩
    · rcases List.mem_cons.1 hm with e | hm
      · injection e with e1 e2; subst e1 e2; exact ⟨_, getB_mem h, hl, hc⟩
      · exact h1 d cs' hm
    · rcases List.mem_cons.1 m1 with e1 | p1 <;> rcases List.mem_cons.1 m2 with e2 | p2
      · injection e1 with _ e1; injection e2 with _ e2; exact e1.trans e2.symm
      · injection e1 with e1 _; exact absurd e1 (hne _ _ p2)
      · injection e2 with e2 _; exact absurd e2 (hne _ _ p1)
      · exact h2 d c c' p1 p2
theorem getT_in : ∀ (l : List (Nat × AV)) (t : Nat), getT l t = .dead ∨ (t, getT l t) ∈ l
  | [], _ => .inl rfl
  | (s, A) :: l, t => by
    simp only [getT]
    cases hb : Nat.beq s t with
    | true => have := Nat.eq_of_beq_eq_true hb; subst this; exact .inr List.mem_cons_self
    | false => rcases getT_in l t with h | h
               · exact .inl h
               · exact .inr (List.mem_cons_of_mem _ h)
theorem St.of_get {l : List (Nat × AV)} {bs : List (Nat × List AV)} {t r e k : Nat} {xs : Cells} (hn : ∀ t vs, (t, AV.tup vs) ∉ l) (h : (AV.row r e k xs).of (getT l t)) : (t, AV.row r e k xs) ∈ l := by
  rcases getT_in l t with h1 | h1
  · rw [h1] at h; rcases h with h | ⟨_, h, _⟩ <;> cases h
  · rcases h with h | ⟨vs, h, _⟩
    · rw [h] at h1; exact h1
    · rw [h] at h1; exact absurd h1 (hn _ _)
theorem Relab.noTup : ∀ {us : List Nat} {l : List (Nat × AV)}, Relab ar S us l → ∀ t vs, (t, AV.tup vs) ∉ l
  | _, _, .nil, t, vs, h => by simp at h
  | _, _, .other h hl, t, vs, hm => by
    rcases List.mem_cons.1 hm with e | hm
    · injection e with _ e; exact h.no.2 _ e.symm
    · exact Relab.noTup hl t vs hm
  | _, _, .row h hx hr hn hl, t, vs, hm => by
    rcases List.mem_cons.1 hm with e | hm
    · injection e with _ e; cases e
    · exact Relab.noTup hl t vs hm
  | _, _, .rowNil h hx hn hl, t, vs, hm => by
    rcases List.mem_cons.1 hm with e | hm
    · injection e with _ e; cases e
    · exact Relab.noTup hl t vs hm
def getA : List (Nat × Arr) → Nat → Option Arr
  | [], _ => none
  | (s, A) :: l, t => cond (Nat.beq s t) (some A) (getA l t)
theorem getA_mem : ∀ {l : List (Nat × Arr)} {t : Nat} {A : Arr}, getA l t = some A → (t, A) ∈ l
  | [], _, _, h => by cases h
  | (s, B) :: l, t, A, h => by
    simp only [getA] at h
    cases hb : Nat.beq s t with
    | true => rw [hb] at h; injection h with h; subst h; rw [Nat.eq_of_beq_eq_true hb]; exact List.mem_cons_self
    | false => rw [hb] at h; exact List.mem_cons_of_mem _ (getA_mem h)
inductive KeepA (S : St) : List (Nat × Arr) → Prop
  | nil : KeepA S []
  | cons {d e k xs xs' l} (h : getA S.arrs d = some ⟨e, k, xs⟩) (hx : xs = xs') (t : KeepA S l) : KeepA S ((d, ⟨e, k, xs'⟩) :: l)
theorem KeepA.mem : ∀ {l : List (Nat × Arr)}, KeepA S l → ∀ d A, (d, A) ∈ l → (d, A) ∈ S.arrs
  | _, .nil, d, A, h => by simp at h
  | _, .cons h hx t, d, A, hm => by
    subst hx
    rcases List.mem_cons.1 hm with e | hm
    · injection e with e1 e2; subst e1 e2; exact getA_mem h
    · exact KeepA.mem t d A hm
theorem hasA_mem {l : List (Nat × Arr)} {d : Nat} {A : Arr} (h : (d, A) ∈ l) : hasA l d = true := List.any_eq_true.2 ⟨_, h, by simp⟩
theorem Sim.relab (h : Sim N K0 w0 S K n a w) {l : List (Nat × AV)} {us : List Nat} {bs : List (Nat × List AV)} (hl : Relab ar S us l) (hb : KeepB ar S bs) (hk : KeepA S ar) : Sim N K0 w0 ⟨l, bs, ar⟩ K (n.anew a ar) a w := by
  obtain ⟨hb1, hb2⟩ := hb.spec
  have hhas : ∀ r e k xs, (⟨l, bs, ar⟩ : St).has (.row r e k xs) → (r, AV.row r e k xs) ∈ l := by
    intro r e k xs hr
    rcases hr with ⟨t, ht⟩ | ⟨d, cs', hd, hm⟩
    · have := St.of_get (bs := bs) hl.noTup ht
      obtain ⟨⟨_, h1⟩, _⟩ := Relab.rows hl t r e k xs this
      rw [← h1] at this
      exact this
    · obtain ⟨cs, _, hlen, hc⟩ := hb1 d cs' hd
      obtain ⟨i, hi, e1⟩ := List.getElem_of_mem hm
      have := hc i _ _ (List.getElem?_eq_getElem (by omega)) (List.getElem?_eq_getElem hi)
      rw [e1] at this
      exact absurd rfl (this.no.1 _ _ _ _)
  have hown : ∀ t e k xs, (t, AV.row t e k xs) ∈ l → (n.anew a ar).ρ t = a.tmps.getD t undef ∧ w.ownsRow w0.w.heap.size e k (a.tmps.getD t undef) xs.length xs.flatten ∧ ∀ g, (a.tmps.getD t undef).ownBlock = some g → ∃ r, S.get t = .row r e k xs ∧ (n.ρ r).ownBlock = some g ∧ a.tmps.getD t undef = n.ρ r := by
    intro t e k xs hm
    obtain ⟨⟨hna, _⟩, ⟨r', hr', hg⟩ | ⟨hg, rfl⟩⟩ := Relab.rows hl t t e k xs hm
    · have h1 := h.tmp t
      rw [hg] at h1
      have h2 := h.row r' e k xs (.inl ⟨t, .inl hg⟩)
      refine ⟨Nm.anew_t hna, ?_⟩
      rw [h1.1]
      exact ⟨h2.1, fun g hg' => ⟨r', hg, hg', rfl⟩⟩
    · have h1 := h.tmp t
      rw [hg] at h1
      refine ⟨Nm.anew_t hna, ?_⟩
      rw [show a.tmps.getD t undef = .slice none 0 0 from h1]
      exact ⟨World.ownsRow_nil w _ e k, fun g hg' => by cases hg'⟩
  exact {
    size := h.size
    defers := h.defers
    below := h.below
    k0 := h.k0
    knew := h.knew
    ok := h.ok
    tmp := fun t => by
      rcases getT_in l t with h1 | h1
      · show Rep K _ (getT l t) _
        rw [h1]; trivial
      · exact Relab.rep h hl t _ h1
    box := fun d cs' hd => by
      obtain ⟨cs, h1, hlen, hc⟩ := hb1 d cs' hd
      obtain ⟨b, arr, ty, q1, q2, q3, q4, q5, q6⟩ := h.box d cs h1
      refine ⟨b, arr, ty, q1, q2, q3, q4.trans hlen, fun i c hi => ?_, q6⟩
      have hi' : i < cs.length := by rw [hlen]; exact (List.getElem?_eq_some_iff.1 hi).1
      have h2 := hc i _ c (List.getElem?_eq_getElem hi') hi
      have h3 := h2.rep (n := n) (n' := n.anew a ar) rfl (fun d hd => Nm.anew_a hd) (Rep.of1 (q5 i _ (List.getElem?_eq_getElem hi')))
      have h4 := h2.no.2
      cases c <;> first | exact h3 | exact absurd rfl (h4 _)
    boxInj := fun d c d' c' b m1 m2 => by
      obtain ⟨c1, q1, _⟩ := hb1 d c m1
      obtain ⟨c2, q2, _⟩ := hb1 d' c' m2
      exact h.boxInj d c1 d' c2 b q1 q2
    boxOne := hb2
    row := fun r e k xs hr => by
      obtain ⟨q0, q1, q2⟩ := hown r e k xs (hhas r e k xs hr)
      rw [q0]
      refine ⟨q1, fun g hg => ?_⟩
      obtain ⟨r', p1, p2, p3⟩ := q2 g hg
      obtain ⟨u1, u2⟩ := h.row r' e k xs (.inl ⟨r, .inl p1⟩)
      refine ⟨(u2 g p2).1, fun d cs' hd => ?_⟩
      obtain ⟨cs, h1, _⟩ := hb1 d cs' hd
      exact (u2 g p2).2 d cs h1
    rowInj := fun r e k xs r' e' k' xs' g h1 h2 g1 g2 => by
      have m1 := hhas r e k xs h1
      have m2 := hhas r' e' k' xs' h2
      obtain ⟨z1, _, q1⟩ := hown r e k xs m1
      obtain ⟨z2, _, q2⟩ := hown r' e' k' xs' m2
      rw [z1] at g1
      rw [z2] at g2
      obtain ⟨s, p1, p2, _⟩ := q1 g g1
      obtain ⟨s', p1', p2', _⟩ := q2 g g2
      have := h.rowInj s e k xs s' e' k' xs' g (.inl ⟨r, .inl p1⟩) (.inl ⟨r', .inl p1'⟩) p2 p2'
      subst this
      exact Relab.inj hl r r' s e k xs e' k' xs' m1 m2 p1 p1'
    arr := fun d A hd => by
      obtain ⟨q1, q2, q3⟩ := h.arr d A (hk.mem d A hd)
      rw [Nm.anew_a (hasA_mem hd)]
      refine ⟨q1, q2, fun g hg => ⟨(q3 g hg).1, (q3 g hg).2.1, fun d' cs' hd' => ?_, fun r e k xs hr he => ?_⟩⟩
      · obtain ⟨cs, h1, _⟩ := hb1 d' cs' hd'
        exact (q3 g hg).2.2.1 d' cs h1
      · obtain ⟨z1, _, z2⟩ := hown r e k xs (hhas r e k xs hr)
        rw [z1] at he
        obtain ⟨s, p1, p2, _⟩ := z2 g he
        exact (q3 g hg).2.2.2 s e k xs (.inl ⟨r, .inl p1⟩) p2
    arrInj := fun d A d' A' g h1 h2 g1 g2 => by
      rw [Nm.anew_a (hasA_mem h1)] at g1
      rw [Nm.anew_a (hasA_mem h2)] at g2
      exact h.arrInj d A d' A' g (hk.mem d A h1) (hk.mem d' A' h2) g1 g2
    arrOne := fun d A A' h1 h2 => h.arrOne d A A' (hk.mem d A h1) (hk.mem d A' h2)
    fix := h.fix }
def Sub (S S' : St) : Prop := Relab S'.arrs S [] S'.tmps ∧ KeepB S'.arrs S S'.boxes ∧ KeepA S S'.arrs
theorem CT.sub {c : Code} {QE : Exit → St → Prop} (hw : Sub S S') (h : CT P N K0 w0 c S' QE) : CT P N K0 w0 c S QE := fun K n a w hs => by
  obtain ⟨h1, h2, h3⟩ := hw
  exact h K _ a w (hs.relab h1 h2 h3)
theorem LT.sub {l : List Oper} {ops : Array Oper} {Q : St → Prop} (hw : Sub S S') (h : LT P N K0 w0 ops l S' Q) : LT P N K0 w0 ops l S Q := fun K n a w hs => by
  obtain ⟨h1, h2, h3⟩ := hw
  exact h K _ a w (hs.relab h1 h2 h3)
theorem CT.loopX {α : Type} (T : α → St) (G : α → Prop) (μ : α → Nat) {c : Code} {QE : Exit → St → Prop} (x0 : α) (h0 : Sub S (T x0)) (hG : G x0)
    (h : ∀ x, G x → CT P N K0 w0 c (T x) (thenA (fun S' => ∃ x', G x' ∧ μ x' < μ x ∧ Sub S' (T x')) QE)) : CT P N K0 w0 (.loop c) S QE := by
  refine CT.sub h0 (CT.loop (fun m S' => ∃ x, G x ∧ μ x = m ∧ S' = T x) (m := μ x0) ⟨x0, hG, rfl, rfl⟩ ?_)
  rintro m S' ⟨x, hx, rfl, rfl⟩
  intro K n a w hs
  refine wp_mono (h x hx K n a w hs) ?_
  rintro e a' w' ⟨K', n', S', h1, h2⟩
  cases e with
  | normal =>
    obtain ⟨x', hx', hlt, q1, q2, q3⟩ := h1
    exact ⟨K', _, T x', ⟨_, hlt, x', hx', rfl, rfl⟩, h2.relab q1 q2 q3⟩
  | exit id => exact ⟨K', n', S', h1, h2⟩
  | goto id => exact ⟨K', n', S', h1, h2⟩
  | ret => exact ⟨K', n', S', h1, h2⟩
  | panic ch => exact ⟨K', n', S', h1, h2⟩
  | outgrown => exact ⟨K', n', S', h1, h2⟩
theorem LT.part {ops : Array Oper} {l : List Oper} {Q : St → Prop} {t : Nat} {c : Bool} (h : S.get t = .val (.bool c)) (ht : c = true → LT P N K0 w0 ops l (S.put t (.val (.bool true))) Q) (hf : c = false → LT P N K0 w0 ops l (S.put t (.val (.bool false))) Q) : LT P N K0 w0 ops l S Q := by
  intro K n a w hs
  have e : ∀ b, c = b → Sim N K0 w0 (S.put t (.val (.bool b))) K n a w := fun b hb => hs.weak ⟨⟨fun u => by
    rw [St.get_put]
    split
    · rename_i h1; subst h1; rw [h, hb]; exact .inl (.inl rfl)
    · exact .inl (.inl rfl), fun d A h => h⟩, fun d cs' hd => ⟨cs', hd, rfl, fun i c c' h1 h2 => by rw [h1] at h2; injection h2 with h2; exact .inl h2.symm⟩⟩ hs.boxOne
  cases c with
  | true => exact ht rfl K n a w (e true rfl)
  | false => exact hf rfl K n a w (e false rfl)
theorem HT.weak {ops : Array Oper} : ∀ {l : List Oper} {S S' : St} {Q : St → Prop}, (∀ t, S'.get t = S.get t) → S'.mem = S.mem → (∀ T T' : St, (∀ t, T'.get t = T.get t) → T'.mem = T.mem → Q T' → Q T) → HT P N K0 w0 ops l S' Q → HT P N K0 w0 ops l S Q
  | [], S, S', Q, hg, hb, hQ, h => hQ S S' hg hb h
  | o :: l, S, S', Q, hg, hb, hQ, ⟨v, h1, h2⟩ => by
    have hop : ∀ x, S'.opv x = S.opv x := fun x => by cases x <;> first | exact hg _ | rfl
    refine ⟨v, ?_, HT.weak (fun t => ?_) ?_ hQ h2⟩
    · rcases h1 with ⟨hgd, ho⟩ | ⟨hgd, hv⟩
      · refine .inl ⟨?_, fun S2 K n a w hs hb2 hop2 => ho S2 K n a w hs (hb2.trans hb.symm) (fun x hx => (hop2 x hx).trans (hop x).symm)⟩
        unfold GuardIs at *
        cases hgo : o.guard with
        | none => rfl
        | some p => rw [hgo] at hgd; obtain ⟨dg, q1, q2⟩ := hgd; exact ⟨dg, q1, by rw [← hg dg]; exact q2⟩
      · refine .inr ⟨?_, hv⟩
        unfold GuardIs at *
        cases hgo : o.guard with
        | none => rw [hgo] at hgd; exact hgd
        | some p => rw [hgo] at hgd; obtain ⟨dg, q1, q2⟩ := hgd; exact ⟨dg, q1, by rw [← hg dg]; exact q2⟩
    · cases o.dst with
      | none => exact hg t
      | some d =>
        simp only [St.putO, St.get_put]
        split
        · rfl
        · exact hg t
    · cases o.dst <;> exact hb
theorem HT.part {ops : Array Oper} {l l' : List Oper} {Q : St → Prop} {t : Nat} {c : Bool} (h : S.get t = .val (.bool c)) (ht : c = true → HT P N K0 w0 ops l (S.put t (.val (.bool true))) fun S' => LT P N K0 w0 ops l' S' Q) (hf : c = false → HT P N K0 w0 ops l (S.put t (.val (.bool false))) fun S' => LT P N K0 w0 ops l' S' Q) :
    HT P N K0 w0 ops l S fun S' => LT P N K0 w0 ops l' S' Q := by
  have hQ : ∀ T T' : St, (∀ t, T'.get t = T.get t) → T'.mem = T.mem → LT P N K0 w0 ops l' T' Q → LT P N K0 w0 ops l' T Q := fun T T' hg hb hl K n a w hs =>
    hl K n a w (hs.weak ⟨⟨fun t => .inl (.inl (hg t)), fun d A hd => by rw [← St.mem_arrs hb]; exact hd⟩, fun d cs' hd => ⟨cs', by rw [← St.mem_boxes hb]; exact hd, rfl, fun i c c' h1 h2 => by rw [h1] at h2; injection h2 with h2; exact .inl h2.symm⟩⟩ (fun d c1 c2 m1 m2 => by rw [St.mem_boxes hb] at m1 m2; exact hs.boxOne d c1 c2 m1 m2))
  have hg : ∀ b, c = b → ∀ u, (S.put t (.val (.bool b))).get u = S.get u := fun b hb u => by
    rw [St.get_put]
    split
    · rename_i h1; subst h1; rw [h, hb]
    · rfl
  cases c with
  | true => exact HT.weak (hg true rfl) rfl hQ (ht rfl)
  | false => exact HT.weak (hg false rfl) rfl hQ (hf rfl)
end
end Go.Proofs.Ytkfmammkbmhfaaa
namespace Go.Proofs.Ytkfmammkbmhfaaa
set_option linter.unusedSimpArgs false
set_option linter.unusedVariables false
open Go Go.RowKit Go.Shelf

section
variable {P : Program} {N : Nat} {K0 : Know} {w0 : Bas} {tm : List (Nat × AV)} {bs : List (Nat × List AV)} {ar : List (Nat × Arr)} {Q : St → Prop} {ops : Array Oper} {l l' : List Oper}
variable {d : Nat} {op : Op} {ty : TypeId} {pos : String} {aft : Array Edge} {v : AV}

theorem LT.cons1 (h : OpH P N K0 w0 ⟨some d, op, ty, pos, aft, none⟩ ⟨tm, bs, ar⟩ v) (hd : d < N) (hr : LT P N K0 w0 ops l ⟨(d, v) :: tm, bs, ar⟩ Q) : LT P N K0 w0 ops (⟨some d, op, ty, pos, aft, none⟩ :: l) ⟨tm, bs, ar⟩ Q :=
  LT.cons rfl (h.toT (fun t e => by injection e with e; rw [← e]; exact hd) hr)
theorem LT.guard1 {g : Nat} {want : Bool} {dg : Nat} {c : Bool} (h1 : dstAt ops g = some dg) (h2 : getT tm dg = .val (.bool c)) (hc : (c == want) = true) (hdg : dg < N) (h : OpH P N K0 w0 ⟨some d, op, ty, pos, aft, some (g, want)⟩ ⟨tm, bs, ar⟩ v) (hd : d < N)
    (hr : LT P N K0 w0 ops l ⟨(d, v) :: tm, bs, ar⟩ Q) : LT P N K0 w0 ops (⟨some d, op, ty, pos, aft, some (g, want)⟩ :: l) ⟨tm, bs, ar⟩ Q :=
  LT.guard rfl h1 hdg h2 hc (h.toT (fun t e => by injection e with e; rw [← e]; exact hd) hr)
theorem LT.skip1 {g : Nat} {want : Bool} {dg : Nat} {c : Bool} (h1 : dstAt ops g = some dg) (h2 : getT tm dg = .val (.bool c)) (hc : (c == want) = false) (hdg : dg < N) (hd : d < N)
    (hr : LT P N K0 w0 ops l ⟨(d, .val undef) :: tm, bs, ar⟩ Q) : LT P N K0 w0 ops (⟨some d, op, ty, pos, aft, some (g, want)⟩ :: l) ⟨tm, bs, ar⟩ Q :=
  LT.skipB rfl h1 hdg h2 hc (fun t e => by injection e with e; rw [← e]; exact hd) hr
theorem LT.skip2 {g : Nat} {want : Bool} {dg : Nat} (h1 : dstAt ops g = some dg) (h2 : getT tm dg = .val undef) (hdg : dg < N) (hd : d < N)
    (hr : LT P N K0 w0 ops l ⟨(d, .val undef) :: tm, bs, ar⟩ Q) : LT P N K0 w0 ops (⟨some d, op, ty, pos, aft, some (g, want)⟩ :: l) ⟨tm, bs, ar⟩ Q :=
  LT.skipU rfl h1 hdg h2 (fun t e => by injection e with e; rw [← e]; exact hd) hr
theorem LT.consT {o : Option Nat} (h : OpT P N K0 w0 ⟨o, op, ty, pos, aft, none⟩ ⟨tm, bs, ar⟩ fun S' => LT P N K0 w0 ops l S' Q) : LT P N K0 w0 ops (⟨o, op, ty, pos, aft, none⟩ :: l) ⟨tm, bs, ar⟩ Q :=
  LT.cons rfl h
theorem LT.part1 {g : Nat} {want : Bool} {o : Option Nat} {dg : Nat} {c : Bool} (h1 : dstAt ops g = some dg) (h2 : getT tm dg = .val (.bool c))
    (ht : c = true → LT P N K0 w0 ops (⟨o, op, ty, pos, aft, some (g, want)⟩ :: l) ⟨(dg, .val (.bool true)) :: tm, bs, ar⟩ Q) (hf : c = false → LT P N K0 w0 ops (⟨o, op, ty, pos, aft, some (g, want)⟩ :: l) ⟨(dg, .val (.bool false)) :: tm, bs, ar⟩ Q) : LT P N K0 w0 ops (⟨o, op, ty, pos, aft, some (g, want)⟩ :: l) ⟨tm, bs, ar⟩ Q :=
  LT.part (t := dg) h2 ht hf
theorem HT.cons1 {Q' : St → Prop} (h : OpH P N K0 w0 ⟨some d, op, ty, pos, aft, none⟩ ⟨tm, bs, ar⟩ v) (hr : HT P N K0 w0 ops l ⟨(d, v) :: tm, bs, ar⟩ Q') : HT P N K0 w0 ops (⟨some d, op, ty, pos, aft, none⟩ :: l) ⟨tm, bs, ar⟩ Q' :=
  ⟨v, .inl ⟨rfl, h⟩, hr⟩
theorem HT.guard1 {Q' : St → Prop} {g : Nat} {want : Bool} {dg : Nat} {c : Bool} (h1 : dstAt ops g = some dg) (h2 : getT tm dg = .val (.bool c)) (hc : (c == want) = true) (h : OpH P N K0 w0 ⟨some d, op, ty, pos, aft, some (g, want)⟩ ⟨tm, bs, ar⟩ v)
    (hr : HT P N K0 w0 ops l ⟨(d, v) :: tm, bs, ar⟩ Q') : HT P N K0 w0 ops (⟨some d, op, ty, pos, aft, some (g, want)⟩ :: l) ⟨tm, bs, ar⟩ Q' :=
  ⟨v, .inl ⟨⟨dg, h1, .inl ⟨c, h2, hc.symm⟩⟩, h⟩, hr⟩
theorem HT.skip1 {Q' : St → Prop} {g : Nat} {want : Bool} {dg : Nat} {c : Bool} (h1 : dstAt ops g = some dg) (h2 : getT tm dg = .val (.bool c)) (hc : (c == want) = false)
    (hr : HT P N K0 w0 ops l ⟨(d, .val undef) :: tm, bs, ar⟩ Q') : HT P N K0 w0 ops (⟨some d, op, ty, pos, aft, some (g, want)⟩ :: l) ⟨tm, bs, ar⟩ Q' :=
  ⟨.val undef, .inr ⟨⟨dg, h1, .inl ⟨c, h2, hc.symm⟩⟩, rfl⟩, hr⟩
theorem HT.skip2 {Q' : St → Prop} {g : Nat} {want : Bool} {dg : Nat} (h1 : dstAt ops g = some dg) (h2 : getT tm dg = .val undef)
    (hr : HT P N K0 w0 ops l ⟨(d, .val undef) :: tm, bs, ar⟩ Q') : HT P N K0 w0 ops (⟨some d, op, ty, pos, aft, some (g, want)⟩ :: l) ⟨tm, bs, ar⟩ Q' :=
  ⟨.val undef, .inr ⟨⟨dg, h1, .inr ⟨h2, rfl⟩⟩, rfl⟩, hr⟩
theorem HT.part1 {Q0 : St → Prop} {g : Nat} {want : Bool} {dg : Nat} {o : Option Nat} {c : Bool} (h1 : dstAt ops g = some dg) (h2 : getT tm dg = .val (.bool c))
    (ht : c = true → HT P N K0 w0 ops (⟨o, op, ty, pos, aft, some (g, want)⟩ :: l) ⟨(dg, .val (.bool true)) :: tm, bs, ar⟩ fun S' => LT P N K0 w0 ops l' S' Q0) (hf : c = false → HT P N K0 w0 ops (⟨o, op, ty, pos, aft, some (g, want)⟩ :: l) ⟨(dg, .val (.bool false)) :: tm, bs, ar⟩ fun S' => LT P N K0 w0 ops l' S' Q0) :
    HT P N K0 w0 ops (⟨o, op, ty, pos, aft, some (g, want)⟩ :: l) ⟨tm, bs, ar⟩ fun S' => LT P N K0 w0 ops l' S' Q0 :=
  HT.part (t := dg) h2 ht hf
theorem HT.nil1 {Q' : St → Prop} (h : Q' ⟨tm, bs, ar⟩) : HT P N K0 w0 ops [] ⟨tm, bs, ar⟩ Q' := h
section
variable {QE : Exit → St → Prop} {c1 c2 : Code}
theorem CT.seq1 (h : CT P N K0 w0 c1 ⟨tm, bs, ar⟩ (thenA (fun S' => CT P N K0 w0 c2 S' QE) QE)) : CT P N K0 w0 (c1.seq c2) ⟨tm, bs, ar⟩ QE := CT.seq h
theorem CT.condT {x : Operand} (hc : St.opv ⟨tm, bs, ar⟩ x = .val (.bool true)) (h : CT P N K0 w0 c1 ⟨tm, bs, ar⟩ QE) : CT P N K0 w0 (.cond x c1 c2) ⟨tm, bs, ar⟩ QE := CT.cond hc (fun _ => h) (fun e => by cases e)
theorem CT.condF {x : Operand} (hc : St.opv ⟨tm, bs, ar⟩ x = .val (.bool false)) (h : CT P N K0 w0 c2 ⟨tm, bs, ar⟩ QE) : CT P N K0 w0 (.cond x c1 c2) ⟨tm, bs, ar⟩ QE := CT.cond hc (fun e => by cases e) (fun _ => h)
end
/-! Loads, by how many cells. -/
variable {S : St} {dO : Option Nat} {g : Option (Nat × Bool)} {t : TypeId} {x : Operand}
theorem loadC2 {a b : Value} {r : List Value} (h : S.opv x = .cptr (a :: b :: r)) (hk : rowSize P t = some 2) : OpH P N K0 w0 ⟨dO, .load t x, ty, pos, aft, g⟩ S (.val (.agg #[a, b])) := OpH.loadC (cs := [a, b]) h hk rfl rfl
theorem loadC3 {a b c : Value} {r : List Value} (h : S.opv x = .cptr (a :: b :: c :: r)) (hk : rowSize P t = some 3) : OpH P N K0 w0 ⟨dO, .load t x, ty, pos, aft, g⟩ S (.val (.agg #[a, b, c])) := OpH.loadC (cs := [a, b, c]) h hk rfl rfl
theorem loadC4 {a b c d : Value} {r : List Value} (h : S.opv x = .cptr (a :: b :: c :: d :: r)) (hk : rowSize P t = some 4) : OpH P N K0 w0 ⟨dO, .load t x, ty, pos, aft, g⟩ S (.val (.agg #[a, b, c, d])) := OpH.loadC (cs := [a, b, c, d]) h hk rfl rfl
theorem loadB2 {p o : Nat} {cs : List AV} {a b : Value} (h : S.opv x = .ptr p o) (hb : getB S.boxes p = some cs) (hk : rowSize P t = some 2) (hv : valCells ((cs.drop o).take 2) = some [a, b]) : OpH P N K0 w0 ⟨dO, .load t x, ty, pos, aft, g⟩ S (.val (.agg #[a, b])) := OpH.loadB (vs := [a, b]) h hb hk hv rfl
theorem loadB3 {p o : Nat} {cs : List AV} {a b c : Value} (h : S.opv x = .ptr p o) (hb : getB S.boxes p = some cs) (hk : rowSize P t = some 3) (hv : valCells ((cs.drop o).take 3) = some [a, b, c]) : OpH P N K0 w0 ⟨dO, .load t x, ty, pos, aft, g⟩ S (.val (.agg #[a, b, c])) := OpH.loadB (vs := [a, b, c]) h hb hk hv rfl
theorem loadB4 {p o : Nat} {cs : List AV} {a b c d : Value} (h : S.opv x = .ptr p o) (hb : getB S.boxes p = some cs) (hk : rowSize P t = some 4) (hv : valCells ((cs.drop o).take 4) = some [a, b, c, d]) : OpH P N K0 w0 ⟨dO, .load t x, ty, pos, aft, g⟩ S (.val (.agg #[a, b, c, d])) := OpH.loadB (vs := [a, b, c, d]) h hb hk hv rfl
theorem map_at {α : Type} {enc : α → List Value} {xs : List α} {j : Nat} (h : j < xs.length) : (xs.map enc)[j]? = some (enc xs[j]) := by simp [h]
end
end Go.Proofs.Ytkfmammkbmhfaaa
namespace Go.Proofs.Ytkfmammkbmhfaaa
set_option linter.unusedSimpArgs false
set_option linter.unusedVariables false
open Go Go.RowKit Go.Shelf

theorem same_t {α : Type} [DecidableEq α] {a b : α} (h : a = b) : same a b = true := by simp [same, h]
theorem same_f {α : Type} [DecidableEq α] {a b : α} (h : ¬ a = b) : same a b = false := by simp [same, h]
theorem nsame_f {α : Type} [DecidableEq α] {a b : α} (h : a = b) : (!same a b) = false := by simp [same, h]
theorem nsame_t {α : Type} [DecidableEq α] {a b : α} (h : ¬ a = b) : (!same a b) = true := by simp [same, h]
theorem beqB_t {a b : Bool} (h : a = b) : (a == b) = true := by simp [h]
theorem nbeqB_f {a b : Bool} (h : a = b) : (!(a == b)) = false := by simp [h]
section
variable {P : Program} {N : Nat} {K0 : Know} {w0 : Bas} {tm : List (Nat × AV)} {bs : List (Nat × List AV)} {ar : List (Nat × Arr)} {QE : Exit → St → Prop} {c2 : Code}
theorem CT.seqR {id : Nat} {l : List Oper} (h : LT P N K0 w0 l.toArray l ⟨tm, bs, ar⟩ (fun S' => CT P N K0 w0 c2 S' QE)) : CT P N K0 w0 ((Code.region id l.toArray false).seq c2) ⟨tm, bs, ar⟩ QE := CT.seq (CT.region h)
theorem CT.seqD {id : Nat} {l : List Oper} (n : Nat) (hm : P.follows .mixedOrders = true) (hB : headB l.toArray N n = true)
    (h : HT P N K0 w0 l.toArray (l.take n) ⟨tm, bs, ar⟩ fun S' => LT P N K0 w0 l.toArray (l.drop n) S' fun S'' => CT P N K0 w0 c2 S'' QE) : CT P N K0 w0 ((Code.region id l.toArray true).seq c2) ⟨tm, bs, ar⟩ QE := CT.seq (CT.draw n hm hB h)
variable {S : St} {d : Option Nat} {ty : TypeId} {pos : String} {aft : Array Edge} {g : Option (Nat × Bool)} {t : TypeId} {x y : Operand}
theorem OpH.lenM {α : Type} {enc : α → List Value} {A : AV} {k : Nat} {xs : List α} (h1 : S.opv x = A) (hA : A.Sl k (xs.map enc)) (hk : (elemSize P t).isSome = true) : OpH P N K0 w0 ⟨d, .call { callee := .builtin .len, args := #[x], argTypes := #[t] }, ty, pos, aft, g⟩ S (.val (.int .i64 xs.length)) := by
  have := OpH.len (P := P) (N := N) (K0 := K0) (w0 := w0) (d := d) (ty := ty) (pos := pos) (aft := aft) (g := g) h1 hA hk
  rwa [List.length_map] at this
theorem OpH.subM {α : Type} {enc : α → List Value} {A : AV} {k : Nat} {xs ys : List α} {lo hi : Option Operand} {l h : Nat} (h1 : S.opv x = A) (hA : A.Sl k (xs.map enc)) (hk : elemSize P t = some k) (hlo : optOp S lo l 0) (hhi : optOp S hi h xs.length)
    (hl : l ≤ h) (hh : h ≤ xs.length) (hy : (xs.take h).drop l = ys) : OpH P N K0 w0 ⟨d, .slice t x lo hi none, ty, pos, aft, g⟩ S (.sl k (ys.map enc)) := by
  subst hy
  refine OpH.slice h1 hA hk hlo (by rw [List.length_map]; exact hhi) hl (by rw [List.length_map]; exact hh) ?_
  rw [List.map_drop, List.map_take]
theorem OpH.subHi {α : Type} {enc : α → List Value} {A : AV} {k h : Nat} {xs : List α} {kk : IntKind} {i : Int} (h1 : S.opv x = A) (hA : A.Sl k (xs.map enc)) (hk : elemSize P t = some k) (h2 : S.opv y = .val (.int kk i)) (hi : i = (h : Int)) (hh : h ≤ xs.length) :
    OpH P N K0 w0 ⟨d, .slice t x none (some y) none, ty, pos, aft, g⟩ S (.sl k ((xs.take h).map enc)) := by
  subst hi
  exact OpH.subM h1 hA hk (.inl ⟨rfl, rfl⟩) (.inr ⟨y, kk, rfl, h2⟩) (Nat.zero_le _) hh rfl
def arrInfo (P : Program) (t : TypeId) : Option (Nat × Nat) :=
  match P.underlying t with
  | some (.array n e) => (P.info? e).map fun i => (n, i.size)
  | _ => none
theorem run_arrAt {n k j b o : Nat} {kk : IntKind} (hk : arrInfo P t = some (n, k)) (hj : j < n) (w : World) : (Instr.indexAt t (.pointer (some ⟨b, o, none⟩)) (.int kk (j : Int))).run P w = .ok (.pointer (some ⟨b, o + j * k, none⟩)) w := by
  unfold arrInfo at hk
  split at hk
  · rename_i n' e hu
    obtain ⟨i, hi, he⟩ := Option.map_eq_some_iff.1 hk
    injection he with e1 e2
    subst e1 e2
    simp [Instr.indexAt, run_underlying hu, asIntOf, Instr.sureAddr, sizeOf, typeInfo, hi, hj, Addr.add_mid]
  · cases hk
theorem OpH.indexAC {n k j : Nat} {kk : IntKind} {i : Int} {vs : List Value} {v : AV} (h1 : S.opv x = .cptr vs) (h2 : S.opv y = .val (.int kk i)) (hi : i = (j : Int)) (hk : arrInfo P t = some (n, k)) (hj : j < n) (hv : .cptr (vs.drop (j * k)) = v) : OpH P N K0 w0 ⟨d, .indexAddr t x y, ty, pos, aft, g⟩ S v := by
  subst hv hi
  refine OpH.ret (fun S' K n a w hs _ hop => ?_) (no_row (by intros; intro h; cases h) (by intros; intro h; cases h))
  have e1 := hs.opv x
  have e2 := hs.opv y
  rw [hop x (by simp [Op.operands]), h1] at e1
  rw [hop y (by simp [Op.operands]), h2] at e2
  obtain ⟨b, o, e3, h3⟩ := e1
  refine ⟨.pointer (some ⟨b, o + j * k, none⟩), ?_, ⟨b, _, rfl, fun q u hq => ?_⟩⟩
  · simp only [execOp]
    rw [e3, show a.eval y = .int kk (j : Int) from e2, Sem.run_bind, run_arrAt hk hj]
    rfl
  · rw [List.getElem?_drop] at hq
    rw [Nat.add_assoc]
    exact h3 _ u hq
theorem OpH.indexAB {n k j b o : Nat} {kk : IntKind} {i : Int} {v : AV} (h1 : S.opv x = .ptr b o) (h2 : S.opv y = .val (.int kk i)) (hi : i = (j : Int)) (hk : arrInfo P t = some (n, k)) (hj : j < n) (hv : .ptr b (o + j * k) = v) : OpH P N K0 w0 ⟨d, .indexAddr t x y, ty, pos, aft, g⟩ S v := by
  subst hv hi
  refine OpH.ret (fun S' K n a w hs _ hop => ?_) (no_row (by intros; intro h; cases h) (by intros; intro h; cases h))
  have e1 := hs.opv x
  have e2 := hs.opv y
  rw [hop x (by simp [Op.operands]), h1] at e1
  rw [hop y (by simp [Op.operands]), h2] at e2
  obtain ⟨b', hb, e3⟩ := e1
  refine ⟨.pointer (some ⟨b', o + j * k, none⟩), ?_, ⟨b', hb, rfl⟩⟩
  simp only [execOp]
  rw [e3, show a.eval y = .int kk (j : Int) from e2, Sem.run_bind, run_arrAt hk hj]
  rfl
theorem OpH.max2 {kk k2 : IntKind} {a b : Int} {ats : Array TypeId} (h1 : S.opv x = .val (.int kk a)) (h2 : S.opv y = .val (.int k2 b)) : OpH P N K0 w0 ⟨d, .call { callee := .builtin .max, args := #[x, y], argTypes := ats }, ty, pos, aft, g⟩ S (.val (.int kk (if a < b then b else a))) := by
  refine OpH.ret (fun S' K n a w hs _ hop => ⟨_, ?_, rfl⟩) no_row_val
  have e1 := hs.opv x
  have e2 := hs.opv y
  rw [hop x (by simp [Op.operands, Call.operands]), h1] at e1
  rw [hop y (by simp [Op.operands, Call.operands]), h2] at e2
  simp [execOp, resolve, invoke, builtin, show a.eval x = _ from e1, show a.eval y = _ from e2, Builtin.max_, Builtin.max2]
theorem OpH.min2 {kk k2 : IntKind} {a b : Int} {ats : Array TypeId} (h1 : S.opv x = .val (.int kk a)) (h2 : S.opv y = .val (.int k2 b)) : OpH P N K0 w0 ⟨d, .call { callee := .builtin .min, args := #[x, y], argTypes := ats }, ty, pos, aft, g⟩ S (.val (.int kk (if b < a then b else a))) := by
  refine OpH.ret (fun S' K n a w hs _ hop => ⟨_, ?_, rfl⟩) no_row_val
  have e1 := hs.opv x
  have e2 := hs.opv y
  rw [hop x (by simp [Op.operands, Call.operands]), h1] at e1
  rw [hop y (by simp [Op.operands, Call.operands]), h2] at e2
  simp [execOp, resolve, invoke, builtin, show a.eval x = _ from e1, show a.eval y = _ from e2, Builtin.min_, Builtin.min2]
/-! ### Closures over boxes -/
def capsOf (S : St) : List (Nat × Nat) → Option (List (List Value))
  | [] => some []
  | (b, o) :: l => match getB S.boxes b with
    | some cs => match valCells (cs.drop o), capsOf S l with
      | some vs, some r => some (vs :: r)
      | _, _ => none
    | none => none
inductive ArgB (S : St) : AV → AV → Prop
  | a {A A'} (h : ArgOf A A') : ArgB S A A'
  | ptr {A b o cs vs} (hA : A = .ptr b o) (hb : getB S.boxes b = some cs) (hv : valCells (cs.drop o) = some vs) : ArgB S A (.cptr vs)
  | clo {f ds caps} (h : capsOf S ds = some caps) : ArgB S (.cloB f ds) (.clo f caps)
def ArgsB (S : St) : List Operand → List AV → Prop
  | [], [] => True
  | x :: xs, A :: As => ArgB S (S.opv x) A ∧ ArgsB S xs As
  | _, _ => False
theorem ArgsB.get {S : St} : ∀ {xs : List Operand} {As : List AV}, ArgsB S xs As → xs.length = As.length ∧ ∀ (i : Nat) A x, As[i]? = some A → xs[i]? = some x → ArgB S (S.opv x) A
  | [], [], _ => ⟨rfl, fun i A x h => by simp at h⟩
  | [], _ :: _, h => h.elim
  | _ :: _, [], h => h.elim
  | x :: xs, A :: As, h => by
    obtain ⟨h1, h2⟩ := ArgsB.get h.2
    refine ⟨by simp [h1], fun i B y hB hy => ?_⟩
    cases i with
    | zero => simp at hB hy; subst hB hy; exact h.1
    | succ i => exact h2 i B y (by simpa using hB) (by simpa using hy)
open Classical in
noncomputable def Know.boxed (K : Know) (n : Nm) (S : St) (w : World) : Know := fun b o => match K b o with
  | some v => some v
  | none => if ∃ d cs, (d, cs) ∈ S.boxes ∧ n.β d = some b then w.cell? ⟨b, o, none⟩ else none
theorem Know.boxed_le {K : Know} {n : Nm} {w : World} : K.le (K.boxed n S w) := fun b o v h => by unfold Know.boxed; rw [h]
theorem Know.boxed_ok {K : Know} {n : Nm} {w : World} (h : K.ok w) : (K.boxed n S w).ok w := fun b o v hv => by
  unfold Know.boxed at hv
  split at hv
  · rename_i u hu; injection hv with hv; subst hv; exact h b o u hu
  · split at hv
    · exact hv
    · cases hv
theorem box_cp {K : Know} {n : Nm} {a : Act} {w : World} (hs : Sim N K0 w0 S K n a w) {d o b : Nat} {cs : List AV} {vs : List Value} (hβ : n.β d = some b) (hb : getB S.boxes d = some cs) (hv : valCells (cs.drop o) = some vs) : CP (K.boxed n S w) vs (.pointer (some ⟨b, o, none⟩)) := by
  have hm := getB_mem hb
  obtain ⟨b', arr, ty, q1, q2, q3, q4, q5, q6⟩ := hs.box d cs hm
  rw [hβ] at q1
  injection q1 with q1
  subst q1
  obtain ⟨h3, h4⟩ := valCells_get hv
  refine ⟨b, o, rfl, fun j u hu => ?_⟩
  have h6 := h4 j u hu
  rw [List.getElem?_drop] at h6
  have h7 := q5 _ _ h6
  have hlt : o + j < arr.size := by rw [q4]; exact (List.getElem?_eq_some_iff.1 h6).1
  simp only [Array.getD_eq_getD_getElem?, Array.getElem?_eq_getElem hlt, Option.getD_some] at h7
  unfold Know.boxed
  rw [q6]
  simp only
  rw [if_pos ⟨d, cs, hm, hβ⟩]
  simp only [World.cell?, q3]
  simp only [Option.isSome_none, Bool.false_eq_true, if_false, Array.getElem?_eq_getElem hlt]
  exact congrArg some h7
theorem ArgB.rep {K : Know} {n : Nm} {a : Act} {w : World} (hs : Sim N K0 w0 S K n a w) {A A' : AV} {c : Value} (h : ArgB S A A') (hr : Rep K n A c) : Rep1 (K.boxed n S w) Nm.nil A' c := by
  cases h with
  | a h => exact (h.rep hr).mono Know.boxed_le
  | ptr hA hb hv =>
    subst hA
    obtain ⟨b', hβ, rfl⟩ := hr
    exact box_cp hs hβ hb hv
  | clo h =>
    rename_i f ds caps
    obtain ⟨ps, e, h1, h2⟩ := hr
    refine ⟨ps, e, ?_, ?_⟩
    · rw [h1]
      clear h2 h1 e
      induction ds generalizing caps with
      | nil => simp [capsOf] at h; subst h; rfl
      | cons q ds ih =>
        obtain ⟨b, o⟩ := q
        simp only [capsOf] at h
        split at h
        · split at h
          · rename_i r _ hr2
            injection h with h
            subst h
            simp [ih hr2]
          · cases h
        · cases h
    · intro i p vs hp hvs
      have key : ∀ (ds : List (Nat × Nat)) (caps : List (List Value)), capsOf S ds = some caps → ∀ (i : Nat) vs, caps[i]? = some vs → ∃ b o cs, ds[i]? = some (b, o) ∧ getB S.boxes b = some cs ∧ valCells (cs.drop o) = some vs := by
        intro ds
        induction ds with
        | nil => intro caps hc i vs hi; simp [capsOf] at hc; subst hc; simp at hi
        | cons q ds ih =>
          intro caps hc i vs hi
          obtain ⟨b, o⟩ := q
          simp only [capsOf] at hc
          split at hc
          · rename_i cs hcs
            split at hc
            · rename_i v r hv hr2
              injection hc with hc
              subst hc
              cases i with
              | zero => simp at hi; subst hi; exact ⟨b, o, cs, rfl, hcs, hv⟩
              | succ i => obtain ⟨b', o', cs', q1, q2⟩ := ih r hr2 i vs (by simpa using hi); exact ⟨b', o', cs', by simpa using q1, q2⟩
            · cases hc
          · cases hc
      obtain ⟨b, o, cs, q1, q2, q3⟩ := key ds caps h i vs hvs
      obtain ⟨b', hβ, rfl⟩ := h2 i p b o hp q1
      exact box_cp hs hβ q2 q3
theorem capsOf_eq {S S' : St} (hB : S'.boxes = S.boxes) : ∀ ds, capsOf S' ds = capsOf S ds
  | [] => rfl
  | (b, o) :: ds => by simp only [capsOf, hB, capsOf_eq hB ds]
theorem ArgB.at {S S' : St} (hB : S'.boxes = S.boxes) {B A : AV} (h : ArgB S B A) : ArgB S' B A := by
  cases h with
  | a h => exact .a h
  | ptr q1 q2 q3 => exact .ptr q1 (by rw [hB]; exact q2) q3
  | clo h => exact .clo (by rw [capsOf_eq hB]; exact h)
/-! ### Calls, the arguments reckoned -/
def AV.arg : AV → AV
  | .row _ _ k xs => .sl k xs
  | .full k xs => .sl k xs
  | .ptr _ _ | .cloB _ _ | .tup _ | .arow _ | .aptr _ _ _ _ | .asub _ _ _ _ => .dead
  | A => A
theorem AV.arg_of (A : AV) : ArgOf A A.arg := by
  cases A with
  | row r e k xs => exact .sl (.row r e k xs)
  | full k xs => exact .sl (.full k xs)
  | ptr => exact .dead
  | cloB => exact .dead
  | arow => exact .dead
  | aptr => exact .dead
  | asub => exact .dead
  | tup => exact .dead
  | dead => exact .dead
  | val v => exact .same rfl
  | sl k xs => exact .same rfl
  | cptr vs => exact .same rfl
  | clo f cs => exact .same rfl
  | pr p => exact .same rfl
theorem Args.of_map {S : St} : ∀ (xs : List Operand), Args S xs (xs.map fun x => (S.opv x).arg)
  | [] => trivial
  | x :: xs => ⟨(S.opv x).arg_of, Args.of_map xs⟩
theorem OpH.callF {f : FuncId} {fn : Func} {c : Code} {args : Array Operand} {ats : Array TypeId} {As : List AV} {res : AV} (hf : P.funcs[f]? = some fn) (hname : (fn.name == "runtime.NumGoroutine") = false) (hb : fn.body = some c)
    (hargs : (args.toList.map fun x => (S.opv x).arg) = As) (hg : Good P f As res) (hp : res.plain = true) : OpH P N K0 w0 ⟨d, .call { callee := .value (.func f), args := args, argTypes := ats }, ty, pos, aft, g⟩ S res :=
  OpH.call hf hname hb (by subst hargs; exact Args.of_map _) hg hp
def AV.argB (S : St) : AV → AV
  | .ptr b o => match getB S.boxes b with
    | some cs => match valCells (cs.drop o) with
      | some vs => .cptr vs
      | none => .dead
    | none => .dead
  | .cloB f ds => match capsOf S ds with
    | some caps => .clo f caps
    | none => .dead
  | A => A.arg
theorem AV.argB_of (S : St) (A : AV) : ArgB S A (A.argB S) := by
  cases A with
  | ptr b o =>
    simp only [AV.argB]
    split
    · rename_i cs hcs
      split
      · rename_i vs hv; exact .ptr rfl hcs hv
      · exact .a .dead
    · exact .a .dead
  | cloB f ds =>
    simp only [AV.argB]
    split
    · rename_i caps h; exact .clo h
    · exact .a .dead
  | _ => exact .a (AV.arg_of _)
/-! ### Steps that do more than give a slot a value -/
variable {Q : St → Prop} {e dn : Nat}
theorem T.box {v : Value} {cs : List AV} (h1 : St.opv ⟨tm, bs, ar⟩ x = .val v) (hcs : v.cells.toList.map AV.val = cs) (hd : dn < N) (hf : St.free ⟨tm, bs, ar⟩ dn = true) (hnb : bs.all (fun p => !(Nat.beq p.1 dn)) = true) (hq : Q ⟨(dn, .ptr dn 0) :: tm, (dn, cs) :: bs, ar⟩) :
    OpT P N K0 w0 ⟨some dn, .box e x, ty, pos, aft, g⟩ ⟨tm, bs, ar⟩ Q := OpT.box h1 hcs hd hf hnb hq
theorem T.alloc {z : Value} {cs : List AV} (hz : ((P.info? e).bind (·.zero)) = some z) (hcs : z.cells.toList.map AV.val = cs) (hd : dn < N) (hf : St.free ⟨tm, bs, ar⟩ dn = true) (hnb : bs.all (fun p => !(Nat.beq p.1 dn)) = true) (hq : Q ⟨(dn, .ptr dn 0) :: tm, (dn, cs) :: bs, ar⟩) :
    OpT P N K0 w0 ⟨some dn, .alloc e, ty, pos, aft, g⟩ ⟨tm, bs, ar⟩ Q := OpT.alloc hz hcs hd hf hnb hq
theorem T.store {b o : Nat} {v : Value} {cs cs' : List AV} (h1 : St.opv ⟨tm, bs, ar⟩ x = .ptr b o) (h2 : St.opv ⟨tm, bs, ar⟩ y = .val v) (hb : getB bs b = some cs) (hk : (P.info? t).map (·.size) = some v.cells.size) (ho1 : v.cells.all (·.oneCell') = true) (ho : o + v.cells.size ≤ cs.length)
    (hcs : cs.take o ++ v.cells.toList.map AV.val ++ cs.drop (o + v.cells.size) = cs') {bs' : List (Nat × List AV)} (hbs : setBx bs b cs' = bs') (hq : Q ⟨tm, bs', ar⟩) : OpT P N K0 w0 ⟨none, .store t x y, ty, pos, aft, g⟩ ⟨tm, bs, ar⟩ Q := OpT.store h1 h2 hb hk ho1 ho hcs hbs hq
theorem T.appNil {k bytes : Nat} {zs : Cells} {B : AV} (h1 : St.opv ⟨tm, bs, ar⟩ x = .val (.slice none 0 0)) (h2 : St.opv ⟨tm, bs, ar⟩ y = B) (hB : B.Src k zs) (hi : growInfo P t e k bytes = true) (hsmall : zs.length * bytes ≤ 140737488355328) (hd : dn < N) (hf : St.free ⟨tm, bs, ar⟩ dn = true)
    (hq : Q ⟨(dn, .row dn e k zs) :: tm, bs, ar⟩) : OpT P N K0 w0 ⟨some dn, .call { callee := .builtin .append, args := #[x, y], argTypes := #[t, t] }, ty, pos, aft, g⟩ ⟨tm, bs, ar⟩ Q := OpT.appNil h1 h2 hB hi hsmall hd hf hq
theorem T.app {k bytes r : Nat} {xs zs : Cells} {B : AV} (h1 : St.opv ⟨tm, bs, ar⟩ x = .row r e k xs) (h2 : St.opv ⟨tm, bs, ar⟩ y = B) (hB : B.Src k zs) (hi : growInfo P t e k bytes = true) (hsmall : (xs.length + zs.length) * bytes ≤ 140737488355328) (hd : dn < N)
    {T : St} (hT : St.unrow ⟨tm, bs, ar⟩ r = T) (hfT : T.free dn = true) (hq : Q (T.put dn (.row dn e k (xs ++ zs)))) : OpT P N K0 w0 ⟨some dn, .call { callee := .builtin .append, args := #[x, y], argTypes := #[t, t] }, ty, pos, aft, g⟩ ⟨tm, bs, ar⟩ Q := by
  subst hT
  intro K n a w hs
  have e1 := hs.opv x
  have e2 := hs.opv y
  rw [h1] at e1
  rw [h2] at e2
  obtain ⟨e1, hsl⟩ := e1
  have hhas : St.has ⟨tm, bs, ar⟩ (.row r e k xs) := St.opv_has (x := x) (by rw [h1]; exact .inl rfl)
  obtain ⟨q1, q2⟩ := hs.row r e k xs hhas
  have hs2 : Sim N K0 w0 (St.unrow ⟨tm, bs, ar⟩ r) K n a w := hs.weak (St.unrow_wk _ r) (fun b c1 c2 p1 p2 => by
    obtain ⟨⟨d1, cs1⟩, m1, f1⟩ := List.mem_map.1 p1
    obtain ⟨⟨d2, cs2⟩, m2, f2⟩ := List.mem_map.1 p2
    injection f1 with f1 f1'
    injection f2 with f2 f2'
    subst f1 f1' f2'
    simp only at f2
    subst f2
    rw [hs.boxOne _ _ _ m1 m2])
  refine app_core hs2 (xs := xs) (zs := zs) (B := B) hi rfl (by rw [show a.eval x = n.ρ r from e1]; exact q1) (fun g hg => ?_) (by rw [show a.eval x = n.ρ r from e1] at *; exact hsl) (hB.slice e2) hsmall hd hfT hq
  rw [show a.eval x = n.ρ r from e1] at hg
  refine ⟨(q2 g hg).1, fun b cs hb => ?_, fun r' e' k' xs' hr' hρ => ?_, fun d' A hd' hρ => (hs.arr d' A hd').2.2 g hρ |>.2.2.2 r e k xs hhas hg⟩
  · obtain ⟨⟨d1, cs1⟩, m1, f1⟩ := List.mem_map.1 hb
    injection f1 with f1 _
    subst f1
    exact (q2 g hg).2 d1 cs1 m1
  · have hne := St.unrow_has hr'
    exact hne (hs.rowInj r' e' k' xs' r e k xs g ((St.unrow_wk _ r).has hr') hhas hρ hg)
theorem T.callRow {f : FuncId} {fn : Func} {c : Code} {args : Array Operand} {ats : Array TypeId} {As : List AV} {r k : Nat} {xs : Cells} (hf : P.funcs[f]? = some fn) (hname : (fn.name == "runtime.NumGoroutine") = false) (hb : fn.body = some c)
    (hargs : (args.toList.map fun x => (St.opv ⟨tm, bs, ar⟩ x).arg) = As) (hg : Good P f As (.row r e k xs)) (hd : dn < N) (hfr : St.free ⟨tm, bs, ar⟩ dn = true) (hq : Q ⟨(dn, .row dn e k xs) :: tm, bs, ar⟩) : OpT P N K0 w0 ⟨some dn, .call { callee := .value (.func f), args := args, argTypes := ats }, ty, pos, aft, g⟩ ⟨tm, bs, ar⟩ Q := OpT.callRow hf hname hb (by subst hargs; exact Args.of_map _) hg hd hfr hq
theorem OpH.callFW {f : FuncId} {fn : Func} {c : Code} {args : Array Operand} {ats : Array TypeId} {As : List AV} {r e k : Nat} {xs : Cells} (hf : P.funcs[f]? = some fn) (hname : (fn.name == "runtime.NumGoroutine") = false) (hb : fn.body = some c)
    (hargs : (args.toList.map fun x => (S.opv x).arg) = As) (hg : Good P f As (.row r e k xs)) : OpH P N K0 w0 ⟨d, .call { callee := .value (.func f), args := args, argTypes := ats }, ty, pos, aft, g⟩ S (.sl k xs) := by
  refine OpH.callF hf hname hb hargs (res := .sl k xs) ?_ rfl
  intro K w cargs hok hlen hrep
  refine (hg K w cargs hok hlen hrep).mono ?_
  rintro e' w' ⟨c, K', rfl, h1, h2, h3, h4, ρ, h5, _⟩
  exact ⟨c, K', rfl, h1, h2, h3, h4, ρ, h5.2, fun r e k xs h => (by rcases h with h | ⟨_, h, _⟩ <;> cases h), fun r e k xs r' e' k' xs' g h => (by rcases h with h | ⟨_, h, _⟩ <;> cases h)⟩
theorem Sub.mk {S : St} {l : List (Nat × AV)} {bs : List (Nat × List AV)} {ar : List (Nat × Arr)} (h1 : Relab ar S [] l) (h2 : KeepB ar S bs) (h3 : KeepA S ar) : Sub S ⟨l, bs, ar⟩ := ⟨h1, h2, h3⟩
theorem KeepB.same {S : St} {d : Nat} {cs : List AV} {l : List (Nat × List AV)} (h : getB S.boxes d = some cs) (hn : cs.all AV.noRow = true) (hn2 : l.all (fun p => !(Nat.beq p.1 d)) = true) (t : KeepB ar S l) : KeepB ar S ((d, cs) :: l) :=
  .cons h rfl (fun i c c' h1 h2 => by rw [h1] at h2; injection h2 with h2; exact .keep h2 (List.all_eq_true.1 hn c' (by rw [← h2]; exact List.mem_of_getElem? h1))) hn2 t
def AV.okIn (ar : List (Nat × Arr)) (A : AV) : Bool := A.noRow || (match A.aname with | some d => hasA ar d | none => false)
theorem KeepB.sameA {S : St} {d : Nat} {cs : List AV} {l : List (Nat × List AV)} (h : getB S.boxes d = some cs) (hn : cs.all (AV.okIn ar) = true) (hn2 : l.all (fun p => !(Nat.beq p.1 d)) = true) (t : KeepB ar S l) : KeepB ar S ((d, cs) :: l) :=
  .cons h rfl (fun i c c' h1 h2 => by
    rw [h1] at h2; injection h2 with h2
    have := List.all_eq_true.1 hn c' (by rw [← h2]; exact List.mem_of_getElem? h1)
    simp only [AV.okIn, Bool.or_eq_true] at this
    rcases this with this | this
    · exact .keep h2 this
    · split at this
      · rename_i q hq; exact .aref h2 hq this
      · cases this) hn2 t
theorem CT.condD {c1 : Code} {q : Prop} [Decidable q] (hc : St.opv ⟨tm, bs, ar⟩ x = .val (.bool (decide q))) (ht : q → CT P N K0 w0 c1 ⟨tm, bs, ar⟩ QE) (hf : ¬ q → CT P N K0 w0 c2 ⟨tm, bs, ar⟩ QE) : CT P N K0 w0 (.cond x c1 c2) ⟨tm, bs, ar⟩ QE :=
  CT.cond hc (fun h => ht (of_decide_eq_true h)) (fun h => hf (of_decide_eq_false h))
theorem CT.condN {c1 : Code} {q : Prop} [Decidable q] (hc : St.opv ⟨tm, bs, ar⟩ x = .val (.bool (!decide q))) (ht : ¬ q → CT P N K0 w0 c1 ⟨tm, bs, ar⟩ QE) (hf : q → CT P N K0 w0 c2 ⟨tm, bs, ar⟩ QE) : CT P N K0 w0 (.cond x c1 c2) ⟨tm, bs, ar⟩ QE :=
  CT.cond hc (fun h => ht (by simpa using h)) (fun h => hf (by simpa using h))
theorem LT.partD {ops : Array Oper} {l : List Oper} {op : Op} {g' : Nat} {want : Bool} {o : Option Nat} {dg : Nat} {q : Prop} [Decidable q] (h1 : dstAt ops g' = some dg) (h2 : getT tm dg = .val (.bool (decide q)))
    (ht : q → LT P N K0 w0 ops (⟨o, op, ty, pos, aft, some (g', want)⟩ :: l) ⟨(dg, .val (.bool true)) :: tm, bs, ar⟩ Q) (hf : ¬ q → LT P N K0 w0 ops (⟨o, op, ty, pos, aft, some (g', want)⟩ :: l) ⟨(dg, .val (.bool false)) :: tm, bs, ar⟩ Q) : LT P N K0 w0 ops (⟨o, op, ty, pos, aft, some (g', want)⟩ :: l) ⟨tm, bs, ar⟩ Q :=
  LT.part (t := dg) h2 (fun h => ht (of_decide_eq_true h)) (fun h => hf (of_decide_eq_false h))
theorem HT.partD {ops : Array Oper} {l l' : List Oper} {op : Op} {g' : Nat} {want : Bool} {o : Option Nat} {dg : Nat} {q : Prop} [Decidable q] (h1 : dstAt ops g' = some dg) (h2 : getT tm dg = .val (.bool (decide q)))
    (ht : q → HT P N K0 w0 ops (⟨o, op, ty, pos, aft, some (g', want)⟩ :: l) ⟨(dg, .val (.bool true)) :: tm, bs, ar⟩ fun S' => LT P N K0 w0 ops l' S' Q) (hf : ¬ q → HT P N K0 w0 ops (⟨o, op, ty, pos, aft, some (g', want)⟩ :: l) ⟨(dg, .val (.bool false)) :: tm, bs, ar⟩ fun S' => LT P N K0 w0 ops l' S' Q) :
    HT P N K0 w0 ops (⟨o, op, ty, pos, aft, some (g', want)⟩ :: l) ⟨tm, bs, ar⟩ fun S' => LT P N K0 w0 ops l' S' Q :=
  HT.part (t := dg) h2 (fun h => ht (of_decide_eq_true h)) (fun h => hf (of_decide_eq_false h))
theorem LT.partN {ops : Array Oper} {l : List Oper} {op : Op} {g' : Nat} {want : Bool} {o : Option Nat} {dg : Nat} {q : Prop} [Decidable q] (h1 : dstAt ops g' = some dg) (h2 : getT tm dg = .val (.bool (!decide q)))
    (ht : ¬ q → LT P N K0 w0 ops (⟨o, op, ty, pos, aft, some (g', want)⟩ :: l) ⟨(dg, .val (.bool true)) :: tm, bs, ar⟩ Q) (hf : q → LT P N K0 w0 ops (⟨o, op, ty, pos, aft, some (g', want)⟩ :: l) ⟨(dg, .val (.bool false)) :: tm, bs, ar⟩ Q) : LT P N K0 w0 ops (⟨o, op, ty, pos, aft, some (g', want)⟩ :: l) ⟨tm, bs, ar⟩ Q :=
  LT.part (t := dg) h2 (fun h => ht (by simpa using h)) (fun h => hf (by simpa using h))
theorem HT.partN {ops : Array Oper} {l l' : List Oper} {op : Op} {g' : Nat} {want : Bool} {o : Option Nat} {dg : Nat} {q : Prop} [Decidable q] (h1 : dstAt ops g' = some dg) (h2 : getT tm dg = .val (.bool (!decide q)))
    (ht : ¬ q → HT P N K0 w0 ops (⟨o, op, ty, pos, aft, some (g', want)⟩ :: l) ⟨(dg, .val (.bool true)) :: tm, bs, ar⟩ fun S' => LT P N K0 w0 ops l' S' Q) (hf : q → HT P N K0 w0 ops (⟨o, op, ty, pos, aft, some (g', want)⟩ :: l) ⟨(dg, .val (.bool false)) :: tm, bs, ar⟩ fun S' => LT P N K0 w0 ops l' S' Q) :
    HT P N K0 w0 ops (⟨o, op, ty, pos, aft, some (g', want)⟩ :: l) ⟨tm, bs, ar⟩ fun S' => LT P N K0 w0 ops l' S' Q :=
  HT.part (t := dg) h2 (fun h => ht (by simpa using h)) (fun h => hf (by simpa using h))
end
/-! ### Side conditions, by rote -/
theorem bd {p : Prop} (h : p := by first | omega | (simp; omega) | simp) : p := h
theorem szP {p : Prop} (h : p := by first | omega | (simp only [List.length_map, List.length_cons, List.length_nil, List.length_take, List.length_drop, List.length_append, List.length_reverse]; omega) | (simp; omega)) : p := h
theorem slP {A : AV} {k : Nat} {xs : Cells} (h : A.Sl k xs := by first | exact .sl _ _ | exact .row _ _ _ _ | exact .full _ _) : A.Sl k xs := h
theorem srP {A : AV} {k : Nat} {xs : Cells} (h : A.Src k xs := by first | exact .s (.sl _ _) | exact .s (.row _ _ _ _) | exact .s (.full _ _) | exact .nil) : A.Src k xs := h
end Go.Proofs.Ytkfmammkbmhfaaa

/- Abstract walks: rows that are written in place. -/
namespace Go.Proofs.Ytkfmammkbmhfaaa
set_option linter.unusedSimpArgs false
set_option linter.unusedVariables false
open Go Go.RowKit Go.Shelf

theorem own_val {w : World} {base e k : Nat} {v : Value} {n : Nat} {cs : List Value} (h : w.ownsRow base e k v n cs) : ∃ A cap, v = .slice A n cap ∧ n ≤ cap ∧ (A = none → cap = 0 ∧ n = 0) ∧ n ≤ 9223372036854775807 ∧ ∀ a, A = some a → ∃ g, a = ⟨g, 0, none⟩ ∧ v.ownBlock = some g := by
  rcases h.2 with ⟨rfl, rfl⟩ | ⟨g, cap, cur, rfl, _, _, h1, h2, _⟩
  · exact ⟨none, 0, rfl, Nat.le_refl _, fun _ => ⟨rfl, rfl⟩, by omega, fun a h => by cases h⟩
  · exact ⟨_, cap, rfl, h1, fun h => (by cases h), by unfold maxLen at h2; omega, fun a h => ⟨g, by injection h with h; exact h.symm, rfl⟩⟩
theorem own_base0 {w : World} {base e k : Nat} {v : Value} {n : Nat} {cs : List Value} (h : w.ownsRow base e k v n cs) : w.ownsRow 0 e k v n cs := by
  refine ⟨h.1, ?_⟩
  rcases h.2 with h | ⟨g, cap, cur, q1, q2, q3⟩
  · exact .inl h
  · exact .inr ⟨g, cap, cur, q1, Nat.zero_le _, q3⟩
theorem own_up {w : World} {base e k : Nat} {v : Value} {n : Nat} {cs : List Value} (h : w.ownsRow 0 e k v n cs) (hb : ∀ g, v.ownBlock = some g → base ≤ g) : w.ownsRow base e k v n cs := by
  refine ⟨h.1, ?_⟩
  rcases h.2 with h | ⟨g, cap, cur, q1, q2, q3⟩
  · exact .inl h
  · exact .inr ⟨g, cap, cur, q1, hb g (by rw [q1]; rfl), q3⟩
theorem Arr.ok_len {A : Arr} (h : A.ok) : ∀ x ∈ A.xs, x.length = A.k := fun x hx => (h x hx).1
theorem Arr.ok_one {A : Arr} (h : A.ok) : oneCells A.xs = true := List.all_eq_true.2 fun x hx => List.all_eq_true.2 (h x hx).2
theorem Arr.ok_of {e k : Nat} {xs : Cells} (h1 : ∀ x ∈ xs, x.length = k) (h2 : oneCells xs = true) : Arr.ok ⟨e, k, xs⟩ := fun x hx => ⟨h1 x hx, fun u hu => List.all_eq_true.1 (List.all_eq_true.1 h2 x hx) u hu⟩

section
variable {P : Program} {N : Nat} {K0 : Know} {w0 : Bas} {S S' : St} {K K' : Know} {n : Nm} {a : Act} {w w' : World} {Q : St → Prop}
variable {dO : Option Nat} {ty : TypeId} {pos : String} {aft : Array Edge} {g : Option (Nat × Bool)} {t : TypeId} {x y : Operand}

theorem Sim.putArr (h : Sim N K0 w0 S K n a w) {s d : Nat} (hd : s < N) (hf : S.free d = true) {e k : Nat} {xs : Cells} {c : Value} (hown : w.ownsRow 0 e k c xs.length xs.flatten) (hok : Arr.ok ⟨e, k, xs⟩)
    (hlim : ∀ g, c.ownBlock = some g → w0.isOwn g ∧ (∀ o, K g o = none) ∧ (∀ b cs, (b, cs) ∈ S.boxes → n.β b ≠ some g) ∧ (∀ r e' k' xs', S.has (.row r e' k' xs') → (n.ρ r).ownBlock ≠ some g) ∧ ∀ d' A, (d', A) ∈ S.arrs → (n.ρ d').ownBlock ≠ some g) :
    Sim N K0 w0 ⟨(s, .arow d) :: S.tmps, S.boxes, (d, ⟨e, k, xs⟩) :: S.arrs⟩ K (n.setρ d c) (a.put (some s) c) w := by
  have h1 := h.setρ hf c
  have hsz : s < a.tmps.size := Nat.lt_of_lt_of_le hd h.size
  have hρ : (n.setρ d c).ρ d = c := by simp [Nm.setρ]
  have hρ' : ∀ d' A, (d', A) ∈ S.arrs → (n.setρ d c).ρ d' = n.ρ d' := fun d' A hm => by simp only [Nm.setρ, if_neg (St.free_arr hf hm)]
  have hh : ∀ r e' k' xs', (⟨(s, .arow d) :: S.tmps, S.boxes, (d, ⟨e, k, xs⟩) :: S.arrs⟩ : St).has (.row r e' k' xs') → S.has (.row r e' k' xs') := by
    intro r e' k' xs' hr
    rcases hr with ⟨t, ht⟩ | hb
    · have ht' : (AV.row r e' k' xs').of ((S.put s (.arow d)).get t) := ht
      rw [St.get_put] at ht'
      split at ht'
      · rcases ht' with ht' | ⟨_, ht', _⟩ <;> cases ht'
      · exact .inl ⟨t, ht'⟩
    · exact .inr hb
  exact {
    size := by simp [Act.put]; exact h.size
    defers := fun ht => (h.defers ht).put
    below := h.below
    k0 := h.k0
    knew := h.knew
    ok := h.ok
    tmp := fun t => by
      show Rep K _ ((S.put s (.arow d)).get t) _
      rw [St.get_put]
      by_cases e1 : s = t
      · subst e1
        rw [if_pos rfl]
        simp only [Act.put, Array.getD_eq_getD_getElem?, Array.getElem?_setIfInBounds, hsz, if_true, Option.getD_some]
        exact hρ.symm
      · rw [if_neg e1]
        simp only [Act.put, Array.getD_eq_getD_getElem?, Array.getElem?_setIfInBounds, e1, if_false]
        have := h1.tmp t
        rwa [Array.getD_eq_getD_getElem?] at this
    box := h1.box
    boxInj := h.boxInj
    boxOne := h.boxOne
    row := fun r e' k' xs' hr => h1.row r e' k' xs' (hh r e' k' xs' hr)
    rowInj := fun r e1 k1 xs1 r' e2 k2 xs2 g q1 q2 => h1.rowInj r e1 k1 xs1 r' e2 k2 xs2 g (hh _ _ _ _ q1) (hh _ _ _ _ q2)
    arr := fun d' A hm => by
      rcases List.mem_cons.1 hm with e1 | hm
      · injection e1 with e1 e2
        subst e1 e2
        rw [hρ]
        refine ⟨hown, hok, fun g hg => ⟨(hlim g hg).1, (hlim g hg).2.1, (hlim g hg).2.2.1, fun r e' k' xs' hr => ?_⟩⟩
        have hr' := hh r e' k' xs' hr
        simp only [Nm.setρ, if_neg (St.free_has hf hr')]
        exact (hlim g hg).2.2.2.1 r e' k' xs' hr'
      · obtain ⟨q1, q2, q3⟩ := h1.arr d' A hm
        exact ⟨q1, q2, fun g hg => ⟨(q3 g hg).1, (q3 g hg).2.1, (q3 g hg).2.2.1, fun r e' k' xs' hr => (q3 g hg).2.2.2 r e' k' xs' (hh r e' k' xs' hr)⟩⟩
    arrInj := fun d1 A1 d2 A2 g p1 p2 q1 q2 => by
      rcases List.mem_cons.1 p1 with e1 | p1 <;> rcases List.mem_cons.1 p2 with e2 | p2
      · injection e1 with e1; injection e2 with e2; exact e1.trans e2.symm
      · injection e1 with e1 _
        rw [e1, hρ] at q1
        rw [hρ' _ _ p2] at q2
        exact absurd q2 ((hlim g q1).2.2.2.2 _ _ p2)
      · injection e2 with e2 _
        rw [e2, hρ] at q2
        rw [hρ' _ _ p1] at q1
        exact absurd q1 ((hlim g q2).2.2.2.2 _ _ p1)
      · rw [hρ' _ _ p1] at q1; rw [hρ' _ _ p2] at q2; exact h.arrInj d1 A1 d2 A2 g p1 p2 q1 q2
    arrOne := fun d1 A1 A2 p1 p2 => by
      rcases List.mem_cons.1 p1 with e1 | p1 <;> rcases List.mem_cons.1 p2 with e2 | p2
      · injection e1 with _ e1; injection e2 with _ e2; exact e1.trans e2.symm
      · injection e1 with e1 _; exact absurd e1 (St.free_arr hf p2)
      · injection e2 with e2 _; exact absurd e2 (St.free_arr hf p1)
      · exact h.arrOne d1 A1 A2 p1 p2
    fix := h.fix }
theorem own_cells {base e k : Nat} {v : Value} {m : Nat} {cs : List Value} (h : w.ownsRow base e k v m cs) : ∀ g, v.ownBlock = some g → ∃ c t f, w.heap[g]? = some (.cells c t f) := fun g hg => by
  rcases h.2 with ⟨q, _⟩ | ⟨g', cap, cur, u1, _, u3, _⟩
  · rw [q] at hg; cases hg
  · rw [u1] at hg; injection hg with hg; subst hg; exact ⟨_, _, _, u3⟩
theorem Sim.elsewhere (h : Sim N K0 w0 S K n a w) {g0 : Option Nat} (hg : w.grownBy w' g0) (hcl : ∀ g, g0 = some g → ∃ c t f, w.heap[g]? = some (.cells c t f))
    (hfr : ∀ g, g0 = some g → w0.isOwn g ∧ (∀ o, K g o = none) ∧ (∀ b cs, (b, cs) ∈ S.boxes → n.β b ≠ some g) ∧ (∀ r e' k' xs', S.has (.row r e' k' xs') → (n.ρ r).ownBlock ≠ some g) ∧ ∀ d' A, (d', A) ∈ S.arrs → (n.ρ d').ownBlock ≠ some g) : Sim N K0 w0 S K n a w' where
  size := h.size
  defers := fun ht => (h.defers ht).grown hg hcl
  below := h.below.step hg.os hg.tape hg.output hg.size fun b hb ho => hg.block b (Nat.lt_of_lt_of_le hb h.below.size) (fun e => by
    rcases (hfr b e.symm).1 with q | q
    · omega
    · exact ho q)
  k0 := h.k0
  knew := h.knew
  ok := fun b o u hu => by
    have h1 := h.ok b o u hu
    rw [World.cell?_of_block (hg.block b (Know.lt h.ok hu) (fun e => by rw [(hfr b e.symm).2.1 o] at hu; cases hu))]
    exact h1
  tmp := h.tmp
  box := fun d cs hd => by
    obtain ⟨b, arr, ty, q1, q2, q3, q4⟩ := h.box d cs hd
    exact ⟨b, arr, ty, q1, q2, by rw [hg.block b (Array.getElem?_eq_some_iff.1 q3).1 (fun e => (hfr b e.symm).2.2.1 d cs hd q1)]; exact q3, q4⟩
  boxInj := h.boxInj
  boxOne := h.boxOne
  row := fun r e k xs hr => by
    obtain ⟨q1, q2⟩ := h.row r e k xs hr
    refine ⟨q1.kept hg ?_, q2⟩
    cases hv : (n.ρ r).ownBlock with
    | none => exact .inl rfl
    | some g => exact .inr fun e' => (hfr g e'.symm).2.2.2.1 r e k xs hr hv
  rowInj := h.rowInj
  arr := fun d A hd => by
    obtain ⟨q1, q2, q3⟩ := h.arr d A hd
    refine ⟨q1.kept hg ?_, q2, q3⟩
    cases hv : (n.ρ d).ownBlock with
    | none => exact .inl rfl
    | some g => exact .inr fun e' => (hfr g e'.symm).2.2.2.2 d A hd hv
  arrInj := h.arrInj
  arrOne := h.arrOne
  fix := h.fix

def AV.unarr1 (d : Nat) : AV → AV
  | .arow d' => cond (Nat.beq d' d) .dead (.arow d')
  | .aptr d' k j o => cond (Nat.beq d' d) .dead (.aptr d' k j o)
  | .asub d' k lo m => cond (Nat.beq d' d) .dead (.asub d' k lo m)
  | A => A
def St.unarr (S : St) (d : Nat) : St := ⟨S.tmps.map fun p => (p.1, p.2.map1 (AV.unarr1 d)), S.boxes.map fun p => (p.1, p.2.map (AV.unarr1 d)), S.arrs.filter fun p => !(Nat.beq p.1 d)⟩
theorem unarr1_wk (d : Nat) (A : AV) : A.wk1 (A.unarr1 d) := by
  cases A with
  | arow d' =>
    simp only [AV.unarr1]
    cases Nat.beq d' d
    · exact .inl rfl
    · exact .inr (.inl rfl)
  | aptr d' k j o =>
    simp only [AV.unarr1]
    cases Nat.beq d' d
    · exact .inl rfl
    · exact .inr (.inl rfl)
  | asub d' k lo m =>
    simp only [AV.unarr1]
    cases Nat.beq d' d
    · exact .inl rfl
    · exact .inr (.inl rfl)
  | _ => exact .inl rfl
theorem unarr_wk (d : Nat) (A : AV) : A.wk (A.map1 (AV.unarr1 d)) := by
  cases A with
  | tup vs => exact .inr ⟨vs, vs.map (AV.unarr1 d), rfl, rfl, by simp, fun i v v' h1 h2 => by
      rw [List.getElem?_map, h1] at h2
      simp at h2
      subst h2
      exact unarr1_wk d v⟩
  | dead => exact .inl (unarr1_wk d _)
  | val v => exact .inl (unarr1_wk d _)
  | sl k xs => exact .inl (unarr1_wk d _)
  | full k xs => exact .inl (unarr1_wk d _)
  | cptr vs => exact .inl (unarr1_wk d _)
  | clo f cs => exact .inl (unarr1_wk d _)
  | row r' e k xs => exact .inl (unarr1_wk d _)
  | ptr d' o => exact .inl (unarr1_wk d (.ptr d' o))
  | cloB f ds => exact .inl (unarr1_wk d _)
  | pr p => exact .inl (unarr1_wk d _)
  | arow d' => exact .inl (unarr1_wk d (.arow d'))
  | aptr d' k j o => exact .inl (unarr1_wk d (.aptr d' k j o))
  | asub d' k lo m => exact .inl (unarr1_wk d (.asub d' k lo m))
theorem St.unarr_wk (S : St) (d : Nat) : S.wk (S.unarr d) := by
  refine ⟨⟨fun t => ?_, fun d' A h => (List.mem_filter.1 h).1⟩, fun d' cs' h => ?_⟩
  · show AV.wk (getT S.tmps t) (getT (S.tmps.map _) t)
    rw [getT_map (AV.map1 (AV.unarr1 d)) rfl]
    exact Proofs.Ytkfmammkbmhfaaa.unarr_wk d _
  · obtain ⟨⟨d2, cs⟩, hm, e⟩ := List.mem_map.1 h
    injection e with e1 e2
    subst e1 e2
    refine ⟨cs, hm, by simp, fun i c c' h1 h2 => ?_⟩
    rw [List.getElem?_map, h1] at h2
    simp at h2
    subst h2
    exact unarr1_wk d c
theorem Sim.unarr (hs : Sim N K0 w0 S K n a w) (d : Nat) : Sim N K0 w0 (S.unarr d) K n a w := hs.weak (St.unarr_wk S d) (fun b c1 c2 p1 p2 => by
    obtain ⟨⟨d1, cs1⟩, m1, f1⟩ := List.mem_map.1 p1
    obtain ⟨⟨d2, cs2⟩, m2, f2⟩ := List.mem_map.1 p2
    injection f1 with f1 f1'
    injection f2 with f2 f2'
    subst f1 f1' f2'
    simp only at f2
    subst f2
    rw [hs.boxOne _ _ _ m1 m2])
theorem Sim.apart (hs : Sim N K0 w0 S K n a w) {d : Nat} {A : Arr} (hm : (d, A) ∈ S.arrs) {g : Nat} (hg : (n.ρ d).ownBlock = some g) :
    w0.isOwn g ∧ (∀ o, K g o = none) ∧ (∀ b cs, (b, cs) ∈ (S.unarr d).boxes → n.β b ≠ some g) ∧ (∀ r e' k' xs', (S.unarr d).has (.row r e' k' xs') → (n.ρ r).ownBlock ≠ some g) ∧ ∀ d' A, (d', A) ∈ (S.unarr d).arrs → (n.ρ d').ownBlock ≠ some g := by
  obtain ⟨_, _, q3⟩ := hs.arr d A hm
  obtain ⟨h1, h2, h3, h4⟩ := q3 g hg
  refine ⟨h1, h2, fun b cs hb => ?_, fun r e' k' xs' hr => h4 r e' k' xs' ((St.unarr_wk S d).has hr), fun d' A' hd' he => ?_⟩
  · obtain ⟨cs0, h5, _⟩ := (St.unarr_wk S d).2 b cs hb
    exact h3 b cs0 h5
  · obtain ⟨h5, h6⟩ := List.mem_filter.1 hd'
    have := hs.arrInj d' A' d A g h5 hm he hg
    subst this
    simp at h6

/-! ### What is read of such rows -/
theorem OpH.lenA {d m : Nat} {A : Arr} (h1 : S.opv x = .arow d) (hA : getA S.arrs d = some A) (hk : (elemSize P t).isSome = true) (hm : A.xs.length = m) : OpH P N K0 w0 ⟨dO, .call { callee := .builtin .len, args := #[x], argTypes := #[t] }, ty, pos, aft, g⟩ S (.val (.int .i64 (m : Nat))) := by
  subst hm
  refine OpH.ret (fun S' K n a w hs hB hop => ?_) no_row_val
  have e1 := hs.opv x
  rw [hop x (by simp [Op.operands, Call.operands]), h1] at e1
  obtain ⟨q1, _⟩ := hs.arr d A (by rw [St.mem_arrs hB]; exact getA_mem hA)
  obtain ⟨B, cap, e3, _⟩ := own_val q1
  obtain ⟨k', hk'⟩ := Option.isSome_iff_exists.1 hk
  obtain ⟨e, ie, hu, hie, hks⟩ := elemSize_spec hk'
  have e4 : a.eval x = .slice B A.xs.length cap := (show a.eval x = n.ρ d from e1).trans e3
  refine ⟨_, ?_, rfl⟩
  simp [execOp, resolve, invoke, builtin, e4, Builtin.len_, run_underlying hu, goInt]
theorem no_row_aptr {d k j o : Nat} {L : List Operand} (r e k' xs) (h : (AV.row r e k' xs).of (.aptr d k j o)) : ∃ x ∈ L, (AV.row r e k' xs).of (S.opv x) := by
  rcases h with h | ⟨_, h, _⟩ <;> cases h
theorem OpH.indexA {d k j : Nat} {A : Arr} {kk : IntKind} {i : Int} (h1 : S.opv x = .arow d) (hA : getA S.arrs d = some A) (h2 : S.opv y = .val (.int kk i)) (hi : i = (j : Int)) (hk : elemSize P t = some k) (hj : j < A.xs.length) :
    OpH P N K0 w0 ⟨dO, .indexAddr t x y, ty, pos, aft, g⟩ S (.aptr d k j 0) := by
  subst hi
  refine OpH.ret (fun S' K n a w hs hB hop => ?_) no_row_aptr
  have e1 := hs.opv x
  have e2 := hs.opv y
  rw [hop x (by simp [Op.operands]), h1] at e1
  rw [hop y (by simp [Op.operands]), h2] at e2
  obtain ⟨q1, _⟩ := hs.arr d A (by rw [St.mem_arrs hB]; exact getA_mem hA)
  obtain ⟨B, cap, e3, _, hn, _, hB'⟩ := own_val q1
  have e4 : a.eval x = .slice B A.xs.length cap := (show a.eval x = n.ρ d from e1).trans e3
  obtain ⟨e, ie, hu, hie, hks⟩ := elemSize_spec hk
  cases B with
  | none => have := (hn rfl).2; omega
  | some ad =>
    obtain ⟨gb, rfl, hg⟩ := hB' ad rfl
    refine ⟨.pointer (some ⟨gb, 0 + j * k, none⟩), ?_, ⟨gb, hg, by rw [Nat.zero_add, Nat.add_zero]⟩⟩
    simp only [execOp]
    rw [e4, show a.eval y = .int kk (j : Int) from e2]
    simp [Instr.indexAt, run_underlying hu, asIntOf, sizeOf, typeInfo, hie, hks, hj, Addr.add_mid]
theorem OpH.fieldA {s : TypeId} {f off d k j o : Nat} {v : AV} (h1 : S.opv x = .aptr d k j o) (hf : fieldOff P s f = some off) (hv : .aptr d k j (o + off) = v) : OpH P N K0 w0 ⟨dO, .fieldAddr s x f, ty, pos, aft, g⟩ S v := by
  subst hv
  refine OpH.ret (fun S' K n a w hs _ hop => ?_) no_row_aptr
  have e1 := hs.opv x
  rw [hop x (by simp [Op.operands]), h1] at e1
  obtain ⟨gb, hg, e2⟩ := e1
  refine ⟨.pointer (some ⟨gb, j * k + o + off, none⟩), ?_, ⟨gb, hg, by rw [Nat.add_assoc]⟩⟩
  simp only [execOp]
  rw [e2, Sem.run_bind, run_fieldOff hf]
  rfl
theorem OpH.indexAA {m sz d k j o i : Nat} {kk : IntKind} {z : Int} {v : AV} (h1 : S.opv x = .aptr d k j o) (h2 : S.opv y = .val (.int kk z)) (hz : z = (i : Int)) (hk : arrInfo P t = some (m, sz)) (hi : i < m) (hv : .aptr d k j (o + i * sz) = v) : OpH P N K0 w0 ⟨dO, .indexAddr t x y, ty, pos, aft, g⟩ S v := by
  subst hv hz
  refine OpH.ret (fun S' K n a w hs _ hop => ?_) no_row_aptr
  have e1 := hs.opv x
  have e2 := hs.opv y
  rw [hop x (by simp [Op.operands]), h1] at e1
  rw [hop y (by simp [Op.operands]), h2] at e2
  obtain ⟨gb, hg, e3⟩ := e1
  refine ⟨.pointer (some ⟨gb, j * k + o + i * sz, none⟩), ?_, ⟨gb, hg, by rw [Nat.add_assoc]⟩⟩
  simp only [execOp]
  rw [e3, show a.eval y = .int kk (i : Int) from e2, Sem.run_bind, run_arrAt hk hi]
  rfl
theorem Sim.arr_cell (hs : Sim N K0 w0 S K n a w) {d : Nat} {A : Arr} (hm : (d, A) ∈ S.arrs) {gb j : Nat} (hg : (n.ρ d).ownBlock = some gb) {cs : List Value} (hj : A.xs[j]? = some cs) (i : Nat) (u : Value) (hu : cs[i]? = some u) : w.cell? ⟨gb, j * A.k + i, none⟩ = some u := by
  obtain ⟨q1, q2, _⟩ := hs.arr d A hm
  have h1 := flatten_get (xs := A.xs) (k := A.k) (Arr.ok_len q2) j cs hj i u hu
  have h2 := q1.cells hg _ u h1
  rwa [Addr.add_mid, Nat.zero_add] at h2
theorem OpH.loadA {d k j o : Nat} {A : Arr} {cs vs : List Value} {v : AV} (h1 : S.opv x = .aptr d k j o) (hA : getA S.arrs d = some A) (hk0 : A.k = k) (hj : A.xs[j]? = some cs) (hk : rowSize P t = some vs.length) (hcs : (cs.drop o).take vs.length = vs) (hv : .val (.agg vs.toArray) = v) :
    OpH P N K0 w0 ⟨dO, .load t x, ty, pos, aft, g⟩ S v := by
  subst hv hk0
  refine OpH.ret (fun S' K n a w hs hB hop => ?_) no_row_val
  have e1 := hs.opv x
  rw [hop x (by simp [Op.operands]), h1] at e1
  obtain ⟨gb, hg, e2⟩ := e1
  have hm : (d, A) ∈ S'.arrs := by rw [St.mem_arrs hB]; exact getA_mem hA
  refine ⟨.agg vs.toArray, ?_, rfl⟩
  simp only [execOp]
  rw [e2, Sem.run_bind, run_load_many hk (fun i v hv => by
    rw [← hcs] at hv
    have := take_some hv
    rw [List.getElem?_drop] at this
    rw [Nat.add_assoc]
    exact hs.arr_cell hm hg hj _ v this)]
  rfl
theorem OpH.loadA1 {d k j o : Nat} {A : Arr} {cs : List Value} {u : Value} {v : AV} (h1 : S.opv x = .aptr d k j o) (hA : getA S.arrs d = some A) (hk0 : A.k = k) (hj : A.xs[j]? = some cs) (hk : oneSize P t = true) (hcs : cs[o]? = some u) (hv : .val u = v) :
    OpH P N K0 w0 ⟨dO, .load t x, ty, pos, aft, g⟩ S v := by
  subst hv hk0
  refine OpH.ret (fun S' K n a w hs hB hop => ?_) no_row_val
  have e1 := hs.opv x
  rw [hop x (by simp [Op.operands]), h1] at e1
  obtain ⟨gb, hg, e2⟩ := e1
  have hm : (d, A) ∈ S'.arrs := by rw [St.mem_arrs hB]; exact getA_mem hA
  refine ⟨u, ?_, rfl⟩
  simp only [execOp]
  rw [e2, Sem.run_bind, run_load_one hk (hs.arr_cell hm hg hj _ u hcs)]
  rfl

/-! ### Writing -/
def setAr (l : List (Nat × Arr)) (t : Nat) (A : Arr) : List (Nat × Arr) := l.map fun p => cond (Nat.beq p.1 t) (p.1, A) p
theorem setAr_mem {l : List (Nat × Arr)} {t : Nat} {A : Arr} {b : Nat} {A' : Arr} (h : (b, A') ∈ setAr l t A) : ∃ c, (b, c) ∈ l ∧ ((b = t ∧ A' = A) ∨ (b ≠ t ∧ c = A')) := by
  obtain ⟨⟨s, B⟩, hm, h⟩ := List.mem_map.1 h
  cases hb : Nat.beq s t with
  | true =>
    rw [hb] at h
    injection h with e1 e2
    subst e1 e2
    exact ⟨B, hm, .inl ⟨Nat.eq_of_beq_eq_true hb, rfl⟩⟩
  | false =>
    rw [hb] at h
    injection h with e1 e2
    subst e1 e2
    exact ⟨B, hm, .inr ⟨fun e => by rw [e] at hb; simp at hb, rfl⟩⟩
theorem flatten_set : ∀ {xs : Cells} {k : Nat}, (∀ x ∈ xs, x.length = k) → ∀ (j : Nat) (c c' : List Value), xs[j]? = some c → c'.length = k → (xs.set j c').flatten = xs.flatten.take (j * k) ++ c' ++ xs.flatten.drop (j * k + k)
  | [], _, _, j, c, c', h, _ => by simp at h
  | y :: ys, k, hk, 0, c, c', h, hl => by
    simp only [List.set_cons_zero, List.flatten_cons, Nat.zero_mul, List.take_zero, List.nil_append, Nat.zero_add]
    have hy : y.length = k := hk y List.mem_cons_self
    rw [List.drop_append, List.drop_eq_nil_of_le (by omega), hy]
    simp
  | y :: ys, k, hk, j + 1, c, c', h, hl => by
    have hy : y.length = k := hk y List.mem_cons_self
    have ih := flatten_set (xs := ys) (fun x hx => hk x (List.mem_cons_of_mem _ hx)) j c c' (by simpa using h) hl
    simp only [List.set_cons_succ, List.flatten_cons]
    rw [ih, List.take_append, List.drop_append, List.take_of_length_le (l := y) (by rw [hy, Nat.succ_mul]; omega), (show y.drop ((j + 1) * k + k) = [] from List.drop_eq_nil_of_le (by rw [hy, Nat.succ_mul]; omega)), hy,
      show (j + 1) * k - k = j * k by rw [Nat.succ_mul]; omega, show (j + 1) * k + k - k = j * k + k by rw [Nat.succ_mul]; omega]
    simp [List.append_assoc]
theorem own_stored {e k : Nat} {v : Value} {xs : Cells} (h : w.ownsRow 0 e k v xs.length xs.flatten) (hlen : ∀ x ∈ xs, x.length = k) {gb j o : Nat} (hg : v.ownBlock = some gb) {cs cs' vs : List Value} (hj : xs[j]? = some cs) (ho : o + vs.length ≤ k) (hcs : cs.take o ++ vs ++ cs.drop (o + vs.length) = cs') :
    (w.setCells gb (j * k + o) vs).ownsRow 0 e k v (xs.set j cs').length (xs.set j cs').flatten ∧ w.grownBy (w.setCells gb (j * k + o) vs) (some gb) := by
  have hcl : cs.length = k := hlen cs (List.mem_of_getElem? hj)
  have hcl' : cs'.length = k := by rw [← hcs]; simp; omega
  have hjl : j < xs.length := (List.getElem?_eq_some_iff.1 hj).1
  obtain ⟨r1, r2, r3, r4⟩ := setCells_rest (b := gb) vs (j * k + o) w
  refine ⟨⟨?_, ?_⟩, r2, r3, r4, by rw [r1]; exact Nat.le_refl _, fun b _ hb => setCells_other vs _ w b (fun e => hb (by rw [e]))⟩
  · rw [List.length_set]
    exact flatten_len (k := k) (fun x hx => by
      rcases List.mem_or_eq_of_mem_set hx with hx | rfl
      · exact hlen x hx
      · exact hcl') |>.trans (by rw [List.length_set])
  · rcases h.2 with ⟨rfl, _⟩ | ⟨g', cap, cur, rfl, hb0, hh, h1, h2, h3, h4⟩
    · cases hg
    · injection hg with hg
      subst hg
      have hmul : (j + 1) * k ≤ xs.length * k := Nat.mul_le_mul_right _ hjl
      have hmul2 : xs.length * k ≤ cap * k := Nat.mul_le_mul_right _ h1
      rw [Nat.succ_mul] at hmul
      have hfit : j * k + o + vs.length ≤ cur.size := by omega
      refine .inr ⟨g', cap, setA cur (j * k + o) vs, by rw [List.length_set], Nat.zero_le _, setCells_block vs _ w cur hh, by rw [List.length_set]; exact h1, h2, by rw [setA_size]; exact h3, ?_⟩
      rw [List.length_set, flatten_set hlen j cs cs' hj hcl']
      have hxf : xs.flatten.length = xs.length * k := flatten_len hlen
      apply List.ext_getElem?
      intro i
      by_cases hi : i < xs.length * k
      · rw [List.getElem?_take, if_pos hi, Array.getElem?_toList, setA_get vs cur _ i hfit]
        have hcur : cur[i]? = xs.flatten[i]? := by
          rw [← h4, List.getElem?_take, if_pos hi]
          simp
        have hcsi : ∀ q, q < k → xs.flatten[j * k + q]? = cs[q]? := fun q hq => by
          have hq' : q < cs.length := by omega
          rw [List.getElem?_eq_getElem hq', flatten_get hlen j cs hj q _ (List.getElem?_eq_getElem hq')]
        have hA : (xs.flatten.take (j * k)).length = j * k := by rw [List.length_take, hxf]; omega
        by_cases hlo : i < j * k
        · rw [if_neg (by omega), hcur, List.append_assoc, List.getElem?_append_left (by rw [hA]; exact hlo), List.getElem?_take, if_pos hlo]
        · rw [List.append_assoc, List.getElem?_append_right (by rw [hA]; omega), hA]
          by_cases hin : i < j * k + k
          · rw [List.getElem?_append_left (by rw [hcl']; omega), ← hcs, List.append_assoc]
            have ht : (cs.take o).length = o := by rw [List.length_take]; omega
            by_cases hq1 : i - j * k < o
            · rw [if_neg (by omega), hcur, List.getElem?_append_left (by rw [ht]; exact hq1), List.getElem?_take, if_pos hq1, ← hcsi _ (by omega)]
              congr 1; omega
            · rw [List.getElem?_append_right (by rw [ht]; omega), ht]
              by_cases hq2 : i - j * k < o + vs.length
              · rw [if_pos (by omega), List.getElem?_append_left (by omega)]
                congr 1; omega
              · rw [if_neg (by omega), List.getElem?_append_right (by omega), List.getElem?_drop, hcur, ← (by rw [show o + vs.length + (i - j * k - o - vs.length) = i - j * k by omega] : cs[i - j * k]? = cs[o + vs.length + (i - j * k - o - vs.length)]?), ← hcsi _ (by omega)]
                congr 1; omega
          · rw [if_neg (by omega), hcur, List.getElem?_append_right (by rw [hcl']; omega), hcl', List.getElem?_drop]
            congr 1; omega
      · rw [List.getElem?_eq_none (by rw [List.length_take]; omega)]
        symm
        apply List.getElem?_eq_none
        simp only [List.length_append, List.length_take, List.length_drop, hxf, hcl']
        omega
end
end Go.Proofs.Ytkfmammkbmhfaaa

/- Abstract walks: writing into rows in place. -/
namespace Go.Proofs.Ytkfmammkbmhfaaa
set_option linter.unusedSimpArgs false
set_option linter.unusedVariables false
open Go Go.RowKit Go.Shelf

section
variable {P : Program} {N : Nat} {K0 : Know} {w0 : Bas} {S S' : St} {K K' : Know} {n : Nm} {a : Act} {w w' : World} {Q : St → Prop}
variable {dO : Option Nat} {ty : TypeId} {pos : String} {aft : Array Edge} {g : Option (Nat × Bool)} {t e : TypeId} {x y : Operand} {tm : List (Nat × AV)} {bs : List (Nat × List AV)} {ar : List (Nat × Arr)} {dn : Nat}

theorem Sim.storeArr (h : Sim N K0 w0 S K n a w) {d : Nat} {A : Arr} (hm : (d, A) ∈ S.arrs) {g0 : Option Nat} (hg0 : ∀ gb, g0 = some gb → (n.ρ d).ownBlock = some gb) (hgr : w.grownBy w' g0) {xs' : Cells} (hown : w'.ownsRow 0 A.e A.k (n.ρ d) xs'.length xs'.flatten) (hok : Arr.ok ⟨A.e, A.k, xs'⟩) :
    Sim N K0 w0 ⟨S.tmps, S.boxes, setAr S.arrs d ⟨A.e, A.k, xs'⟩⟩ K n a w' := by
  have hap : ∀ gb, g0 = some gb → w0.isOwn gb ∧ (∀ o, K gb o = none) ∧ (∀ d' cs, (d', cs) ∈ S.boxes → n.β d' ≠ some gb) ∧ ∀ r e k xs, S.has (.row r e k xs) → (n.ρ r).ownBlock ≠ some gb := fun gb hgb => (h.arr d A hm).2.2 gb (hg0 gb hgb)
  exact {
    size := h.size
    defers := fun ht => (h.defers ht).grown hgr fun gb hgb => own_cells (h.arr d A hm).1 gb (hg0 gb hgb)
    below := h.below.step hgr.os hgr.tape hgr.output hgr.size fun b hb ho => hgr.block b (Nat.lt_of_lt_of_le hb h.below.size) (fun e => by
      rcases (hap b e.symm).1 with q | q
      · omega
      · exact ho q)
    k0 := h.k0
    knew := h.knew
    ok := fun b o u hu => by
      have h1 := h.ok b o u hu
      rw [World.cell?_of_block (hgr.block b (Know.lt h.ok hu) (fun e => by rw [(hap b e.symm).2.1 o] at hu; cases hu))]
      exact h1
    tmp := h.tmp
    box := fun d' cs hd => by
      obtain ⟨b, arr, ty, q1, q2, q3, q4⟩ := h.box d' cs hd
      exact ⟨b, arr, ty, q1, q2, by rw [hgr.block b (Array.getElem?_eq_some_iff.1 q3).1 (fun e => (hap b e.symm).2.2.1 d' cs hd q1)]; exact q3, q4⟩
    boxInj := h.boxInj
    boxOne := h.boxOne
    row := fun r e k xs hr => by
      obtain ⟨q1, q2⟩ := h.row r e k xs hr
      refine ⟨q1.kept hgr ?_, q2⟩
      cases hv : (n.ρ r).ownBlock with
      | none => exact .inl rfl
      | some gb => exact .inr fun e' => (hap gb e'.symm).2.2.2 r e k xs hr hv
    rowInj := h.rowInj
    arr := fun d' A' hd => by
      obtain ⟨c, hc, ⟨rfl, rfl⟩ | ⟨hne, rfl⟩⟩ := setAr_mem hd
      · exact ⟨hown, hok, fun gb hgb => (h.arr d' A hm).2.2 gb hgb⟩
      · obtain ⟨q1, q2, q3⟩ := h.arr d' c hc
        refine ⟨q1.kept hgr ?_, q2, q3⟩
        cases hv : (n.ρ d').ownBlock with
        | none => exact .inl rfl
        | some gb => exact .inr fun e' => hne (h.arrInj d' c d A gb hc hm hv (hg0 gb e'.symm))
    arrInj := fun d1 A1 d2 A2 gb p1 p2 => by
      obtain ⟨c1, h1, _⟩ := setAr_mem p1
      obtain ⟨c2, h2, _⟩ := setAr_mem p2
      exact h.arrInj d1 c1 d2 c2 gb h1 h2
    arrOne := fun d1 A1 A2 p1 p2 => by
      obtain ⟨c1, h1, ⟨rfl, rfl⟩ | ⟨n1, rfl⟩⟩ := setAr_mem p1 <;> obtain ⟨c2, h2, ⟨k1, k2⟩ | ⟨n2, rfl⟩⟩ := setAr_mem p2
      · exact k2.symm
      · exact absurd rfl n2
      · exact absurd k1 n1
      · exact h.arrOne d1 c1 c2 h1 h2
    fix := h.fix }
theorem run_storeO {t : TypeId} {v : Value} (hk : (P.info? t).map (·.size) = some v.cells.size) (h1 : v.cells.all (·.oneCell') = true) {w : World} {b o : Nat} {arr : Array Value} {ty : TypeId} (hh : w.heap[b]? = some (.cells arr ty (0, 0))) (ho : o + v.cells.size ≤ arr.size) :
    (Instr.storeAt t (.pointer (some ⟨b, o, none⟩)) v).run P w = .ok () (w.setCells b o v.cells.toList) := run_storeV hk h1 hh ho
theorem ok_set {e k j : Nat} {xs : Cells} {cs : List Value} (h : Arr.ok ⟨e, k, xs⟩) (hl : cs.length = k) (h1 : ∀ u ∈ cs, u.oneCell' = true) : Arr.ok ⟨e, k, xs.set j cs⟩ := fun x hx => by
  rcases List.mem_or_eq_of_mem_set hx with hx | rfl
  · exact h x hx
  · exact ⟨hl, h1⟩
theorem T.storeA {d k j o : Nat} {A : Arr} {v : Value} {cs cs' : List Value} {xs' : Cells} {ar' : List (Nat × Arr)} (h1 : St.opv ⟨tm, bs, ar⟩ x = .aptr d k j o) (h2 : St.opv ⟨tm, bs, ar⟩ y = .val v) (hA : getA ar d = some A) (hk0 : A.k = k) (hj : A.xs[j]? = some cs)
    (hk : (P.info? t).map (·.size) = some v.cells.size) (ho1 : v.cells.all (·.oneCell') = true) (ho : o + v.cells.size ≤ k) (hcs : cs.take o ++ v.cells.toList ++ cs.drop (o + v.cells.size) = cs') (hxs : A.xs.set j cs' = xs') (har : setAr ar d ⟨A.e, A.k, xs'⟩ = ar') (hq : Q ⟨tm, bs, ar'⟩) :
    OpT P N K0 w0 ⟨none, .store t x y, ty, pos, aft, g⟩ ⟨tm, bs, ar⟩ Q := by
  subst hk0 hxs har
  intro K n a w hs
  have e1 := hs.opv x
  have e2 := hs.opv y
  rw [h1] at e1
  rw [h2] at e2
  obtain ⟨gb, hg, e1⟩ := e1
  have hm : (d, A) ∈ (⟨tm, bs, ar⟩ : St).arrs := getA_mem hA
  obtain ⟨q1, q2, q3⟩ := hs.arr d A hm
  have hcl : cs.length = A.k := Arr.ok_len q2 cs (List.mem_of_getElem? hj)
  have hcl' : cs'.length = A.k := by rw [← hcs]; simp; omega
  obtain ⟨r1, r2⟩ := own_stored (vs := v.cells.toList) (o := o) q1 (Arr.ok_len q2) hg hj (by simpa using ho) (by simpa using hcs)
  obtain ⟨cap, cur, hh, hfit⟩ : ∃ cap cur, w.heap[gb]? = some (.cells cur A.e (0, 0)) ∧ j * A.k + o + v.cells.size ≤ cur.size ∧ cap = cur.size := by
    rcases q1.2 with ⟨q, _⟩ | ⟨g', cap, cur, u1, u2, u3, u4, u5, u6, u7⟩
    · rw [q] at hg; cases hg
    · rw [u1] at hg; injection hg with hg; subst hg
      refine ⟨cur.size, cur, u3, ?_, rfl⟩
      have hjl : j < A.xs.length := (List.getElem?_eq_some_iff.1 hj).1
      have m1 : (j + 1) * A.k ≤ A.xs.length * A.k := Nat.mul_le_mul_right _ hjl
      have m2 : A.xs.length * A.k ≤ cap * A.k := Nat.mul_le_mul_right _ u4
      rw [Nat.succ_mul] at m1
      omega
  unfold Oper.wp
  simp only [execOp]
  rw [e1, show a.eval y = v from e2, Sem.run_bind, run_storeO hk ho1 hh hfit.1]
  refine ⟨K, n, _, hq, hs.storeArr hm (g0 := some gb) (fun _ h => by injection h with h; rw [← h]; exact hg) r2 r1 (ok_set q2 hcl' fun u hu => ?_)⟩
  rw [← hcs] at hu
  have hco := fun u hu => (q2 cs (List.mem_of_getElem? hj)).2 u hu
  rcases List.mem_append.1 hu with hu | hu
  · rcases List.mem_append.1 hu with hu | hu
    · exact hco u (List.mem_of_mem_take hu)
    · exact (Array.all_eq_true_iff_forall_mem.1 ho1) u (by simpa using hu)
  · exact hco u (List.mem_of_mem_drop hu)
theorem Sim.freshArr (hs : Sim N K0 w0 S K n a w) (hb : Below w.heap.size w w') {s d : Nat} (hd : s < N) (hf : S.free d = true) {e k base : Nat} {xs : Cells} {c : Value} (hown : w'.ownsRow base e k c xs.length xs.flatten) (hbase : w.heap.size ≤ base) (hok : Arr.ok ⟨e, k, xs⟩) :
    Sim N K0 w0 ⟨(s, .arow d) :: S.tmps, S.boxes, (d, ⟨e, k, xs⟩) :: S.arrs⟩ K (n.setρ d c) (a.put (some s) c) w' := by
  have hs' := hs.grow (K' := K) hb (Know.le_refl K) (Know.below hs.ok hb) (fun _ _ _ h _ => h)
  refine hs'.putArr hd hf (own_base0 hown) hok fun gb hg => ?_
  have hge : w.heap.size ≤ gb := Nat.le_trans hbase (own_block_lt hown hg).1
  refine ⟨.inl (Nat.le_trans hs.base hge), fun o => ?_, fun b cs hbx he => ?_, fun r' e' k' xs' hr' he => ?_, fun d' A hd' he => ?_⟩
  · cases hk : K gb o with
    | none => rfl
    | some v => have := Know.lt hs.ok hk; omega
  · obtain ⟨b', arr, ty', q1, _, q3, _⟩ := hs.box b cs hbx
    rw [he] at q1
    injection q1 with q1
    subst q1
    have hlt := (Array.getElem?_eq_some_iff.1 q3).1
    omega
  · have := (own_block_lt (hs.row r' e' k' xs' hr').1 he).2
    omega
  · have := (own_block_lt (hs.arr d' A hd').1 he).2
    omega
theorem T.appA {k bytes d : Nat} {xs zs : Cells} {B : AV} (h1 : St.opv ⟨tm, bs, ar⟩ x = .arow d) (hA : getA ar d = some ⟨e, k, xs⟩) (h2 : St.opv ⟨tm, bs, ar⟩ y = B) (hB : B.Src k zs) (hi : growInfo P t e k bytes = true) (hsmall : (xs.length + zs.length) * bytes ≤ 140737488355328) (hd : dn < N)
    {T : St} (hT : St.unarr ⟨tm, bs, ar⟩ d = T) (hfT : T.free d = true) (hq : Q ⟨(dn, .arow d) :: T.tmps, T.boxes, (d, ⟨e, k, xs ++ zs⟩) :: T.arrs⟩) : OpT P N K0 w0 ⟨some dn, .call { callee := .builtin .append, args := #[x, y], argTypes := #[t, t] }, ty, pos, aft, g⟩ ⟨tm, bs, ar⟩ Q := by
  subst hT
  intro K n a w hs
  have e1 := hs.opv x
  have e2 := hs.opv y
  rw [h1] at e1
  rw [h2] at e2
  obtain ⟨i, z, hu, hie, hz, hk, hb, hzs, hk0, hb0⟩ := growInfo_spec hi
  subst hk hb
  have hm : (d, (⟨e, i.size, xs⟩ : Arr)) ∈ (⟨tm, bs, ar⟩ : St).arrs := getA_mem hA
  obtain ⟨q1, q2, q3⟩ := hs.arr d _ hm
  obtain ⟨A, cap, e3, h3, h4, hr⟩ := hB.slice e2
  have hok : Arr.ok ⟨e, i.size, xs ++ zs⟩ := fun u hu => by
    rcases List.mem_append.1 hu with hu | hu
    · exact q2 u hu
    · exact ⟨hr.lens u hu, fun v hv => List.all_eq_true.1 (List.all_eq_true.1 hr.ones u hu) v hv⟩
  have hn : xs.length + zs.length ≤ 140737488355328 := Nat.le_trans (Nat.le_mul_of_pos_right _ hb0) hsmall
  have hs2 := hs.unarr d
  have hsv : a.eval x = n.ρ d := e1
  cases A with
  | none =>
    have hz0 : zs = [] := hr.none_nil
    subst hz0
    rw [h4 rfl] at e3
    have hrun := run_append_owned_none (P := P) w 0 t ty e i i.size hu hie (n.ρ d) xs.length xs.flatten q1
    unfold Oper.wp
    simp only [List.length_nil] at e3
    have hr2 : (execOp a.eval ⟨some dn, .call { callee := .builtin .append, args := #[x, y], argTypes := #[t, t] }, ty, pos, aft, g⟩).run P w = .ok (.value (n.ρ d)) w := by
      simp [execOp, resolve, invoke, builtin, hsv, e3, hrun, Result.andThen]
    rw [hr2]
    exact ⟨K, _, _, hq, hs2.putArr hd hfT (by simpa using q1) hok fun gb hg => hs.apart hm hg⟩
  | some ad =>
    have hfl : zs.flatten.length = zs.length * i.size := flatten_len hr.lens
    obtain ⟨v1, w1, hrun, h5, h6, h7⟩ := run_app (P := P) w 0 t ty e i z hu hie hz hzs hk0 (n.ρ d) xs.length xs.flatten q1 ad zs.length cap zs.flatten hfl
      (fun j u hj => by obtain ⟨b, off, e9, h9⟩ := hr.flat j u hj; rw [e9, Addr.add_mid]; exact hs.ok _ _ _ h9)
      (fun u hu => by obtain ⟨y, hy, hu⟩ := List.mem_flatten.1 hu; exact List.all_eq_true.1 (List.all_eq_true.1 hr.ones y hy) u hu)
      (by unfold maxLen; omega) hsmall (Nat.zero_le _)
    unfold Oper.wp
    have hr2 : (execOp a.eval ⟨some dn, .call { callee := .builtin .append, args := #[x, y], argTypes := #[t, t] }, ty, pos, aft, g⟩).run P w = .ok (.value v1) w1 := by
      simp [execOp, resolve, invoke, builtin, hsv, e3, hrun, Result.andThen]
    rw [hr2]
    have hs3 := hs2.elsewhere h6 (own_cells q1) (fun gb hg => hs.apart hm hg)
    refine ⟨K, _, _, hq, hs3.putArr hd hfT (by rw [List.length_append, List.flatten_append]; exact h5) hok fun gb hg => ?_⟩
    rcases h7 with h7 | ⟨h7, _⟩
    · rw [h7] at hg; exact hs.apart hm hg
    · rw [h7] at hg
      injection hg with hg
      subst hg
      refine ⟨.inl hs.base, fun o => ?_, fun b cs hbx he => ?_, fun r' e' k' xs' hr' he => ?_, fun d' A hd' he => ?_⟩
      · cases hk : K w.heap.size o with
        | none => rfl
        | some v => exact absurd (Know.lt hs.ok hk) (Nat.lt_irrefl _)
      · obtain ⟨b', arr, ty', p1, _, p3, _⟩ := hs2.box b cs hbx
        rw [he] at p1
        injection p1 with p1
        subst p1
        exact absurd (Array.getElem?_eq_some_iff.1 p3).1 (Nat.lt_irrefl _)
      · exact absurd (own_block_lt (hs2.row r' e' k' xs' hr').1 he).2 (Nat.lt_irrefl _)
      · exact absurd (own_block_lt (hs2.arr d' A hd').1 he).2 (Nat.lt_irrefl _)
theorem own_take {e k : Nat} {v : Value} {xs : Cells} (h : w.ownsRow 0 e k v xs.length xs.flatten) (hlen : ∀ x ∈ xs, x.length = k) {m : Nat} (hm : m ≤ xs.length) {A : Option Addr} {l cap : Nat} (hv : v = .slice A l cap) : w.ownsRow 0 e k (.slice A m cap) (xs.take m).length (xs.take m).flatten := by
  have hl : (xs.take m).length = m := by rw [List.length_take]; omega
  have hfl : (xs.take m).flatten = xs.flatten.take (m * k) := by
    have hxm : (xs.take m).flatten.length = m * k := (flatten_len (k := k) (fun x hx => hlen x (List.mem_of_mem_take hx))).trans (by rw [hl])
    have e1 : xs.flatten = (xs.take m).flatten ++ (xs.drop m).flatten := by rw [← List.flatten_append, List.take_append_drop]
    rw [e1, List.take_left' hxm]
  rw [hl, hfl]
  refine ⟨by rw [List.length_take, h.1]; have : m * k ≤ xs.length * k := Nat.mul_le_mul_right _ hm; omega, ?_⟩
  rcases h.2 with ⟨rfl, h0⟩ | ⟨gb, cap', cur, rfl, h1, h2, h3, h4, h5, h6⟩
  · injection hv with q1 q2 q3
    subst q1 q3
    exact .inl ⟨by rw [show m = 0 by omega], by omega⟩
  · injection hv with q1 q2 q3
    subst q1 q3
    refine .inr ⟨gb, cap', cur, rfl, h1, h2, by omega, h4, h5, ?_⟩
    rw [← h6, List.take_take, Nat.min_eq_left (Nat.mul_le_mul_right _ hm)]
theorem T.cutA {k d m : Nat} {xs : Cells} {kk : IntKind} {z : Int} (h1 : St.opv ⟨tm, bs, ar⟩ x = .arow d) (hA : getA ar d = some ⟨e, k, xs⟩) (h2 : St.opv ⟨tm, bs, ar⟩ y = .val (.int kk z)) (hz : z = (m : Int)) (hk : elemSize P t = some k) (hm : m ≤ xs.length) (hd : dn < N)
    {T : St} (hT : St.unarr ⟨tm, bs, ar⟩ d = T) (hfT : T.free d = true) {ys : Cells} (hys : xs.take m = ys) (hq : Q ⟨(dn, .arow d) :: T.tmps, T.boxes, (d, ⟨e, k, ys⟩) :: T.arrs⟩) : OpT P N K0 w0 ⟨some dn, .slice t x none (some y) none, ty, pos, aft, g⟩ ⟨tm, bs, ar⟩ Q := by
  subst hT hz hys
  intro K n a w hs
  have e1 := hs.opv x
  have e2 := hs.opv y
  rw [h1] at e1
  rw [h2] at e2
  have hmm : (d, (⟨e, k, xs⟩ : Arr)) ∈ (⟨tm, bs, ar⟩ : St).arrs := getA_mem hA
  obtain ⟨q1, q2, q3⟩ := hs.arr d _ hmm
  obtain ⟨A, cap, hv, h3, h4, _, h5⟩ := own_val q1
  have hsv : a.eval x = .slice A xs.length cap := (show a.eval x = n.ρ d from e1).trans hv
  have hrun := run_sub (P := P) (A := A) hk h3 (lo := none) (hi := some (.int kk (m : Int))) (l := 0) (h := m) (.inl ⟨rfl, rfl⟩) (.inr ⟨kk, rfl⟩) (Nat.zero_le _) hm w
  have hval : (Value.slice (if cap = 0 then A else A.map (·.add (0 * k))) (m - 0) (cap - 0)) = .slice A m cap := by
    rw [Nat.sub_zero, Nat.sub_zero]
    congr 1
    split
    · rfl
    · cases A with
      | none => rfl
      | some ad =>
        obtain ⟨gb, rfl, _⟩ := h5 ad rfl
        simp [Addr.add_mid]
  rw [hval] at hrun
  unfold Oper.wp
  simp only [execOp]
  rw [hsv]
  simp only [Option.map_none, Option.map_some]
  rw [show a.eval y = .int kk (m : Int) from e2, Sem.run_bind, hrun]
  have hown := own_take q1 (Arr.ok_len q2) hm hv
  refine ⟨K, _, _, hq, (hs.unarr d).putArr hd hfT hown (fun u hu => q2 u (List.mem_of_mem_take hu)) fun gb hg => hs.apart hmm ?_⟩
  rw [hv]
  cases A with
  | none => cases hg
  | some ad => exact hg
theorem madeCells_flat (z : Array Value) (hz : 0 < z.size) : ∀ m, (madeCells z (m * z.size)).toList = (List.replicate m z.toList).flatten := by
  intro m
  apply List.ext_getElem?
  intro i
  have hlen : ((List.replicate m z.toList).flatten).length = m * z.size := by rw [flatten_len (k := z.size) (fun x hx => by rw [(List.mem_replicate.1 hx).2]; simp)]; simp
  by_cases hi : i < m * z.size
  · have hq : i / z.size < m := by rw [Nat.div_lt_iff_lt_mul hz]; exact hi
    have hr : i % z.size < z.size := Nat.mod_lt _ hz
    have h1 := flatten_get (xs := List.replicate m z.toList) (k := z.size) (fun x hx => by rw [(List.mem_replicate.1 hx).2]; simp) (i / z.size) z.toList (by rw [List.getElem?_replicate, if_pos hq]) (i % z.size) z[i % z.size] (by simp [hr])
    rw [show i / z.size * z.size + i % z.size = i by rw [Nat.mul_comm]; exact Nat.div_add_mod _ _] at h1
    rw [h1]
    simp [madeCells, hi, hr]
  · rw [List.getElem?_eq_none (by simp [madeCells]; omega), List.getElem?_eq_none (by omega)]
theorem T.makeA {k bytes m : Nat} {zc : List Value} {kl kc : IntKind} {z1 z2 : Int} (hx : St.opv ⟨tm, bs, ar⟩ x = .val (.int kl z1)) (hy : St.opv ⟨tm, bs, ar⟩ y = .val (.int kc z2)) (hz1 : z1 = (m : Int)) (hz2 : z2 = (m : Int)) (hi : growInfo P t e k bytes = true) (hzc : ((P.info? e).bind (·.zero)).map (·.cells.toList) = some zc) (hone : zc.all (·.oneCell') = true) (hsmall : m * bytes ≤ 140737488355328) (hd : dn < N) (hfr : St.free ⟨tm, bs, ar⟩ dn = true)
    (hq : Q ⟨(dn, .arow dn) :: tm, bs, (dn, ⟨e, k, List.replicate m zc⟩) :: ar⟩) : OpT P N K0 w0 ⟨some dn, .makeSlice t x y, ty, pos, aft, g⟩ ⟨tm, bs, ar⟩ Q := by
  subst hz1 hz2
  intro K n a w hs
  have e1 := hs.opv x
  have e2 := hs.opv y
  rw [hx] at e1
  rw [hy] at e2
  obtain ⟨i, z, hu, hie, hz, hk, hb, hzs, hk0, hb0⟩ := growInfo_spec hi
  subst hk hb
  have hzc' : z.cells.toList = zc := by simpa [hie, hz] using hzc
  have hm : m ≤ 140737488355328 := Nat.le_trans (Nat.le_mul_of_pos_right _ hb0) hsmall
  obtain ⟨w', hrun, hown, hgr⟩ := run_make_full (P := P) w w.heap.size t e i z i.size hu hie hz rfl kl kc m (by rw [Nat.mul_comm]; omega) (by unfold maxLen; omega) (Nat.le_refl _)
  unfold Oper.wp
  simp only [execOp]
  rw [show a.eval x = .int kl (m : Int) from e1, show a.eval y = .int kc (m : Int) from e2, Sem.run_bind, hrun]
  have hbel : Below w.heap.size w w' := ⟨hgr.os, hgr.tape, hgr.output, hgr.size, fun b hb' => hgr.block b hb' (by simp)⟩
  have hcs : (madeCells z.cells (m * i.size)).toList = (List.replicate m zc).flatten := by
    rw [← hzs, madeCells_flat z.cells (by omega), hzc']
  refine ⟨K, _, _, hq, hs.freshArr hbel hd hfr (base := w.heap.size) (by rw [List.length_replicate, ← hcs]; exact hown) (Nat.le_refl _) fun u hu => ?_⟩
  rw [(List.mem_replicate.1 hu).2]
  exact ⟨by rw [← hzc']; simpa using hzs, fun v hv => List.all_eq_true.1 hone v hv⟩
/-! ### Steps of the proof alone -/
theorem put_self {s : Nat} : a.put (some s) (a.tmps.getD s undef) = a := by
  unfold Act.put
  simp only
  congr 1
  apply Array.ext_getElem?
  intro i
  rw [Array.getElem?_setIfInBounds]
  split
  · rename_i h
    subst h
    split
    · rename_i h2
      exact (Array.getElem?_eq_getElem h2).symm
    · rename_i h2
      rw [Array.getElem?_eq_none (by omega)]
  · rfl
theorem Sim.nilArr (h : Sim N K0 w0 S K n a w) {s d e k : Nat} (hd : s < N) (hf : S.free d = true) (hv : S.get s = .val (.slice none 0 0)) : Sim N K0 w0 ⟨(s, .arow d) :: S.tmps, S.boxes, (d, ⟨e, k, []⟩) :: S.arrs⟩ K (n.setρ d (.slice none 0 0)) a w := by
  have e1 := h.tmp s
  rw [hv] at e1
  have := h.putArr (s := s) (d := d) (e := e) (k := k) (xs := []) (c := .slice none 0 0) hd hf (World.ownsRow_nil w 0 e k) (fun x hx => by cases hx) (fun g hg => by cases hg)
  rw [show a.put (some s) (.slice none 0 0) = a from by rw [← show a.tmps.getD s undef = .slice none 0 0 from e1]; exact put_self] at this
  exact this
theorem CT.mkarr {QE : Exit → St → Prop} {c : Code} (s d e k : Nat) (hv : getT tm s = .val (.slice none 0 0)) (hd : s < N) (hf : St.free ⟨tm, bs, ar⟩ d = true) (h : CT P N K0 w0 c ⟨(s, .arow d) :: tm, bs, (d, ⟨e, k, []⟩) :: ar⟩ QE) : CT P N K0 w0 c ⟨tm, bs, ar⟩ QE :=
  fun K n a w hs => h K _ a w (hs.nilArr hd hf hv)
def AV.froz1 (d e k : Nat) (xs : Cells) : AV → AV
  | .arow d' => cond (Nat.beq d' d) (.row d e k xs) (.arow d')
  | .aptr d' k' j o => cond (Nat.beq d' d) .dead (.aptr d' k' j o)
  | .asub d' k' l m => cond (Nat.beq d' d) .dead (.asub d' k' l m)
  | A => A
def St.froz (S : St) (d e k : Nat) (xs : Cells) : St := ⟨S.tmps.map fun p => (p.1, p.2.map1 (AV.froz1 d e k xs)), S.boxes.map fun p => (p.1, p.2.map (AV.froz1 d e k xs)), S.arrs.filter fun p => !(Nat.beq p.1 d)⟩
theorem froz1_row {d e k : Nat} {xs : Cells} {A : AV} {r e' k' : Nat} {xs' : Cells} (h : A.froz1 d e k xs = .row r e' k' xs') : A = .row r e' k' xs' ∨ (r = d ∧ e' = e ∧ k' = k ∧ xs' = xs) := by
  cases A with
  | arow d' =>
    simp only [AV.froz1] at h
    cases hb : Nat.beq d' d with
    | true => rw [hb] at h; injection h with q1 q2 q3 q4; exact .inr ⟨q1.symm, q2.symm, q3.symm, q4.symm⟩
    | false => rw [hb] at h; cases h
  | aptr d' k1 j o => simp only [AV.froz1] at h; cases hb : Nat.beq d' d <;> rw [hb] at h <;> cases h
  | asub d' k1 l m => simp only [AV.froz1] at h; cases hb : Nat.beq d' d <;> rw [hb] at h <;> cases h
  | _ => exact .inl h
theorem froz_of {d e k : Nat} {xs : Cells} {A : AV} {r e' k' : Nat} {xs' : Cells} (h : (AV.row r e' k' xs').of (A.map1 (AV.froz1 d e k xs))) : (AV.row r e' k' xs').of A ∨ (r = d ∧ e' = e ∧ k' = k ∧ xs' = xs) := by
  have key : A.froz1 d e k xs = .row r e' k' xs' → (AV.row r e' k' xs').of A ∨ (r = d ∧ e' = e ∧ k' = k ∧ xs' = xs) := fun h => (froz1_row h).imp (fun h => .inl h) id
  cases A with
  | tup vs =>
    rcases h with h | ⟨us, h, hm⟩
    · cases h
    · simp only [AV.map1] at h
      injection h with h
      subst h
      obtain ⟨B, hB, e1⟩ := List.mem_map.1 hm
      rcases froz1_row e1 with q | q
      · exact .inl (.inr ⟨vs, rfl, by rw [← q]; exact hB⟩)
      · exact .inr q
  | arow d' =>
    rcases h with h | ⟨us, h, hm⟩
    · exact key h
    · simp only [AV.map1, AV.froz1] at h; cases hb : Nat.beq d' d <;> rw [hb] at h <;> cases h
  | aptr d' k1 j o =>
    rcases h with h | ⟨us, h, hm⟩
    · exact key h
    · simp only [AV.map1, AV.froz1] at h; cases hb : Nat.beq d' d <;> rw [hb] at h <;> cases h
  | asub d' k1 j o =>
    rcases h with h | ⟨us, h, hm⟩
    · exact key h
    · simp only [AV.map1, AV.froz1] at h; cases hb : Nat.beq d' d <;> rw [hb] at h <;> cases h
  | dead => exact .inl h
  | val v => exact .inl h
  | sl k xs => exact .inl h
  | full k xs => exact .inl h
  | cptr vs => exact .inl h
  | clo f cs => exact .inl h
  | row r' e k xs => exact .inl h
  | ptr d o => exact .inl h
  | cloB f ds => exact .inl h
  | pr p => exact .inl h
theorem Sim.froz (h : Sim N K0 w0 S K n a w) (hno : ∀ g, ¬ w0.own g) {d e k : Nat} {xs : Cells} (hm : (d, ⟨e, k, xs⟩) ∈ S.arrs) : ∃ K', Sim N K0 w0 (S.froz d e k xs) K' n a w := by
  obtain ⟨q1, q2, q3⟩ := h.arr d _ hm
  let K' : Know := fun b o => if (n.ρ d).ownBlock = some b then xs.flatten[o]? else K b o
  have hne : ∀ b o u, K b o = some u → (n.ρ d).ownBlock ≠ some b := fun b o u hu hb => by rw [(q3 b hb).2.1 o] at hu; cases hu
  have hle : Know.le K K' := fun b o u hu => by simp only [K', if_neg (hne b o u hu)]; exact hu
  have hbase : ∀ gb, (n.ρ d).ownBlock = some gb → w0.w.heap.size ≤ gb := fun gb hg => by
    rcases (q3 gb hg).1 with q | q
    · exact q
    · exact absurd q (hno gb)
  have hok : K'.ok w := fun b o u hu => by
    simp only [K'] at hu
    split at hu
    · rename_i hb
      have := q1.cells hb o u hu
      rwa [Addr.add_mid, Nat.zero_add] at this
    · exact h.ok b o u hu
  have hslice : Slice K' k xs (n.ρ d) := own_slice q1 (fun gb hg o u hu => by simp only [K', if_pos hg]; exact hu) (Arr.ok_len q2) (Arr.ok_one q2)
  have hrep1 : ∀ A c, Rep1 K n A c → Rep1 K' n (A.froz1 d e k xs) c := fun A c hr => by
    cases A with
    | arow d' =>
      simp only [AV.froz1]
      cases hb : Nat.beq d' d with
      | true => have := Nat.eq_of_beq_eq_true hb; subst this; have hr' : c = n.ρ d' := hr; exact ⟨hr', by rw [hr']; exact hslice⟩
      | false => exact hr
    | aptr d' k1 j o =>
      simp only [AV.froz1]
      cases hb : Nat.beq d' d with
      | true => trivial
      | false => exact hr
    | asub d' k1 l m =>
      simp only [AV.froz1]
      cases hb : Nat.beq d' d with
      | true => trivial
      | false => exact hr
    | dead => exact hr.mono hle
    | val v => exact hr.mono hle
    | sl k xs => exact hr.mono hle
    | full k xs => exact hr.mono hle
    | cptr vs => exact hr.mono hle
    | clo f cs => exact hr.mono hle
    | row r' e k xs => exact hr.mono hle
    | ptr d o => exact hr.mono hle
    | cloB f ds => exact hr.mono hle
    | pr p => exact hr.mono hle
    | tup vs => exact hr.elim
  have hrep : ∀ A c, Rep K n A c → Rep K' n (A.map1 (AV.froz1 d e k xs)) c := fun A c hr => by
    cases A with
    | tup vs =>
      obtain ⟨cs, e1, h1, h2⟩ := hr
      refine ⟨cs, e1, by simpa using h1, fun i v hv => ?_⟩
      rw [List.getElem?_map, Option.map_eq_some_iff] at hv
      obtain ⟨u, hu, rfl⟩ := hv
      exact hrep1 u _ (h2 i u hu)
    | dead => exact Rep.of1 (hrep1 .dead c hr)
    | val v => exact Rep.of1 (hrep1 (.val v) c hr)
    | sl k xs => exact Rep.of1 (hrep1 (.sl k xs) c hr)
    | full k xs => exact Rep.of1 (hrep1 (.full k xs) c hr)
    | cptr vs => exact Rep.of1 (hrep1 (.cptr vs) c hr)
    | clo f cs => exact Rep.of1 (hrep1 (.clo f cs) c hr)
    | row r' e k xs => exact Rep.of1 (hrep1 (.row r' e k xs) c hr)
    | ptr d o => exact Rep.of1 (hrep1 (.ptr d o) c hr)
    | cloB f ds => exact Rep.of1 (hrep1 (.cloB f ds) c hr)
    | pr p => exact Rep.of1 (hrep1 (.pr p) c hr)
    | arow d' => exact Rep.of1 (hrep1 (.arow d') c hr)
    | aptr d' k1 j o => exact Rep.of1 (hrep1 (.aptr d' k1 j o) c hr)
    | asub d' k1 l m => exact Rep.of1 (hrep1 (.asub d' k1 l m) c hr)
  have hbx : ∀ b cs', (b, cs') ∈ (S.froz d e k xs).boxes → ∃ cs, (b, cs) ∈ S.boxes ∧ cs' = cs.map (AV.froz1 d e k xs) := fun b cs' hb => by
    obtain ⟨⟨b0, cs⟩, hm2, e1⟩ := List.mem_map.1 hb
    injection e1 with e1 e2
    subst e1 e2
    exact ⟨cs, hm2, rfl⟩
  have hhas : ∀ r e' k' xs', (S.froz d e k xs).has (.row r e' k' xs') → S.has (.row r e' k' xs') ∨ (r = d ∧ e' = e ∧ k' = k ∧ xs' = xs) := fun r e' k' xs' hr => by
    rcases hr with ⟨t, ht⟩ | ⟨b, cs', hb, hmem⟩
    · have e1 : (S.froz d e k xs).get t = (S.get t).map1 (AV.froz1 d e k xs) := getT_map (AV.map1 (AV.froz1 d e k xs)) rfl S.tmps t
      rw [e1] at ht
      exact (froz_of ht).imp (fun h => .inl ⟨t, h⟩) id
    · obtain ⟨cs, hb', rfl⟩ := hbx b cs' hb
      obtain ⟨B, hB, e1⟩ := List.mem_map.1 hmem
      rcases froz1_row e1 with q | q
      · exact .inl (.inr ⟨b, cs, hb', by rw [← q]; exact hB⟩)
      · exact .inr q
  have hnew : ∀ gb, (n.ρ d).ownBlock = some gb → ∀ o u, K' gb o = some u → o < xs.length * k := fun gb hg o u hu => by
    simp only [K', if_pos hg] at hu
    have := (List.getElem?_eq_some_iff.1 hu).1
    rwa [q1.1] at this
  refine ⟨K', {
    size := h.size
    defers := h.defers
    below := h.below
    k0 := Know.le_trans h.k0 hle
    knew := fun b o u hu hlt => by
      simp only [K'] at hu
      split at hu
      · rename_i hb; have := hbase b hb; omega
      · exact h.knew b o u hu hlt
    ok := hok
    tmp := fun t => by
      have e1 : (S.froz d e k xs).get t = (S.get t).map1 (AV.froz1 d e k xs) := getT_map (AV.map1 (AV.froz1 d e k xs)) rfl S.tmps t
      rw [e1]
      exact hrep _ _ (h.tmp t)
    box := fun b cs' hb => by
      obtain ⟨cs, hb', rfl⟩ := hbx b cs' hb
      obtain ⟨b', arr, ty, p1, p2, p3, p4, p5, p6⟩ := h.box b cs hb'
      refine ⟨b', arr, ty, p1, p2, p3, by simpa using p4, fun i c hi => ?_, fun o => ?_⟩
      · rw [List.getElem?_map, Option.map_eq_some_iff] at hi
        obtain ⟨u, hu, rfl⟩ := hi
        exact hrep1 u _ (p5 i u hu)
      · simp only [K']
        rw [if_neg (fun he => (q3 b' he).2.2.1 b cs hb' p1)]
        exact p6 o
    boxInj := fun d1 c1 d2 c2 b p1 p2 => by
      obtain ⟨c1', u1, _⟩ := hbx d1 c1 p1
      obtain ⟨c2', u2, _⟩ := hbx d2 c2 p2
      exact h.boxInj d1 c1' d2 c2' b u1 u2
    boxOne := fun d1 c1 c2 p1 p2 => by
      obtain ⟨c1', u1, rfl⟩ := hbx d1 c1 p1
      obtain ⟨c2', u2, rfl⟩ := hbx d1 c2 p2
      rw [h.boxOne d1 c1' c2' u1 u2]
    row := fun r e' k' xs' hr => by
      rcases hhas r e' k' xs' hr with hr | ⟨rfl, rfl, rfl, rfl⟩
      · obtain ⟨p1, p2⟩ := h.row r e' k' xs' hr
        refine ⟨p1, fun gb hg => ⟨fun o u hu => ?_, fun b cs' hb => ?_⟩⟩
        · simp only [K'] at hu
          rw [if_neg (fun he => (q3 gb he).2.2.2 r e' k' xs' hr hg)] at hu
          exact (p2 gb hg).1 o u hu
        · obtain ⟨cs, hb', _⟩ := hbx b cs' hb
          exact (p2 gb hg).2 b cs hb'
      · refine ⟨own_up q1 hbase, fun gb hg => ⟨hnew gb hg, fun b cs' hb => ?_⟩⟩
        obtain ⟨cs, hb', _⟩ := hbx b cs' hb
        exact (q3 gb hg).2.2.1 b cs hb'
    rowInj := fun r1 e1 k1 xs1 r2 e2 k2 xs2 gb p1 p2 g1 g2 => by
      rcases hhas _ _ _ _ p1 with u1 | ⟨z1, _, _, _⟩ <;> rcases hhas _ _ _ _ p2 with u2 | ⟨z2, _, _, _⟩
      · exact h.rowInj r1 e1 k1 xs1 r2 e2 k2 xs2 gb u1 u2 g1 g2
      · rw [z2] at g2; exact absurd g1 ((q3 gb g2).2.2.2 _ _ _ _ u1)
      · rw [z1] at g1; exact absurd g2 ((q3 gb g1).2.2.2 _ _ _ _ u2)
      · rw [z1, z2]
    arr := fun d' A hd' => by
      obtain ⟨u1, u2⟩ := List.mem_filter.1 hd'
      have hdd : d' ≠ d := by rintro rfl; simp at u2
      obtain ⟨p1, p2, p3⟩ := h.arr d' A u1
      have hgg : ∀ gb, (n.ρ d').ownBlock = some gb → (n.ρ d).ownBlock ≠ some gb := fun gb hg he => hdd (h.arrInj d' A d _ gb u1 hm hg he)
      refine ⟨p1, p2, fun gb hg => ⟨(p3 gb hg).1, fun o => ?_, fun b cs' hb => ?_, fun r e' k' xs' hr he => ?_⟩⟩
      · simp only [K', if_neg (hgg gb hg)]; exact (p3 gb hg).2.1 o
      · obtain ⟨cs, hb', _⟩ := hbx b cs' hb
        exact (p3 gb hg).2.2.1 b cs hb'
      · rcases hhas r e' k' xs' hr with hr | ⟨rfl, _, _, _⟩
        · exact (p3 gb hg).2.2.2 r e' k' xs' hr he
        · exact hgg gb hg he
    arrInj := fun d1 A1 d2 A2 gb p1 p2 => h.arrInj d1 A1 d2 A2 gb (List.mem_filter.1 p1).1 (List.mem_filter.1 p2).1
    arrOne := fun d1 A1 A2 p1 p2 => h.arrOne d1 A1 A2 (List.mem_filter.1 p1).1 (List.mem_filter.1 p2).1
    fix := h.fix }⟩
theorem CT.froz {QE : Exit → St → Prop} {c : Code} (hno : ∀ g, ¬ w0.own g) (d : Nat) {k : Nat} {xs : Cells} {T : St} (hA : getA ar d = some ⟨e, k, xs⟩) (hT : St.froz ⟨tm, bs, ar⟩ d e k xs = T) (h : CT P N K0 w0 c T QE) : CT P N K0 w0 c ⟨tm, bs, ar⟩ QE := fun K n a w hs => by
  subst hT
  obtain ⟨K', hs'⟩ := hs.froz hno (d := d) (getA_mem hA)
  exact h K' n a w hs'
theorem LT.froz {l : List Oper} {ops : Array Oper} (hno : ∀ g, ¬ w0.own g) (d : Nat) {k : Nat} {xs : Cells} {T : St} (hA : getA ar d = some ⟨e, k, xs⟩) (hT : St.froz ⟨tm, bs, ar⟩ d e k xs = T) (h : LT P N K0 w0 ops l T Q) : LT P N K0 w0 ops l ⟨tm, bs, ar⟩ Q := fun K n a w hs => by
  subst hT
  obtain ⟨K', hs'⟩ := hs.froz hno (d := d) (getA_mem hA)
  exact h K' n a w hs'
end
end Go.Proofs.Ytkfmammkbmhfaaa

/- Abstract walks: calls that are handed boxes and rows which they may write. -/
namespace Go.Proofs.Ytkfmammkbmhfaaa
set_option linter.unusedSimpArgs false
set_option linter.unusedVariables false
open Go Go.RowKit Go.Shelf

structure Mem (K : Know) (n : Nm) (w : World) (own : Nat → Prop) (bs : List (Nat × List AV)) (ar : List (Nat × Arr)) : Prop where
  box : ∀ d cs, (d, cs) ∈ bs → ∃ b arr ty, n.β d = some b ∧ own b ∧ w.heap[b]? = some (.cells arr ty) ∧ arr.size = cs.length ∧ (∀ (i : Nat) c, cs[i]? = some c → Rep1 K n c (arr.getD i undef)) ∧ ∀ o, K b o = none
  boxInj : ∀ d cs d' cs' b, (d, cs) ∈ bs → (d', cs') ∈ bs → n.β d = some b → n.β d' = some b → d = d'
  boxOne : ∀ d cs cs', (d, cs) ∈ bs → (d, cs') ∈ bs → cs = cs'
  arr : ∀ d A, (d, A) ∈ ar → w.ownsRow 0 A.e A.k (n.ρ d) A.xs.length A.xs.flatten ∧ A.ok ∧ ∀ g, (n.ρ d).ownBlock = some g → own g ∧ (∀ o, K g o = none) ∧ ∀ d' cs, (d', cs) ∈ bs → n.β d' ≠ some g
  arrInj : ∀ d A d' A' g, (d, A) ∈ ar → (d', A') ∈ ar → (n.ρ d).ownBlock = some g → (n.ρ d').ownBlock = some g → d = d'
  arrOne : ∀ d A A', (d, A) ∈ ar → (d, A') ∈ ar → A = A'
def foot (n : Nm) (bs : List (Nat × List AV)) (ar : List (Nat × Arr)) (b : Nat) : Prop := (∃ d cs, (d, cs) ∈ bs ∧ n.β d = some b) ∨ ∃ d A, (d, A) ∈ ar ∧ (n.ρ d).ownBlock = some b
def GoodO (P : Program) (f : FuncId) (As : List AV) (bs : List (Nat × List AV)) (ar : List (Nat × Arr)) (res : AV) (bs' : List (Nat × List AV)) (ar' : List (Nat × Arr)) : Prop :=
  ∀ K n w (cargs : List Value), K.ok w → cargs.length = As.length → (∀ (i : Nat) A c, As[i]? = some A → cargs[i]? = some c → Rep1 K n A c) → Mem K n w (fun _ => True) bs ar →
    Calls P f cargs.toArray w fun e w' => ∃ c K' n', e = .returned c ∧ Keeps ⟨w, foot n bs ar, fun _ => none, true⟩ w' ∧ K.le K' ∧ K'.ok w' ∧ (∀ b o u, K' b o = some u → b < w.heap.size → K b o = some u) ∧ Rep K' n' res c ∧
      Mem K' n' w' (fun b => w.heap.size ≤ b ∨ foot n bs ar b) bs' ar' ∧ ∀ d cs cs', (d, cs) ∈ bs → (d, cs') ∈ bs' → n'.β d = n.β d
def AV.isRow : AV → Bool
  | .row _ _ _ _ => true
  | _ => false
def AV.isTup : AV → Bool
  | .tup _ => true
  | _ => false
def retO (P : Program) (fn : Func) (res : AV) (bs' : List (Nat × List AV)) (ar' : List (Nat × Arr))  : Exit → St → Prop := fun e S => (e = .normal ∨ e = .ret) ∧ (∃ As, Rets P S fn.results.toList As ∧ retsV As = res ∧ As.all (fun A => !A.isTup) = true) ∧
  bs'.map (fun p => getB S.boxes p.1) = bs'.map (fun p => some p.2) ∧ ar'.map (fun p => getA S.arrs p.1) = ar'.map (fun p => some p.2)
theorem map_some_mem {α β : Type} {f : α → Option β} {g : α → β} : ∀ {l : List α}, l.map f = l.map (fun p => some (g p)) → ∀ p ∈ l, f p = some (g p)
  | [], _, p, h => by cases h
  | a :: l, h, p, hm => by
    simp only [List.map_cons, List.cons.injEq] at h
    rcases List.mem_cons.1 hm with rfl | hm
    · exact h.1
    · exact map_some_mem h.2 p hm
section
variable {P : Program} {N : Nat} {K0 : Know} {w0 : Bas} {S S' : St} {K K' : Know} {n : Nm} {a : Act} {w w' : World} {Q : St → Prop}
theorem ret_runO (hs : Sim N K0 w0 S K n a w) {fn : Func} {As : List AV} (h : Rets P S fn.results.toList As) (hnt : As.all (fun A => !A.isTup) = true) : ∃ c, (results fn a.tmps).run P w = .ok c w ∧ Rep K n (retsV As) c := by
  obtain ⟨cs, h1, h2, h3, h4⟩ := rets_run hs h
  have hrun : (results fn a.tmps).run P w = .ok (if h : cs.toArray.size = 1 then cs.toArray[0] else .tuple cs.toArray) w := by
    have e : results fn a.tmps = (do let vs ← fn.results.mapM (retOne a.tmps); pure (if h : vs.size = 1 then vs[0] else .tuple vs)) := rfl
    rw [e, Sem.run_bind, Array.mapM_eq_mapM_toList]
    simp only [map_eq_pure_bind, Sem.run_bind]
    rw [h1]
    rfl
  match As, cs, h2, h3, hnt, hrun with
  | [A], [c], _, h3, _, hrun => exact ⟨c, by rw [hrun]; rfl, Rep.of1 (h3 0 A c rfl rfl)⟩
  | [], [], _, h3, _, hrun => exact ⟨.tuple #[], by rw [hrun]; rfl, ⟨#[], rfl, rfl, fun i v hv => by simp at hv⟩⟩
  | A :: B :: As, c :: c' :: cs, h2, h3, _, hrun =>
    refine ⟨.tuple (c :: c' :: cs).toArray, by rw [hrun]; rfl, ⟨_, rfl, by simpa using h2, fun i v hv => ?_⟩⟩
    have hi : i < (c :: c' :: cs).length := by rw [h2]; exact (List.getElem?_eq_some_iff.1 hv).1
    have := h3 i v _ hv (List.getElem?_eq_getElem hi)
    simpa [Array.getD_eq_getD_getElem?, List.getElem?_eq_getElem hi] using this
def AV.noRowT (A : AV) : Bool := !A.isRow && !A.isTup
theorem GoodO.of_body {f : FuncId} {fn : Func} {c : Code} {As : List AV} {bs bs' : List (Nat × List AV)} {ar ar' : List (Nat × Arr)} {res : AV} (hf : P.funcs[f]? = some fn) (hb : fn.body = some c) (hp : As.all AV.noRowT = true) (hpb : bs.all (fun p => p.2.all fun A => !A.isRow) = true) {T : List (Nat × AV)} (hT : args0 0 As = T)
    (hnm : bs.all (fun p => decide (fn.ntmps ≤ p.1)) = true) (h : ∀ K0 (w0 : Bas), (∀ d, (bs.any fun p => Nat.beq p.1 d) = false → w0.β d = none) → CT P fn.ntmps K0 w0 c ⟨T, bs, ar⟩ (retO P fn res bs' ar')) : GoodO P f As bs ar res bs' ar' := by
  subst hT
  intro K n w cargs hok hlen hrep hmem
  classical
  let B : Bas := ⟨w, foot n bs ar, fun d => if (bs.any fun p => Nat.beq p.1 d) = true then n.β d else none, true⟩
  refine calls_marks hf hb (wp_mono (h K B (fun d hd => by simp only [B, hd]; rfl) K n _ w ?_) ?_)
  · have hno : ∀ r e k xs, ¬ (⟨args0 0 As, bs, ar⟩ : St).has (.row r e k xs) := by
      intro r e k xs hr
      rcases hr with ⟨t, ht⟩ | ⟨d, cs, hm, hA⟩
      · simp only [St.get, args0_get] at ht
        split at ht
        · rename_i hlt
          have hlt' : t - 0 < As.length := by omega
          rw [List.getElem?_eq_getElem hlt'] at ht
          have := List.all_eq_true.1 hp _ (List.getElem_mem hlt')
          simp only [Option.getD_some] at ht
          rcases ht with ht | ⟨_, ht, _⟩ <;> (rw [ht] at this; cases this)
        · rcases ht with ht | ⟨_, ht, _⟩ <;> cases ht
      · have := List.all_eq_true.1 (List.all_eq_true.1 hpb _ hm) _ hA
        cases this
    exact {
      size := by simp; omega
      defers := fun _ => Marks.nil rfl
      below := ⟨rfl, rfl, rfl, Nat.le_refl _, fun _ _ _ => rfl⟩
      k0 := Know.le_refl K
      knew := fun _ _ _ h _ => h
      ok := hok
      tmp := fun t => by
        simp only [St.get, args0_get]
        split
        · rename_i hlt
          have hlt' : t - 0 < As.length := by omega
          have hlt2 : t < cargs.length := by omega
          rw [List.getElem?_eq_getElem hlt']
          simp only [Option.getD_some]
          refine Rep.of1 ?_
          have := hrep (t - 0) _ _ (List.getElem?_eq_getElem hlt') (List.getElem?_eq_getElem (by omega))
          simp only [Nat.sub_zero] at this ⊢
          rw [Array.getD_eq_getD_getElem?, Array.getElem?_append_left (by simpa using hlt2)]
          simpa [List.getElem?_eq_getElem hlt2] using this
        · trivial
      box := fun d cs hm => by
        obtain ⟨b, arr, ty, q1, _, q3⟩ := hmem.box d cs hm
        exact ⟨b, arr, ty, q1, .inr (.inl ⟨d, cs, hm, q1⟩), q3⟩
      boxInj := hmem.boxInj
      boxOne := hmem.boxOne
      row := fun r e k xs h => absurd h (hno r e k xs)
      rowInj := fun r e k xs r' e' k' xs' g h => absurd h (hno r e k xs)
      arr := fun d A hm => by
        obtain ⟨q1, q2, q3⟩ := hmem.arr d A hm
        exact ⟨q1, q2, fun g hg => ⟨.inr (.inr ⟨d, A, hm, hg⟩), (q3 g hg).2.1, (q3 g hg).2.2, fun r e k xs h => absurd h (hno r e k xs)⟩⟩
      arrInj := hmem.arrInj
      arrOne := hmem.arrOne
      fix := fun d b hd => by
        simp only [B] at hd
        split at hd
        · rename_i hany
          refine ⟨hd, ?_⟩
          obtain ⟨p, hp1, hp2⟩ := List.any_eq_true.1 hany
          have := List.all_eq_true.1 hnm p hp1
          rw [← Nat.eq_of_beq_eq_true hp2]
          simpa using this
        · cases hd }
  · rintro e a' w' ⟨K', n', S', ⟨he, ⟨Bs, hR, rfl, hnt⟩, hbx, har⟩, hs⟩
    have mb : ∀ d cs, (d, cs) ∈ bs' → (d, cs) ∈ S'.boxes := fun d cs hm => getB_mem (map_some_mem (g := Prod.snd) hbx _ hm)
    have ma : ∀ d A, (d, A) ∈ ar' → (d, A) ∈ S'.arrs := fun d A hm => getA_mem (map_some_mem (g := Prod.snd) har _ hm)
    have hM : ∀ {a2 : Act} {w' : World}, Sim fn.ntmps K B S' K' n' a2 w' → Mem K' n' w' (fun b => w.heap.size ≤ b ∨ foot n bs ar b) bs' ar' := fun hs => {
      box := fun d cs hm => by
        obtain ⟨b, arr, ty, q1, q2, q3⟩ := hs.box d cs (mb d cs hm)
        exact ⟨b, arr, ty, q1, q2, q3⟩
      boxInj := fun d cs d' cs' b h1 h2 => hs.boxInj d cs d' cs' b (mb _ _ h1) (mb _ _ h2)
      boxOne := fun d cs cs' h1 h2 => hs.boxOne d cs cs' (mb _ _ h1) (mb _ _ h2)
      arr := fun d A hm => by
        obtain ⟨q1, q2, q3⟩ := hs.arr d A (ma d A hm)
        exact ⟨q1, q2, fun g hg => ⟨(q3 g hg).1, (q3 g hg).2.1, fun d' cs hm' => (q3 g hg).2.2.1 d' cs (mb _ _ hm')⟩⟩
      arrInj := fun d A d' A' g h1 h2 => hs.arrInj d A d' A' g (ma _ _ h1) (ma _ _ h2)
      arrOne := fun d A A' h1 h2 => hs.arrOne d A A' (ma _ _ h1) (ma _ _ h2) }
    have hpost : LeavesInM Fence.wide 0 P fn a'.tmps (fun e w' => ∃ c K'' n'', e = .returned c ∧ Keeps ⟨w, foot n bs ar, fun _ => none, true⟩ w' ∧ K.le K'' ∧ K''.ok w' ∧ (∀ b o u, K'' b o = some u → b < w.heap.size → K b o = some u) ∧ Rep K'' n'' (retsV Bs) c ∧ Mem K'' n'' w' (fun b => w.heap.size ≤ b ∨ foot n bs ar b) bs' ar' ∧ ∀ d cs cs', (d, cs) ∈ bs → (d, cs') ∈ bs' → n''.β d = n.β d) a'.defers .returning w' := leaves_marks rfl hs fun w2 hs => by
      obtain ⟨c, h1, h2⟩ := ret_runO hs hR hnt
      refine ⟨c, h1, c, K', n', rfl, ⟨hs.below.os, hs.below.tape, hs.below.output, hs.below.size, hs.below.block⟩, hs.k0, hs.ok, hs.knew, h2, hM hs, fun d cs cs' q1 q2 => ?_⟩
      obtain ⟨b, _, _, p1, _⟩ := hmem.box d cs q1
      have hany : (bs.any fun p => Nat.beq p.1 d) = true := List.any_eq_true.2 ⟨_, q1, by simp⟩
      rw [(hs.fix d b (by simp only [B, hany, if_true]; exact p1)).1, p1]
    rcases he with rfl | rfl
    · exact hpost
    · exact hpost
end
end Go.Proofs.Ytkfmammkbmhfaaa
